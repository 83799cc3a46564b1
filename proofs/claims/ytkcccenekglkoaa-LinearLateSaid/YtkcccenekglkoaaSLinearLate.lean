/-
  The statement on LinearLate: the frame for rows, round the walk and the plain law ok_LinearLate. No conditions beyond the statement's own.
-/
import Derived.ChangeShapes
import Derived.Lib.SmallJoins
import Derived.Below
import Derived.WalkKit
import Derived.ProofKit
import Derived.ChangeSame
import Derived.SizedLaws
import Derived.Test.YtkcccenekglkoaaHn
import Derived.Test.YtkcccenekglkoaaOn
import Derived.Test.YtkcccenekglkoaaWkj1
import Derived.Test.YtkcccenekglkoaaLd
namespace Go.Proofs.Ytkcccenekglkoaa
open Go Go.RowKit
set_option linter.unusedVariables false
set_option linter.unusedSimpArgs false
open Go.ChangeShapes Go.WideShapes Go.ChangeAt Go.RowKit Go.Joins
open Go.ChangeMaps (open_string shut_string)
set_option maxRecDepth 100000 in
theorem lifted_LinearLate (os : Os) (started : os.Started) (H : Type) (enc : TypeId × Value → H) :
    ReturnsInHanded {} Try.checked os 4 .any (Rows.linearLateSpec.pre6 enc Try.prog Try.f4 Rows.linearLateRow.domain false) (Rows.linearLateSpec.post enc Try.prog Try.f4 false true false false) := by
  refine returnsInHanded_of_change (C := Try.checked) all_own started (by kernel_rfl) Try.func4
    (ChangeSpec.witness6 (enc := enc) (C := Try.checked) false ⟨#[], #[.int .u32 0, .slice none 0 0, .slice none 0 0, .bool false], []⟩ 8 (by kernel_rfl) (by kernel_rfl) (by kernel_rfl) (by kernel_rfl)) ?_
  intro W base args ds gs before hval0 hW hcnd _
  have hval : ∀ (j : Nat) t v, Try.f4.params[j]? = some t → args[j]? = some v → Value.okWide Try.prog W .any base t v := hval0
  have hW' := hW
  obtain ⟨p, q, hA0, hV, rfl, hfz, hnd⟩ := hW
  have hA : DataW.TrodAll enc Try.prog W 0 (fun _ => true) true Try.f4.params.toList args.toList ds p := hA0
  rw [Try.params4] at hA hval
  obtain ⟨v0, vs0, d0, ds0, p0, q0, hargs, rfl, rfl, h0, r0⟩ := trodAll_cons hA
  obtain ⟨v1, vs1, d1, ds1, p1, q1, rfl, rfl, rfl, h1, r1⟩ := trodAll_cons r0
  obtain ⟨v2, vs2, d2, ds2, p2, q2, rfl, rfl, rfl, h2, r2⟩ := trodAll_cons r1
  obtain ⟨v3, vs3, d3, ds3, p3, q3, rfl, rfl, rfl, h3, r3⟩ := trodAll_cons r2
  obtain ⟨rfl, rfl, rfl⟩ := trodAll_nil r3
  obtain rfl : args = #[v0, v1, v2, v3] := by cases args; simp_all
  obtain ⟨rfl, rfl⟩ := trodVars_none hV
  have k0 := h0
  have lt0 : ∀ x ∈ p0, x.block < W.heap.size := by obtain ⟨m, hm⟩ := k0; exact DataW.trod_lt m _ _ _ hm
  obtain ⟨fu0, hf0⟩ := h0
  obtain ⟨z0, rfl⟩ := Go.WideShapes.okWide_int Try.underlying22 (hval 0 22 v0 rfl rfl)
  obtain ⟨a0, e0⟩ := opn_T22 hf0
  replace e0 : (.int .u32 z0 : Value) = U32 a0 := by injection e0
  rw [e0] at k0 hW' ⊢
  have k1 := h1
  have lt1 : ∀ x ∈ p1, x.block < W.heap.size := by obtain ⟨m, hm⟩ := k1; exact DataW.trod_lt m _ _ _ hm
  obtain ⟨fu1, hf1⟩ := h1
  obtain ⟨za1, zn1, zc1, rfl⟩ := okWide_slice Try.underlying23 (hval 1 23 v1 rfl rfl)
  obtain ⟨A1, n1, c1, a1, e1, s1, iv1⟩ := opn_T23 hf1
  injection e1 with e1
  rw [e1] at k1 hW' ⊢
  have k2 := h2
  have lt2 : ∀ x ∈ p2, x.block < W.heap.size := by obtain ⟨m, hm⟩ := k2; exact DataW.trod_lt m _ _ _ hm
  obtain ⟨fu2, hf2⟩ := h2
  obtain ⟨za2, zn2, zc2, rfl⟩ := okWide_slice Try.underlying23 (hval 2 23 v2 rfl rfl)
  obtain ⟨A2, n2, c2, a2, e2, s2, iv2⟩ := opn_T23 hf2
  injection e2 with e2
  rw [e2] at k2 hW' ⊢
  have k3 := h3
  have lt3 : ∀ x ∈ p3, x.block < W.heap.size := by obtain ⟨m, hm⟩ := k3; exact DataW.trod_lt m _ _ _ hm
  obtain ⟨fu3, hf3⟩ := h3
  obtain ⟨z3, rfl⟩ := Go.WideShapes.okWide_bool Try.underlying4 (hval 3 4 v3 rfl rfl)
  obtain ⟨a3, e3⟩ := opn_T4 hf3
  replace e3 : (.bool z3 : Value) = .bool a3 := by simpa [Value.cells] using e3
  rw [e3] at k3 hW' ⊢
  have hw := w_law25_LinearLate (Mem.snap W) a0 A1 n1 c1 a1 s1 A2 n2 c2 a2 s2 a3 (ok_LinearLate a0 a1 a2 a3)
  refine (Fn.law hw).mono fun e W' ⟨he, bel⟩ => ?_
  subst he
  exact ⟨_, rfl, _, _, _, [], _, [], hW', trodAll_mk1 (shut_bool Try.underlying4 _), (trodAll_cons_mk (Below.trod all_laidOut (by kernel_rfl) (of_decide_eq_true (by kernel_rfl)) k0 bel lt0) (trodAll_cons_mk (Below.trod all_laidOut (by kernel_rfl) (of_decide_eq_true (by kernel_rfl)) k1 bel lt1) (trodAll_cons_mk (Below.trod all_laidOut (by kernel_rfl) (of_decide_eq_true (by kernel_rfl)) k2 bel lt2) (trodAll_cons_mk (Below.trod all_laidOut (by kernel_rfl) (of_decide_eq_true (by kernel_rfl)) k3 bel lt3) trodAll_mk0)))), rfl, bel.frame _, fun h => by cases h⟩
theorem joined_LinearLate : joinedFacts Try.prog 4 Try.f4 Rows.linearLateSpec Rows.linearLateRow = true := by
  unfold joinedFacts
  rw [all_make, all_lifts, all_mayEnter, all_laidOut, all_mapsRowed, all_plainKeys, all_stopsHeard]
  kernel_rfl
theorem over_LinearLate : Rows.linearLateRow.holds Try.pinned (OpenSpec.ofChange Rows.linearLateSpec) :=
  OpenClaim.holds_of_wide 4 Try.f4 rfl rfl rfl rfl rfl rfl rfl ⟨rfl, rfl, rfl, rfl, rfl⟩ rfl rfl rfl rfl rfl (by kernel_rfl) Try.func4 joined_LinearLate
    (of_decide_eq_true (by kernel_rfl)) (by unfold Func.isWrapper; first | (rw [if_pos (by decide +kernel)]; kernel_rfl) | (rw [if_neg (by decide +kernel)]; exact ⟨rfl, rfl⟩))
    (fun os started H enc _ => lifted_LinearLate os started H enc)
/-- the given statement -/
theorem proved_LinearLate : Rows.LinearLateSaid := over_LinearLate

end Go.Proofs.Ytkcccenekglkoaa
