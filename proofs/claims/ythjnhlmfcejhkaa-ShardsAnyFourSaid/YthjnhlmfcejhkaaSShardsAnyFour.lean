/- A part of the proof. Conditions: as each theorem says. -/
import Derived.ChangeShapes
import Derived.Lib.SmallJoins
import Derived.Below
import Derived.WalkKit
import Derived.ProofKit
import Derived.ChangeSame
import Derived.SizedLaws
import Derived.Test.YthjnhlmfcejhkaaH
import Derived.Test.YthjnhlmfcejhkaaOn
import Derived.Test.YthjnhlmfcejhkaaWks6
import Derived.Test.YthjnhlmfcejhkaaTm
namespace Go.Proofs.Ythjnhlmfcejhkaa
set_option maxRecDepth 100000
open Go Go.RowKit
set_option linter.unusedVariables false
set_option linter.unusedSimpArgs false
open Go.ChangeShapes Go.WideShapes Go.ChangeAt Go.RowKit Go.Joins
open Go.ChangeMaps (open_string shut_string)
theorem lifted_ShardsAnyFour (os : Os) (started : os.Started) (H : Type) (enc : TypeId × Value -> H) :
  ReturnsInHanded {} Try.checked os 3 .any (Rows.shardsAnyFourSpec.pre6 enc Try.prog Try.f3 Rows.shardsAnyFourRow.domain false) (Rows.shardsAnyFourSpec.post enc Try.prog Try.f3 false true false false) := by
 refine returnsInHanded_of_change (C := Try.checked) all_own started (by kernel_rfl) Try.func3
  (ChangeSpec.witness6 (enc := enc) (C := Try.checked) false ⟨#[], #[.slice none 0 0, .int .i64 0, .int .i64 0, .bool false, .int .i64 0, .int .u32 0], []⟩ 8 (by kernel_rfl) (by kernel_rfl) (by kernel_rfl) (by kernel_rfl)) ?_
 intro W base args ds gs before hval0 hW hcnd _
 have hval : ∀ (j : Nat) t v, Try.f3.params[j]? = some t -> args[j]? = some v -> Value.okWide Try.prog W .any base t v := hval0
 have hW' := hW
 obtain ⟨p, q, hA0, hV, rfl, hfz, hnd⟩ := hW
 have hA : DataW.TrodAll enc Try.prog W 0 (fun _ => true) true Try.f3.params.toList args.toList ds p := hA0
 rw [Try.params3] at hA hval
 obtain ⟨v0, vs0, d0, ds0, p0, q0, hargs, rfl, rfl, h0, r0⟩ := trodAll_cons hA
 obtain ⟨v1, vs1, d1, ds1, p1, q1, rfl, rfl, rfl, h1, r1⟩ := trodAll_cons r0
 obtain ⟨v2, vs2, d2, ds2, p2, q2, rfl, rfl, rfl, h2, r2⟩ := trodAll_cons r1
 obtain ⟨v3, vs3, d3, ds3, p3, q3, rfl, rfl, rfl, h3, r3⟩ := trodAll_cons r2
 obtain ⟨v4, vs4, d4, ds4, p4, q4, rfl, rfl, rfl, h4, r4⟩ := trodAll_cons r3
 obtain ⟨v5, vs5, d5, ds5, p5, q5, rfl, rfl, rfl, h5, r5⟩ := trodAll_cons r4
 obtain ⟨rfl, rfl, rfl⟩ := trodAll_nil r5
 obtain rfl : args = #[v0, v1, v2, v3, v4, v5] := by cases args; simp_all
 obtain ⟨rfl, rfl⟩ := trodVars_none hV
 have k0 := h0
 have lt0 : ∀ x ∈ p0, x.block < W.heap.size := by obtain ⟨m, hm⟩ := k0; exact DataW.trod_lt m _ _ _ hm
 obtain ⟨fu0, hf0⟩ := h0
 obtain ⟨za0, zn0, zc0, rfl⟩ := okWide_slice Try.underlying22 (hval 0 22 v0 rfl rfl)
 obtain ⟨A0, n0, c0, rs0, a0, e0, s0, q0_, iv0⟩ := opn_T22 hf0
 injection e0 with e0
 rw [e0] at k0 hW' ⊢
 have k1 := h1
 have lt1 : ∀ x ∈ p1, x.block < W.heap.size := by obtain ⟨m, hm⟩ := k1; exact DataW.trod_lt m _ _ _ hm
 obtain ⟨fu1, hf1⟩ := h1
 obtain ⟨z1, rfl⟩ := Go.WideShapes.okWide_int Try.underlying3 (hval 1 3 v1 rfl rfl)
 obtain ⟨a1, e1, iv1⟩ := opn_T3 hf1
 replace e1 : (.int .i64 z1 : Value) = I64 a1 := by injection e1
 rw [e1] at k1 hW' ⊢
 have k2 := h2
 have lt2 : ∀ x ∈ p2, x.block < W.heap.size := by obtain ⟨m, hm⟩ := k2; exact DataW.trod_lt m _ _ _ hm
 obtain ⟨fu2, hf2⟩ := h2
 obtain ⟨z2, rfl⟩ := Go.WideShapes.okWide_int Try.underlying3 (hval 2 3 v2 rfl rfl)
 obtain ⟨a2, e2, iv2⟩ := opn_T3 hf2
 replace e2 : (.int .i64 z2 : Value) = I64 a2 := by injection e2
 rw [e2] at k2 hW' ⊢
 have k3 := h3
 have lt3 : ∀ x ∈ p3, x.block < W.heap.size := by obtain ⟨m, hm⟩ := k3; exact DataW.trod_lt m _ _ _ hm
 obtain ⟨fu3, hf3⟩ := h3
 obtain ⟨z3, rfl⟩ := Go.WideShapes.okWide_bool Try.underlying4 (hval 3 4 v3 rfl rfl)
 obtain ⟨a3, e3⟩ := opn_T4 hf3
 replace e3 : (.bool z3 : Value) = .bool a3 := by simpa [Value.cells] using e3
 rw [e3] at k3 hW' ⊢
 have k4 := h4
 have lt4 : ∀ x ∈ p4, x.block < W.heap.size := by obtain ⟨m, hm⟩ := k4; exact DataW.trod_lt m _ _ _ hm
 obtain ⟨fu4, hf4⟩ := h4
 obtain ⟨z4, rfl⟩ := Go.WideShapes.okWide_int Try.underlying3 (hval 4 3 v4 rfl rfl)
 obtain ⟨a4, e4, iv4⟩ := opn_T3 hf4
 replace e4 : (.int .i64 z4 : Value) = I64 a4 := by injection e4
 rw [e4] at k4 hW' ⊢
 have k5 := h5
 have lt5 : ∀ x ∈ p5, x.block < W.heap.size := by obtain ⟨m, hm⟩ := k5; exact DataW.trod_lt m _ _ _ hm
 obtain ⟨fu5, hf5⟩ := h5
 obtain ⟨z5, rfl⟩ := Go.WideShapes.okWide_int Try.underlying23 (hval 5 23 v5 rfl rfl)
 obtain ⟨a5, e5⟩ := opn_T23 hf5
 replace e5 : (.int .u32 z5 : Value) = U32 a5 := by injection e5
 rw [e5] at k5 hW' ⊢
 have hw := w_law17_ShardsAnyFour (Mem.snap W) A0 n0 c0 rs0 a0 s0 q0_ a1 a2 a3 a4 a5 (ok_ShardsAnyFour a0 a1 a2 a3 a4 a5)
 refine (Fn.law hw).mono fun e W' ⟨he, bel⟩ => ?_
 subst he
 exact ⟨_, rfl, _, _, _, [], _, [], hW', trodAll_mk1 (shut_bool Try.underlying4 _), (trodAll_cons_mk (Below.trod all_laidOut (by kernel_rfl) (of_decide_eq_true (by kernel_rfl)) k0 bel lt0) (trodAll_cons_mk (Below.trod all_laidOut (by kernel_rfl) (of_decide_eq_true (by kernel_rfl)) k1 bel lt1) (trodAll_cons_mk (Below.trod all_laidOut (by kernel_rfl) (of_decide_eq_true (by kernel_rfl)) k2 bel lt2) (trodAll_cons_mk (Below.trod all_laidOut (by kernel_rfl) (of_decide_eq_true (by kernel_rfl)) k3 bel lt3) (trodAll_cons_mk (Below.trod all_laidOut (by kernel_rfl) (of_decide_eq_true (by kernel_rfl)) k4 bel lt4) (trodAll_cons_mk (Below.trod all_laidOut (by kernel_rfl) (of_decide_eq_true (by kernel_rfl)) k5 bel lt5) trodAll_mk0)))))), rfl, bel.frame _, fun h => by cases h⟩
theorem joined_ShardsAnyFour : joinedFacts Try.prog 3 Try.f3 Rows.shardsAnyFourSpec Rows.shardsAnyFourRow = true := by
 unfold joinedFacts
 rw [all_make, all_lifts, all_mayEnter, all_laidOut, all_mapsRowed, all_plainKeys, all_stopsHeard]
 kernel_rfl
theorem over_ShardsAnyFour : Rows.shardsAnyFourRow.holds Try.pinned (OpenSpec.ofChange Rows.shardsAnyFourSpec) :=
 OpenClaim.holds_of_wide 3 Try.f3 rfl rfl rfl rfl rfl rfl rfl ⟨rfl, rfl, rfl, rfl, rfl⟩ rfl rfl rfl rfl rfl (by kernel_rfl) Try.func3 joined_ShardsAnyFour
  (of_decide_eq_true (by kernel_rfl)) (by unfold Func.isWrapper; first | (rw [if_pos (by decide +kernel)]; kernel_rfl) | (rw [if_neg (by decide +kernel)]; exact ⟨rfl, rfl⟩))
  (fun os started H enc _ => lifted_ShardsAnyFour os started H enc)
theorem proved_ShardsAnyFour : Rows.ShardsAnyFourSaid := over_ShardsAnyFour
end Go.Proofs.Ythjnhlmfcejhkaa
