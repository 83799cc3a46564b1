/-
 The statement on LinearSteps: the frame for rows, round the walk and the plain law ok_LinearSteps. No conditions beyond the statement's own.
-/
import Derived.ChangeShapes
import Derived.Lib.SmallJoins
import Derived.Below
import Derived.WalkKit
import Derived.ProofKit
import Derived.ChangeSame
import Derived.SizedLaws
import Derived.Test.YtkcccenekglkoaaHn
import Derived.Test.YtkcccenekglkoaaOn
import Derived.Test.YtkcccenekglkoaaWkj0
import Derived.Test.YtkcccenekglkoaaLf
namespace Go.Proofs.Ytkcccenekglkoaa
set_option maxRecDepth 100000
open Go Go.RowKit
set_option linter.unusedVariables false
set_option linter.unusedSimpArgs false
open Go.ChangeShapes Go.WideShapes Go.ChangeAt Go.RowKit Go.Joins
open Go.ChangeMaps (open_string shut_string)
theorem lifted_LinearSteps (os : Os) (started : os.Started) (H : Type) (enc : TypeId × Value -> H) :
  ReturnsInHanded {} Try.checked os 3 .any (Rows.linearStepsSpec.pre6 enc Try.prog Try.f3 Rows.linearStepsRow.domain false) (Rows.linearStepsSpec.post enc Try.prog Try.f3 false true false false) := by
 refine returnsInHanded_of_change (C := Try.checked) all_own started (by kernel_rfl) Try.func3
  (ChangeSpec.witness6 (enc := enc) (C := Try.checked) false ⟨#[], #[.agg #[(.bool false), (U32 0#32), (.slice none 0 0)], .agg #[(I64 0), (I64 0), (U64 0#64), (U32 0#32), (.slice none 0 0), (.slice none 0 0), (I64 0), (I64 0), (I64 0), (I64 0)], .slice none 0 0], []⟩ 8 (by kernel_rfl) (by kernel_rfl) (by kernel_rfl) (by kernel_rfl)) ?_
 intro W base args ds gs before hval0 hW hcnd _
 have hval : ∀ (j : Nat) t v, Try.f3.params[j]? = some t -> args[j]? = some v -> Value.okWide Try.prog W .any base t v := hval0
 have hW' := hW
 obtain ⟨p, q, hA0, hV, rfl, hfz, hnd⟩ := hW
 have hA : DataW.TrodAll enc Try.prog W 0 (fun _ => true) true Try.f3.params.toList args.toList ds p := hA0
 rw [Try.params3] at hA hval
 obtain ⟨v0, vs0, d0, ds0, p0, q0, hargs, rfl, rfl, h0, r0⟩ := trodAll_cons hA
 obtain ⟨v1, vs1, d1, ds1, p1, q1, rfl, rfl, rfl, h1, r1⟩ := trodAll_cons r0
 obtain ⟨v2, vs2, d2, ds2, p2, q2, rfl, rfl, rfl, h2, r2⟩ := trodAll_cons r1
 obtain ⟨rfl, rfl, rfl⟩ := trodAll_nil r2
 obtain rfl : args = #[v0, v1, v2] := by cases args; simp_all
 obtain ⟨rfl, rfl⟩ := trodVars_none hV
 have k0 := h0
 have lt0 : ∀ x ∈ p0, x.block < W.heap.size := by obtain ⟨m, hm⟩ := k0; exact DataW.trod_lt m _ _ _ hm
 obtain ⟨fu0, hf0⟩ := h0
 obtain ⟨zs0, rfl, _⟩ := Go.WideShapes.okWide_struct Try.underlying25 (hval 0 25 v0 rfl rfl)
 obtain ⟨a0_0, a0_1, A0_2, n0_2, c0_2, a0_2, e0, f0_2_0, f0_2_1⟩ := opn_C25 hf0
 obtain rfl : zs0 = ([.bool a0_0, U32 a0_1, .slice A0_2 n0_2 c0_2] : List Value).toArray := by rw [<- Array.toList_inj]; exact e0
 have k1 := h1
 have lt1 : ∀ x ∈ p1, x.block < W.heap.size := by obtain ⟨m, hm⟩ := k1; exact DataW.trod_lt m _ _ _ hm
 obtain ⟨fu1, hf1⟩ := h1
 obtain ⟨zs1, rfl, _⟩ := Go.WideShapes.okWide_struct Try.underlying29 (hval 1 29 v1 rfl rfl)
 obtain ⟨a1_0, a1_1, a1_2, a1_3, A1_4, n1_4, c1_4, a1_4, A1_5, n1_5, c1_5, a1_5, a1_6, a1_7, a1_8, a1_9, e1, f1_0_0, f1_1_0, f1_4_0, f1_4_1, f1_5_0, f1_5_1, f1_6_0, f1_7_0, f1_8_0, f1_9_0⟩ := opn_C29 hf1
 obtain rfl : zs1 = ([I64 a1_0, I64 a1_1, U64 a1_2, U32 a1_3, .slice A1_4 n1_4 c1_4, .slice A1_5 n1_5 c1_5, I64 a1_6, I64 a1_7, I64 a1_8, I64 a1_9] : List Value).toArray := by rw [<- Array.toList_inj]; exact e1
 have k2 := h2
 have lt2 : ∀ x ∈ p2, x.block < W.heap.size := by obtain ⟨m, hm⟩ := k2; exact DataW.trod_lt m _ _ _ hm
 obtain ⟨fu2, hf2⟩ := h2
 obtain ⟨za2, zn2, zc2, rfl⟩ := okWide_slice Try.underlying30 (hval 2 30 v2 rfl rfl)
 obtain ⟨A2, n2, c2, a2, e2, s2, iv2⟩ := opn_T30 hf2
 injection e2 with e2
 rw [e2] at k2 hW' ⊢
 have hw := w_law25_LinearSteps (Mem.snap W) a0_0 a0_1 A0_2 n0_2 c0_2 a0_2 f0_2_0 a1_0 a1_1 a1_2 a1_3 A1_4 n1_4 c1_4 a1_4 f1_4_0 A1_5 n1_5 c1_5 a1_5 f1_5_0 a1_6 a1_7 a1_8 a1_9 A2 n2 c2 a2 s2 (ok_LinearSteps a0_0 a0_1 a0_2 a1_0 a1_1 a1_2 a1_3 a1_4 a1_5 a1_6 a1_7 a1_8 a1_9 a2)
 refine (Fn.law hw).mono fun e W' ⟨he, bel⟩ => ?_
 subst he
 exact ⟨_, rfl, _, _, _, [], _, [], hW', trodAll_mk1 (shut_bool Try.underlying4 _), (trodAll_cons_mk (Below.trod all_laidOut (by kernel_rfl) (of_decide_eq_true (by kernel_rfl)) k0 bel lt0) (trodAll_cons_mk (Below.trod all_laidOut (by kernel_rfl) (of_decide_eq_true (by kernel_rfl)) k1 bel lt1) (trodAll_cons_mk (Below.trod all_laidOut (by kernel_rfl) (of_decide_eq_true (by kernel_rfl)) k2 bel lt2) trodAll_mk0))), rfl, bel.frame _, fun h => by cases h⟩
theorem joined_LinearSteps : joinedFacts Try.prog 3 Try.f3 Rows.linearStepsSpec Rows.linearStepsRow = true := by
 unfold joinedFacts
 rw [all_make, all_lifts, all_mayEnter, all_laidOut, all_mapsRowed, all_plainKeys, all_stopsHeard]
 kernel_rfl
theorem over_LinearSteps : Rows.linearStepsRow.holds Try.pinned (OpenSpec.ofChange Rows.linearStepsSpec) :=
 OpenClaim.holds_of_wide 3 Try.f3 rfl rfl rfl rfl rfl rfl rfl ⟨rfl, rfl, rfl, rfl, rfl⟩ rfl rfl rfl rfl rfl (by kernel_rfl) Try.func3 joined_LinearSteps
  (of_decide_eq_true (by kernel_rfl)) (by unfold Func.isWrapper; first | (rw [if_pos (by decide +kernel)]; kernel_rfl) | (rw [if_neg (by decide +kernel)]; exact ⟨rfl, rfl⟩))
  (fun os started H enc _ => lifted_LinearSteps os started H enc)
theorem proved_LinearSteps : Rows.LinearStepsSaid := over_LinearSteps
end Go.Proofs.Ytkcccenekglkoaa
