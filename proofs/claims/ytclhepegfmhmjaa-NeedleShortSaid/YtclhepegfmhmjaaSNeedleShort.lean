/-
  The statement on NeedleShort: the frame for rows, round the walk and the plain law ok_NeedleShort. No conditions beyond the statement's own.
-/
import Derived.ChangeShapes
import Derived.Lib.SmallJoins
import Derived.Below
import Derived.WalkKit
import Derived.ProofKit
import Derived.ChangeSame
import Derived.SizedLaws
import Derived.Test.YtclhepegfmhmjaaH
import Derived.Test.YtclhepegfmhmjaaOn
import Derived.Test.YtclhepegfmhmjaaPe
namespace Go.Proofs.Ytclhepegfmhmjaa
open Go Go.RowKit
set_option linter.unusedVariables false
set_option linter.unusedSimpArgs false
open Go.ChangeShapes Go.WideShapes Go.ChangeAt Go.RowKit Go.Joins
open Go.ChangeMaps (open_string shut_string)
set_option maxRecDepth 100000 in
theorem lifted_NeedleShort (os : Os) (started : os.Started) (H : Type) (enc : TypeId × Value → H) :
    ReturnsInHanded {} Try.checked os 9 .any (Rows.needleShortSpec.pre6 enc Try.prog Try.f9 Rows.needleShortRow.domain false) (Rows.needleShortSpec.post enc Try.prog Try.f9 false true false false) := by
  refine returnsInHanded_of_change (C := Try.checked) all_own started (by kernel_rfl) Try.func9
    (ChangeSpec.witness6 (enc := enc) (C := Try.checked) false ⟨#[], #[.agg #[(U64 0#64), (U32 0#32), (.bool false), (.slice none 0 0)], .int .i64 0], []⟩ 8 (by kernel_rfl) (by kernel_rfl) (by kernel_rfl) (by kernel_rfl)) ?_
  intro W base args ds gs before hval0 hW hcnd _
  have hval : ∀ (j : Nat) t v, Try.f9.params[j]? = some t → args[j]? = some v → Value.okWide Try.prog W .any base t v := hval0
  have hW' := hW
  obtain ⟨p, q, hA0, hV, rfl, hfz, hnd⟩ := hW
  have hA : DataW.TrodAll enc Try.prog W 0 (fun _ => true) true Try.f9.params.toList args.toList ds p := hA0
  rw [Try.params9] at hA hval
  obtain ⟨v0, vs0, d0, ds0, p0, q0, hargs, rfl, rfl, h0, r0⟩ := trodAll_cons hA
  obtain ⟨v1, vs1, d1, ds1, p1, q1, rfl, rfl, rfl, h1, r1⟩ := trodAll_cons r0
  obtain ⟨rfl, rfl, rfl⟩ := trodAll_nil r1
  obtain rfl : args = #[v0, v1] := by cases args; simp_all
  obtain ⟨rfl, rfl⟩ := trodVars_none hV
  have k0 := h0
  have lt0 : ∀ x ∈ p0, x.block < W.heap.size := by obtain ⟨m, hm⟩ := k0; exact DataW.trod_lt m _ _ _ hm
  obtain ⟨fu0, hf0⟩ := h0
  obtain ⟨zs0, rfl, _⟩ := Go.WideShapes.okWide_struct Try.underlying26 (hval 0 26 v0 rfl rfl)
  obtain ⟨a0_0, a0_1, a0_2, A0_3, n0_3, c0_3, a0_3, e0, f0_3_0, f0_3_1⟩ := opn_C26 hf0
  obtain rfl : zs0 = ([U64 a0_0, U32 a0_1, .bool a0_2, .slice A0_3 n0_3 c0_3] : List Value).toArray := by rw [← Array.toList_inj]; exact e0
  have k1 := h1
  have lt1 : ∀ x ∈ p1, x.block < W.heap.size := by obtain ⟨m, hm⟩ := k1; exact DataW.trod_lt m _ _ _ hm
  obtain ⟨fu1, hf1⟩ := h1
  obtain ⟨z1, rfl⟩ := Go.WideShapes.okWide_int Try.underlying3 (hval 1 3 v1 rfl rfl)
  obtain ⟨a1, e1, iv1⟩ := opn_T3 hf1
  replace e1 : (.int .i64 z1 : Value) = I64 a1 := by injection e1
  rw [e1] at k1 hW' ⊢
  have hw := w_law06_NeedleShort (Mem.snap W) a0_0 a0_1 a0_2 A0_3 n0_3 c0_3 a0_3 f0_3_0 a1 (ok_NeedleShort a0_0 a0_1 a0_2 a0_3 a1)
  refine (Fn.law hw).mono fun e W' ⟨he, bel⟩ => ?_
  subst he
  exact ⟨_, rfl, _, _, _, [], _, [], hW', trodAll_mk1 (shut_bool Try.underlying4 _), (trodAll_cons_mk (Below.trod all_laidOut (by kernel_rfl) (of_decide_eq_true (by kernel_rfl)) k0 bel lt0) (trodAll_cons_mk (Below.trod all_laidOut (by kernel_rfl) (of_decide_eq_true (by kernel_rfl)) k1 bel lt1) trodAll_mk0)), rfl, bel.frame _, fun h => by cases h⟩
theorem joined_NeedleShort : joinedFacts Try.prog 9 Try.f9 Rows.needleShortSpec Rows.needleShortRow = true := by
  unfold joinedFacts
  rw [all_make, all_lifts, all_mayEnter, all_laidOut, all_mapsRowed, all_plainKeys, all_stopsHeard]
  kernel_rfl
theorem over_NeedleShort : Rows.needleShortRow.holds Try.pinned (OpenSpec.ofChange Rows.needleShortSpec) :=
  OpenClaim.holds_of_wide 9 Try.f9 rfl rfl rfl rfl rfl rfl rfl ⟨rfl, rfl, rfl, rfl, rfl⟩ rfl rfl rfl rfl rfl (by kernel_rfl) Try.func9 joined_NeedleShort
    (of_decide_eq_true (by kernel_rfl)) (by unfold Func.isWrapper; first | (rw [if_pos (by decide +kernel)]; kernel_rfl) | (rw [if_neg (by decide +kernel)]; exact ⟨rfl, rfl⟩))
    (fun os started H enc _ => lifted_NeedleShort os started H enc)
/-- the given statement -/
theorem proved_NeedleShort : Rows.NeedleShortSaid := over_NeedleShort

end Go.Proofs.Ytclhepegfmhmjaa
