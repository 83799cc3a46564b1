/-
  The statement on SuperblockEncodes: the frame for rows, round the walk law_SuperblockEncodes.
-/
import Derived.ChangeShapes
import Derived.Lib.SmallJoins
import Derived.Below
import Derived.WalkKit
import Derived.ProofKit
import Derived.ChangeSame
import Derived.Test.YtibopglhgbbmpaaH
import Derived.Test.YtibopglhgbbmpaaL3
namespace Go.Proofs.Ytibopglhgbbmpaa
open Go Go.RowKit
set_option linter.unusedVariables false
open Go.ChangeShapes Go.WideShapes Go.ChangeAt Go.RowKit Go.Joins
open Go.ChangeMaps (open_string shut_string)

theorem Try_cells37 : Try.prog.cellsOf 37 = 3 := by kernel_rfl
set_option maxRecDepth 100000 in
theorem lifted_SuperblockEncodes (os : Os) (started : os.Started) (H : Type) (enc : TypeId × Value → H) :
    ReturnsInHanded {} Try.checked os 7 .any (Rows.superblockEncodesSpec.pre6 enc Try.prog Try.f7 Rows.superblockEncodesRow.domain false) (Rows.superblockEncodesSpec.post enc Try.prog Try.f7 false true false false) := by
  refine returnsInHanded_of_change (C := Try.checked) all_own started (by kernel_rfl) Try.func7
    (ChangeSpec.witness6 (enc := enc) (C := Try.checked) false ⟨#[], #[.agg #[(I64 0), (I64 0), (I64 0)]], []⟩ 8 (by kernel_rfl) (by kernel_rfl) (by kernel_rfl) (by kernel_rfl)) ?_
  intro W base args ds gs before hval0 hW hcnd _
  have hval : ∀ (j : Nat) t v, Try.f7.params[j]? = some t → args[j]? = some v → Value.okWide Try.prog W .any base t v := hval0
  have hW' := hW
  obtain ⟨p, q, hA0, hV, rfl, hfz, hnd⟩ := hW
  have hA : DataW.TrodAll enc Try.prog W 0 (fun _ => true) true Try.f7.params.toList args.toList ds p := hA0
  rw [Try.params7] at hA hval
  obtain ⟨v0, vs0, d0, ds0, p0, q0, hargs, rfl, rfl, h0, r0⟩ := trodAll_cons hA
  obtain ⟨rfl, rfl, rfl⟩ := trodAll_nil r0
  obtain rfl : args = #[v0] := by cases args; simp_all
  obtain ⟨rfl, rfl⟩ := trodVars_none hV
  obtain ⟨c0_0, c0_1, c0_2, y0_0, y0_1, y0_2, m0, rfl, rfl, rfl, hy0_0, hy0_1, hy0_2⟩ := open_agg3 Try.underlying37 (by kernel_rfl) Try_cells37 (hval 0 37 v0 rfl rfl) h0
  obtain ⟨b0_0, e0_0, r0_0, w0_0⟩ := DataW.trod_int Try.underlying3 hy0_0
  simp at e0_0
  subst e0_0
  obtain ⟨b0_1, e0_1, r0_1, w0_1⟩ := DataW.trod_int Try.underlying3 hy0_1
  simp at e0_1
  subst e0_1
  obtain ⟨b0_2, e0_2, r0_2, w0_2⟩ := DataW.trod_int Try.underlying2 hy0_2
  simp at e0_2
  subst e0_2
  clear hA0 hval0
  refine (Fn.law (law_SuperblockEncodes W b0_0 (bounds_i64 w0_0) b0_1 (bounds_i64 w0_1) b0_2 (bounds_i64 w0_2))).mono fun e W' ⟨he, bel⟩ => ?_
  subst he
  exact ⟨_, rfl, _, _, _, [], _, [], hW', trodAll_mk1 (shut_bool Try.underlying4 _), (trodAll_cons_mk (shut_agg3 Try.underlying37 (by kernel_rfl) Try_cells37 ⟨1, by rw [r0_0]; exact trod_int_mk 0 Try.underlying3 w0_0⟩ ⟨1, by rw [r0_1]; exact trod_int_mk 0 Try.underlying3 w0_1⟩ ⟨1, by rw [r0_2]; exact trod_int_mk 0 Try.underlying2 w0_2⟩) trodAll_mk0), rfl, bel.frame _, fun h => by cases h⟩
theorem joined_SuperblockEncodes : joinedFacts Try.prog 7 Try.f7 Rows.superblockEncodesSpec Rows.superblockEncodesRow = true := by
  unfold joinedFacts
  rw [all_make, all_lifts, all_mayEnter, all_laidOut, all_mapsRowed, all_plainKeys, all_stopsHeard]
  kernel_rfl
theorem over_SuperblockEncodes : Rows.superblockEncodesRow.holds Try.pinned (OpenSpec.ofChange Rows.superblockEncodesSpec) :=
  OpenClaim.holds_of_wide 7 Try.f7 rfl rfl rfl rfl rfl rfl rfl ⟨rfl, rfl, rfl, rfl, rfl⟩ rfl rfl rfl rfl rfl (by kernel_rfl) Try.func7 joined_SuperblockEncodes
    (of_decide_eq_true (by kernel_rfl)) (by unfold Func.isWrapper; first | (rw [if_pos (by decide +kernel)]; kernel_rfl) | (rw [if_neg (by decide +kernel)]; exact ⟨rfl, rfl⟩))
    (fun os started H enc _ => lifted_SuperblockEncodes os started H enc)
/-- the given statement -/
theorem proved_SuperblockEncodes : Rows.SuperblockEncodesSaid := over_SuperblockEncodes

end Go.Proofs.Ytibopglhgbbmpaa
