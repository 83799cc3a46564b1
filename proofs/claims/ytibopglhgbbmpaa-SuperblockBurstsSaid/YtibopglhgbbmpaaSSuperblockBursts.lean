/-
  The statement on SuperblockBursts: the frame for rows, round the walk law_SuperblockBursts.
-/
import Derived.ChangeShapes
import Derived.Lib.SmallJoins
import Derived.Below
import Derived.WalkKit
import Derived.ProofKit
import Derived.ChangeSame
import Derived.Test.YtibopglhgbbmpaaH
import Derived.Test.YtibopglhgbbmpaaL3
namespace Go.Proofs.Ytibopglhgbbmpaa
open Go Go.RowKit
set_option linter.unusedVariables false
open Go.ChangeShapes Go.WideShapes Go.ChangeAt Go.RowKit Go.Joins
open Go.ChangeMaps (open_string shut_string)

theorem Try_cells37 : Try.prog.cellsOf 37 = 3 := by kernel_rfl
set_option maxRecDepth 100000 in
theorem lifted_SuperblockBursts (os : Os) (started : os.Started) (H : Type) (enc : TypeId × Value → H) :
    ReturnsInHanded {} Try.checked os 18 .any (Rows.superblockBurstsSpec.pre6 enc Try.prog Try.f18 Rows.superblockBurstsRow.domain false) (Rows.superblockBurstsSpec.post enc Try.prog Try.f18 false true false false) := by
  refine returnsInHanded_of_change (C := Try.checked) all_own started (by kernel_rfl) Try.func18
    (ChangeSpec.witness6 (enc := enc) (C := Try.checked) false ⟨#[], #[.agg #[(I64 0), (I64 0), (I64 0)], .int .i64 0, .int .u32 0], []⟩ 8 (by kernel_rfl) (by kernel_rfl) (by kernel_rfl) (by kernel_rfl)) ?_
  intro W base args ds gs before hval0 hW hcnd _
  have hval : ∀ (j : Nat) t v, Try.f18.params[j]? = some t → args[j]? = some v → Value.okWide Try.prog W .any base t v := hval0
  have hW' := hW
  obtain ⟨p, q, hA0, hV, rfl, hfz, hnd⟩ := hW
  have hA : DataW.TrodAll enc Try.prog W 0 (fun _ => true) true Try.f18.params.toList args.toList ds p := hA0
  rw [Try.params18] at hA hval
  obtain ⟨v0, vs0, d0, ds0, p0, q0, hargs, rfl, rfl, h0, r0⟩ := trodAll_cons hA
  obtain ⟨v1, vs1, d1, ds1, p1, q1, rfl, rfl, rfl, h1, r1⟩ := trodAll_cons r0
  obtain ⟨v2, vs2, d2, ds2, p2, q2, rfl, rfl, rfl, h2, r2⟩ := trodAll_cons r1
  obtain ⟨rfl, rfl, rfl⟩ := trodAll_nil r2
  obtain rfl : args = #[v0, v1, v2] := by cases args; simp_all
  obtain ⟨rfl, rfl⟩ := trodVars_none hV
  obtain ⟨c0_0, c0_1, c0_2, y0_0, y0_1, y0_2, m0, rfl, rfl, rfl, hy0_0, hy0_1, hy0_2⟩ := open_agg3 Try.underlying37 (by kernel_rfl) Try_cells37 (hval 0 37 v0 rfl rfl) h0
  obtain ⟨b0_0, e0_0, r0_0, w0_0⟩ := DataW.trod_int Try.underlying3 hy0_0
  simp at e0_0
  subst e0_0
  obtain ⟨b0_1, e0_1, r0_1, w0_1⟩ := DataW.trod_int Try.underlying3 hy0_1
  simp at e0_1
  subst e0_1
  obtain ⟨b0_2, e0_2, r0_2, w0_2⟩ := DataW.trod_int Try.underlying2 hy0_2
  simp at e0_2
  subst e0_2
  obtain ⟨a1, rfl, rfl, rfl, w1⟩ := open_int Try.underlying3 (hval 1 3 v1 rfl rfl) h1
  obtain ⟨a2, rfl, rfl, rfl, w2⟩ := open_int Try.underlying33 (hval 2 33 v2 rfl rfl) h2
  obtain ⟨x2, rfl⟩ : ∃ x : BitVec 32, a2 = (x.toNat : Int) := by obtain ⟨x, e⟩ := bv32_of w2; exact ⟨x, (Value.int.inj e).2⟩
  clear hA0 hval0
  refine (Fn.law (law_SuperblockBursts W b0_0 (bounds_i64 w0_0) b0_1 (bounds_i64 w0_1) b0_2 (bounds_i64 w0_2) a1 (bounds_i64 w1) x2)).mono fun e W' ⟨he, bel⟩ => ?_
  subst he
  exact ⟨_, rfl, _, _, _, [], _, [], hW', trodAll_mk1 (shut_bool Try.underlying4 _), (trodAll_cons_mk (shut_agg3 Try.underlying37 (by kernel_rfl) Try_cells37 ⟨1, by rw [r0_0]; exact trod_int_mk 0 Try.underlying3 w0_0⟩ ⟨1, by rw [r0_1]; exact trod_int_mk 0 Try.underlying3 w0_1⟩ ⟨1, by rw [r0_2]; exact trod_int_mk 0 Try.underlying2 w0_2⟩) (trodAll_cons_mk (shut_int Try.underlying3 w1) (trodAll_cons_mk (shut_int Try.underlying33 w2) trodAll_mk0))), rfl, bel.frame _, fun h => by cases h⟩
theorem joined_SuperblockBursts : joinedFacts Try.prog 18 Try.f18 Rows.superblockBurstsSpec Rows.superblockBurstsRow = true := by
  unfold joinedFacts
  rw [all_make, all_lifts, all_mayEnter, all_laidOut, all_mapsRowed, all_plainKeys, all_stopsHeard]
  kernel_rfl
theorem over_SuperblockBursts : Rows.superblockBurstsRow.holds Try.pinned (OpenSpec.ofChange Rows.superblockBurstsSpec) :=
  OpenClaim.holds_of_wide 18 Try.f18 rfl rfl rfl rfl rfl rfl rfl ⟨rfl, rfl, rfl, rfl, rfl⟩ rfl rfl rfl rfl rfl (by kernel_rfl) Try.func18 joined_SuperblockBursts
    (of_decide_eq_true (by kernel_rfl)) (by unfold Func.isWrapper; first | (rw [if_pos (by decide +kernel)]; kernel_rfl) | (rw [if_neg (by decide +kernel)]; exact ⟨rfl, rfl⟩))
    (fun os started H enc _ => lifted_SuperblockBursts os started H enc)
/-- the given statement -/
theorem proved_SuperblockBursts : Rows.SuperblockBurstsSaid := over_SuperblockBursts

end Go.Proofs.Ytibopglhgbbmpaa
