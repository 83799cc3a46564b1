/-
  The statement on SuperblockBack: the frame for rows, round the walk law_SuperblockBack.
-/
import Derived.ChangeShapes
import Derived.Lib.SmallJoins
import Derived.Below
import Derived.WalkKit
import Derived.ProofKit
import Derived.ChangeSame
import Derived.SizedLaws
import Derived.Test.YtibopglhgbbmpaaH
import Derived.Test.YtibopglhgbbmpaaL3
namespace Go.Proofs.Ytibopglhgbbmpaa
open Go Go.RowKit
set_option linter.unusedVariables false
open Go.ChangeShapes Go.WideShapes Go.ChangeAt Go.RowKit Go.Joins
open Go.ChangeMaps (open_string shut_string)

theorem Try_cells37 : Try.prog.cellsOf 37 = 3 := by kernel_rfl
set_option maxRecDepth 100000 in
theorem lifted_SuperblockBack (os : Os) (started : os.Started) (H : Type) (enc : TypeId × Value → H) :
    ReturnsInHanded {} Try.checked os 17 .any (Rows.superblockBackSpec.pre6 enc Try.prog Try.f17 Rows.superblockBackRow.domain false) (Rows.superblockBackSpec.post enc Try.prog Try.f17 false true false false) := by
  refine returnsInHanded_of_change_sized (C := Try.checked) all_own started (by kernel_rfl) Try.func17
    (ChangeSpec.witness6 (enc := enc) (C := Try.checked) false ⟨#[], #[.agg #[(I64 0), (I64 0), (I64 0)], .slice none 0 0], []⟩ 8 (by kernel_rfl) (by kernel_rfl) (by kernel_rfl) (by kernel_rfl)) ?_
  intro W base args ds gs before hval0 hW hcnd hsz0 _
  have hsz : (DataW.weightsEach Try.prog (Try.f17.params.toList ++ Rows.superblockBackSpec.plain.varTypes Try.prog) (ds ++ gs)).all (· ≤ reachBytes) = true := hsz0
  have hval : ∀ (j : Nat) t v, Try.f17.params[j]? = some t → args[j]? = some v → Value.okWide Try.prog W .any base t v := hval0
  have hW' := hW
  obtain ⟨p, q, hA0, hV, rfl, hfz, hnd⟩ := hW
  have hA : DataW.TrodAll enc Try.prog W 0 (fun _ => true) true Try.f17.params.toList args.toList ds p := hA0
  rw [Try.params17] at hA hval hsz
  obtain ⟨v0, vs0, d0, ds0, p0, q0, hargs, rfl, rfl, h0, r0⟩ := trodAll_cons hA
  obtain ⟨v1, vs1, d1, ds1, p1, q1, rfl, rfl, rfl, h1, r1⟩ := trodAll_cons r0
  obtain ⟨rfl, rfl, rfl⟩ := trodAll_nil r1
  obtain rfl : args = #[v0, v1] := by cases args; simp_all
  obtain ⟨rfl, rfl⟩ := trodVars_none hV
  obtain ⟨c0_0, c0_1, c0_2, y0_0, y0_1, y0_2, m0, rfl, rfl, rfl, hy0_0, hy0_1, hy0_2⟩ := open_agg3 Try.underlying37 (by kernel_rfl) Try_cells37 (hval 0 37 v0 rfl rfl) h0
  obtain ⟨b0_0, e0_0, r0_0, w0_0⟩ := DataW.trod_int Try.underlying3 hy0_0
  simp at e0_0
  subst e0_0
  obtain ⟨b0_1, e0_1, r0_1, w0_1⟩ := DataW.trod_int Try.underlying3 hy0_1
  simp at e0_1
  subst e0_1
  obtain ⟨b0_2, e0_2, r0_2, w0_2⟩ := DataW.trod_int Try.underlying2 hy0_2
  simp at e0_2
  subst e0_2
  obtain ⟨a1, len1, cap1, rfl⟩ := okWide_slice Try.underlying23 (hval 1 23 v1 rfl rfl)
  have k1 := h1
  have lt1 : ∀ x ∈ p1, x.block < W.heap.size := by obtain ⟨m, hm⟩ := k1; exact DataW.trod_lt m _ _ _ hm
  obtain ⟨z1, w1, hr1⟩ : ∃ zs, IsRow .u8 W a1 len1 cap1 zs ∧ cap1 * 1 ≤ 140737488351232 := by
    obtain ⟨fuel, hf⟩ := h1
    rcases open_ints Try.underlying23 Try.underlying5 (by kernel_rfl) hf with ⟨hcs, _⟩ | ⟨x, l, c, zs, hcs, _, hl, hm, hz, hdx, hcell, hwz⟩
    · simp [Value.cells] at hcs
      obtain ⟨rfl, rfl, rfl⟩ := hcs
      exact ⟨[], .inl ⟨rfl, rfl, rfl, rfl⟩, by decide⟩
    · simp [Value.cells] at hcs
      obtain ⟨rfl, rfl, rfl⟩ := hcs
      injection hdx with hd1 hd2
      have hzc : zs.length = cap1 := by simpa using hz
      rw [hd1] at hsz
      have hrz := sized_slice hsz (j := 1) (t := 23) (e := 5) rfl rfl Try.underlying23
      rw [show Try.prog.bytesOf 5 = 1 by kernel_rfl] at hrz
      simp only [lits, List.length_map, List.length_take, List.length_drop, reachBytes] at hrz
      exact ⟨zs, .inr ⟨_, rfl, hl, hm, by simpa using hz, hcell, hwz⟩, by omega⟩
  obtain ⟨xs1, sl1⟩ := IsRow.bv8 w1
  clear hA0 hval0
  refine (Fn.law (law_SuperblockBack W b0_0 (bounds_i64 w0_0) b0_1 (bounds_i64 w0_1) b0_2 (bounds_i64 w0_2) sl1 hr1)).mono fun e W' ⟨he, bel⟩ => ?_
  subst he
  exact ⟨_, rfl, _, _, _, [], _, [], hW', trodAll_mk1 (shut_bool Try.underlying4 _), (trodAll_cons_mk (shut_agg3 Try.underlying37 (by kernel_rfl) Try_cells37 ⟨1, by rw [r0_0]; exact trod_int_mk 0 Try.underlying3 w0_0⟩ ⟨1, by rw [r0_1]; exact trod_int_mk 0 Try.underlying3 w0_1⟩ ⟨1, by rw [r0_2]; exact trod_int_mk 0 Try.underlying2 w0_2⟩) (trodAll_cons_mk (Below.trod all_laidOut (by kernel_rfl) (of_decide_eq_true (by kernel_rfl)) k1 bel lt1) trodAll_mk0)), rfl, bel.frame _, fun h => by cases h⟩
theorem joined_SuperblockBack : joinedFacts Try.prog 17 Try.f17 Rows.superblockBackSpec Rows.superblockBackRow = true := by
  unfold joinedFacts
  rw [all_make, all_lifts, all_mayEnter, all_laidOut, all_mapsRowed, all_plainKeys, all_stopsHeard]
  kernel_rfl
theorem over_SuperblockBack : Rows.superblockBackRow.holds Try.pinned (OpenSpec.ofChange Rows.superblockBackSpec) :=
  OpenClaim.holds_of_wide 17 Try.f17 rfl rfl rfl rfl rfl rfl rfl ⟨rfl, rfl, rfl, rfl, rfl⟩ rfl rfl rfl rfl rfl (by kernel_rfl) Try.func17 joined_SuperblockBack
    (of_decide_eq_true (by kernel_rfl)) (by unfold Func.isWrapper; first | (rw [if_pos (by decide +kernel)]; kernel_rfl) | (rw [if_neg (by decide +kernel)]; exact ⟨rfl, rfl⟩))
    (fun os started H enc _ => lifted_SuperblockBack os started H enc)
/-- the given statement -/
theorem proved_SuperblockBack : Rows.SuperblockBackSaid := over_SuperblockBack

end Go.Proofs.Ytibopglhgbbmpaa
