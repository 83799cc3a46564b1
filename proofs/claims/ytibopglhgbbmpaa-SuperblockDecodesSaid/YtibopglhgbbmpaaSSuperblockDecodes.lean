/-
  The statement on SuperblockDecodes: the frame for rows, round the walk law_SuperblockDecodes.
-/
import Derived.ChangeShapes
import Derived.Lib.SmallJoins
import Derived.Below
import Derived.WalkKit
import Derived.ProofKit
import Derived.ChangeSame
import Derived.Test.YtibopglhgbbmpaaH
import Derived.Test.YtibopglhgbbmpaaL3
namespace Go.Proofs.Ytibopglhgbbmpaa
open Go Go.RowKit
set_option linter.unusedVariables false
open Go.ChangeShapes Go.WideShapes Go.ChangeAt Go.RowKit Go.Joins
open Go.ChangeMaps (open_string shut_string)

theorem Try_cells37 : Try.prog.cellsOf 37 = 3 := by kernel_rfl
set_option maxRecDepth 100000 in
theorem lifted_SuperblockDecodes (os : Os) (started : os.Started) (H : Type) (enc : TypeId × Value → H) :
    ReturnsInHanded {} Try.checked os 16 .any (Rows.superblockDecodesSpec.pre6 enc Try.prog Try.f16 Rows.superblockDecodesRow.domain false) (Rows.superblockDecodesSpec.post enc Try.prog Try.f16 false true false false) := by
  refine returnsInHanded_of_change (C := Try.checked) all_own started (by kernel_rfl) Try.func16
    (ChangeSpec.witness6 (enc := enc) (C := Try.checked) false ⟨#[], #[.slice none 0 0, .agg #[(I64 0), (I64 0), (I64 0)], .int .i64 0, .int .u8 0, .bool false], []⟩ 8 (by kernel_rfl) (by kernel_rfl) (by kernel_rfl) (by kernel_rfl)) ?_
  intro W base args ds gs before hval0 hW hcnd _
  have hval : ∀ (j : Nat) t v, Try.f16.params[j]? = some t → args[j]? = some v → Value.okWide Try.prog W .any base t v := hval0
  have hW' := hW
  obtain ⟨p, q, hA0, hV, rfl, hfz, hnd⟩ := hW
  have hA : DataW.TrodAll enc Try.prog W 0 (fun _ => true) true Try.f16.params.toList args.toList ds p := hA0
  rw [Try.params16] at hA hval
  obtain ⟨v0, vs0, d0, ds0, p0, q0, hargs, rfl, rfl, h0, r0⟩ := trodAll_cons hA
  obtain ⟨v1, vs1, d1, ds1, p1, q1, rfl, rfl, rfl, h1, r1⟩ := trodAll_cons r0
  obtain ⟨v2, vs2, d2, ds2, p2, q2, rfl, rfl, rfl, h2, r2⟩ := trodAll_cons r1
  obtain ⟨v3, vs3, d3, ds3, p3, q3, rfl, rfl, rfl, h3, r3⟩ := trodAll_cons r2
  obtain ⟨v4, vs4, d4, ds4, p4, q4, rfl, rfl, rfl, h4, r4⟩ := trodAll_cons r3
  obtain ⟨rfl, rfl, rfl⟩ := trodAll_nil r4
  obtain rfl : args = #[v0, v1, v2, v3, v4] := by cases args; simp_all
  obtain ⟨rfl, rfl⟩ := trodVars_none hV
  obtain ⟨a0, len0, cap0, rfl⟩ := okWide_slice Try.underlying23 (hval 0 23 v0 rfl rfl)
  have k0 := h0
  have lt0 : ∀ x ∈ p0, x.block < W.heap.size := by obtain ⟨m, hm⟩ := k0; exact DataW.trod_lt m _ _ _ hm
  obtain ⟨z0, w0⟩ : ∃ zs, IsRow .u8 W a0 len0 cap0 zs := by
    obtain ⟨fuel, hf⟩ := h0
    rcases open_ints Try.underlying23 Try.underlying5 (by kernel_rfl) hf with ⟨hcs, _⟩ | ⟨x, l, c, zs, hcs, _, hl, hm, hz, _, hcell, hwz⟩
    · simp [Value.cells] at hcs
      obtain ⟨rfl, rfl, rfl⟩ := hcs
      exact ⟨[], .inl ⟨rfl, rfl, rfl, rfl⟩⟩
    · simp [Value.cells] at hcs
      obtain ⟨rfl, rfl, rfl⟩ := hcs
      exact ⟨zs, .inr ⟨_, rfl, hl, hm, by simpa using hz, hcell, hwz⟩⟩
  obtain ⟨xs0, sl0⟩ := IsRow.bv8 w0
  obtain ⟨c1_0, c1_1, c1_2, y1_0, y1_1, y1_2, m1, rfl, rfl, rfl, hy1_0, hy1_1, hy1_2⟩ := open_agg3 Try.underlying37 (by kernel_rfl) Try_cells37 (hval 1 37 v1 rfl rfl) h1
  obtain ⟨b1_0, e1_0, r1_0, w1_0⟩ := DataW.trod_int Try.underlying3 hy1_0
  simp at e1_0
  subst e1_0
  obtain ⟨b1_1, e1_1, r1_1, w1_1⟩ := DataW.trod_int Try.underlying3 hy1_1
  simp at e1_1
  subst e1_1
  obtain ⟨b1_2, e1_2, r1_2, w1_2⟩ := DataW.trod_int Try.underlying2 hy1_2
  simp at e1_2
  subst e1_2
  obtain ⟨a2, rfl, rfl, rfl, w2⟩ := open_int Try.underlying3 (hval 2 3 v2 rfl rfl) h2
  obtain ⟨a3, rfl, rfl, rfl, w3⟩ := open_int Try.underlying5 (hval 3 5 v3 rfl rfl) h3
  obtain ⟨x3, rfl⟩ : ∃ x : BitVec 8, a3 = (x.toNat : Int) := by obtain ⟨x, e⟩ := bv8_of w3; exact ⟨x, (Value.int.inj e).2⟩
  obtain ⟨a4, rfl, rfl, rfl⟩ := open_bool Try.underlying4 (hval 4 4 v4 rfl rfl) h4
  clear hA0 hval0
  refine (Fn.law (law_SuperblockDecodes W sl0 b1_0 (bounds_i64 w1_0) b1_1 (bounds_i64 w1_1) b1_2 (bounds_i64 w1_2) a2 (bounds_i64 w2) x3 a4)).mono fun e W' ⟨he, bel⟩ => ?_
  subst he
  exact ⟨_, rfl, _, _, _, [], _, [], hW', trodAll_mk1 (shut_bool Try.underlying4 _), (trodAll_cons_mk (Below.trod all_laidOut (by kernel_rfl) (of_decide_eq_true (by kernel_rfl)) k0 bel lt0) (trodAll_cons_mk (shut_agg3 Try.underlying37 (by kernel_rfl) Try_cells37 ⟨1, by rw [r1_0]; exact trod_int_mk 0 Try.underlying3 w1_0⟩ ⟨1, by rw [r1_1]; exact trod_int_mk 0 Try.underlying3 w1_1⟩ ⟨1, by rw [r1_2]; exact trod_int_mk 0 Try.underlying2 w1_2⟩) (trodAll_cons_mk (shut_int Try.underlying3 w2) (trodAll_cons_mk (shut_int Try.underlying5 w3) (trodAll_cons_mk (shut_bool Try.underlying4 a4) trodAll_mk0))))), rfl, bel.frame _, fun h => by cases h⟩
theorem joined_SuperblockDecodes : joinedFacts Try.prog 16 Try.f16 Rows.superblockDecodesSpec Rows.superblockDecodesRow = true := by
  unfold joinedFacts
  rw [all_make, all_lifts, all_mayEnter, all_laidOut, all_mapsRowed, all_plainKeys, all_stopsHeard]
  kernel_rfl
theorem over_SuperblockDecodes : Rows.superblockDecodesRow.holds Try.pinned (OpenSpec.ofChange Rows.superblockDecodesSpec) :=
  OpenClaim.holds_of_wide 16 Try.f16 rfl rfl rfl rfl rfl rfl rfl ⟨rfl, rfl, rfl, rfl, rfl⟩ rfl rfl rfl rfl rfl (by kernel_rfl) Try.func16 joined_SuperblockDecodes
    (of_decide_eq_true (by kernel_rfl)) (by unfold Func.isWrapper; first | (rw [if_pos (by decide +kernel)]; kernel_rfl) | (rw [if_neg (by decide +kernel)]; exact ⟨rfl, rfl⟩))
    (fun os started H enc _ => lifted_SuperblockDecodes os started H enc)
/-- the given statement -/
theorem proved_SuperblockDecodes : Rows.SuperblockDecodesSaid := over_SuperblockDecodes

end Go.Proofs.Ytibopglhgbbmpaa
