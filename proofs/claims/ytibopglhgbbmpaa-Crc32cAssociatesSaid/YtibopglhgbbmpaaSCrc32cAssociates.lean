/-
  The statement on Crc32cAssociates: the frame for rows, round the walk law_Crc32cAssociates.
-/
import Derived.ChangeShapes
import Derived.Lib.SmallJoins
import Derived.Below
import Derived.WalkKit
import Derived.ProofKit
import Derived.Test.YtibopglhgbbmpaaH
import Derived.Test.YtibopglhgbbmpaaK8
import Derived.Test.YtibopglhgbbmpaaL1
namespace Go.Proofs.Ytibopglhgbbmpaa
open Go Go.RowKit
set_option linter.unusedVariables false
open Go.ChangeShapes Go.WideShapes Go.ChangeAt Go.RowKit Go.Joins
open Go.ChangeMaps (open_string shut_string)

set_option maxRecDepth 100000 in
theorem lifted_Crc32cAssociates (os : Os) (started : os.Started) (H : Type) (enc : TypeId × Value → H) :
    ReturnsInHanded {} Try.checked os 13 .any (Rows.crc32cAssociatesSpec.pre6 enc Try.prog Try.f13 Rows.crc32cAssociatesRow.domain false) (Rows.crc32cAssociatesSpec.post enc Try.prog Try.f13 false true false false) := by
  refine returnsInHanded_of_change (C := Try.checked) all_own started (by kernel_rfl) Try.func13
    (ChangeSpec.witness6 (enc := enc) (C := Try.checked) false ⟨#[], #[.int .u32 0, .int .u32 0, .int .u32 0, .int .u32 0, .int .u32 0], []⟩ 8 (by kernel_rfl) (by kernel_rfl) (by kernel_rfl) (by kernel_rfl)) ?_
  intro W base args ds gs before hval0 hW hcnd _
  have hval : ∀ (j : Nat) t v, Try.f13.params[j]? = some t → args[j]? = some v → Value.okWide Try.prog W .any base t v := hval0
  have hW' := hW
  obtain ⟨p, q, hA0, hV, rfl, hfz, hnd⟩ := hW
  have hA : DataW.TrodAll enc Try.prog W 0 (fun _ => true) true Try.f13.params.toList args.toList ds p := hA0
  rw [Try.params13] at hA hval
  obtain ⟨v0, vs0, d0, ds0, p0, q0, hargs, rfl, rfl, h0, r0⟩ := trodAll_cons hA
  obtain ⟨v1, vs1, d1, ds1, p1, q1, rfl, rfl, rfl, h1, r1⟩ := trodAll_cons r0
  obtain ⟨v2, vs2, d2, ds2, p2, q2, rfl, rfl, rfl, h2, r2⟩ := trodAll_cons r1
  obtain ⟨v3, vs3, d3, ds3, p3, q3, rfl, rfl, rfl, h3, r3⟩ := trodAll_cons r2
  obtain ⟨v4, vs4, d4, ds4, p4, q4, rfl, rfl, rfl, h4, r4⟩ := trodAll_cons r3
  obtain ⟨rfl, rfl, rfl⟩ := trodAll_nil r4
  obtain rfl : args = #[v0, v1, v2, v3, v4] := by cases args; simp_all
  obtain ⟨rfl, rfl⟩ := trodVars_none hV
  obtain ⟨a0, rfl, rfl, rfl, w0⟩ := open_int Try.underlying33 (hval 0 33 v0 rfl rfl) h0
  obtain ⟨x0, rfl⟩ : ∃ x : BitVec 32, a0 = (x.toNat : Int) := by obtain ⟨x, e⟩ := bv32_of w0; exact ⟨x, (Value.int.inj e).2⟩
  obtain ⟨a1, rfl, rfl, rfl, w1⟩ := open_int Try.underlying33 (hval 1 33 v1 rfl rfl) h1
  obtain ⟨x1, rfl⟩ : ∃ x : BitVec 32, a1 = (x.toNat : Int) := by obtain ⟨x, e⟩ := bv32_of w1; exact ⟨x, (Value.int.inj e).2⟩
  obtain ⟨a2, rfl, rfl, rfl, w2⟩ := open_int Try.underlying33 (hval 2 33 v2 rfl rfl) h2
  obtain ⟨x2, rfl⟩ : ∃ x : BitVec 32, a2 = (x.toNat : Int) := by obtain ⟨x, e⟩ := bv32_of w2; exact ⟨x, (Value.int.inj e).2⟩
  obtain ⟨a3, rfl, rfl, rfl, w3⟩ := open_int Try.underlying33 (hval 3 33 v3 rfl rfl) h3
  obtain ⟨x3, rfl⟩ : ∃ x : BitVec 32, a3 = (x.toNat : Int) := by obtain ⟨x, e⟩ := bv32_of w3; exact ⟨x, (Value.int.inj e).2⟩
  obtain ⟨a4, rfl, rfl, rfl, w4⟩ := open_int Try.underlying33 (hval 4 33 v4 rfl rfl) h4
  obtain ⟨x4, rfl⟩ : ∃ x : BitVec 32, a4 = (x.toNat : Int) := by obtain ⟨x, e⟩ := bv32_of w4; exact ⟨x, (Value.int.inj e).2⟩
  clear hA0 hval0
  refine (Fn.law (law_Crc32cAssociates W x0 x1 x2 x3 x4)).mono fun e W' ⟨he, bel⟩ => ?_
  subst he
  exact ⟨_, rfl, _, _, _, [], _, [], hW', trodAll_mk1 (shut_bool Try.underlying4 _), (trodAll_cons_mk (shut_int Try.underlying33 w0) (trodAll_cons_mk (shut_int Try.underlying33 w1) (trodAll_cons_mk (shut_int Try.underlying33 w2) (trodAll_cons_mk (shut_int Try.underlying33 w3) (trodAll_cons_mk (shut_int Try.underlying33 w4) trodAll_mk0))))), rfl, bel.frame _, fun h => by cases h⟩
theorem joined_Crc32cAssociates : joinedFacts Try.prog 13 Try.f13 Rows.crc32cAssociatesSpec Rows.crc32cAssociatesRow = true := by
  unfold joinedFacts
  rw [all_make, all_lifts, all_mayEnter, all_laidOut, all_mapsRowed, all_plainKeys, all_stopsHeard]
  kernel_rfl
theorem over_Crc32cAssociates : Rows.crc32cAssociatesRow.holds Try.pinned (OpenSpec.ofChange Rows.crc32cAssociatesSpec) :=
  OpenClaim.holds_of_wide 13 Try.f13 rfl rfl rfl rfl rfl rfl rfl ⟨rfl, rfl, rfl, rfl, rfl⟩ rfl rfl rfl rfl rfl (by kernel_rfl) Try.func13 joined_Crc32cAssociates
    (of_decide_eq_true (by kernel_rfl)) (by unfold Func.isWrapper; first | (rw [if_pos (by decide +kernel)]; kernel_rfl) | (rw [if_neg (by decide +kernel)]; exact ⟨rfl, rfl⟩))
    (fun os started H enc _ => lifted_Crc32cAssociates os started H enc)
/-- the given statement -/
theorem proved_Crc32cAssociates : Rows.Crc32cAssociatesSaid := over_Crc32cAssociates

end Go.Proofs.Ytibopglhgbbmpaa
