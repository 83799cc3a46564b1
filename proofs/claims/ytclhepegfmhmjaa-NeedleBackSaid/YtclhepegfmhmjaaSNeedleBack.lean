/-
  The statement on NeedleBack: the frame for rows, round the walk and the plain law ok_NeedleBack. No conditions beyond the statement's own.
-/
import Derived.ChangeShapes
import Derived.Lib.SmallJoins
import Derived.Below
import Derived.WalkKit
import Derived.ProofKit
import Derived.ChangeSame
import Derived.SizedLaws
import Derived.Test.YtclhepegfmhmjaaH
import Derived.Test.YtclhepegfmhmjaaOn
import Derived.Test.YtclhepegfmhmjaaPe
namespace Go.Proofs.Ytclhepegfmhmjaa
open Go Go.RowKit
set_option linter.unusedVariables false
set_option linter.unusedSimpArgs false
open Go.ChangeShapes Go.WideShapes Go.ChangeAt Go.RowKit Go.Joins
open Go.ChangeMaps (open_string shut_string)
set_option maxRecDepth 100000 in
theorem lifted_NeedleBack (os : Os) (started : os.Started) (H : Type) (enc : TypeId × Value → H) :
    ReturnsInHanded {} Try.checked os 6 .any (Rows.needleBackSpec.pre6 enc Try.prog Try.f6 Rows.needleBackRow.domain false) (Rows.needleBackSpec.post enc Try.prog Try.f6 false true false false) := by
  refine returnsInHanded_of_change_sized (C := Try.checked) all_own started (by kernel_rfl) Try.func6
    (ChangeSpec.witness6 (enc := enc) (C := Try.checked) false ⟨#[], #[.agg #[(U64 0#64), (U32 0#32), (.bool false), (.slice none 0 0)], .slice none 0 0], []⟩ 8 (by kernel_rfl) (by kernel_rfl) (by kernel_rfl) (by kernel_rfl)) ?_
  intro W base args ds gs before hval0 hW hcnd hsz0 _
  have hsz : (DataW.weightsEach Try.prog (Try.f6.params.toList ++ Rows.needleBackSpec.plain.varTypes Try.prog) (ds ++ gs)).all (· ≤ reachBytes) = true := hsz0
  have hval : ∀ (j : Nat) t v, Try.f6.params[j]? = some t → args[j]? = some v → Value.okWide Try.prog W .any base t v := hval0
  have hW' := hW
  obtain ⟨p, q, hA0, hV, rfl, hfz, hnd⟩ := hW
  have hA : DataW.TrodAll enc Try.prog W 0 (fun _ => true) true Try.f6.params.toList args.toList ds p := hA0
  rw [Try.params6] at hA hval hsz
  obtain ⟨v0, vs0, d0, ds0, p0, q0, hargs, rfl, rfl, h0, r0⟩ := trodAll_cons hA
  obtain ⟨v1, vs1, d1, ds1, p1, q1, rfl, rfl, rfl, h1, r1⟩ := trodAll_cons r0
  obtain ⟨rfl, rfl, rfl⟩ := trodAll_nil r1
  obtain rfl : args = #[v0, v1] := by cases args; simp_all
  obtain ⟨rfl, rfl⟩ := trodVars_none hV
  have k0 := h0
  have lt0 : ∀ x ∈ p0, x.block < W.heap.size := by obtain ⟨m, hm⟩ := k0; exact DataW.trod_lt m _ _ _ hm
  obtain ⟨fu0, hf0⟩ := h0
  obtain ⟨zs0, rfl, _⟩ := Go.WideShapes.okWide_struct Try.underlying26 (hval 0 26 v0 rfl rfl)
  obtain ⟨a0_0, a0_1, a0_2, A0_3, n0_3, c0_3, a0_3, e0, f0_3_0, f0_3_1⟩ := opn_C26 hf0
  obtain rfl : zs0 = ([U64 a0_0, U32 a0_1, .bool a0_2, .slice A0_3 n0_3 c0_3] : List Value).toArray := by rw [← Array.toList_inj]; exact e0
  have k1 := h1
  have lt1 : ∀ x ∈ p1, x.block < W.heap.size := by obtain ⟨m, hm⟩ := k1; exact DataW.trod_lt m _ _ _ hm
  obtain ⟨fu1, hf1⟩ := h1
  obtain ⟨za1, zn1, zc1, rfl⟩ := okWide_slice Try.underlying24 (hval 1 24 v1 rfl rfl)
  have sz1 := opn_sized Try.underlying24 hf1 hsz (j := 1) rfl rfl
  rw [show Try.prog.bytesOf 5 = 1 by kernel_rfl] at sz1
  obtain ⟨A1, n1, c1, a1, e1, s1, iv1⟩ := opn_T24 hf1
  injection e1 with e1
  have szl1 : a1.length * 1 ≤ 140737488351232 := by injection e1 with e1 e2 e3; have := len_of_cel s1; simp only [reachBytes] at sz1;  omega
  rw [e1] at k1 hW' ⊢
  have hw := w_law06_NeedleBack (Mem.snap W) a0_0 a0_1 a0_2 A0_3 n0_3 c0_3 a0_3 f0_3_0 A1 n1 c1 a1 s1 (ok_NeedleBack a0_0 a0_1 a0_2 a0_3 a1 (by omega))
  refine (Fn.law hw).mono fun e W' ⟨he, bel⟩ => ?_
  subst he
  exact ⟨_, rfl, _, _, _, [], _, [], hW', trodAll_mk1 (shut_bool Try.underlying4 _), (trodAll_cons_mk (Below.trod all_laidOut (by kernel_rfl) (of_decide_eq_true (by kernel_rfl)) k0 bel lt0) (trodAll_cons_mk (Below.trod all_laidOut (by kernel_rfl) (of_decide_eq_true (by kernel_rfl)) k1 bel lt1) trodAll_mk0)), rfl, bel.frame _, fun h => by cases h⟩
theorem joined_NeedleBack : joinedFacts Try.prog 6 Try.f6 Rows.needleBackSpec Rows.needleBackRow = true := by
  unfold joinedFacts
  rw [all_make, all_lifts, all_mayEnter, all_laidOut, all_mapsRowed, all_plainKeys, all_stopsHeard]
  kernel_rfl
theorem over_NeedleBack : Rows.needleBackRow.holds Try.pinned (OpenSpec.ofChange Rows.needleBackSpec) :=
  OpenClaim.holds_of_wide 6 Try.f6 rfl rfl rfl rfl rfl rfl rfl ⟨rfl, rfl, rfl, rfl, rfl⟩ rfl rfl rfl rfl rfl (by kernel_rfl) Try.func6 joined_NeedleBack
    (of_decide_eq_true (by kernel_rfl)) (by unfold Func.isWrapper; first | (rw [if_pos (by decide +kernel)]; kernel_rfl) | (rw [if_neg (by decide +kernel)]; exact ⟨rfl, rfl⟩))
    (fun os started H enc _ => lifted_NeedleBack os started H enc)
/-- the given statement -/
theorem proved_NeedleBack : Rows.NeedleBackSaid := over_NeedleBack

end Go.Proofs.Ytclhepegfmhmjaa
