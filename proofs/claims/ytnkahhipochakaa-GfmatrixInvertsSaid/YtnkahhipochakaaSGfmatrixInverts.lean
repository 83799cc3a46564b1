/-
  The statement on GfmatrixInverts: the frame for rows, round the walk and the plain law ok_GfmatrixInverts. No conditions beyond the statement's own.
-/
import Derived.ChangeShapes
import Derived.Lib.SmallJoins
import Derived.Below
import Derived.WalkKit
import Derived.ProofKit
import Derived.ChangeSame
import Derived.SizedLaws
import Derived.Test.YtnkahhipochakaaH
import Derived.Test.YtnkahhipochakaaOn
import Derived.Test.YtnkahhipochakaaWke2
import Derived.Test.YtnkahhipochakaaQh
namespace Go.Proofs.Ytnkahhipochakaa
open Go Go.RowKit
set_option linter.unusedVariables false
set_option linter.unusedSimpArgs false
open Go.ChangeShapes Go.WideShapes Go.ChangeAt Go.RowKit Go.Joins
open Go.ChangeMaps (open_string shut_string)
set_option maxRecDepth 100000 in
theorem lifted_GfmatrixInverts (os : Os) (started : os.Started) (H : Type) (enc : TypeId × Value → H) :
    ReturnsInHanded {} Try.checked os 4 .any (Rows.gfmatrixInvertsSpec.pre6 enc Try.prog Try.f4 Rows.gfmatrixInvertsRow.domain false) (Rows.gfmatrixInvertsSpec.post enc Try.prog Try.f4 false true false false) := by
  refine returnsInHanded_of_change (C := Try.checked) all_own started (by kernel_rfl) Try.func4
    (ChangeSpec.witness6 (enc := enc) (C := Try.checked) false ⟨#[], #[.agg #[(I64 0), (I64 0), (.slice none 0 0)]], []⟩ 8 (by kernel_rfl) (by kernel_rfl) (by kernel_rfl) (by kernel_rfl)) ?_
  intro W base args ds gs before hval0 hW hcnd _
  have hval : ∀ (j : Nat) t v, Try.f4.params[j]? = some t → args[j]? = some v → Value.okWide Try.prog W .any base t v := hval0
  have hW' := hW
  obtain ⟨p, q, hA0, hV, rfl, hfz, hnd⟩ := hW
  have hA : DataW.TrodAll enc Try.prog W 0 (fun _ => true) true Try.f4.params.toList args.toList ds p := hA0
  rw [Try.params4] at hA hval
  obtain ⟨v0, vs0, d0, ds0, p0, q0, hargs, rfl, rfl, h0, r0⟩ := trodAll_cons hA
  obtain ⟨rfl, rfl, rfl⟩ := trodAll_nil r0
  obtain rfl : args = #[v0] := by cases args; simp_all
  obtain ⟨rfl, rfl⟩ := trodVars_none hV
  have k0 := h0
  have lt0 : ∀ x ∈ p0, x.block < W.heap.size := by obtain ⟨m, hm⟩ := k0; exact DataW.trod_lt m _ _ _ hm
  obtain ⟨fu0, hf0⟩ := h0
  obtain ⟨zs0, rfl, _⟩ := Go.WideShapes.okWide_struct Try.underlying24 (hval 0 24 v0 rfl rfl)
  obtain ⟨a0_0, a0_1, A0_2, n0_2, c0_2, a0_2, e0, f0_0_0, f0_1_0, f0_2_0, f0_2_1⟩ := opn_C24 hf0
  obtain rfl : zs0 = ([I64 a0_0, I64 a0_1, .slice A0_2 n0_2 c0_2] : List Value).toArray := by rw [← Array.toList_inj]; exact e0
  have hw := w_law03_GfmatrixInverts (Mem.snap W) a0_0 a0_1 A0_2 n0_2 c0_2 a0_2 f0_2_0 (ok_GfmatrixInverts a0_0 a0_1 a0_2)
  refine (Fn.law hw).mono fun e W' ⟨he, bel⟩ => ?_
  subst he
  exact ⟨_, rfl, _, _, _, [], _, [], hW', trodAll_mk1 (shut_bool Try.underlying4 _), (trodAll_cons_mk (Below.trod all_laidOut (by kernel_rfl) (of_decide_eq_true (by kernel_rfl)) k0 bel lt0) trodAll_mk0), rfl, bel.frame _, fun h => by cases h⟩
theorem joined_GfmatrixInverts : joinedFacts Try.prog 4 Try.f4 Rows.gfmatrixInvertsSpec Rows.gfmatrixInvertsRow = true := by
  unfold joinedFacts
  rw [all_make, all_lifts, all_mayEnter, all_laidOut, all_mapsRowed, all_plainKeys, all_stopsHeard]
  kernel_rfl
theorem over_GfmatrixInverts : Rows.gfmatrixInvertsRow.holds Try.pinned (OpenSpec.ofChange Rows.gfmatrixInvertsSpec) :=
  OpenClaim.holds_of_wide 4 Try.f4 rfl rfl rfl rfl rfl rfl rfl ⟨rfl, rfl, rfl, rfl, rfl⟩ rfl rfl rfl rfl rfl (by kernel_rfl) Try.func4 joined_GfmatrixInverts
    (of_decide_eq_true (by kernel_rfl)) (by unfold Func.isWrapper; first | (rw [if_pos (by decide +kernel)]; kernel_rfl) | (rw [if_neg (by decide +kernel)]; exact ⟨rfl, rfl⟩))
    (fun os started H enc _ => lifted_GfmatrixInverts os started H enc)
/-- the given statement -/
theorem proved_GfmatrixInverts : Rows.GfmatrixInvertsSaid := over_GfmatrixInverts

end Go.Proofs.Ytnkahhipochakaa
