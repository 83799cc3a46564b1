/-
  The statement on GfmatrixProducts: the frame for rows, round the walk and the plain law ok_GfmatrixProducts. No conditions beyond the statement's own.
-/
import Derived.ChangeShapes
import Derived.Lib.SmallJoins
import Derived.Below
import Derived.WalkKit
import Derived.ProofKit
import Derived.ChangeSame
import Derived.SizedLaws
import Derived.Test.YtnkahhipochakaaH
import Derived.Test.YtnkahhipochakaaOn
import Derived.Test.YtnkahhipochakaaWke1
import Derived.Test.YtnkahhipochakaaQd
namespace Go.Proofs.Ytnkahhipochakaa
open Go Go.RowKit
set_option linter.unusedVariables false
set_option linter.unusedSimpArgs false
open Go.ChangeShapes Go.WideShapes Go.ChangeAt Go.RowKit Go.Joins
open Go.ChangeMaps (open_string shut_string)
set_option maxRecDepth 100000 in
theorem lifted_GfmatrixProducts (os : Os) (started : os.Started) (H : Type) (enc : TypeId × Value → H) :
    ReturnsInHanded {} Try.checked os 11 .any (Rows.gfmatrixProductsSpec.pre6 enc Try.prog Try.f11 Rows.gfmatrixProductsRow.domain false) (Rows.gfmatrixProductsSpec.post enc Try.prog Try.f11 false true false false) := by
  refine returnsInHanded_of_change (C := Try.checked) all_own started (by kernel_rfl) Try.func11
    (ChangeSpec.witness6 (enc := enc) (C := Try.checked) false ⟨#[], #[.agg #[(I64 0), (I64 0), (.slice none 0 0)], .agg #[(I64 0), (I64 0), (.slice none 0 0)], .slice none 0 0], []⟩ 8 (by kernel_rfl) (by kernel_rfl) (by kernel_rfl) (by kernel_rfl)) ?_
  intro W base args ds gs before hval0 hW hcnd _
  have hval : ∀ (j : Nat) t v, Try.f11.params[j]? = some t → args[j]? = some v → Value.okWide Try.prog W .any base t v := hval0
  have hW' := hW
  obtain ⟨p, q, hA0, hV, rfl, hfz, hnd⟩ := hW
  have hA : DataW.TrodAll enc Try.prog W 0 (fun _ => true) true Try.f11.params.toList args.toList ds p := hA0
  rw [Try.params11] at hA hval
  obtain ⟨v0, vs0, d0, ds0, p0, q0, hargs, rfl, rfl, h0, r0⟩ := trodAll_cons hA
  obtain ⟨v1, vs1, d1, ds1, p1, q1, rfl, rfl, rfl, h1, r1⟩ := trodAll_cons r0
  obtain ⟨v2, vs2, d2, ds2, p2, q2, rfl, rfl, rfl, h2, r2⟩ := trodAll_cons r1
  obtain ⟨rfl, rfl, rfl⟩ := trodAll_nil r2
  obtain rfl : args = #[v0, v1, v2] := by cases args; simp_all
  obtain ⟨rfl, rfl⟩ := trodVars_none hV
  have k0 := h0
  have lt0 : ∀ x ∈ p0, x.block < W.heap.size := by obtain ⟨m, hm⟩ := k0; exact DataW.trod_lt m _ _ _ hm
  obtain ⟨fu0, hf0⟩ := h0
  obtain ⟨zs0, rfl, _⟩ := Go.WideShapes.okWide_struct Try.underlying24 (hval 0 24 v0 rfl rfl)
  obtain ⟨a0_0, a0_1, A0_2, n0_2, c0_2, a0_2, e0, f0_0_0, f0_1_0, f0_2_0, f0_2_1⟩ := opn_C24 hf0
  obtain rfl : zs0 = ([I64 a0_0, I64 a0_1, .slice A0_2 n0_2 c0_2] : List Value).toArray := by rw [← Array.toList_inj]; exact e0
  have k1 := h1
  have lt1 : ∀ x ∈ p1, x.block < W.heap.size := by obtain ⟨m, hm⟩ := k1; exact DataW.trod_lt m _ _ _ hm
  obtain ⟨fu1, hf1⟩ := h1
  obtain ⟨zs1, rfl, _⟩ := Go.WideShapes.okWide_struct Try.underlying24 (hval 1 24 v1 rfl rfl)
  obtain ⟨a1_0, a1_1, A1_2, n1_2, c1_2, a1_2, e1, f1_0_0, f1_1_0, f1_2_0, f1_2_1⟩ := opn_C24 hf1
  obtain rfl : zs1 = ([I64 a1_0, I64 a1_1, .slice A1_2 n1_2 c1_2] : List Value).toArray := by rw [← Array.toList_inj]; exact e1
  have k2 := h2
  have lt2 : ∀ x ∈ p2, x.block < W.heap.size := by obtain ⟨m, hm⟩ := k2; exact DataW.trod_lt m _ _ _ hm
  obtain ⟨fu2, hf2⟩ := h2
  obtain ⟨za2, zn2, zc2, rfl⟩ := okWide_slice Try.underlying50 (hval 2 50 v2 rfl rfl)
  obtain ⟨A2, n2, c2, a2, e2, s2, iv2⟩ := opn_T50 hf2
  injection e2 with e2
  rw [e2] at k2 hW' ⊢
  have hw := w_law03_GfmatrixProducts (Mem.snap W) a0_0 a0_1 A0_2 n0_2 c0_2 a0_2 f0_2_0 a1_0 a1_1 A1_2 n1_2 c1_2 a1_2 f1_2_0 A2 n2 c2 a2 s2 (ok_GfmatrixProducts a0_0 a0_1 a0_2 a1_0 a1_1 a1_2 a2)
  refine (Fn.law hw).mono fun e W' ⟨he, bel⟩ => ?_
  subst he
  exact ⟨_, rfl, _, _, _, [], _, [], hW', trodAll_mk1 (shut_bool Try.underlying4 _), (trodAll_cons_mk (Below.trod all_laidOut (by kernel_rfl) (of_decide_eq_true (by kernel_rfl)) k0 bel lt0) (trodAll_cons_mk (Below.trod all_laidOut (by kernel_rfl) (of_decide_eq_true (by kernel_rfl)) k1 bel lt1) (trodAll_cons_mk (Below.trod all_laidOut (by kernel_rfl) (of_decide_eq_true (by kernel_rfl)) k2 bel lt2) trodAll_mk0))), rfl, bel.frame _, fun h => by cases h⟩
theorem joined_GfmatrixProducts : joinedFacts Try.prog 11 Try.f11 Rows.gfmatrixProductsSpec Rows.gfmatrixProductsRow = true := by
  unfold joinedFacts
  rw [all_make, all_lifts, all_mayEnter, all_laidOut, all_mapsRowed, all_plainKeys, all_stopsHeard]
  kernel_rfl
theorem over_GfmatrixProducts : Rows.gfmatrixProductsRow.holds Try.pinned (OpenSpec.ofChange Rows.gfmatrixProductsSpec) :=
  OpenClaim.holds_of_wide 11 Try.f11 rfl rfl rfl rfl rfl rfl rfl ⟨rfl, rfl, rfl, rfl, rfl⟩ rfl rfl rfl rfl rfl (by kernel_rfl) Try.func11 joined_GfmatrixProducts
    (of_decide_eq_true (by kernel_rfl)) (by unfold Func.isWrapper; first | (rw [if_pos (by decide +kernel)]; kernel_rfl) | (rw [if_neg (by decide +kernel)]; exact ⟨rfl, rfl⟩))
    (fun os started H enc _ => lifted_GfmatrixProducts os started H enc)
/-- the given statement -/
theorem proved_GfmatrixProducts : Rows.GfmatrixProductsSaid := over_GfmatrixProducts

end Go.Proofs.Ytnkahhipochakaa
