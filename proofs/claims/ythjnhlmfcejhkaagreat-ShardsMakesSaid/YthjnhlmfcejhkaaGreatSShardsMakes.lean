/- A part of the proof. Conditions: as each theorem says. -/
import Derived.ChangeShapes
import Derived.Lib.SmallJoins
import Derived.Below
import Derived.WalkKit
import Derived.ProofKit
import Derived.ChangeSame
import Derived.SizedLaws
import Derived.Test.YthjnhlmfcejhkaaGreatH
import Derived.Test.YthjnhlmfcejhkaaGreatOn
import Derived.Test.YthjnhlmfcejhkaaGreatWks0
import Derived.Test.YthjnhlmfcejhkaaGreatTe
namespace Go.Proofs.YthjnhlmfcejhkaaGreat
set_option maxRecDepth 100000
open Go Go.RowKit
set_option linter.unusedVariables false
set_option linter.unusedSimpArgs false
open Go.ChangeShapes Go.WideShapes Go.ChangeAt Go.RowKit Go.Joins
open Go.ChangeMaps (open_string shut_string)
theorem lifted_ShardsMakes (os : Os) (started : os.Started) (H : Type) (enc : TypeId × Value -> H) :
  ReturnsInHanded {} Tryz.checked os 3 .any (Rows.shardsMakesSpec.pre6 enc Tryz.prog Tryz.f3 Rows.shardsMakesRow.domain false) (Rows.shardsMakesSpec.post enc Tryz.prog Tryz.f3 false true false false) := by
 refine returnsInHanded_of_change (C := Tryz.checked) all_own started (by kernel_rfl) Tryz.func3
  (ChangeSpec.witness6 (enc := enc) (C := Tryz.checked) false ⟨#[], #[.slice none 0 0, .agg #[(I64 0), (I64 0), (I64 0)], .slice none 0 0, .slice none 0 0], []⟩ 8 (by kernel_rfl) (by kernel_rfl) (by kernel_rfl) (by kernel_rfl)) ?_
 intro W base args ds gs before hval0 hW hcnd _
 have hval : ∀ (j : Nat) t v, Tryz.f3.params[j]? = some t -> args[j]? = some v -> Value.okWide Tryz.prog W .any base t v := hval0
 have hW' := hW
 obtain ⟨p, q, hA0, hV, rfl, hfz, hnd⟩ := hW
 have hA : DataW.TrodAll enc Tryz.prog W 0 (fun _ => true) true Tryz.f3.params.toList args.toList ds p := hA0
 rw [Tryz.params3] at hA hval
 obtain ⟨v0, vs0, d0, ds0, p0, q0, hargs, rfl, rfl, h0, r0⟩ := trodAll_cons hA
 obtain ⟨v1, vs1, d1, ds1, p1, q1, rfl, rfl, rfl, h1, r1⟩ := trodAll_cons r0
 obtain ⟨v2, vs2, d2, ds2, p2, q2, rfl, rfl, rfl, h2, r2⟩ := trodAll_cons r1
 obtain ⟨v3, vs3, d3, ds3, p3, q3, rfl, rfl, rfl, h3, r3⟩ := trodAll_cons r2
 obtain ⟨rfl, rfl, rfl⟩ := trodAll_nil r3
 obtain rfl : args = #[v0, v1, v2, v3] := by cases args; simp_all
 obtain ⟨rfl, rfl⟩ := trodVars_none hV
 have k0 := h0
 have lt0 : ∀ x ∈ p0, x.block < W.heap.size := by obtain ⟨m, hm⟩ := k0; exact DataW.trod_lt m _ _ _ hm
 obtain ⟨fu0, hf0⟩ := h0
 obtain ⟨za0, zn0, zc0, rfl⟩ := okWide_slice Tryz.underlying22 (hval 0 22 v0 rfl rfl)
 obtain ⟨A0, n0, c0, a0, e0, s0, iv0⟩ := opn_T22 hf0
 injection e0 with e0
 rw [e0] at k0 hW' ⊢
 have k1 := h1
 have lt1 : ∀ x ∈ p1, x.block < W.heap.size := by obtain ⟨m, hm⟩ := k1; exact DataW.trod_lt m _ _ _ hm
 obtain ⟨fu1, hf1⟩ := h1
 obtain ⟨zs1, rfl, _⟩ := Go.WideShapes.okWide_struct Tryz.underlying24 (hval 1 24 v1 rfl rfl)
 obtain ⟨a1_0, a1_1, a1_2, e1, f1_0_0, f1_1_0, f1_2_0⟩ := opn_C24 hf1
 obtain rfl : zs1 = ([I64 a1_0, I64 a1_1, I64 a1_2] : List Value).toArray := by rw [<- Array.toList_inj]; exact e1
 have k2 := h2
 have lt2 : ∀ x ∈ p2, x.block < W.heap.size := by obtain ⟨m, hm⟩ := k2; exact DataW.trod_lt m _ _ _ hm
 obtain ⟨fu2, hf2⟩ := h2
 obtain ⟨za2, zn2, zc2, rfl⟩ := okWide_slice Tryz.underlying25 (hval 2 25 v2 rfl rfl)
 obtain ⟨A2, n2, c2, a2, e2, s2, iv2⟩ := opn_T25 hf2
 injection e2 with e2
 rw [e2] at k2 hW' ⊢
 have k3 := h3
 have lt3 : ∀ x ∈ p3, x.block < W.heap.size := by obtain ⟨m, hm⟩ := k3; exact DataW.trod_lt m _ _ _ hm
 obtain ⟨fu3, hf3⟩ := h3
 obtain ⟨za3, zn3, zc3, rfl⟩ := okWide_slice Tryz.underlying26 (hval 3 26 v3 rfl rfl)
 obtain ⟨A3, n3, c3, rs3, a3, e3, s3, q3_, iv3⟩ := opn_T26 hf3
 injection e3 with e3
 rw [e3] at k3 hW' ⊢
 have hw := w_law17_ShardsMakes (Mem.snap W) A0 n0 c0 a0 s0 a1_0 a1_1 a1_2 A2 n2 c2 a2 s2 A3 n3 c3 rs3 a3 s3 q3_ (ok_ShardsMakes a0 a1_0 a1_1 a1_2 a2 a3)
 refine (Fn.law hw).mono fun e W' ⟨he, bel⟩ => ?_
 subst he
 exact ⟨_, rfl, _, _, _, [], _, [], hW', trodAll_mk1 (shut_bool Tryz.underlying4 _), (trodAll_cons_mk (Below.trod all_laidOut (by kernel_rfl) (of_decide_eq_true (by kernel_rfl)) k0 bel lt0) (trodAll_cons_mk (Below.trod all_laidOut (by kernel_rfl) (of_decide_eq_true (by kernel_rfl)) k1 bel lt1) (trodAll_cons_mk (Below.trod all_laidOut (by kernel_rfl) (of_decide_eq_true (by kernel_rfl)) k2 bel lt2) (trodAll_cons_mk (Below.trod all_laidOut (by kernel_rfl) (of_decide_eq_true (by kernel_rfl)) k3 bel lt3) trodAll_mk0)))), rfl, bel.frame _, fun h => by cases h⟩
theorem joined_ShardsMakes : joinedFacts Tryz.prog 3 Tryz.f3 Rows.shardsMakesSpec Rows.shardsMakesRow = true := by
 unfold joinedFacts
 rw [all_make, all_lifts, all_mayEnter, all_laidOut, all_mapsRowed, all_plainKeys, all_stopsHeard]
 kernel_rfl
theorem over_ShardsMakes : Rows.shardsMakesRow.holds Tryz.pinned (OpenSpec.ofChange Rows.shardsMakesSpec) :=
 OpenClaim.holds_of_wide 3 Tryz.f3 rfl rfl rfl rfl rfl rfl rfl ⟨rfl, rfl, rfl, rfl, rfl⟩ rfl rfl rfl rfl rfl (by kernel_rfl) Tryz.func3 joined_ShardsMakes
  (of_decide_eq_true (by kernel_rfl)) (by unfold Func.isWrapper; first | (rw [if_pos (by decide +kernel)]; kernel_rfl) | (rw [if_neg (by decide +kernel)]; exact ⟨rfl, rfl⟩))
  (fun os started H enc _ => lifted_ShardsMakes os started H enc)
theorem proved_ShardsMakes : Rows.ShardsMakesSaid := over_ShardsMakes
end Go.Proofs.YthjnhlmfcejhkaaGreat
