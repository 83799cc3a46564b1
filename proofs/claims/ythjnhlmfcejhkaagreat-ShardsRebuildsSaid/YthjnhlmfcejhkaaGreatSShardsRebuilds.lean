/- A part of the proof. Conditions: as each theorem says. -/
import Derived.ChangeShapes
import Derived.Lib.SmallJoins
import Derived.Below
import Derived.WalkKit
import Derived.ProofKit
import Derived.ChangeSame
import Derived.SizedLaws
import Derived.Test.YthjnhlmfcejhkaaGreatH
import Derived.Test.YthjnhlmfcejhkaaGreatOn
import Derived.Test.YthjnhlmfcejhkaaGreatWks1
import Derived.Test.YthjnhlmfcejhkaaGreatTf
namespace Go.Proofs.YthjnhlmfcejhkaaGreat
set_option maxRecDepth 100000
open Go Go.RowKit
set_option linter.unusedVariables false
set_option linter.unusedSimpArgs false
open Go.ChangeShapes Go.WideShapes Go.ChangeAt Go.RowKit Go.Joins
open Go.ChangeMaps (open_string shut_string)
theorem lifted_ShardsRebuilds (os : Os) (started : os.Started) (H : Type) (enc : TypeId × Value -> H) :
  ReturnsInHanded {} Tryz.checked os 4 .any (Rows.shardsRebuildsSpec.pre6 enc Tryz.prog Tryz.f4 Rows.shardsRebuildsRow.domain false) (Rows.shardsRebuildsSpec.post enc Tryz.prog Tryz.f4 false true false false) := by
 refine returnsInHanded_of_change (C := Tryz.checked) all_own started (by kernel_rfl) Tryz.func4
  (ChangeSpec.witness6 (enc := enc) (C := Tryz.checked) false ⟨#[], #[.slice none 0 0, .slice none 0 0, .slice none 0 0, .agg #[(I64 0), (I64 0), (I64 0), (I64 0), (U32 0#32), (U32 0#32), (U32 0#32), (U32 0#32), (U32 0#32), (U32 0#32), (.slice none 0 0)]], []⟩ 8 (by kernel_rfl) (by kernel_rfl) (by kernel_rfl) (by kernel_rfl)) ?_
 intro W base args ds gs before hval0 hW hcnd _
 have hval : ∀ (j : Nat) t v, Tryz.f4.params[j]? = some t -> args[j]? = some v -> Value.okWide Tryz.prog W .any base t v := hval0
 have hW' := hW
 obtain ⟨p, q, hA0, hV, rfl, hfz, hnd⟩ := hW
 have hA : DataW.TrodAll enc Tryz.prog W 0 (fun _ => true) true Tryz.f4.params.toList args.toList ds p := hA0
 rw [Tryz.params4] at hA hval
 obtain ⟨v0, vs0, d0, ds0, p0, q0, hargs, rfl, rfl, h0, r0⟩ := trodAll_cons hA
 obtain ⟨v1, vs1, d1, ds1, p1, q1, rfl, rfl, rfl, h1, r1⟩ := trodAll_cons r0
 obtain ⟨v2, vs2, d2, ds2, p2, q2, rfl, rfl, rfl, h2, r2⟩ := trodAll_cons r1
 obtain ⟨v3, vs3, d3, ds3, p3, q3, rfl, rfl, rfl, h3, r3⟩ := trodAll_cons r2
 obtain ⟨rfl, rfl, rfl⟩ := trodAll_nil r3
 obtain rfl : args = #[v0, v1, v2, v3] := by cases args; simp_all
 obtain ⟨rfl, rfl⟩ := trodVars_none hV
 have k0 := h0
 have lt0 : ∀ x ∈ p0, x.block < W.heap.size := by obtain ⟨m, hm⟩ := k0; exact DataW.trod_lt m _ _ _ hm
 obtain ⟨fu0, hf0⟩ := h0
 obtain ⟨za0, zn0, zc0, rfl⟩ := okWide_slice Tryz.underlying30 (hval 0 30 v0 rfl rfl)
 obtain ⟨A0, n0, c0, rs0, a0, e0, s0, q0_, iv0⟩ := opn_T30 hf0
 injection e0 with e0
 rw [e0] at k0 hW' ⊢
 have k1 := h1
 have lt1 : ∀ x ∈ p1, x.block < W.heap.size := by obtain ⟨m, hm⟩ := k1; exact DataW.trod_lt m _ _ _ hm
 obtain ⟨fu1, hf1⟩ := h1
 obtain ⟨za1, zn1, zc1, rfl⟩ := okWide_slice Tryz.underlying26 (hval 1 26 v1 rfl rfl)
 obtain ⟨A1, n1, c1, rs1, a1, e1, s1, q1_, iv1⟩ := opn_T26 hf1
 injection e1 with e1
 rw [e1] at k1 hW' ⊢
 have k2 := h2
 have lt2 : ∀ x ∈ p2, x.block < W.heap.size := by obtain ⟨m, hm⟩ := k2; exact DataW.trod_lt m _ _ _ hm
 obtain ⟨fu2, hf2⟩ := h2
 obtain ⟨za2, zn2, zc2, rfl⟩ := okWide_slice Tryz.underlying45 (hval 2 45 v2 rfl rfl)
 obtain ⟨A2, n2, c2, a2, e2, s2, iv2⟩ := opn_T45 hf2
 injection e2 with e2
 rw [e2] at k2 hW' ⊢
 have k3 := h3
 have lt3 : ∀ x ∈ p3, x.block < W.heap.size := by obtain ⟨m, hm⟩ := k3; exact DataW.trod_lt m _ _ _ hm
 obtain ⟨fu3, hf3⟩ := h3
 obtain ⟨zs3, rfl, _⟩ := Go.WideShapes.okWide_struct Tryz.underlying38 (hval 3 38 v3 rfl rfl)
 obtain ⟨a3_0, a3_1, a3_2, a3_3, a3_4, a3_5, a3_6, a3_7, a3_8, a3_9, A3_10, n3_10, c3_10, a3_10, e3, f3_0_0, f3_1_0, f3_2_0, f3_3_0, f3_10_0, f3_10_1⟩ := opn_C38 hf3
 obtain rfl : zs3 = ([I64 a3_0, I64 a3_1, I64 a3_2, I64 a3_3, U32 a3_4, U32 a3_5, U32 a3_6, U32 a3_7, U32 a3_8, U32 a3_9, .slice A3_10 n3_10 c3_10] : List Value).toArray := by rw [<- Array.toList_inj]; exact e3
 have hw := w_law17_ShardsRebuilds (Mem.snap W) A0 n0 c0 rs0 a0 s0 q0_ A1 n1 c1 rs1 a1 s1 q1_ A2 n2 c2 a2 s2 a3_0 a3_1 a3_2 a3_3 a3_4 a3_5 a3_6 a3_7 a3_8 a3_9 A3_10 n3_10 c3_10 a3_10 f3_10_0 (ok_ShardsRebuilds a0 a1 a2 a3_0 a3_1 a3_2 a3_3 a3_4 a3_5 a3_6 a3_7 a3_8 a3_9 a3_10)
 refine (Fn.law hw).mono fun e W' ⟨he, bel⟩ => ?_
 subst he
 exact ⟨_, rfl, _, _, _, [], _, [], hW', trodAll_mk1 (shut_bool Tryz.underlying4 _), (trodAll_cons_mk (Below.trod all_laidOut (by kernel_rfl) (of_decide_eq_true (by kernel_rfl)) k0 bel lt0) (trodAll_cons_mk (Below.trod all_laidOut (by kernel_rfl) (of_decide_eq_true (by kernel_rfl)) k1 bel lt1) (trodAll_cons_mk (Below.trod all_laidOut (by kernel_rfl) (of_decide_eq_true (by kernel_rfl)) k2 bel lt2) (trodAll_cons_mk (Below.trod all_laidOut (by kernel_rfl) (of_decide_eq_true (by kernel_rfl)) k3 bel lt3) trodAll_mk0)))), rfl, bel.frame _, fun h => by cases h⟩
theorem joined_ShardsRebuilds : joinedFacts Tryz.prog 4 Tryz.f4 Rows.shardsRebuildsSpec Rows.shardsRebuildsRow = true := by
 unfold joinedFacts
 rw [all_make, all_lifts, all_mayEnter, all_laidOut, all_mapsRowed, all_plainKeys, all_stopsHeard]
 kernel_rfl
theorem over_ShardsRebuilds : Rows.shardsRebuildsRow.holds Tryz.pinned (OpenSpec.ofChange Rows.shardsRebuildsSpec) :=
 OpenClaim.holds_of_wide 4 Tryz.f4 rfl rfl rfl rfl rfl rfl rfl ⟨rfl, rfl, rfl, rfl, rfl⟩ rfl rfl rfl rfl rfl (by kernel_rfl) Tryz.func4 joined_ShardsRebuilds
  (of_decide_eq_true (by kernel_rfl)) (by unfold Func.isWrapper; first | (rw [if_pos (by decide +kernel)]; kernel_rfl) | (rw [if_neg (by decide +kernel)]; exact ⟨rfl, rfl⟩))
  (fun os started H enc _ => lifted_ShardsRebuilds os started H enc)
theorem proved_ShardsRebuilds : Rows.ShardsRebuildsSaid := over_ShardsRebuilds
end Go.Proofs.YthjnhlmfcejhkaaGreat
