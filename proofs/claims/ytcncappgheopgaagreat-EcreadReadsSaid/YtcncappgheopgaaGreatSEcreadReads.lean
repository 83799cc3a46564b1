/- A part of the proof. Conditions: as each theorem says. -/
import Derived.ChangeShapes
import Derived.Lib.SmallJoins
import Derived.Below
import Derived.WalkKit
import Derived.ProofKit
import Derived.ChangeSame
import Derived.SizedLaws
import Derived.Test.YtcncappgheopgaaGreatH
import Derived.Test.YtcncappgheopgaaGreatOn
import Derived.Test.YtcncappgheopgaaGreatWkm1
import Derived.Test.YtcncappgheopgaaGreatSn
namespace Go.Proofs.YtcncappgheopgaaGreat
set_option maxRecDepth 100000
open Go Go.RowKit
set_option linter.unusedVariables false
set_option linter.unusedSimpArgs false
open Go.ChangeShapes Go.WideShapes Go.ChangeAt Go.RowKit Go.Joins
open Go.ChangeMaps (open_string shut_string)
theorem lifted_EcreadReads (os : Os) (started : os.Started) (H : Type) (enc : TypeId × Value -> H) :
    ReturnsInHanded {} Tryz.checked os 7 .any (Rows.ecreadReadsSpec.pre6 enc Tryz.prog Tryz.f7 Rows.ecreadReadsRow.domain false) (Rows.ecreadReadsSpec.post enc Tryz.prog Tryz.f7 false true false false) := by
  refine returnsInHanded_of_change (C := Tryz.checked) all_own started (by kernel_rfl) Tryz.func7
    (ChangeSpec.witness6 (enc := enc) (C := Tryz.checked) false ⟨#[], #[.agg #[(I64 0), (I64 0), (I64 0), (I64 0), (U32 0#32), (U32 0#32), (U32 0#32), (U32 0#32), (U32 0#32), (U32 0#32), (.slice none 0 0)], .slice none 0 0, .slice none 0 0, .slice none 0 0, .slice none 0 0, .agg #[(U64 0#64), (U32 0#32), (I64 0), (I64 0)], .int .i64 0], []⟩ 8 (by kernel_rfl) (by kernel_rfl) (by kernel_rfl) (by kernel_rfl)) ?_
  intro W base args ds gs before hval0 hW hcnd _
  have hval : ∀ (j : Nat) t v, Tryz.f7.params[j]? = some t -> args[j]? = some v -> Value.okWide Tryz.prog W .any base t v := hval0
  have hW' := hW
  obtain ⟨p, q, hA0, hV, rfl, hfz, hnd⟩ := hW
  have hA : DataW.TrodAll enc Tryz.prog W 0 (fun _ => true) true Tryz.f7.params.toList args.toList ds p := hA0
  rw [Tryz.params7] at hA hval
  obtain ⟨v0, vs0, d0, ds0, p0, q0, hargs, rfl, rfl, h0, r0⟩ := trodAll_cons hA
  obtain ⟨v1, vs1, d1, ds1, p1, q1, rfl, rfl, rfl, h1, r1⟩ := trodAll_cons r0
  obtain ⟨v2, vs2, d2, ds2, p2, q2, rfl, rfl, rfl, h2, r2⟩ := trodAll_cons r1
  obtain ⟨v3, vs3, d3, ds3, p3, q3, rfl, rfl, rfl, h3, r3⟩ := trodAll_cons r2
  obtain ⟨v4, vs4, d4, ds4, p4, q4, rfl, rfl, rfl, h4, r4⟩ := trodAll_cons r3
  obtain ⟨v5, vs5, d5, ds5, p5, q5, rfl, rfl, rfl, h5, r5⟩ := trodAll_cons r4
  obtain ⟨v6, vs6, d6, ds6, p6, q6, rfl, rfl, rfl, h6, r6⟩ := trodAll_cons r5
  obtain ⟨rfl, rfl, rfl⟩ := trodAll_nil r6
  obtain rfl : args = #[v0, v1, v2, v3, v4, v5, v6] := by cases args; simp_all
  obtain ⟨rfl, rfl⟩ := trodVars_none hV
  have k0 := h0
  have lt0 : ∀ x ∈ p0, x.block < W.heap.size := by obtain ⟨m, hm⟩ := k0; exact DataW.trod_lt m _ _ _ hm
  obtain ⟨fu0, hf0⟩ := h0
  obtain ⟨zs0, rfl, _⟩ := Go.WideShapes.okWide_struct Tryz.underlying28 (hval 0 28 v0 rfl rfl)
  obtain ⟨a0_0, a0_1, a0_2, a0_3, a0_4, a0_5, a0_6, a0_7, a0_8, a0_9, A0_10, n0_10, c0_10, a0_10, e0, f0_0_0, f0_1_0, f0_2_0, f0_3_0, f0_10_0, f0_10_1⟩ := opn_C28 hf0
  obtain rfl : zs0 = ([I64 a0_0, I64 a0_1, I64 a0_2, I64 a0_3, U32 a0_4, U32 a0_5, U32 a0_6, U32 a0_7, U32 a0_8, U32 a0_9, .slice A0_10 n0_10 c0_10] : List Value).toArray := by rw [<- Array.toList_inj]; exact e0
  have k1 := h1
  have lt1 : ∀ x ∈ p1, x.block < W.heap.size := by obtain ⟨m, hm⟩ := k1; exact DataW.trod_lt m _ _ _ hm
  obtain ⟨fu1, hf1⟩ := h1
  obtain ⟨za1, zn1, zc1, rfl⟩ := okWide_slice Tryz.underlying29 (hval 1 29 v1 rfl rfl)
  obtain ⟨A1, n1, c1, rs1, a1, e1, s1, q1_, iv1⟩ := opn_T29 hf1
  injection e1 with e1
  rw [e1] at k1 hW' ⊢
  have k2 := h2
  have lt2 : ∀ x ∈ p2, x.block < W.heap.size := by obtain ⟨m, hm⟩ := k2; exact DataW.trod_lt m _ _ _ hm
  obtain ⟨fu2, hf2⟩ := h2
  obtain ⟨za2, zn2, zc2, rfl⟩ := okWide_slice Tryz.underlying30 (hval 2 30 v2 rfl rfl)
  obtain ⟨A2, n2, c2, a2, e2, s2, iv2⟩ := opn_T30 hf2
  injection e2 with e2
  rw [e2] at k2 hW' ⊢
  have k3 := h3
  have lt3 : ∀ x ∈ p3, x.block < W.heap.size := by obtain ⟨m, hm⟩ := k3; exact DataW.trod_lt m _ _ _ hm
  obtain ⟨fu3, hf3⟩ := h3
  obtain ⟨za3, zn3, zc3, rfl⟩ := okWide_slice Tryz.underlying31 (hval 3 31 v3 rfl rfl)
  obtain ⟨A3, n3, c3, rs3, a3, e3, s3, q3_, iv3⟩ := opn_T31 hf3
  injection e3 with e3
  rw [e3] at k3 hW' ⊢
  have k4 := h4
  have lt4 : ∀ x ∈ p4, x.block < W.heap.size := by obtain ⟨m, hm⟩ := k4; exact DataW.trod_lt m _ _ _ hm
  obtain ⟨fu4, hf4⟩ := h4
  obtain ⟨za4, zn4, zc4, rfl⟩ := okWide_slice Tryz.underlying32 (hval 4 32 v4 rfl rfl)
  obtain ⟨A4, n4, c4, a4, e4, s4, iv4⟩ := opn_T32 hf4
  injection e4 with e4
  rw [e4] at k4 hW' ⊢
  have k5 := h5
  have lt5 : ∀ x ∈ p5, x.block < W.heap.size := by obtain ⟨m, hm⟩ := k5; exact DataW.trod_lt m _ _ _ hm
  obtain ⟨fu5, hf5⟩ := h5
  obtain ⟨zs5, rfl, _⟩ := Go.WideShapes.okWide_struct Tryz.underlying59 (hval 5 59 v5 rfl rfl)
  obtain ⟨a5_0, a5_1, a5_2, a5_3, e5, f5_2_0, f5_3_0⟩ := opn_C59 hf5
  obtain rfl : zs5 = ([U64 a5_0, U32 a5_1, I64 a5_2, I64 a5_3] : List Value).toArray := by rw [<- Array.toList_inj]; exact e5
  have k6 := h6
  have lt6 : ∀ x ∈ p6, x.block < W.heap.size := by obtain ⟨m, hm⟩ := k6; exact DataW.trod_lt m _ _ _ hm
  obtain ⟨fu6, hf6⟩ := h6
  obtain ⟨z6, rfl⟩ := Go.WideShapes.okWide_int Tryz.underlying3 (hval 6 3 v6 rfl rfl)
  obtain ⟨a6, e6, iv6⟩ := opn_T3 hf6
  replace e6 : (.int .i64 z6 : Value) = I64 a6 := by injection e6
  rw [e6] at k6 hW' ⊢
  have hw := w_law18_EcreadReads (Mem.snap W) a0_0 a0_1 a0_2 a0_3 a0_4 a0_5 a0_6 a0_7 a0_8 a0_9 A0_10 n0_10 c0_10 a0_10 f0_10_0 A1 n1 c1 rs1 a1 s1 q1_ A2 n2 c2 a2 s2 A3 n3 c3 rs3 a3 s3 q3_ A4 n4 c4 a4 s4 a5_0 a5_1 a5_2 a5_3 a6 (ok_EcreadReads a0_0 a0_1 a0_2 a0_3 a0_4 a0_5 a0_6 a0_7 a0_8 a0_9 a0_10 a1 a2 a3 a4 a5_0 a5_1 a5_2 a5_3 a6 (len_leD s1 q1_))
  refine (Fn.law hw).mono fun e W' ⟨he, bel⟩ => ?_
  subst he
  exact ⟨_, rfl, _, _, _, [], _, [], hW', trodAll_mk1 (shut_bool Tryz.underlying4 _), (trodAll_cons_mk (Below.trod all_laidOut (by kernel_rfl) (of_decide_eq_true (by kernel_rfl)) k0 bel lt0) (trodAll_cons_mk (Below.trod all_laidOut (by kernel_rfl) (of_decide_eq_true (by kernel_rfl)) k1 bel lt1) (trodAll_cons_mk (Below.trod all_laidOut (by kernel_rfl) (of_decide_eq_true (by kernel_rfl)) k2 bel lt2) (trodAll_cons_mk (Below.trod all_laidOut (by kernel_rfl) (of_decide_eq_true (by kernel_rfl)) k3 bel lt3) (trodAll_cons_mk (Below.trod all_laidOut (by kernel_rfl) (of_decide_eq_true (by kernel_rfl)) k4 bel lt4) (trodAll_cons_mk (Below.trod all_laidOut (by kernel_rfl) (of_decide_eq_true (by kernel_rfl)) k5 bel lt5) (trodAll_cons_mk (Below.trod all_laidOut (by kernel_rfl) (of_decide_eq_true (by kernel_rfl)) k6 bel lt6) trodAll_mk0))))))), rfl, bel.frame _, fun h => by cases h⟩
theorem joined_EcreadReads : joinedFacts Tryz.prog 7 Tryz.f7 Rows.ecreadReadsSpec Rows.ecreadReadsRow = true := by
  unfold joinedFacts
  rw [all_make, all_lifts, all_mayEnter, all_laidOut, all_mapsRowed, all_plainKeys, all_stopsHeard]
  kernel_rfl
theorem over_EcreadReads : Rows.ecreadReadsRow.holds Tryz.pinned (OpenSpec.ofChange Rows.ecreadReadsSpec) :=
  OpenClaim.holds_of_wide 7 Tryz.f7 rfl rfl rfl rfl rfl rfl rfl ⟨rfl, rfl, rfl, rfl, rfl⟩ rfl rfl rfl rfl rfl (by kernel_rfl) Tryz.func7 joined_EcreadReads
    (of_decide_eq_true (by kernel_rfl)) (by unfold Func.isWrapper; first | (rw [if_pos (by decide +kernel)]; kernel_rfl) | (rw [if_neg (by decide +kernel)]; exact ⟨rfl, rfl⟩))
    (fun os started H enc _ => lifted_EcreadReads os started H enc)
theorem proved_EcreadReads : Rows.EcreadReadsSaid := over_EcreadReads
end Go.Proofs.YtcncappgheopgaaGreat
