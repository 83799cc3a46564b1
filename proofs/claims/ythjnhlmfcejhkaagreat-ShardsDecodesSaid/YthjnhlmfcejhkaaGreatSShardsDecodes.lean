/- A part of the proof. Conditions: as each theorem says. -/
import Derived.ChangeShapes
import Derived.Lib.SmallJoins
import Derived.Below
import Derived.WalkKit
import Derived.ProofKit
import Derived.ChangeSame
import Derived.SizedLaws
import Derived.Test.YthjnhlmfcejhkaaGreatH
import Derived.Test.YthjnhlmfcejhkaaGreatOn
import Derived.Test.YthjnhlmfcejhkaaGreatWks3
import Derived.Test.YthjnhlmfcejhkaaGreatTi
namespace Go.Proofs.YthjnhlmfcejhkaaGreat
set_option maxRecDepth 100000
open Go Go.RowKit
set_option linter.unusedVariables false
set_option linter.unusedSimpArgs false
open Go.ChangeShapes Go.WideShapes Go.ChangeAt Go.RowKit Go.Joins
open Go.ChangeMaps (open_string shut_string)
theorem lifted_ShardsDecodes (os : Os) (started : os.Started) (H : Type) (enc : TypeId × Value -> H) :
  ReturnsInHanded {} Tryz.checked os 6 .any (Rows.shardsDecodesSpec.pre6 enc Tryz.prog Tryz.f6 Rows.shardsDecodesRow.domain false) (Rows.shardsDecodesSpec.post enc Tryz.prog Tryz.f6 false true false false) := by
 refine returnsInHanded_of_change (C := Tryz.checked) all_own started (by kernel_rfl) Tryz.func6
  (ChangeSpec.witness6 (enc := enc) (C := Tryz.checked) false ⟨#[], #[.slice none 0 0, .slice none 0 0, .int .i64 0, .int .u8 0, .bool false], []⟩ 8 (by kernel_rfl) (by kernel_rfl) (by kernel_rfl) (by kernel_rfl)) ?_
 intro W base args ds gs before hval0 hW hcnd _
 have hval : ∀ (j : Nat) t v, Tryz.f6.params[j]? = some t -> args[j]? = some v -> Value.okWide Tryz.prog W .any base t v := hval0
 have hW' := hW
 obtain ⟨p, q, hA0, hV, rfl, hfz, hnd⟩ := hW
 have hA : DataW.TrodAll enc Tryz.prog W 0 (fun _ => true) true Tryz.f6.params.toList args.toList ds p := hA0
 rw [Tryz.params6] at hA hval
 obtain ⟨v0, vs0, d0, ds0, p0, q0, hargs, rfl, rfl, h0, r0⟩ := trodAll_cons hA
 obtain ⟨v1, vs1, d1, ds1, p1, q1, rfl, rfl, rfl, h1, r1⟩ := trodAll_cons r0
 obtain ⟨v2, vs2, d2, ds2, p2, q2, rfl, rfl, rfl, h2, r2⟩ := trodAll_cons r1
 obtain ⟨v3, vs3, d3, ds3, p3, q3, rfl, rfl, rfl, h3, r3⟩ := trodAll_cons r2
 obtain ⟨v4, vs4, d4, ds4, p4, q4, rfl, rfl, rfl, h4, r4⟩ := trodAll_cons r3
 obtain ⟨rfl, rfl, rfl⟩ := trodAll_nil r4
 obtain rfl : args = #[v0, v1, v2, v3, v4] := by cases args; simp_all
 obtain ⟨rfl, rfl⟩ := trodVars_none hV
 have k0 := h0
 have lt0 : ∀ x ∈ p0, x.block < W.heap.size := by obtain ⟨m, hm⟩ := k0; exact DataW.trod_lt m _ _ _ hm
 obtain ⟨fu0, hf0⟩ := h0
 obtain ⟨za0, zn0, zc0, rfl⟩ := okWide_slice Tryz.underlying22 (hval 0 22 v0 rfl rfl)
 obtain ⟨A0, n0, c0, a0, e0, s0, iv0⟩ := opn_T22 hf0
 injection e0 with e0
 rw [e0] at k0 hW' ⊢
 have k1 := h1
 have lt1 : ∀ x ∈ p1, x.block < W.heap.size := by obtain ⟨m, hm⟩ := k1; exact DataW.trod_lt m _ _ _ hm
 obtain ⟨fu1, hf1⟩ := h1
 obtain ⟨za1, zn1, zc1, rfl⟩ := okWide_slice Tryz.underlying26 (hval 1 26 v1 rfl rfl)
 obtain ⟨A1, n1, c1, rs1, a1, e1, s1, q1_, iv1⟩ := opn_T26 hf1
 injection e1 with e1
 rw [e1] at k1 hW' ⊢
 have k2 := h2
 have lt2 : ∀ x ∈ p2, x.block < W.heap.size := by obtain ⟨m, hm⟩ := k2; exact DataW.trod_lt m _ _ _ hm
 obtain ⟨fu2, hf2⟩ := h2
 obtain ⟨z2, rfl⟩ := Go.WideShapes.okWide_int Tryz.underlying3 (hval 2 3 v2 rfl rfl)
 obtain ⟨a2, e2, iv2⟩ := opn_T3 hf2
 replace e2 : (.int .i64 z2 : Value) = I64 a2 := by injection e2
 rw [e2] at k2 hW' ⊢
 have k3 := h3
 have lt3 : ∀ x ∈ p3, x.block < W.heap.size := by obtain ⟨m, hm⟩ := k3; exact DataW.trod_lt m _ _ _ hm
 obtain ⟨fu3, hf3⟩ := h3
 obtain ⟨z3, rfl⟩ := Go.WideShapes.okWide_int Tryz.underlying5 (hval 3 5 v3 rfl rfl)
 obtain ⟨a3, e3⟩ := opn_T5 hf3
 replace e3 : (.int .u8 z3 : Value) = U8 a3 := by injection e3
 rw [e3] at k3 hW' ⊢
 have k4 := h4
 have lt4 : ∀ x ∈ p4, x.block < W.heap.size := by obtain ⟨m, hm⟩ := k4; exact DataW.trod_lt m _ _ _ hm
 obtain ⟨fu4, hf4⟩ := h4
 obtain ⟨z4, rfl⟩ := Go.WideShapes.okWide_bool Tryz.underlying4 (hval 4 4 v4 rfl rfl)
 obtain ⟨a4, e4⟩ := opn_T4 hf4
 replace e4 : (.bool z4 : Value) = .bool a4 := by simpa [Value.cells] using e4
 rw [e4] at k4 hW' ⊢
 have hw := w_law17_ShardsDecodes (Mem.snap W) A0 n0 c0 a0 s0 A1 n1 c1 rs1 a1 s1 q1_ a2 a3 a4 (ok_ShardsDecodes a0 a1 a2 a3 a4)
 refine (Fn.law hw).mono fun e W' ⟨he, bel⟩ => ?_
 subst he
 exact ⟨_, rfl, _, _, _, [], _, [], hW', trodAll_mk1 (shut_bool Tryz.underlying4 _), (trodAll_cons_mk (Below.trod all_laidOut (by kernel_rfl) (of_decide_eq_true (by kernel_rfl)) k0 bel lt0) (trodAll_cons_mk (Below.trod all_laidOut (by kernel_rfl) (of_decide_eq_true (by kernel_rfl)) k1 bel lt1) (trodAll_cons_mk (Below.trod all_laidOut (by kernel_rfl) (of_decide_eq_true (by kernel_rfl)) k2 bel lt2) (trodAll_cons_mk (Below.trod all_laidOut (by kernel_rfl) (of_decide_eq_true (by kernel_rfl)) k3 bel lt3) (trodAll_cons_mk (Below.trod all_laidOut (by kernel_rfl) (of_decide_eq_true (by kernel_rfl)) k4 bel lt4) trodAll_mk0))))), rfl, bel.frame _, fun h => by cases h⟩
theorem joined_ShardsDecodes : joinedFacts Tryz.prog 6 Tryz.f6 Rows.shardsDecodesSpec Rows.shardsDecodesRow = true := by
 unfold joinedFacts
 rw [all_make, all_lifts, all_mayEnter, all_laidOut, all_mapsRowed, all_plainKeys, all_stopsHeard]
 kernel_rfl
theorem over_ShardsDecodes : Rows.shardsDecodesRow.holds Tryz.pinned (OpenSpec.ofChange Rows.shardsDecodesSpec) :=
 OpenClaim.holds_of_wide 6 Tryz.f6 rfl rfl rfl rfl rfl rfl rfl ⟨rfl, rfl, rfl, rfl, rfl⟩ rfl rfl rfl rfl rfl (by kernel_rfl) Tryz.func6 joined_ShardsDecodes
  (of_decide_eq_true (by kernel_rfl)) (by unfold Func.isWrapper; first | (rw [if_pos (by decide +kernel)]; kernel_rfl) | (rw [if_neg (by decide +kernel)]; exact ⟨rfl, rfl⟩))
  (fun os started H enc _ => lifted_ShardsDecodes os started H enc)
theorem proved_ShardsDecodes : Rows.ShardsDecodesSaid := over_ShardsDecodes
end Go.Proofs.YthjnhlmfcejhkaaGreat
