/- A part of the proof. Conditions: as each theorem says. -/
import Derived.ChangeShapes
import Derived.Lib.SmallJoins
import Derived.Below
import Derived.WalkKit
import Derived.ProofKit
import Derived.ChangeSame
import Derived.SizedLaws
import Derived.Test.YthjnhlmfcejhkaaGreatH
import Derived.Test.YthjnhlmfcejhkaaGreatOn
import Derived.Test.YthjnhlmfcejhkaaGreatWks4
import Derived.Test.YthjnhlmfcejhkaaGreatTk
namespace Go.Proofs.YthjnhlmfcejhkaaGreat
set_option maxRecDepth 100000
open Go Go.RowKit
set_option linter.unusedVariables false
set_option linter.unusedSimpArgs false
open Go.ChangeShapes Go.WideShapes Go.ChangeAt Go.RowKit Go.Joins
open Go.ChangeMaps (open_string shut_string)
theorem lifted_ShardsBursts (os : Os) (started : os.Started) (H : Type) (enc : TypeId × Value -> H) :
  ReturnsInHanded {} Tryz.checked os 7 .any (Rows.shardsBurstsSpec.pre6 enc Tryz.prog Tryz.f7 Rows.shardsBurstsRow.domain false) (Rows.shardsBurstsSpec.post enc Tryz.prog Tryz.f7 false true false false) := by
 refine returnsInHanded_of_change (C := Tryz.checked) all_own started (by kernel_rfl) Tryz.func7
  (ChangeSpec.witness6 (enc := enc) (C := Tryz.checked) false ⟨#[], #[.slice none 0 0, .int .i64 0, .int .u32 0], []⟩ 8 (by kernel_rfl) (by kernel_rfl) (by kernel_rfl) (by kernel_rfl)) ?_
 intro W base args ds gs before hval0 hW hcnd _
 have hval : ∀ (j : Nat) t v, Tryz.f7.params[j]? = some t -> args[j]? = some v -> Value.okWide Tryz.prog W .any base t v := hval0
 have hW' := hW
 obtain ⟨p, q, hA0, hV, rfl, hfz, hnd⟩ := hW
 have hA : DataW.TrodAll enc Tryz.prog W 0 (fun _ => true) true Tryz.f7.params.toList args.toList ds p := hA0
 rw [Tryz.params7] at hA hval
 obtain ⟨v0, vs0, d0, ds0, p0, q0, hargs, rfl, rfl, h0, r0⟩ := trodAll_cons hA
 obtain ⟨v1, vs1, d1, ds1, p1, q1, rfl, rfl, rfl, h1, r1⟩ := trodAll_cons r0
 obtain ⟨v2, vs2, d2, ds2, p2, q2, rfl, rfl, rfl, h2, r2⟩ := trodAll_cons r1
 obtain ⟨rfl, rfl, rfl⟩ := trodAll_nil r2
 obtain rfl : args = #[v0, v1, v2] := by cases args; simp_all
 obtain ⟨rfl, rfl⟩ := trodVars_none hV
 have k0 := h0
 have lt0 : ∀ x ∈ p0, x.block < W.heap.size := by obtain ⟨m, hm⟩ := k0; exact DataW.trod_lt m _ _ _ hm
 obtain ⟨fu0, hf0⟩ := h0
 obtain ⟨za0, zn0, zc0, rfl⟩ := okWide_slice Tryz.underlying26 (hval 0 26 v0 rfl rfl)
 obtain ⟨A0, n0, c0, rs0, a0, e0, s0, q0_, iv0⟩ := opn_T26 hf0
 injection e0 with e0
 rw [e0] at k0 hW' ⊢
 have k1 := h1
 have lt1 : ∀ x ∈ p1, x.block < W.heap.size := by obtain ⟨m, hm⟩ := k1; exact DataW.trod_lt m _ _ _ hm
 obtain ⟨fu1, hf1⟩ := h1
 obtain ⟨z1, rfl⟩ := Go.WideShapes.okWide_int Tryz.underlying3 (hval 1 3 v1 rfl rfl)
 obtain ⟨a1, e1, iv1⟩ := opn_T3 hf1
 replace e1 : (.int .i64 z1 : Value) = I64 a1 := by injection e1
 rw [e1] at k1 hW' ⊢
 have k2 := h2
 have lt2 : ∀ x ∈ p2, x.block < W.heap.size := by obtain ⟨m, hm⟩ := k2; exact DataW.trod_lt m _ _ _ hm
 obtain ⟨fu2, hf2⟩ := h2
 obtain ⟨z2, rfl⟩ := Go.WideShapes.okWide_int Tryz.underlying31 (hval 2 31 v2 rfl rfl)
 obtain ⟨a2, e2⟩ := opn_T31 hf2
 replace e2 : (.int .u32 z2 : Value) = U32 a2 := by injection e2
 rw [e2] at k2 hW' ⊢
 have hw := w_law17_ShardsBursts (Mem.snap W) A0 n0 c0 rs0 a0 s0 q0_ a1 a2 (ok_ShardsBursts a0 a1 a2)
 refine (Fn.law hw).mono fun e W' ⟨he, bel⟩ => ?_
 subst he
 exact ⟨_, rfl, _, _, _, [], _, [], hW', trodAll_mk1 (shut_bool Tryz.underlying4 _), (trodAll_cons_mk (Below.trod all_laidOut (by kernel_rfl) (of_decide_eq_true (by kernel_rfl)) k0 bel lt0) (trodAll_cons_mk (Below.trod all_laidOut (by kernel_rfl) (of_decide_eq_true (by kernel_rfl)) k1 bel lt1) (trodAll_cons_mk (Below.trod all_laidOut (by kernel_rfl) (of_decide_eq_true (by kernel_rfl)) k2 bel lt2) trodAll_mk0))), rfl, bel.frame _, fun h => by cases h⟩
theorem joined_ShardsBursts : joinedFacts Tryz.prog 7 Tryz.f7 Rows.shardsBurstsSpec Rows.shardsBurstsRow = true := by
 unfold joinedFacts
 rw [all_make, all_lifts, all_mayEnter, all_laidOut, all_mapsRowed, all_plainKeys, all_stopsHeard]
 kernel_rfl
theorem over_ShardsBursts : Rows.shardsBurstsRow.holds Tryz.pinned (OpenSpec.ofChange Rows.shardsBurstsSpec) :=
 OpenClaim.holds_of_wide 7 Tryz.f7 rfl rfl rfl rfl rfl rfl rfl ⟨rfl, rfl, rfl, rfl, rfl⟩ rfl rfl rfl rfl rfl (by kernel_rfl) Tryz.func7 joined_ShardsBursts
  (of_decide_eq_true (by kernel_rfl)) (by unfold Func.isWrapper; first | (rw [if_pos (by decide +kernel)]; kernel_rfl) | (rw [if_neg (by decide +kernel)]; exact ⟨rfl, rfl⟩))
  (fun os started H enc _ => lifted_ShardsBursts os started H enc)
theorem proved_ShardsBursts : Rows.ShardsBurstsSaid := over_ShardsBursts
end Go.Proofs.YthjnhlmfcejhkaaGreat
