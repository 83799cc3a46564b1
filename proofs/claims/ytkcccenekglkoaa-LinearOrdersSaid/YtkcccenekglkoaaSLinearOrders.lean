/-
 The statement on LinearOrders: the frame for rows, round the walk and the plain law ok_LinearOrders. No conditions beyond the statement's own.
-/
import Derived.ChangeShapes
import Derived.Lib.SmallJoins
import Derived.Below
import Derived.WalkKit
import Derived.ProofKit
import Derived.ChangeSame
import Derived.SizedLaws
import Derived.Test.YtkcccenekglkoaaHn
import Derived.Test.YtkcccenekglkoaaOn
import Derived.Test.YtkcccenekglkoaaWkj3
import Derived.Test.YtkcccenekglkoaaLj
namespace Go.Proofs.Ytkcccenekglkoaa
set_option maxRecDepth 100000
open Go Go.RowKit
set_option linter.unusedVariables false
set_option linter.unusedSimpArgs false
open Go.ChangeShapes Go.WideShapes Go.ChangeAt Go.RowKit Go.Joins
open Go.ChangeMaps (open_string shut_string)
theorem lifted_LinearOrders (os : Os) (started : os.Started) (H : Type) (enc : TypeId × Value -> H) :
  ReturnsInHanded {} Try.checked os 6 .any (Rows.linearOrdersSpec.pre6 enc Try.prog Try.f6 Rows.linearOrdersRow.domain false) (Rows.linearOrdersSpec.post enc Try.prog Try.f6 false true false false) := by
 refine returnsInHanded_of_change_sized (C := Try.checked) all_own started (by kernel_rfl) Try.func6
  (ChangeSpec.witness6 (enc := enc) (C := Try.checked) false ⟨#[], #[.slice none 0 0, .slice none 0 0, .slice none 0 0, .agg #[(.bool false), (U32 0#32), (.slice none 0 0)]], []⟩ 8 (by kernel_rfl) (by kernel_rfl) (by kernel_rfl) (by kernel_rfl)) ?_
 intro W base args ds gs before hval0 hW hcnd hsz0 _
 have hsz : (DataW.weightsEach Try.prog (Try.f6.params.toList ++ Rows.linearOrdersSpec.plain.varTypes Try.prog) (ds ++ gs)).all (· <= reachBytes) = true := hsz0
 have hval : ∀ (j : Nat) t v, Try.f6.params[j]? = some t -> args[j]? = some v -> Value.okWide Try.prog W .any base t v := hval0
 have hW' := hW
 obtain ⟨p, q, hA0, hV, rfl, hfz, hnd⟩ := hW
 have hA : DataW.TrodAll enc Try.prog W 0 (fun _ => true) true Try.f6.params.toList args.toList ds p := hA0
 rw [Try.params6] at hA hval hsz
 obtain ⟨v0, vs0, d0, ds0, p0, q0, hargs, rfl, rfl, h0, r0⟩ := trodAll_cons hA
 obtain ⟨v1, vs1, d1, ds1, p1, q1, rfl, rfl, rfl, h1, r1⟩ := trodAll_cons r0
 obtain ⟨v2, vs2, d2, ds2, p2, q2, rfl, rfl, rfl, h2, r2⟩ := trodAll_cons r1
 obtain ⟨v3, vs3, d3, ds3, p3, q3, rfl, rfl, rfl, h3, r3⟩ := trodAll_cons r2
 obtain ⟨rfl, rfl, rfl⟩ := trodAll_nil r3
 obtain rfl : args = #[v0, v1, v2, v3] := by cases args; simp_all
 obtain ⟨rfl, rfl⟩ := trodVars_none hV
 have k0 := h0
 have lt0 : ∀ x ∈ p0, x.block < W.heap.size := by obtain ⟨m, hm⟩ := k0; exact DataW.trod_lt m _ _ _ hm
 obtain ⟨fu0, hf0⟩ := h0
 obtain ⟨za0, zn0, zc0, rfl⟩ := okWide_slice Try.underlying32 (hval 0 32 v0 rfl rfl)
 obtain ⟨A0, n0, c0, rs0, a0, e0, s0, q0_, iv0⟩ := opn_T32 hf0
 injection e0 with e0
 rw [e0] at k0 hW' ⊢
 have k1 := h1
 have lt1 : ∀ x ∈ p1, x.block < W.heap.size := by obtain ⟨m, hm⟩ := k1; exact DataW.trod_lt m _ _ _ hm
 obtain ⟨fu1, hf1⟩ := h1
 obtain ⟨za1, zn1, zc1, rfl⟩ := okWide_slice Try.underlying30 (hval 1 30 v1 rfl rfl)
 obtain ⟨A1, n1, c1, a1, e1, s1, iv1⟩ := opn_T30 hf1
 injection e1 with e1
 rw [e1] at k1 hW' ⊢
 have k2 := h2
 have lt2 : ∀ x ∈ p2, x.block < W.heap.size := by obtain ⟨m, hm⟩ := k2; exact DataW.trod_lt m _ _ _ hm
 obtain ⟨fu2, hf2⟩ := h2
 obtain ⟨za2, zn2, zc2, rfl⟩ := okWide_slice Try.underlying23 (hval 2 23 v2 rfl rfl)
 have sz2 := opn_sized Try.underlying23 hf2 hsz (j := 2) rfl rfl
 rw [show Try.prog.bytesOf 5 = 1 by kernel_rfl] at sz2
 obtain ⟨A2, n2, c2, a2, e2, s2, iv2⟩ := opn_T23 hf2
 injection e2 with e2
 have szl2 : a2.length * 1 <= 140737488351232 := by injection e2 with e1 e2 e3; have := len_of_cel s2; simp only [reachBytes] at sz2;  omega
 rw [e2] at k2 hW' ⊢
 have k3 := h3
 have lt3 : ∀ x ∈ p3, x.block < W.heap.size := by obtain ⟨m, hm⟩ := k3; exact DataW.trod_lt m _ _ _ hm
 obtain ⟨fu3, hf3⟩ := h3
 obtain ⟨zs3, rfl, _⟩ := Go.WideShapes.okWide_struct Try.underlying25 (hval 3 25 v3 rfl rfl)
 obtain ⟨a3_0, a3_1, A3_2, n3_2, c3_2, a3_2, e3, f3_2_0, f3_2_1⟩ := opn_C25 hf3
 obtain rfl : zs3 = ([.bool a3_0, U32 a3_1, .slice A3_2 n3_2 c3_2] : List Value).toArray := by rw [<- Array.toList_inj]; exact e3
 have hw := w_law25_LinearOrders (Mem.snap W) A0 n0 c0 rs0 a0 s0 q0_ A1 n1 c1 a1 s1 A2 n2 c2 a2 s2 a3_0 a3_1 A3_2 n3_2 c3_2 a3_2 f3_2_0 (ok_LinearOrders a0 a1 a2 a3_0 a3_1 a3_2 (by omega))
 refine (Fn.law hw).mono fun e W' ⟨he, bel⟩ => ?_
 subst he
 exact ⟨_, rfl, _, _, _, [], _, [], hW', trodAll_mk1 (shut_bool Try.underlying4 _), (trodAll_cons_mk (Below.trod all_laidOut (by kernel_rfl) (of_decide_eq_true (by kernel_rfl)) k0 bel lt0) (trodAll_cons_mk (Below.trod all_laidOut (by kernel_rfl) (of_decide_eq_true (by kernel_rfl)) k1 bel lt1) (trodAll_cons_mk (Below.trod all_laidOut (by kernel_rfl) (of_decide_eq_true (by kernel_rfl)) k2 bel lt2) (trodAll_cons_mk (Below.trod all_laidOut (by kernel_rfl) (of_decide_eq_true (by kernel_rfl)) k3 bel lt3) trodAll_mk0)))), rfl, bel.frame _, fun h => by cases h⟩
theorem joined_LinearOrders : joinedFacts Try.prog 6 Try.f6 Rows.linearOrdersSpec Rows.linearOrdersRow = true := by
 unfold joinedFacts
 rw [all_make, all_lifts, all_mayEnter, all_laidOut, all_mapsRowed, all_plainKeys, all_stopsHeard]
 kernel_rfl
theorem over_LinearOrders : Rows.linearOrdersRow.holds Try.pinned (OpenSpec.ofChange Rows.linearOrdersSpec) :=
 OpenClaim.holds_of_wide 6 Try.f6 rfl rfl rfl rfl rfl rfl rfl ⟨rfl, rfl, rfl, rfl, rfl⟩ rfl rfl rfl rfl rfl (by kernel_rfl) Try.func6 joined_LinearOrders
  (of_decide_eq_true (by kernel_rfl)) (by unfold Func.isWrapper; first | (rw [if_pos (by decide +kernel)]; kernel_rfl) | (rw [if_neg (by decide +kernel)]; exact ⟨rfl, rfl⟩))
  (fun os started H enc _ => lifted_LinearOrders os started H enc)
theorem proved_LinearOrders : Rows.LinearOrdersSaid := over_LinearOrders
end Go.Proofs.Ytkcccenekglkoaa
