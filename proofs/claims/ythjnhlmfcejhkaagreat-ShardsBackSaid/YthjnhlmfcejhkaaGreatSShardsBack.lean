/- A part of the proof. Conditions: as each theorem says. -/
import Derived.ChangeShapes
import Derived.Lib.SmallJoins
import Derived.Below
import Derived.WalkKit
import Derived.ProofKit
import Derived.ChangeSame
import Derived.SizedLaws
import Derived.Test.YthjnhlmfcejhkaaGreatH
import Derived.Test.YthjnhlmfcejhkaaGreatOn
import Derived.Test.YthjnhlmfcejhkaaGreatWks5
import Derived.Test.YthjnhlmfcejhkaaGreatTj
namespace Go.Proofs.YthjnhlmfcejhkaaGreat
set_option maxRecDepth 100000
open Go Go.RowKit
set_option linter.unusedVariables false
set_option linter.unusedSimpArgs false
open Go.ChangeShapes Go.WideShapes Go.ChangeAt Go.RowKit Go.Joins
open Go.ChangeMaps (open_string shut_string)
theorem lifted_ShardsBack (os : Os) (started : os.Started) (H : Type) (enc : TypeId × Value -> H) :
  ReturnsInHanded {} Tryz.checked os 8 .any (Rows.shardsBackSpec.pre6 enc Tryz.prog Tryz.f8 Rows.shardsBackRow.domain false) (Rows.shardsBackSpec.post enc Tryz.prog Tryz.f8 false true false false) := by
 refine returnsInHanded_of_change (C := Tryz.checked) all_own started (by kernel_rfl) Tryz.func8
  (ChangeSpec.witness6 (enc := enc) (C := Tryz.checked) false ⟨#[], #[.slice none 0 0], []⟩ 8 (by kernel_rfl) (by kernel_rfl) (by kernel_rfl) (by kernel_rfl)) ?_
 intro W base args ds gs before hval0 hW hcnd _
 have hval : ∀ (j : Nat) t v, Tryz.f8.params[j]? = some t -> args[j]? = some v -> Value.okWide Tryz.prog W .any base t v := hval0
 have hW' := hW
 obtain ⟨p, q, hA0, hV, rfl, hfz, hnd⟩ := hW
 have hA : DataW.TrodAll enc Tryz.prog W 0 (fun _ => true) true Tryz.f8.params.toList args.toList ds p := hA0
 rw [Tryz.params8] at hA hval
 obtain ⟨v0, vs0, d0, ds0, p0, q0, hargs, rfl, rfl, h0, r0⟩ := trodAll_cons hA
 obtain ⟨rfl, rfl, rfl⟩ := trodAll_nil r0
 obtain rfl : args = #[v0] := by cases args; simp_all
 obtain ⟨rfl, rfl⟩ := trodVars_none hV
 have k0 := h0
 have lt0 : ∀ x ∈ p0, x.block < W.heap.size := by obtain ⟨m, hm⟩ := k0; exact DataW.trod_lt m _ _ _ hm
 obtain ⟨fu0, hf0⟩ := h0
 obtain ⟨za0, zn0, zc0, rfl⟩ := okWide_slice Tryz.underlying26 (hval 0 26 v0 rfl rfl)
 obtain ⟨A0, n0, c0, rs0, a0, e0, s0, q0_, iv0⟩ := opn_T26 hf0
 injection e0 with e0
 rw [e0] at k0 hW' ⊢
 have hw := w_law17_ShardsBack (Mem.snap W) A0 n0 c0 rs0 a0 s0 q0_ (ok_ShardsBack a0)
 refine (Fn.law hw).mono fun e W' ⟨he, bel⟩ => ?_
 subst he
 exact ⟨_, rfl, _, _, _, [], _, [], hW', trodAll_mk1 (shut_bool Tryz.underlying4 _), (trodAll_cons_mk (Below.trod all_laidOut (by kernel_rfl) (of_decide_eq_true (by kernel_rfl)) k0 bel lt0) trodAll_mk0), rfl, bel.frame _, fun h => by cases h⟩
theorem joined_ShardsBack : joinedFacts Tryz.prog 8 Tryz.f8 Rows.shardsBackSpec Rows.shardsBackRow = true := by
 unfold joinedFacts
 rw [all_make, all_lifts, all_mayEnter, all_laidOut, all_mapsRowed, all_plainKeys, all_stopsHeard]
 kernel_rfl
theorem over_ShardsBack : Rows.shardsBackRow.holds Tryz.pinned (OpenSpec.ofChange Rows.shardsBackSpec) :=
 OpenClaim.holds_of_wide 8 Tryz.f8 rfl rfl rfl rfl rfl rfl rfl ⟨rfl, rfl, rfl, rfl, rfl⟩ rfl rfl rfl rfl rfl (by kernel_rfl) Tryz.func8 joined_ShardsBack
  (of_decide_eq_true (by kernel_rfl)) (by unfold Func.isWrapper; first | (rw [if_pos (by decide +kernel)]; kernel_rfl) | (rw [if_neg (by decide +kernel)]; exact ⟨rfl, rfl⟩))
  (fun os started H enc _ => lifted_ShardsBack os started H enc)
theorem proved_ShardsBack : Rows.ShardsBackSaid := over_ShardsBack
end Go.Proofs.YthjnhlmfcejhkaaGreat
