/-
  Needles of a sealed generation: what Candidate and Read compute, in the program and in the reference; ranges of intact shards. Conditions: as each theorem says.
-/
import Derived.Test.YtcncappgheopgaaGreatSe
import Derived.Test.YtcncappgheopgaaGreatVe
namespace Go.Proofs.YtcncappgheopgaaGreat
set_option linter.unusedVariables false
set_option linter.unusedSimpArgs false
section
variable {files : List Bytes} {us : Nat → Bool} {w : Nat} {p : Pc}
theorem rest_okC {C : Mx} (hC : IsCode C) (hu : Usable files us w) (hp : Fits w p) (h4 : 4 ≤ (sel us 6).length) :
    ∃ Q, Inverse 4 (fun i k => C (((sel us 6).take 4).getD i 0) k) Q ∧ m_rs_Restore (tb 6 (part files us p.2.1 p.2.2)) (tb 6 us) = some (rsto C Q (tb 6 (part files us p.2.1 p.2.2)) (fun t => ((sel us 6).take 4).getD t 0) p.2.2, 0) := by
  have hs := parts_same hu hp
  obtain ⟨Q, h1, _, h2, h3⟩ := restore_ok hC (tb 6 (part files us p.2.1 p.2.2)) (tb 6 us) (tb_len _ _) (tb_len _ _) (same_of hs) (by rw [sel_hb]; exact h4) p.2.2 hs (by have := hp.2.2.1; omega)
  rw [sel_hb] at h1 h2
  exact ⟨Q, h1, h2⟩
theorem tb_part {α : Type} {n a k : Nat} {F : Nat → α} (h : a + k ≤ n) : ((tb n F).drop a).take k = tb k fun u => F (a + u) := by
  have := slc_tb (n := n) (lo := a) (hi := a + k) (F := F) (by omega) h
  rw [slc_nat _ _ _ ⟨by omega, by rw [tb_len]; exact h⟩] at this
  rw [Nat.add_sub_cancel_left] at this
  exact Option.some.inj this
/-- usable shards are as they were made -/
def Intact (C : Mx) (b : List (BitVec 8)) (files : List Bytes) (us : Nat → Bool) : Prop := ∀ j, j < 6 → us j = true → files.getD j [] = (shardsOf C b).getD j []
theorem part_intact {C : Mx} {b : List (BitVec 8)} (hi : Intact C b files us) {j : Nat} (hj : j < 6) (h : us j = true) {a k : Nat} (hak : a + k ≤ ssz b.length) : part files us a k j = tb k fun u => mm 4 C (sD b) j (a + u) := by
  unfold part; rw [if_pos h, hi j hj h]; unfold shardsOf; rw [getD_tb hj, tb_part hak]
theorem pval_intact {C : Mx} (hC : IsCode C) {b : List (BitVec 8)} (hu : Usable files us (ssz b.length)) (hi : Intact C b files us) {off n : Nat} (h0 : 0 < n) (hle : off + n ≤ b.length) (h4 : us (plS off) = true ∨ 4 ≤ (sel us 6).length) :
    pval files us (plS off, plA off, pk off n) = some ((b.drop off).take (pk off n)) := by
  have hp : Fits (ssz b.length) (plS off, plA off, pk off n) := pieces_mem n off hle _ (by rw [pieces_step h0]; exact List.mem_cons_self ..)
  have hs4 := plS_lt off
  have hak : plA off + pk off n ≤ ssz b.length := hp.2.2.2
  have low : (tb (pk off n) fun u => mm 4 C (sD b) (plS off) (plA off + u)) = (b.drop off).take (pk off n) := by
    rw [← piece_read b h0 hle]
    exact tb_ext fun u _ => mm_low hC (sD b) hs4 _
  unfold pval
  by_cases hus : us (plS off) = true
  · rw [if_pos hus]
    show some (part files us (plA off) (pk off n) (plS off)) = _
    rw [part_intact hi (by omega) hus hak, low]
  · have h4' : 4 ≤ (sel us 6).length := h4.resolve_left hus
    rw [if_neg hus, if_pos h4']
    obtain ⟨Q, hQ, h1⟩ := rest_okC hC hu hp h4'
    have hw : rsto C Q (tb 6 (part files us (plA off) (pk off n))) (fun t => ((sel us 6).take 4).getD t 0) (pk off n) = tb 6 fun i => tb (pk off n) (mm 4 C (fun k u => sD b k (plA off + u)) i) := by
      refine rst_word hC hQ (D := fun k u => sD b k (plA off + u)) fun t ht u hu' => ?_
      have hm : ((sel us 6).take 4).getD t 0 ∈ sel us 6 := List.mem_of_mem_take (getD_mem (by rw [List.length_take]; omega))
      obtain ⟨m1, m2⟩ := sel_mem.1 hm
      show bt (tb 6 (part files us (plA off) (pk off n))) _ u = _
      unfold bt
      rw [getD_tb m1, part_intact hi m1 m2 hak, getD_tb hu']; simp only [mm]
    unfold rest
    dsimp only at h1 ⊢
    rw [h1]
    dsimp only
    rw [hw, tb_get (by omega)]
    refine congrArg some (Eq.trans ?_ low)
    exact tb_ext fun u _ => by simp only [mm]
theorem bls_intact {C : Mx} (hC : IsCode C) {b : List (BitVec 8)} (hu : Usable files us (ssz b.length)) (hi : Intact C b files us) (n off : Nat) : off + n ≤ b.length → ((∀ p ∈ pieces off n, us p.1 = true) ∨ 4 ≤ (sel us 6).length) →
    bls files us (pieces off n) = some ((b.drop off).take n) := by
  refine pieces_ind (motive := fun off n => off + n ≤ b.length → ((∀ p ∈ pieces off n, us p.1 = true) ∨ 4 ≤ (sel us 6).length) → bls files us (pieces off n) = some ((b.drop off).take n)) (fun off _ _ => rfl) (fun off n h ih hle h4 => ?_) n off
  have hk := pk_pos (off := off) h
  have h4a : us (plS off) = true ∨ 4 ≤ (sel us 6).length := h4.imp (fun f => f _ (by rw [pieces_step h]; exact List.mem_cons_self ..)) id
  have h4b : (∀ p ∈ pieces (off + pk off n) (n - pk off n), us p.1 = true) ∨ 4 ≤ (sel us 6).length := h4.imp (fun f p hp => f p (by rw [pieces_step h]; exact List.mem_cons_of_mem _ hp)) id
  rw [pieces_step h, bls, pval_intact hC hu hi h hle h4a, ih (by omega) h4b]
  refine congrArg some ?_
  have := List.take_add (l := b.drop off) (i := pk off n) (j := n - pk off n)
  rw [List.drop_drop, show pk off n + (n - pk off n) = n by omega] at this
  exact this.symm
end
section
variable (a b c n : Int) (c0 c1 c2 c3 c4 c5 : BitVec 32) (l : List Item) (files : List Bytes) (hv : List Bool)
theorem ex_len (k : Int) : (ex k).length ≤ 2 := by
  unfold ex; split
  · by_cases h : k.toNat < 22
    · have : ∀ i : Fin 22, (sL.getD i.val []).length ≤ 2 := by decide
      exact this ⟨k.toNat, h⟩
    · rw [List.getD_eq_getElem?_getD, List.getElem?_eq_none (by rw [sL_len]; omega)]; simp
  · simp
end
end Go.Proofs.YtcncappgheopgaaGreat
