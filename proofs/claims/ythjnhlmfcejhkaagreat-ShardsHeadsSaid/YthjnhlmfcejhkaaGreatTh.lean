/- A part of the proof. Conditions: as each theorem says. -/
import Derived.Test.YthjnhlmfcejhkaaGreatTg
import Derived.Test.YthjnhlmfcejhkaaGreatMds2
namespace Go.Proofs.YthjnhlmfcejhkaaGreat
set_option linter.unusedVariables false
set_option linter.unusedSimpArgs false
set_option maxRecDepth 10000
theorem heads_all (a b c n : Int) (s0 s1 s2 s3 s4 s5 : BitVec 32) (l : List Item) (hl : l.length <= 1000) (sh : List Bytes) (n' : Int) (t0 t1 t2 t3 t4 t5 : BitVec 32) (items : List Item) (e : Int) (hi : items.length <= 1000) (rev len : Int) (its : List Item) (hits : its.length <= 1000) :
  m_law17_ShardsHeads_j0 a b l c n s0 s1 s2 s3 s4 s5 (sh, 1, 2, 3, n', t0, t1, t2, t3, t4, t5, items, e) items rev len its = m_law17_ShardsHeads_j1 (sh, 1, 2, 3, n', t0, t1, t2, t3, t4, t5, items, e) items := by
 unfold m_law17_ShardsHeads_j0
 obtain ⟨q, hq⟩ : ∃ q, forever = q + 1 + 1 + 1 + 1 := ⟨forever - 4, by unfold forever; omega⟩
 rw [hq]
 unfold m_law17_ShardsHeads_l2
 rw [if_pos (by simp only [List.length_cons, List.length_nil]; omega)]
 refine (congrArg (fun o => Option.bind o _) (rfl : idx _ (0 : Int) = some _)).trans ?_
 rw [obs, m_law17_given, obs]
 dsimp only
 obtain ⟨r0, p0, w0⟩ := encode_eq17 a b c n s0 s1 s2 s3 s4 s5 l hl
 rw [p0, obs, w0, obs, obs, shards_Valid_eq _ _ _ _ _ _ _ _ _ _ _ (by dsimp only; omega), obs, r17_Valid_eq _ _ _ _ _ _ _ _ _ _ _ (by first | omega | (dsimp only; omega)), obs, if_pos rfl, if_pos rfl, if_pos rfl, ck_of (by omega), obs]
 show m_law17_ShardsHeads_l2 a b l c n s0 s1 s2 s3 s4 s5 (sh, 1, 2, 3, n', t0, t1, t2, t3, t4, t5, items, e) items rev len its _ (1 : Int) = _
 unfold m_law17_ShardsHeads_l2
 rw [if_pos (by simp only [List.length_cons, List.length_nil]; omega)]
 refine (congrArg (fun o => Option.bind o _) (rfl : idx _ (1 : Int) = some _)).trans ?_
 rw [obs, m_law17_given, obs]
 dsimp only
 obtain ⟨r1, p1, w1⟩ := encode_eq17 1 2 3 n' t0 t1 t2 t3 t4 t5 items hi
 rw [p1, obs, w1, obs, obs, shards_Valid_eq _ _ _ _ _ _ _ _ _ _ _ (by dsimp only; omega), obs, r17_Valid_eq _ _ _ _ _ _ _ _ _ _ _ (by first | omega | (dsimp only; omega)), obs, if_pos rfl, if_pos rfl, if_pos rfl, ck_of (by omega), obs]
 show m_law17_ShardsHeads_l2 a b l c n s0 s1 s2 s3 s4 s5 (sh, 1, 2, 3, n', t0, t1, t2, t3, t4, t5, items, e) items rev len its _ (2 : Int) = _
 unfold m_law17_ShardsHeads_l2
 rw [if_pos (by simp only [List.length_cons, List.length_nil]; omega)]
 refine (congrArg (fun o => Option.bind o _) (rfl : idx _ (2 : Int) = some _)).trans ?_
 rw [obs, m_law17_given, obs]
 dsimp only
 obtain ⟨r2, p2, w2⟩ := encode_eq17 1 2 rev len t0 t1 t2 t3 t4 t5 its hits
 rw [p2, obs, w2, obs, obs, shards_Valid_eq _ _ _ _ _ _ _ _ _ _ _ (by dsimp only; omega), obs, r17_Valid_eq _ _ _ _ _ _ _ _ _ _ _ (by first | omega | (dsimp only; omega)), obs, if_pos rfl, if_pos rfl, if_pos rfl, ck_of (by omega), obs]
 show m_law17_ShardsHeads_l2 a b l c n s0 s1 s2 s3 s4 s5 (sh, 1, 2, 3, n', t0, t1, t2, t3, t4, t5, items, e) items rev len its _ (3 : Int) = _
 unfold m_law17_ShardsHeads_l2
 rw [if_neg (by simp only [List.length_cons, List.length_nil]; omega)]
theorem rmi64 (z : Int) : ∃ r, rmi z 64 = some r /\ -64 < r /\ r < 64 := by
 refine ⟨z.tmod 64, by unfold rmi; rw [if_neg (by omega)], ?_⟩
 rcases Int.le_total 0 z with h0 | h0
 ·rw [Int.tmod_eq_emod_of_nonneg h0]; omega
 ·have e : z.tmod 64 = -((-z).tmod 64) := by rw [Int.neg_tmod]; omega
  rw [e, Int.tmod_eq_emod_of_nonneg (by omega)]; omega
theorem andi31 (z : Int) : 0 <= andi z 31 /\ andi z 31 <= 31 := by
 unfold andi
 have h2 : (BitVec.ofInt 64 z &&& 31#64).toNat <= 31 := by rw [BitVec.toNat_and]; exact Nat.and_le_right
 rw [show BitVec.ofInt 64 31 = 31#64 from rfl, BitVec.toInt_eq_toNat_cond, if_pos (by omega)]; omega
theorem ok_ShardsHeads (a b c n : Int) (s0 s1 s2 s3 s4 s5 : BitVec 32) (l : List Item) (ns : List Nd) (which by' : Int) : m_law17_ShardsHeads a b c n s0 s1 s2 s3 s4 s5 l ns which by' = some true := by
 unfold m_law17_ShardsHeads
 rw [m_law17_light, obs]
 by_cases h2 : (30 : Int) < (l.length : Int)
 ·rw [if_neg (fun h => absurd (of_decide_eq_true h) (by omega)), awake_ok]; rfl
 rw [if_pos (decide_eq_true (by omega))]
 obtain ⟨k, hk⟩ := hd7_ex
 obtain ⟨C, hC⟩ := code_ex
 have hg : Gen k (nsF ns 12) := nsF_gen hk ns (by omega)
 have hgi := hg.itemsLen
 have hlen := hg.len
 rw [file_ok hk, obs]
 dsimp only
 rw [r17_make hC (datOf k (nsF ns 12)) hg.len.2 1 2 3 (itemsOf (nsF ns 12)) (by omega) hg.valid, obs]
 have fin : ∀ (rev len : Int) (its : List Item), its.length <= 1000 -> m_law17_ShardsHeads_j0 a b l c n s0 s1 s2 s3 s4 s5 (shardsOf C (datOf k (nsF ns 12)), 1, 2, 3, ((datOf k (nsF ns 12)).length : Int), crcSum ((shardsOf C (datOf k (nsF ns 12))).getD 0 []), crcSum ((shardsOf C (datOf k (nsF ns 12))).getD 1 []), crcSum ((shardsOf C (datOf k (nsF ns 12))).getD 2 []), crcSum ((shardsOf C (datOf k (nsF ns 12))).getD 3 []), crcSum ((shardsOf C (datOf k (nsF ns 12))).getD 4 []), crcSum ((shardsOf C (datOf k (nsF ns 12))).getD 5 []), itemsOf (nsF ns 12), 0) (itemsOf (nsF ns 12)) rev len its = some true := by
  intro rev len its hits
  rw [heads_all a b c n s0 s1 s2 s3 s4 s5 l (by omega) _ _ _ _ _ _ _ _ _ _ (by omega) rev len its hits]
  unfold m_law17_ShardsHeads_j1
  rw [m_law17_given, obs]
  dsimp only
  rw [shards_Valid_eq _ _ _ _ _ _ _ _ _ _ _ (by omega), obs, if_pos hg.valid, awake_ok]; rfl
 dsimp only
 by_cases c0 : andi which 3 = 0
 ·obtain ⟨r, r1, r2, r3⟩ := rmi64 by'
  rw [if_pos c0, r1, obs, ck_of (by omega), obs]
  exact fin _ _ _ (by omega)
 rw [if_neg c0]
 by_cases c1 : andi which 3 = 1
 ·rw [if_pos c1]; exact fin _ _ _ (by omega)
 rw [if_neg c1]
 by_cases c2 : andi which 3 = 2
 ·have h31 := andi31 by'
  rw [if_pos c2, apdI (by simp only [List.length_nil]; omega), obs, List.nil_append, ck_of (by omega), obs, ck_of (by omega), obs, apdI (by simp only [List.length_singleton]; omega), obs]
  exact fin _ _ _ (by rw [List.length_append, List.length_singleton]; omega)
 ·rw [if_neg c2]; exact fin _ _ _ (by omega)
end Go.Proofs.YthjnhlmfcejhkaaGreat
