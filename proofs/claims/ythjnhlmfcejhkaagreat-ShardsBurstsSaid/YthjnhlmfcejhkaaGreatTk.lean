/- A part of the proof. Conditions: as each theorem says. -/
import Derived.Test.YthjnhlmfcejhkaaGreatTn
import Derived.Test.YthjnhlmfcejhkaaGreatMds4
namespace Go.Proofs.YthjnhlmfcejhkaaGreat
set_option linter.unusedVariables false
set_option linter.unusedSimpArgs false
set_option maxRecDepth 10000
theorem decH_err {y : List (BitVec 8)} (h : (decH y).2.2.2.2.2.2.2.2.2.2.2 = 0) : 52 <= y.length /\ le4 (crcSum (sub y 0 (y.length - 4))) = sub y (y.length - 4) 4 := by
 unfold decH at h
 by_cases h1 : y.length < 52
 ·rw [if_pos h1] at h; exact absurd h (show ¬ (4 : Int) = 0 by decide)
 rw [if_neg h1] at h
 by_cases h2 : ¬ sub y 0 4 = mgc
 ·rw [if_pos h2] at h; exact absurd h (show ¬ (3 : Int) = 0 by decide)
 rw [if_neg h2] at h
 by_cases h3 : (y.length : Int) < 52 + 24 * fld y 44 4
 ·rw [if_pos h3] at h; exact absurd h (show ¬ (4 : Int) = 0 by decide)
 rw [if_neg h3] at h
 by_cases h4 : 52 + 24 * fld y 44 4 < (y.length : Int)
 ·rw [if_pos h4] at h; exact absurd h (show ¬ (3 : Int) = 0 by decide)
 rw [if_neg h4] at h
 by_cases h5 : le4 (crcSum (sub y 0 (y.length - 4))) = sub y (y.length - 4) 4
 ·exact ⟨by omega, h5⟩
 ·rw [if_pos h5] at h; exact absurd h (show ¬ (5 : Int) = 0 by decide)
theorem bur_err (d : List (BitVec 8)) (k m : Nat) (flip : BitVec 32) (hm : k + m <= 8 * (d ++ le4 (crcSum d)).length) (hne : burstTo (d ++ le4 (crcSum d)) k flip m ≠ d ++ le4 (crcSum d)) : (decH (burstTo (d ++ le4 (crcSum d)) k flip m)).2.2.2.2.2.2.2.2.2.2.2 ≠ 0 := fun h => by
 obtain ⟨h1, h2⟩ := decH_err h
 apply hne
 refine code_burst d (sub (burstTo (d ++ le4 (crcSum d)) k flip m) 0 ((burstTo (d ++ le4 (crcSum d)) k flip m).length - 4)) k m flip hm ?_
 rw [h2]
 unfold sub
 rw [List.drop_zero, List.take_of_length_le (i := 4) (by rw [List.length_drop]; omega), List.take_append_drop]
theorem bur17 (flip : BitVec 32) (b : List (BitVec 8)) (k : Nat) (hb : b.length <= 100000) (e : Int) : ∀ (q i : Nat), i <= 32 -> k + i <= 8 * b.length -> 32 - i < q ->
  ∃ m, k + m <= 8 * b.length /\ m_law17_ShardsBursts_l2 flip (b, e) ((8 * b.length : Nat) : Int) (k : Int) q (burstTo b k flip i) (i : Int) = m_law17_ShardsBursts_j1 (b, e) (burstTo b k flip m) := by
 intro q
 induction q with
 | zero => intro i _ _ h; omega
 | succ q ih =>
  intro i hi hk hq
  rw [m_law17_ShardsBursts_l2]
  by_cases h : i < 32
  ·rw [if_pos (by omega), ck_of (by omega), obs]
   by_cases h2 : k + i < 8 * b.length
   ·have e8 : ((k : Int) + (i : Int)) / 8 = (((k + i) / 8 : Nat) : Int) := by omega
    have hlt : (k + i) / 8 < (burstTo b k flip i).length := by rw [burstTo_length]; omega
    rw [if_pos (by omega), m_law17_ShardsBursts_j3, ck_of (by omega), obs, dvi_of (by omega) (by omega), obs, e8, idx_getD 0#8 hlt, obs, obs, rmi_of (by omega) (by omega), obs, obs, upd_of (by omega), obs, ck_of (by omega), obs]
    obtain ⟨m, h3, h4⟩ := ih (i + 1) (by omega) (by omega) (by omega)
    refine ⟨m, h3, ?_⟩
    rw [<- h4]
    congr 1
    rw [burstTo]
    have e1 : (BitVec.ofInt 64 (i : Int)).toNat = i := by rw [BitVec.ofInt_natCast, BitVec.toNat_ofNat]; exact Nat.mod_eq_of_lt (by omega)
    have e2 : (BitVec.ofInt 64 (((k : Int) + (i : Int)) % 8)).toNat = (k + i) % 8 := by
     rw [show ((k : Int) + (i : Int)) % 8 = (((k + i) % 8 : Nat) : Int) by omega, BitVec.ofInt_natCast, BitVec.toNat_ofNat]; exact Nat.mod_eq_of_lt (by omega)
    rw [e1, e2, Int.toNat_natCast]; rfl
   ·rw [if_neg (by omega)]; exact ⟨i, hk, rfl⟩
  ·rw [if_neg (by omega)]; exact ⟨i, hk, rfl⟩
theorem ok_ShardsBursts (ns : List Nd) (a : Int) (flip : BitVec 32) : m_law17_ShardsBursts ns a flip = some true := by
 unfold m_law17_ShardsBursts
 obtain ⟨c, hc⟩ := hd7_ex
 obtain ⟨C, hC⟩ := code_ex
 have hg : Gen c (nsF ns 12) := nsF_gen hc ns (by omega)
 have hgi := hg.itemsLen
 rw [file_ok hc, obs]
 dsimp only
 rw [make_eq (datOf c (nsF ns 12)) hg.len.2 1 2 3 (itemsOf (nsF ns 12)) (by omega), r17_make hC (datOf c (nsF ns 12)) hg.len.2 1 2 3 (itemsOf (nsF ns 12)) (by omega) hg.valid, obs]
 dsimp only
 rw [shards_Encode_ok _ _ _ _ _ _ _ _ _ _ _ (by omega) hg.valid, obs]
 have hE := encH_len 1 2 3 ((datOf c (nsF ns 12)).length : Int) (crcSum ((shardsOf C (datOf c (nsF ns 12))).getD 0 [])) (crcSum ((shardsOf C (datOf c (nsF ns 12))).getD 1 [])) (crcSum ((shardsOf C (datOf c (nsF ns 12))).getD 2 [])) (crcSum ((shardsOf C (datOf c (nsF ns 12))).getD 3 [])) (crcSum ((shardsOf C (datOf c (nsF ns 12))).getD 4 [])) (crcSum ((shardsOf C (datOf c (nsF ns 12))).getD 5 [])) (itemsOf (nsF ns 12))
 dsimp only
 rw [if_pos rfl, if_pos rfl]
 revert hE
 unfold encH
 generalize bodyB 1 2 3 ((datOf c (nsF ns 12)).length : Int) _ (itemsOf (nsF ns 12)) = d
 intro hE
 have her := bur_err d
 revert hE her
 generalize d ++ le4 (crcSum d) = E
 intro hE her
 rw [if_neg (by omega)]
 unfold m_law17_ShardsBursts_j0
 dsimp only
 rw [show ((8 : Int) * (E.length : Int)) = ((8 * E.length : Nat) : Int) by omega, ck_of (by omega), obs]
 have hw := wi_lt a (8 * E.length) (by omega)
 rw [wi_chain a _ (by omega) (by omega), apd1_of (by simp only [List.length_nil]; omega), obs, List.nil_append]
 obtain ⟨m, h1, h2⟩ := bur17 flip E (wi a (8 * E.length)) (by omega) 0 forever 0 (by omega) (by omega) (by unfold forever; omega)
 refine h2.trans ?_
 have hbl := burstTo_length E (wi a (8 * E.length)) flip m
 rw [m_law17_ShardsBursts_j1]
 dsimp only
 by_cases hs : burstTo E (wi a (8 * E.length)) flip m = E
 ·rw [if_pos hs, awake_ok]; rfl
 ·rw [if_neg hs, show slc (burstTo E (wi a (8 * E.length)) flip m) (44 : Int) (48 : Int) = some (sub _ 44 4) from slc_sub _ 44 48 ⟨by omega, by omega⟩, obs, show slc E (44 : Int) (48 : Int) = some (sub _ 44 4) from slc_sub _ 44 48 ⟨by omega, by omega⟩, obs]
  by_cases h3 : sub (burstTo E (wi a (8 * E.length)) flip m) 44 4 = sub E 44 4
  ·rw [if_pos h3, shards_Decode_eq _ (by omega), obs, if_neg (her _ _ _ h1 hs), awake_ok]; rfl
  ·rw [if_neg h3, awake_ok]; rfl
end Go.Proofs.YthjnhlmfcejhkaaGreat
