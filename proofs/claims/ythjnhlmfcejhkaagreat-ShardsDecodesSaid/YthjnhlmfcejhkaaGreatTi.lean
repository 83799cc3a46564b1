/- A part of the proof. Conditions: as each theorem says. -/
import Derived.Test.YthjnhlmfcejhkaaGreatTn
import Derived.Test.YthjnhlmfcejhkaaGreatMds3
namespace Go.Proofs.YthjnhlmfcejhkaaGreat
set_option linter.unusedVariables false
set_option linter.unusedSimpArgs false
set_option maxRecDepth 10000
theorem rmi_anyD (a : Int) (n : Nat) (h : 0 < n) : ∃ r, rmi a (n : Int) = some r /\ -(n : Int) < r /\ r < n :=
 ⟨a.tmod n, by unfold rmi; rw [if_neg (by omega)], by
  rcases Int.le_total 0 a with h0 | h0
  ·rw [Int.tmod_eq_emod_of_nonneg h0]
   have h1 := Int.emod_nonneg a (b := (n : Int)) (by omega); have h2 := Int.emod_lt_of_pos a (b := (n : Int)) (by omega)
   omega
  ·have e : a.tmod (n : Int) = -((-a).tmod n) := by rw [Int.neg_tmod]; omega
   rw [e, Int.tmod_eq_emod_of_nonneg (by omega)]
   have h1 := Int.emod_nonneg (-a) (b := (n : Int)) (by omega); have h2 := Int.emod_lt_of_pos (-a) (b := (n : Int)) (by omega)
   omega⟩
theorem rmi_natD {a : Int} (h0 : 0 <= a) (n : Nat) (h : 0 < n) : ∃ m : Nat, rmi a (n : Int) = some (m : Int) /\ m < n := by
 have h1 := Int.emod_nonneg a (b := (n : Int)) (by omega); have h2 := Int.emod_lt_of_pos a (b := (n : Int)) (by omega)
 exact ⟨(a % (n : Int)).toNat, by rw [rmi_of h0 (by omega)]; congr 1; omega, by omega⟩
theorem dec_step (raw g x0 x p y : List (BitVec 8)) (gg : List (BitVec 8) × Int) (k : Nat) (hk : k < 5) (hy : [raw, gg.1, x, g, p][k]? = some y) (hl : y.length <= 100000) (q : Nat) :
  m_law17_ShardsDecodes_l3 raw gg x g p (q + 1) (k : Int) = m_law17_ShardsDecodes_l3 raw gg x g p q ((k + 1 : Nat) : Int) := by
 conv => lhs; unfold m_law17_ShardsDecodes_l3
 rw [if_pos (by simp only [List.length_cons, List.length_nil]; omega), idx_nat, hy, obs, shards_Decode_eq y hl, obs, r17_Decode_eq y hl, obs, if_pos rfl, m_law17_told, obs]
 dsimp only
 rw [same17_refl _ _ _ _ _ _ _ _ _ _ _ (Nat.le_trans (decH_len y hl) (by omega)), obs, if_pos rfl, ck_of (by omega), obs]
 rfl
theorem dec_all (raw g x p : List (BitVec 8)) (gg : List (BitVec 8) × Int) (h1 : raw.length <= 100000) (h2 : gg.1.length <= 100000) (h3 : x.length <= 100000) (h4 : g.length <= 100000) (h5 : p.length <= 100000) :
  m_law17_ShardsDecodes_l3 raw gg x g p forever 0 = some true := by
 obtain ⟨q, hq⟩ : ∃ q, forever = q + 1 + 1 + 1 + 1 + 1 + 1 := ⟨forever - 6, by unfold forever; omega⟩
 rw [hq]
 refine (dec_step raw g [] x p raw gg 0 (by omega) rfl h1 _).trans ?_
 refine (dec_step raw g [] x p gg.1 gg 1 (by omega) rfl h2 _).trans ?_
 refine (dec_step raw g [] x p x gg 2 (by omega) rfl h3 _).trans ?_
 refine (dec_step raw g [] x p g gg 3 (by omega) rfl h4 _).trans ?_
 refine (dec_step raw g [] x p p gg 4 (by omega) rfl h5 _).trans ?_
 unfold m_law17_ShardsDecodes_l3
 rw [if_neg (by simp only [List.length_cons, List.length_nil]; omega)]
 unfold m_law17_ShardsDecodes_j2
 rw [awake_ok]; rfl
theorem dec_j1 (raw : List (BitVec 8)) (gg : List (BitVec 8) × Int) (k : Nat) (x : List (BitVec 8)) (h1 : raw.length <= 600) (h2 : gg.1.length <= 1000) (hk : k <= gg.1.length) (h3 : x.length <= 10000) :
  m_law17_ShardsDecodes_j1 raw gg (k : Int) x = some true := by
 unfold m_law17_ShardsDecodes_j1
 rw [show slc gg.1 0 (k : Int) = some (sub gg.1 0 k) from slc_sub gg.1 0 k ⟨by omega, hk⟩, obs, apd1_of (by rw [List.length_nil]; omega), obs, List.nil_append, apd1_of (by omega), obs]
 exact dec_all _ _ _ _ _ (by omega) (by omega) (by omega) (by rw [sub_len (by omega)]; omega) (by rw [List.length_append]; omega)
theorem dec_j0 (ns : List Nd) (raw : List (BitVec 8)) (z : Int) (v : BitVec 8) (f : Bool) (h1 : raw.length <= 600) : m_law17_ShardsDecodes_j0 ns raw z v f = some true := by
 unfold m_law17_ShardsDecodes_j0
 obtain ⟨c, hc⟩ := hd7_ex
 obtain ⟨C, hC⟩ := code_ex
 have hg : Gen c (nsF ns 12) := nsF_gen hc ns (by omega)
 have hgi := hg.itemsLen
 rw [file_ok hc, obs]
 dsimp only
 rw [r17_make hC (datOf c (nsF ns 12)) hg.len.2 1 2 3 (itemsOf (nsF ns 12)) (by omega) hg.valid, obs]
 dsimp only
 rw [r17_Encode_ok _ _ _ _ _ _ _ _ _ _ _ (by omega) hg.valid, obs]
 have hE := encH_len 1 2 3 ((datOf c (nsF ns 12)).length : Int) (crcSum ((shardsOf C (datOf c (nsF ns 12))).getD 0 [])) (crcSum ((shardsOf C (datOf c (nsF ns 12))).getD 1 [])) (crcSum ((shardsOf C (datOf c (nsF ns 12))).getD 2 [])) (crcSum ((shardsOf C (datOf c (nsF ns 12))).getD 3 [])) (crcSum ((shardsOf C (datOf c (nsF ns 12))).getD 4 [])) (crcSum ((shardsOf C (datOf c (nsF ns 12))).getD 5 [])) (itemsOf (nsF ns 12))
 dsimp only
 revert hE
 generalize encH 1 2 3 ((datOf c (nsF ns 12)).length : Int) _ (itemsOf (nsF ns 12)) = E
 intro hE
 rw [apd1_of (by rw [List.length_nil]; omega), obs, List.nil_append]
 obtain ⟨u, e1, u1, u2⟩ := rmi_anyD z E.length (by omega)
 obtain ⟨k, e2, hk⟩ := rmi_natD (a := u + (E.length : Int)) (by omega) E.length (by omega)
 rw [e1, obs, ck_of (by omega), obs, e2, obs, idx_getD 0#8 hk, obs, upd_of ⟨by omega, by omega⟩, obs]
 rw [Int.toNat_natCast]
 have hx : (E.set k v).length = E.length := List.length_set
 generalize E.set k v = x at hx
 cases f
 ·rw [if_neg (by decide)]
  exact dec_j1 raw (E, 0) k x h1 (by dsimp only; omega) (by dsimp only; omega) (by omega)
 ·rw [if_pos rfl, ck_of (by omega), obs, show ((E.length : Int) - 4) = ((E.length - 4 : Nat) : Int) by omega, slc_sub x (E.length - 4) x.length ⟨by omega, by omega⟩, obs, obs,
   show slc x 0 ((E.length - 4 : Nat) : Int) = some (sub x 0 (E.length - 4)) from slc_sub x 0 (E.length - 4) ⟨by omega, by omega⟩, obs, r06_Check_eq _ (by rw [sub_len (by omega)]; omega), obs]
  refine dec_j1 raw (E, 0) k _ h1 (by dsimp only; omega) (by dsimp only; omega) ?_
  unfold cpy
  simp only [List.length_append, List.length_take, List.length_drop, le4_len, Int.toNat_natCast]
  omega
theorem ok_ShardsDecodes (raw : List (BitVec 8)) (ns : List Nd) (z : Int) (v : BitVec 8) (f : Bool) : m_law17_ShardsDecodes raw ns z v f = some true := by
 unfold m_law17_ShardsDecodes
 by_cases h : (600 : Int) < (raw.length : Int)
 ·rw [if_pos h, show slc raw 0 (600 : Int) = some (sub raw 0 600) from slc_sub raw 0 600 ⟨by omega, by omega⟩, obs]
  exact dec_j0 ns _ z v f (by rw [sub_len (by omega)]; omega)
 ·rw [if_neg h]
  exact dec_j0 ns _ z v f (by omega)
end Go.Proofs.YthjnhlmfcejhkaaGreat
