/- A part of the proof. Conditions: as each theorem says. -/
import Derived.Test.YthjnhlmfcejhkaaGreatYc
import Derived.Test.YthjnhlmfcejhkaaGreatMdr
namespace Go.Proofs.YthjnhlmfcejhkaaGreat
set_option linter.unusedVariables false
set_option linter.unusedSimpArgs false
set_option maxRecDepth 10000
theorem cpy_tb {w lo k : Nat} {F : Nat -> BitVec 8} (ys : List (BitVec 8)) (h : lo + k <= w) (hk : k <= ys.length) : cpy (tb w F) lo (lo + k) ys = tb w fun t => if lo <= t /\ t < lo + k then ys.getD (t - lo) 0#8 else F t := by
 unfold cpy
 refine List.ext_getElem? fun t => ?_
 rw [show lo + k - lo = k by omega, Nat.min_eq_left hk]
 have l1 : ((tb w F).take lo).length = lo := by rw [List.length_take, tb_len]; omega
 have l2 : (ys.take k).length = k := by rw [List.length_take]; omega
 by_cases ht : t < w
 ·rw [tb_get ht]
  by_cases h1 : t < lo
  ·rw [List.getElem?_append_left (by rw [List.length_append, l1]; omega), List.getElem?_append_left (by omega), List.getElem?_take, if_pos h1, tb_get ht, if_neg (by omega)]
  ·by_cases h2 : t < lo + k
   ·rw [List.getElem?_append_left (by rw [List.length_append, l1, l2]; omega), List.getElem?_append_right (by omega), l1, List.getElem?_take, if_pos (by omega), if_pos (by omega), List.getD_eq_getElem?_getD, List.getElem?_eq_getElem (by omega)]; rfl
   ·rw [List.getElem?_append_right (by rw [List.length_append, l1, l2]; omega), List.length_append, l1, l2, List.getElem?_drop, show lo + k + (t - (lo + k)) = t by omega, tb_get ht, if_neg (by omega)]
 ·rw [List.getElem?_eq_none (by rw [List.length_append, List.length_append, l1, l2, List.length_drop, tb_len]; omega), List.getElem?_eq_none (by rw [tb_len]; omega)]
theorem piece_write (b : List (BitVec 8)) {off n : Nat} (h0 : 0 < n) (h : off + n <= b.length) :
  tb 4 (st (fun j => tb (ssz b.length) (sDi b off j)) (plS off) (cpy (tb (ssz b.length) (sDi b off (plS off))) (plA off) (plA off + pk off n) (b.drop off))) = rows b (off + pk off n) := by
 have hk := pk_pos (off := off) h0
 have hw : plA off + pk off n <= ssz b.length := by unfold plA ssz; omega
 unfold rows
 refine tb_ext fun j hj => ?_
 by_cases e : j = plS off
 ·subst e
  rw [st_same, cpy_tb _ hw (by rw [List.length_drop]; omega)]
  refine tb_ext fun t _ => ?_
  unfold sDi
  by_cases h1 : plA off <= t /\ t < plA off + pk off n
  ·have hp : pos (plS off) t = off + (t - plA off) := by unfold pos plS plA at *; omega
   rw [if_pos h1, if_pos (by omega), hp, List.getD_eq_getElem?_getD, List.getD_eq_getElem?_getD, List.getElem?_drop]
  ·rw [if_neg h1]
   have hp : pos (plS off) t < off ↔ pos (plS off) t < off + pk off n := by unfold pos plS plA at *; omega
   by_cases h2 : pos (plS off) t < off
   ·rw [if_pos h2, if_pos (hp.1 h2)]
   ·rw [if_neg h2, if_neg (fun h3 => h2 (hp.2 h3))]
 ·rw [st_ne e]
  refine tb_ext fun t _ => ?_
  unfold sDi
  have hp : pos j t < off ↔ pos j t < off + pk off n := by unfold pos plS at *; omega
  by_cases h2 : pos j t < off
  ·rw [if_pos h2, if_pos (hp.1 h2)]
  ·rw [if_neg h2, if_neg (fun h3 => h2 (hp.2 h3))]
theorem min_pk {off n : Nat} : min ((64 : Int) - ((off % 64 : Nat) : Int)) ((n : Nat) : Int) = ((pk off n : Nat) : Int) := by unfold pk; omega
theorem psplit_l2 (b : List (BitVec 8)) (hb : b.length <= 100000) : ∀ (n off : Nat), off + n = b.length -> ∀ q, n < q -> m_stripe_Split_l2 b (b.length : Int) q (rows b off) (off : Int) = some (rows b b.length) := by
 refine pieces_ind (motive := fun off n => off + n = b.length -> ∀ q, n < q -> m_stripe_Split_l2 b (b.length : Int) q (rows b off) (off : Int) = some (rows b b.length)) ?_ ?_
 ·intro off h q hq
  obtain ⟨q, rfl⟩ : ∃ q', q = q' + 1 := ⟨q - 1, by omega⟩
  unfold m_stripe_Split_l2
  rw [if_neg (by omega), show off = b.length by omega]
 ·intro off n h0 ih h q hq
  obtain ⟨q, rfl⟩ : ∃ q', q = q' + 1 := ⟨q - 1, by omega⟩
  have hk := pk_pos (off := off) h0
  have hw : plA off + pk off n <= ssz b.length := by unfold plA ssz; omega
  have hpa : plA off <= off := by unfold plA; omega
  unfold m_stripe_Split_l2
  rw [if_pos (by omega), rmi_of (by omega) (by omega), obs, ck_of (by omega), obs, ck_of (by omega), obs, stripe_place_nat off (by omega), obs]
  rw [show ((off : Int) % 64) = ((off % 64 : Nat) : Int) by omega, show ((b.length : Int) - (off : Int)) = ((n : Nat) : Int) by omega, min_pk]
  show Option.bind (idx (rows b off) (plS off : Int)) _ = _
  unfold rows
  rw [idx_tb (plS_lt off), obs]
  show Option.bind (ck ((plA off : Int) + ((pk off n : Nat) : Int))) _ = _
  rw [ck_of (by omega), obs, show ((plA off : Int) + ((pk off n : Nat) : Int)) = ((plA off + pk off n : Nat) : Int) by omega]
  show Option.bind (slc (tb (ssz b.length) (sDi b off (plS off))) (plA off : Int) ((plA off + pk off n : Nat) : Int)) _ = _
  rw [slc_tb (by omega) hw, obs, slc_drop (by omega), obs]
  show Option.bind (upd (tb 4 fun j => tb (ssz b.length) (sDi b off j)) (plS off : Int) (cpy (tb (ssz b.length) (sDi b off (plS off))) ((plA off : Nat) : Int).toNat ((plA off + pk off n : Nat) : Int).toNat (b.drop off))) _ = _
  rw [Int.toNat_natCast, Int.toNat_natCast, upd_tb (plS_lt off), obs, piece_write b h0 (by omega), ck_of (by omega), obs, show ((off : Int) + ((pk off n : Nat) : Int)) = ((off + pk off n : Nat) : Int) by omega]
  exact ih (by omega) q (by omega)
theorem rows_done (b : List (BitVec 8)) : rows b b.length = tb 4 fun j => tb (ssz b.length) (sD b j) := by
 refine tb_ext fun j hj => tb_ext fun t ht => ?_
 unfold sDi sD
 by_cases h : pos j t < b.length
 ·rw [if_pos h]
 ·rw [if_neg h, List.getD_eq_getElem?_getD, List.getElem?_eq_none (by omega)]; rfl
def z4 (w i : Nat) : Nat -> List (BitVec 8) := fun j => if j < i then tb w (fun _ => 0#8) else []
theorem psplit_l1 (b : List (BitVec 8)) (hb : b.length <= 100000) (d : Nat) : ∀ (i q : Nat), i + d = 4 -> d < q -> m_stripe_Split_l1 b (tb 4 fun _ => []) q (tb 4 (z4 (ssz b.length) i)) (i : Int) = m_stripe_Split_j0 b (tb 4 (z4 (ssz b.length) 4)) := by
 induction d with
 | zero =>
  intro i q hi hq
  obtain ⟨q, rfl⟩ : ∃ q', q = q' + 1 := ⟨q - 1, by omega⟩
  unfold m_stripe_Split_l1
  rw [if_neg (by rw [tb_len]; omega), show i = 4 by omega]
 | succ d ih =>
  intro i q hi hq
  obtain ⟨q, rfl⟩ : ∃ q', q = q' + 1 := ⟨q - 1, by omega⟩
  unfold m_stripe_Split_l1
  rw [if_pos (by rw [tb_len]; omega), stripe_Size_nat _ (by omega), obs, mks_tb (by omega) (by unfold ssz; omega), obs, idx_tb (by omega), obs, upd_tb (by omega), obs, ck_of (by omega), obs]
  have e : tb 4 (st (z4 (ssz b.length) i) i (tb (ssz b.length) fun _ => 0#8)) = tb 4 (z4 (ssz b.length) (i + 1)) := tb_ext fun j hj => by
   by_cases h : j = i
   ·subst h; rw [st_same]; unfold z4; rw [if_pos (by omega)]
   ·rw [st_ne h]; unfold z4
    by_cases h2 : j < i
    ·rw [if_pos h2, if_pos (by omega)]
    ·rw [if_neg h2, if_neg (by omega)]
  rw [e]
  exact ih (i + 1) q (by omega) (by omega)
theorem psplit_ok (b : List (BitVec 8)) (hb : b.length <= 100000) : m_stripe_Split b = some (tb 4 fun j => tb (ssz b.length) (sD b j)) := by
 unfold m_stripe_Split
 rw [show mks 24 (4 : Int) ([] : List (BitVec 8)) = some (tb 4 fun _ => []) from mks_tb (n := 4) (by omega) (by omega), obs]
 have e0 : (tb 4 fun _ => ([] : List (BitVec 8))) = tb 4 (z4 (ssz b.length) 0) := tb_ext fun j _ => by unfold z4; rw [if_neg (by omega)]
 refine (congrArg (fun l => m_stripe_Split_l1 b (tb 4 fun _ => []) forever l 0) e0).trans ?_
 refine (psplit_l1 b hb 4 0 forever (by omega) (by unfold forever; omega)).trans ?_
 unfold m_stripe_Split_j0
 rw [ck_of (by omega), obs, show (0 : Int) + (b.length : Int) = (b.length : Int) by omega]
 have e1 : tb 4 (z4 (ssz b.length) 4) = rows b 0 := tb_ext fun j hj => by
  unfold z4; rw [if_pos hj]; exact tb_ext fun t _ => by unfold sDi; rw [if_neg (by omega)]
 rw [e1, <- rows_done b]
 exact psplit_l2 b hb b.length 0 (by omega) forever (by unfold forever; omega)
theorem concat_ok (l m : List (List (BitVec 8))) (hl : 0 < l.length) (hn : l.length + m.length <= 1000) : m_slices_Concat_byte_byte [l, m] = some (l ++ m) := by
 have hf : ∃ q, forever = q + 1 + 1 + 1 := ⟨forever - 3, by unfold forever; omega⟩
 obtain ⟨q, hq⟩ := hf
 unfold m_slices_Concat_byte_byte
 rw [hq]
 unfold m_slices_Concat_byte_byte_l1
 rw [if_pos (by simp), show idx [l, m] (0 : Int) = some l from rfl, obs, ck_of (by omega), obs, if_neg (by omega), ck_of (by omega), obs]
 unfold m_slices_Concat_byte_byte_l1
 rw [if_pos (by simp), show idx [l, m] ((0 : Int) + 1) = some m from rfl, obs, ck_of (by omega), obs, if_neg (by omega), ck_of (by omega), obs]
 unfold m_slices_Concat_byte_byte_l1
 rw [if_neg (by simp)]
 unfold m_slices_Concat_byte_byte_j0
 rw [if_neg (by omega), ck_of (by omega), obs, ck_of (by omega), obs, if_pos (by omega), mks_of (by omega), obs, slc_of (by simp), obs]
 unfold m_slices_Concat_byte_byte_j2
 rw [hq, show (List.take ((0 : Int).toNat - (0 : Int).toNat) (List.drop (0 : Int).toNat (List.replicate ((0 : Int) + ↑l.length + ↑m.length - ((0 : Int) - 0)).toNat ([] : List (BitVec 8))))) = [] by simp]
 have a1 : ∀ xs ys : List (List (BitVec 8)), xs.length + ys.length <= 1000 -> apd 24 xs ys = some (xs ++ ys) := fun xs ys h => apd_of ⟨by omega, by omega⟩
 unfold m_slices_Concat_byte_byte_l4
 rw [if_pos (by simp), show idx [l, m] (0 : Int) = some l from rfl, obs, a1 _ _ (by simp; omega), obs, ck_of (by omega), obs]
 unfold m_slices_Concat_byte_byte_l4
 rw [if_pos (by simp), show idx [l, m] ((0 : Int) + 1) = some m from rfl, obs, a1 _ _ (by simp; omega), obs, ck_of (by omega), obs]
 unfold m_slices_Concat_byte_byte_l4
 rw [if_neg (by simp)]
 rfl
theorem pmake_step (C : Mx) (b : List (BitVec 8)) (hb : b.length <= 100000) (dat : List (BitVec 8)) (z1 z2 z3 : Int) (l : List Item) (pe : List Bytes × Int) (q j : Nat) (hj : j < 6) (a0 a1 a2 a3 a4 a5 : BitVec 32) :
  m_shards_Make_l2 dat z1 z2 z3 l pe (shardsOf C b) (q + 1) a0 a1 a2 a3 a4 a5 (j : Int) =
   let y := [a0, a1, a2, a3, a4, a5].set j (crcSum ((shardsOf C b).getD j []))
   m_shards_Make_l2 dat z1 z2 z3 l pe (shardsOf C b) q (y.getD 0 0#32) (y.getD 1 0#32) (y.getD 2 0#32) (y.getD 3 0#32) (y.getD 4 0#32) (y.getD 5 0#32) ((j + 1 : Nat) : Int) := by
 have key : ∀ (k : BitVec 32 -> Option (List Bytes × Int × Int × Int × Int × BitVec 32 × BitVec 32 × BitVec 32 × BitVec 32 × BitVec 32 × BitVec 32 × List Item × Int)), Option.bind (idx (shardsOf C b) (j : Int)) (fun x92 => Option.bind (m_crc32c_Sum x92) k) = k (crcSum ((shardsOf C b).getD j [])) := by
  intro k
  unfold shardsOf
  rw [idx_tb hj, obs, getD_tb hj, crc_Sum_eq _ (by rw [tb_len]; unfold ssz; omega), obs]
 conv => lhs; unfold m_shards_Make_l2
 rw [if_pos (by rw [shardsOf_len]; omega)]
 refine (key _).trans ?_
 have h6 : j < [a0, a1, a2, a3, a4, a5].length := hj
 rw [idx_nat, List.getElem?_eq_getElem h6, obs, upd_of ⟨by omega, by simpa using h6⟩, obs, ck_of (by omega), obs]
 rfl
theorem pmake_loop (C : Mx) (b : List (BitVec 8)) (hb : b.length <= 100000) (dat : List (BitVec 8)) (z1 z2 z3 : Int) (l : List Item) (p : List Bytes) (q : Nat) :
  m_shards_Make_l2 dat z1 z2 z3 l (p, 0) (shardsOf C b) (q + 1 + 1 + 1 + 1 + 1 + 1 + 1) 0#32 0#32 0#32 0#32 0#32 0#32 0 = some (shardsOf C b, z1, z2, z3, (dat.length : Int), crcSum ((shardsOf C b).getD 0 []), crcSum ((shardsOf C b).getD 1 []), crcSum ((shardsOf C b).getD 2 []), crcSum ((shardsOf C b).getD 3 []), crcSum ((shardsOf C b).getD 4 []), crcSum ((shardsOf C b).getD 5 []), l, 0) := by
 have st := pmake_step C b hb dat z1 z2 z3 l (p, 0)
 refine (st _ 0 (by omega) _ _ _ _ _ _).trans ?_
 refine (st _ 1 (by omega) _ _ _ _ _ _).trans ?_
 refine (st _ 2 (by omega) _ _ _ _ _ _).trans ?_
 refine (st _ 3 (by omega) _ _ _ _ _ _).trans ?_
 refine (st _ 4 (by omega) _ _ _ _ _ _).trans ?_
 refine (st _ 5 (by omega) _ _ _ _ _ _).trans ?_
 show m_shards_Make_l2 dat z1 z2 z3 l (p, 0) (shardsOf C b) (q + 1) _ _ _ _ _ _ (6 : Int) = _
 unfold m_shards_Make_l2
 rw [if_neg (by rw [shardsOf_len]; omega)]; rfl
theorem pencode_ok {C : Mx} (hC : IsCode C) {w : Nat} (hw : w <= 1000) (B : Mx) : m_rs_Encode (tb 4 fun j => tb w (B j)) = some (tb 2 fun i => tb w (mm 4 C B (i + 4)), 0) := by
 obtain ⟨r, h1, h2, _⟩ := enc_same (tb 4 fun j => tb w (B j)) (fun j hj => by rw [tb_len] at hj; rw [getD_tb hj, tb_len]; exact hw)
 rw [h1, <- h2, rencode_ok hC hw]
theorem clone_items (l : List Item) (hl : l.length <= 100000) : m_slices_Clone_api_Item_api_Item l = some l := by
 unfold m_slices_Clone_api_Item_api_Item
 rw [apdI (by simp; omega), obs, List.nil_append]
theorem pmake {C : Mx} (hC : IsCode C) (b : List (BitVec 8)) (hb : b.length <= 3600) (z1 z2 z3 : Int) (l : List Item) (hl : l.length <= 100000) (hv : hvalB z1 z2 z3 (b.length : Int) l = true) :
  m_shards_Make b z1 z2 z3 l = some (shardsOf C b, z1, z2, z3, (b.length : Int), crcSum ((shardsOf C b).getD 0 []), crcSum ((shardsOf C b).getD 1 []), crcSum ((shardsOf C b).getD 2 []), crcSum ((shardsOf C b).getD 3 []), crcSum ((shardsOf C b).getD 4 []), crcSum ((shardsOf C b).getD 5 []), l, 0) := by
 have hw : ssz b.length <= 1000 := by unfold ssz; omega
 unfold m_shards_Make m_shards_Make_j0
 rw [clone_items l hl, obs, shards_Valid_eq _ _ _ _ _ _ _ _ _ _ _ (by omega), obs, if_pos hv, psplit_ok b (by omega), obs, pencode_ok hC hw, obs]
 show Option.bind (m_slices_Concat_byte_byte [tb 4 fun j => tb (ssz b.length) (sD b j), tb 2 fun i => tb (ssz b.length) (mm 4 C (sD b) (i + 4))]) _ = _
 rw [concat_ok _ _ (by rw [tb_len]; omega) (by rw [tb_len, tb_len]; omega), obs]
 have h6 := six_ok hC (w := ssz b.length) (sD b)
 rw [apd_of (by rw [tb_len, tb_len]; omega)] at h6
 rw [Option.some.inj h6]
 exact pmake_loop C b (by omega) b z1 z2 z3 l _ 18446744073709551609
def cutF (x : Nd) : Nd := ⟨if 1000#64 < x.fKey then x.fKey &&& 15#64 else x.fKey, x.fCookie, x.fDeleted, if x.fDeleted = true then [] else x.fData.take 100⟩
theorem cutF_ok (x : Nd) : okN (cutF x) := by
 unfold okN cutF
 by_cases h : x.fDeleted = true
 ·rw [if_pos h]; exact ⟨by unfold nvalid; simp, Nat.zero_le _⟩
 ·have hl : (x.fData.take 100).length <= 100 := by rw [List.length_take]; omega
  rw [if_neg h, Bool.eq_false_iff.2 h]
  refine ⟨?_, by simp only; omega⟩
  unfold nvalid
  rw [Bool.false_and, Bool.not_false, Bool.and_true]
  exact decide_eq_true (by simp only; omega)
def nsF (l : List Nd) (i : Nat) : List Nd := (l.take i).map cutF
theorem nsF_ok (l : List Nd) (i : Nat) : ∀ x ∈ nsF l i, okN x := fun x hx => by
 obtain ⟨y, _, rfl⟩ := List.mem_map.1 hx
 exact cutF_ok y
theorem nsF_len (l : List Nd) (i : Nat) : (nsF l i).length = min i l.length := by unfold nsF; rw [List.length_map, List.length_take]
theorem nsF_succ (l : List Nd) {i : Nat} (h : i < l.length) : nsF l (i + 1) = nsF l i ++ [cutF l[i]] := by
 unfold nsF; rw [List.take_succ_eq_append_getElem h, List.map_append]; rfl
theorem nsF_gen {c : BitVec 32} (hc : crcSum hd7 = c) (l : List Nd) {i : Nat} (hi : i <= 12) : Gen c (nsF l i) := ⟨hc, nsF_ok l i, by rw [nsF_len]; omega⟩
theorem datF_snoc (c : BitVec 32) (ns : List Nd) (x : Nd) : datOf c (ns ++ [x]) = datOf c ns ++ encN x := by unfold datOf; rw [encs_snoc, List.append_assoc]
theorem file_loop {c : BitVec 32} (hc : crcSum hd7 = c) (l : List Nd) (d : Nat) : ∀ (i q : Nat), i + d = min l.length 12 -> d < q -> m_law17_file_l1 l q (datOf c (nsF l i)) (i : Int) = m_law17_file_j0 (datOf c (nsF l 12)) := by
 induction d with
 | zero =>
  intro i q hi hq
  obtain ⟨q, rfl⟩ : ∃ q', q = q' + 1 := ⟨q - 1, by omega⟩
  have e : nsF l i = nsF l 12 := by
   unfold nsF
   by_cases h : l.length <= 12
   ·rw [List.take_of_length_le (by omega), List.take_of_length_le h]
   ·rw [show i = 12 by omega]
  unfold m_law17_file_l1
  by_cases h : (i : Int) < (l.length : Int)
  ·rw [if_pos h, if_neg (by omega), e]
  ·rw [if_neg h, e]
 | succ d ih =>
  intro i q hi hq
  obtain ⟨q, rfl⟩ : ∃ q', q = q' + 1 := ⟨q - 1, by omega⟩
  have h1 : i < l.length := by omega
  have hg := (nsF_gen hc l (show i <= 12 by omega)).len
  have hb := sizeN_bd (cutF_ok l[i])
  have step := ih (i + 1) q (by omega) (by omega)
  rw [nsF_succ l h1, datF_snoc] at step
  have e := encR_ok (cutF_ok l[i])
  have key : ∀ ys, (cutF l[i]).fData = ys -> m_law17_file_j4 (datOf c (nsF l i)) (i : Int) l[i] (m_law17_file_l1 l q) ys = m_law17_file_j0 (datOf c (nsF l 12)) := by
   intro ys hy
   subst hy
   unfold m_law17_file_j4
   by_cases hk : 1000#64 < l[i].fKey
   ·have e' : m_r06_Encode (l[i].fKey &&& 15#64) l[i].fCookie l[i].fDeleted (cutF l[i]).fData = some (encN (cutF l[i]), 0) := by rw [<- e]; unfold cutF; simp only; rw [if_pos hk]
    rw [if_pos hk, e', obs, apd1_of (by rw [encN_len]; omega), obs, ck_of (by omega), obs]
    exact step
   ·have e' : m_r06_Encode l[i].fKey l[i].fCookie l[i].fDeleted (cutF l[i]).fData = some (encN (cutF l[i]), 0) := by rw [<- e]; unfold cutF; simp only; rw [if_neg hk]
    rw [if_neg hk, e', obs, apd1_of (by rw [encN_len]; omega), obs, ck_of (by omega), obs]
    exact step
  have fin : ∀ xs : List (BitVec 8), (l[i].fDeleted = false -> xs = l[i].fData.take 100) -> m_law17_file_j3 (datOf c (nsF l i)) (i : Int) l[i] (m_law17_file_l1 l q) xs = m_law17_file_j0 (datOf c (nsF l 12)) := by
   intro xs hx
   unfold m_law17_file_j3
   by_cases hd : l[i].fDeleted = true
   ·rw [if_pos hd]; exact key [] (by unfold cutF; simp only; rw [if_pos hd])
   ·rw [if_neg hd]; exact key xs (by unfold cutF; simp only; rw [if_neg hd, hx (Bool.eq_false_iff.2 hd)])
  unfold m_law17_file_l1
  rw [if_pos (by omega), if_pos (by omega)]
  unfold m_law17_file_j2
  rw [idx_nat, List.getElem?_eq_getElem h1, obs]
  by_cases hl : (100 : Int) < (l[i].fData.length : Int)
  ·have e2 : slc l[i].fData 0 (100 : Int) = some (l[i].fData.take 100) := by rw [slc_of (by omega)]; rfl
   rw [if_pos hl, e2, obs]
   exact fin _ fun _ => rfl
  ·rw [if_neg hl]
   exact fin _ fun _ => (List.take_of_length_le (by omega)).symm
theorem file_ok {c : BitVec 32} (hc : crcSum hd7 = c) (l : List Nd) : m_law17_file l = some (datOf c (nsF l 12), 1, 2, 3, itemsOf (nsF l 12)) := by
 have hg : Gen c (nsF l 12) := nsF_gen hc l (by omega)
 unfold m_law17_file
 rw [r07_enc hc, obs]
 refine (file_loop hc l (min l.length 12) 0 forever (by omega) (by unfold forever; omega)).trans ?_
 unfold m_law17_file_j0
 rw [hg.opens, obs, hg.items, obs]
theorem samerows_refl (l : List Bytes) (hl : l.length <= 1000) : m_r03_SameRows l l = some true := by rw [samerows_dec _ _ (by omega), decide_eq_true rfl]
def gd (s : List (BitVec 32)) (N i : Nat) (f : Bytes) : Bool := decide (f.length = ssz N) && (crcSum f == s.getD i 0#32)
section
variable (a b c : Int) (s0 s1 s2 s3 s4 s5 : BitVec 32) (l : List Item)
theorem six_get (i : Nat) (hi : i < 6) : idx [s0, s1, s2, s3, s4, s5] (i : Int) = some ([s0, s1, s2, s3, s4, s5].getD i 0#32) := by
 have h6 : i < [s0, s1, s2, s3, s4, s5].length := hi
 rw [idx_nat, List.getElem?_eq_getElem h6, List.getD_eq_getElem?_getD, List.getElem?_eq_getElem h6]; rfl
theorem good_ok {N : Nat} (hN : N <= 1000000) {i : Nat} (hi : i < 6) (f : Bytes) (hf : f.length <= 1000000) : m_shards_Head_good a b c (N : Int) s0 s1 s2 s3 s4 s5 l (i : Int) f = some (gd [s0, s1, s2, s3, s4, s5] N i f) := by
 unfold m_shards_Head_good gd
 rw [stripe_Size_nat N (by omega), obs]
 by_cases h : f.length = ssz N
 ·rw [if_pos (by rw [h]), crc_Sum_eq _ (by omega), obs, six_get _ _ _ _ _ _ i hi, obs, obs, decide_eq_true h, Bool.true_and]
 ·rw [if_neg (by omega), decide_eq_false h, Bool.false_and]
theorem rgood_ok {N : Nat} (hN : N <= 1000000) {i : Nat} (hi : i < 6) (f : Bytes) (hf : f.length <= 1000000) (hl : l.length <= 9223372036854775806) (hv : hvalB a b c (N : Int) l = true) : m_r17_Good a b c (N : Int) s0 s1 s2 s3 s4 s5 l (i : Int) f = some (gd [s0, s1, s2, s3, s4, s5] N i f) := by
 unfold m_r17_Good gd
 rw [if_pos (by omega), if_pos (by omega), r17_Valid_eq _ _ _ _ _ _ _ _ _ _ _ hl, obs, if_pos hv, r05_Size_nat N (by omega), obs]
 by_cases h : f.length = ssz N
 ·rw [if_pos (by rw [h]), r01_Sum_eq _ (by omega), obs, six_get _ _ _ _ _ _ i hi, obs, obs, decide_eq_true h, Bool.true_and]
 ·rw [if_neg (by omega), decide_eq_false h, Bool.false_and]
theorem good_eq (n i : Int) (f : Bytes) (hf : f.length <= 1000000) (hl : l.length <= 9223372036854775806) : ∃ r, m_shards_Good a b c n s0 s1 s2 s3 s4 s5 l i f = some r /\ m_r17_Good a b c n s0 s1 s2 s3 s4 s5 l i f = some r := by
 by_cases h0 : (0 : Int) <= i
 ·by_cases h6 : i < (6 : Int)
  ·cases hv : hvalB a b c n l
   ·refine ⟨false, ?_, ?_⟩
    ·unfold m_shards_Good; rw [if_pos h0, if_pos h6, shards_Valid_eq _ _ _ _ _ _ _ _ _ _ _ hl, obs, if_neg (by rw [hv]; simp)]
    ·unfold m_r17_Good; rw [if_pos h0, if_pos h6, r17_Valid_eq _ _ _ _ _ _ _ _ _ _ _ hl, obs, if_neg (by rw [hv]; simp)]
   ·have hn := hvalB_len hv
    obtain ⟨N, rfl⟩ : ∃ N : Nat, n = (N : Int) := ⟨n.toNat, by omega⟩
    obtain ⟨k, rfl⟩ : ∃ k : Nat, i = (k : Int) := ⟨i.toNat, by omega⟩
    refine ⟨_, ?_, rgood_ok a b c s0 s1 s2 s3 s4 s5 l (by omega) (by omega) f hf hl hv⟩
    unfold m_shards_Good
    rw [if_pos h0, if_pos h6, shards_Valid_eq _ _ _ _ _ _ _ _ _ _ _ hl, obs, if_pos hv, good_ok a b c s0 s1 s2 s3 s4 s5 l (by omega) (by omega) f hf, obs]
  ·refine ⟨false, ?_, ?_⟩
   ·unfold m_shards_Good; rw [if_pos h0, if_neg h6]
   ·unfold m_r17_Good; rw [if_pos h0, if_neg h6]
 ·refine ⟨false, ?_, ?_⟩
  ·unfold m_shards_Good; rw [if_neg h0]
  ·unfold m_r17_Good; rw [if_neg h0]
end
def dmgL (g : Nat -> Bool) (n : Nat) : List Int := ilist (sel (fun i => !g i) n)
theorem dmgL_succ (g : Nat -> Bool) (i : Nat) : dmgL g (i + 1) = if g i = true then dmgL g i else dmgL g i ++ [(i : Int)] := by
 unfold dmgL
 rw [sel_succ]
 cases h : g i
 ·simp [ilist]
 ·simp
theorem dmgL_len (g : Nat -> Bool) (n : Nat) : (dmgL g n).length <= n := by unfold dmgL ilist; rw [List.length_map]; exact sel_len _ _
theorem dmgL_nil {g : Nat -> Bool} {n : Nat} : dmgL g n = [] ↔ ∀ i, i < n -> g i = true := by
 unfold dmgL ilist
 rw [List.map_eq_nil_iff, sel, List.filter_eq_nil_iff]
 constructor
 ·intro h i hi
  have := h i (List.mem_range.2 hi)
  simpa using this
 ·intro h i hi
  have := h i (List.mem_range.1 hi)
  simp [this]
theorem mset_new {κ ν : Type} [BEq κ] {m : List (κ × ν)} {k : κ} {v : ν} (h : ∀ p ∈ m, (k == p.1) = false) : mset m k v = m ++ [(k, v)] := by
 induction m with
 | nil => rfl
 | cons p m ih =>
  obtain ⟨a, w⟩ := p
  have h1 := h (a, w) (List.mem_cons_self ..)
  unfold mset
  rw [if_neg (by simpa using h1), ih fun q hq => h q (List.mem_cons_of_mem _ hq)]; rfl
abbrev chk (g : Nat -> Bool) (n : Nat) : List (Int × Bool) := tb n fun i => ((i : Int), g i)
theorem chk_set (g : Nat -> Bool) (i : Nat) : mset (chk g i) (i : Int) (g i) = chk g (i + 1) := by
 rw [mset_new (fun p hp => by
  obtain ⟨j, hj, rfl⟩ := List.mem_map.1 hp
  have := List.mem_range.1 hj
  simp; omega)]
 unfold chk tb
 rw [List.range_succ, List.map_append]; rfl
def bdy : Int × Bool -> List Int -> Option (List Int) := fun x60 => fun x50 =>
 if x60.2 = true then some (x50) else Option.bind (apd 8 x50 ([x60.1] : List (Int))) fun x76 => some (x76)
theorem bdy_fold : ∀ (l : List (Int × Bool)) (acc : List Int), acc.length + l.length <= 1000 -> mfold bdy l acc = some (acc ++ (l.filter fun p => !p.2).map Prod.fst)
 | [], acc, _ => by simp [mfold]
 | p :: l, acc, h => by
  rw [List.length_cons] at h
  unfold mfold
  have e : bdy p acc = some (acc ++ if p.2 = true then [] else [p.1]) := by
   unfold bdy
   by_cases hp : p.2 = true
   ·rw [if_pos hp, if_pos hp, List.append_nil]
   ·rw [if_neg hp, if_neg hp, apd_of (by simp only [List.length_singleton]; omega), obs]
  rw [e, obs, bdy_fold l _ (by rw [List.length_append]; split <;> simp <;> omega), List.append_assoc]
  by_cases hp : p.2 = true
  ·simp [hp]
  ·simp [hp]
theorem le_tr (a b c : Int) : decide (a <= b) = true -> decide (b <= c) = true -> decide (a <= c) = true := fun h1 h2 => by
 have := of_decide_eq_true h1; have := of_decide_eq_true h2; exact decide_eq_true (by omega)
theorem le_to (a b : Int) : (decide (a <= b) || decide (b <= a)) = true := by
 by_cases h : a <= b
 ·simp [h]
 ·simp [show b <= a by omega]
theorem dmgL_sorted (g : Nat -> Bool) (n : Nat) : (dmgL g n).Pairwise fun a b => decide (a <= b) = true := by
 unfold dmgL ilist sel
 rw [List.pairwise_map]
 refine List.Pairwise.imp ?_ (List.Pairwise.filter _ List.pairwise_lt_range)
 intro a b h
 exact decide_eq_true (by omega)
theorem sort_bad (g : Nat -> Bool) (n : Nat) {l : List Int} (h : l.Perm (dmgL g n)) : (l.mergeSort fun x y => decide (x <= y)) = dmgL g n := by
 refine List.Perm.eq_of_pairwise (le := fun a b => decide (a <= b) = true) ?_ (List.pairwise_mergeSort le_tr le_to l) (dmgL_sorted g n) ((List.mergeSort_perm l _).trans h)
 intro a b _ _ h1 h2
 have := of_decide_eq_true h1; have := of_decide_eq_true h2; omega
theorem chk_bad (g : Nat -> Bool) (n : Nat) : ((chk g n).filter fun p => !p.2).map Prod.fst = dmgL g n := by
 unfold chk dmgL ilist sel tb
 rw [List.filter_map, List.map_map]; rfl
theorem damaged_end (g : Nat -> Bool) : m_shards_Head_damaged_j0 (chk g 6) = some (dmgL g 6) := by
 unfold m_shards_Head_damaged_j0
 refine mrangeK_of fun l hl => ?_
 have hlen : l.length = 6 := by rw [hl.length_eq]; exact tb_len _ _
 have e : mfold bdy l [] = some ([] ++ (l.filter fun p => !p.2).map Prod.fst) := bdy_fold l [] (by rw [hlen]; simp)
 refine (congrArg (fun o => Option.bind o _) e).trans ?_
 rw [obs, List.nil_append]
 unfold m_shards_Head_damaged_j2 srt
 have hp : ((l.filter fun p => !p.2).map Prod.fst).Perm (dmgL g 6) := by
  rw [<- chk_bad]; exact ((hl.filter _).map _)
 have h7 := dmgL_len g 6
 rw [if_pos (by rw [hp.length_eq]; omega), obs, sort_bad g 6 hp]
section
variable (a b c : Int) (s0 s1 s2 s3 s4 s5 : BitVec 32) (l : List Item)
abbrev gF (s : List (BitVec 32)) (N : Nat) (F : List Bytes) : Nat -> Bool := fun i => gd s N i (F.getD i [])
theorem damaged_loop {N : Nat} (hN : N <= 1000000) (F : List Bytes) (hF : F.length = 6) (hw : ∀ j, j < 6 -> (F.getD j []).length <= 1000000) (d : Nat) : ∀ (i q : Nat), i + d = 6 -> d < q ->
  m_shards_Head_damaged_l1 a b l c (N : Int) s0 s1 s2 s3 s4 s5 F q (chk (gF [s0, s1, s2, s3, s4, s5] N F) i) (i : Int) = some (dmgL (gF [s0, s1, s2, s3, s4, s5] N F) 6) := by
 induction d with
 | zero =>
  intro i q hi hq
  obtain ⟨q, rfl⟩ : ∃ q', q = q' + 1 := ⟨q - 1, by omega⟩
  unfold m_shards_Head_damaged_l1
  rw [if_neg (by omega), show i = 6 by omega]
  exact damaged_end _
 | succ d ih =>
  intro i q hi hq
  obtain ⟨q, rfl⟩ : ∃ q', q = q' + 1 := ⟨q - 1, by omega⟩
  unfold m_shards_Head_damaged_l1
  rw [if_pos (by omega), idx_nat, List.getElem?_eq_getElem (by omega), obs, show F[i] = F.getD i [] by rw [List.getD_eq_getElem?_getD, List.getElem?_eq_getElem (by omega)]; rfl, good_ok a b c s0 s1 s2 s3 s4 s5 l hN (by omega) _ (hw i (by omega)), obs, ck_of (by omega), obs, show gd [s0, s1, s2, s3, s4, s5] N i (F.getD i []) = gF [s0, s1, s2, s3, s4, s5] N F i from rfl, chk_set]
  exact ih (i + 1) q (by omega) (by omega)
theorem damaged_ok {N : Nat} (hN : N <= 1000000) (F : List Bytes) (hF : F.length = 6) (hw : ∀ j, j < 6 -> (F.getD j []).length <= 1000000) :
  m_shards_Head_damaged a b c (N : Int) s0 s1 s2 s3 s4 s5 l F = some (dmgL (gF [s0, s1, s2, s3, s4, s5] N F) 6) := by
 unfold m_shards_Head_damaged
 exact damaged_loop a b c s0 s1 s2 s3 s4 s5 l hN F hF hw 6 0 forever (by omega) (by unfold forever; omega)
theorem have_step (g : Nat -> Bool) (s : List Nat) (hs : ∀ j ∈ s, j < 6) (hsl : s.length <= 100) : ∀ (d i q : Nat), i + d = s.length -> d < q -> ∀ (F : List Bytes) (N : Int) (k : List Bool -> Option (List Bytes × List Int × Int)), (∀ h, m_shards_Rebuild_j1 a b l c N s0 s1 s2 s3 s4 s5 F (ilist s) h = k h) ->
  m_shards_Rebuild_l2 a b l c N s0 s1 s2 s3 s4 s5 F (ilist s) q (tb 6 fun j => decide (j ∉ s.take i)) (i : Int) = k (tb 6 fun j => decide (j ∉ s)) := by
 intro d
 induction d with
 | zero =>
  intro i q hi hq F N k hk
  obtain ⟨q, rfl⟩ : ∃ q', q = q' + 1 := ⟨q - 1, by omega⟩
  unfold m_shards_Rebuild_l2
  rw [if_neg (by unfold ilist; rw [List.length_map]; omega), hk, List.take_of_length_le (by omega)]
 | succ d ih =>
  intro i q hi hq F N k hk
  obtain ⟨q, rfl⟩ : ∃ q', q = q' + 1 := ⟨q - 1, by omega⟩
  have h1 : i < s.length := by omega
  have h6 : s[i] < 6 := hs _ (List.getElem_mem h1)
  have e1 : idx (ilist s) (i : Int) = some ((s[i] : Nat) : Int) := by unfold ilist; rw [idx_nat, List.getElem?_map, List.getElem?_eq_getElem h1]; rfl
  unfold m_shards_Rebuild_l2
  rw [if_pos (by unfold ilist; rw [List.length_map]; omega), e1, obs, idx_tb h6, obs, upd_tb h6, obs, ck_of (by omega), obs]
  have e2 : tb 6 (st (fun j => decide (j ∉ s.take i)) s[i] false) = tb 6 fun j => decide (j ∉ s.take (i + 1)) := tb_ext fun j hj => by
   rw [List.take_succ_eq_append_getElem h1]
   by_cases h : j = s[i]
   ·rw [h, st_same]; exact (decide_eq_false fun hn => hn (List.mem_append_right _ (List.mem_singleton_self _))).symm
   ·rw [st_ne h]; refine decide_eq_decide.2 ?_; rw [List.mem_append, List.mem_singleton]; simp only [h, or_false]
  rw [e2]
  exact ih (i + 1) q (by omega) (by omega) F N k hk
theorem rhave_loop {N : Nat} (hN : N <= 1000000) (hl : l.length <= 9223372036854775806) (hv : hvalB a b c (N : Int) l = true) (F : List Bytes) (hF : F.length = 6) (hw : ∀ j, j < 6 -> (F.getD j []).length <= 1000000) (d : Nat) : ∀ (i q : Nat), i + d = 6 -> d < q ->
  m_r17_Rebuild_l2 a b l c (N : Int) s0 s1 s2 s3 s4 s5 F q (tb 6 fun j => if j < i then gF [s0, s1, s2, s3, s4, s5] N F j else false) (dmgL (gF [s0, s1, s2, s3, s4, s5] N F) i) (i : Int) =
   m_r17_Rebuild_j1 a b l c (N : Int) s0 s1 s2 s3 s4 s5 F (tb 6 (gF [s0, s1, s2, s3, s4, s5] N F)) (dmgL (gF [s0, s1, s2, s3, s4, s5] N F) 6) := by
 induction d with
 | zero =>
  intro i q hi hq
  obtain ⟨q, rfl⟩ : ∃ q', q = q' + 1 := ⟨q - 1, by omega⟩
  unfold m_r17_Rebuild_l2
  rw [if_neg (by omega), show i = 6 by omega, show (tb 6 fun j => if j < 6 then gF [s0, s1, s2, s3, s4, s5] N F j else false) = tb 6 (gF [s0, s1, s2, s3, s4, s5] N F) from tb_ext fun j hj => if_pos hj]
 | succ d ih =>
  intro i q hi hq
  obtain ⟨q, rfl⟩ : ∃ q', q = q' + 1 := ⟨q - 1, by omega⟩
  have step := ih (i + 1) q (by omega) (by omega)
  have e2 : tb 6 (st (fun j => if j < i then gF [s0, s1, s2, s3, s4, s5] N F j else false) i (gd [s0, s1, s2, s3, s4, s5] N i (F.getD i []))) = tb 6 fun j => if j < i + 1 then gF [s0, s1, s2, s3, s4, s5] N F j else false := tb_ext fun j hj => by
   by_cases h : j = i
   ·subst h; rw [st_same, if_pos (by omega)]
   ·rw [st_ne h]
    by_cases h2 : j < i
    ·rw [if_pos h2, if_pos (by omega)]
    ·rw [if_neg h2, if_neg (by omega)]
  unfold m_r17_Rebuild_l2
  rw [if_pos (by omega), idx_nat, List.getElem?_eq_getElem (by omega), obs, show F[i] = F.getD i [] by rw [List.getD_eq_getElem?_getD, List.getElem?_eq_getElem (by omega)]; rfl,
   rgood_ok a b c s0 s1 s2 s3 s4 s5 l hN (by omega) _ (hw i (by omega)) hl hv, obs, idx_tb (by omega), obs, upd_tb (by omega), obs, e2, idx_tb (by omega), obs, if_pos (show i < i + 1 by omega)]
  rw [dmgL_succ] at step
  by_cases h : gF [s0, s1, s2, s3, s4, s5] N F i = true
  ·rw [if_pos h, ck_of (by omega), obs]
   rw [if_pos h] at step
   exact step
  ·rw [if_neg h, apd_of (by have := dmgL_len (gF [s0, s1, s2, s3, s4, s5] N F) i; simp only [List.length_singleton]; omega), obs, ck_of (by omega), obs]
   rw [if_neg h] at step
   exact step
theorem rcheck_loop {N : Nat} (hN : N <= 1000000) (hl : l.length <= 9223372036854775806) (hv : hvalB a b c (N : Int) l = true) (R : List Bytes) (bad : List Int) (hR : R.length = 6) (hw : ∀ j, j < 6 -> (R.getD j []).length <= 1000000) (d : Nat) : ∀ (i q : Nat), i + d = 6 -> d < q -> (∀ j, j < i -> gF [s0, s1, s2, s3, s4, s5] N R j = true) ->
  m_r17_Rebuild_l4 a b l c (N : Int) s0 s1 s2 s3 s4 s5 bad (R, 0) q (i : Int) = some (if dmgL (gF [s0, s1, s2, s3, s4, s5] N R) 6 = [] then (R, bad, 0) else ([], [], 5)) := by
 induction d with
 | zero =>
  intro i q hi hq hg
  obtain ⟨q, rfl⟩ : ∃ q', q = q' + 1 := ⟨q - 1, by omega⟩
  unfold m_r17_Rebuild_l4
  rw [if_neg (by omega), if_pos (dmgL_nil.2 fun j hj => hg j (by omega))]; rfl
 | succ d ih =>
  intro i q hi hq hg
  obtain ⟨q, rfl⟩ : ∃ q', q = q' + 1 := ⟨q - 1, by omega⟩
  unfold m_r17_Rebuild_l4
  rw [if_pos (by omega)]
  show Option.bind (idx R (i : Int)) _ = _
  rw [idx_nat, List.getElem?_eq_getElem (by omega), obs, show R[i] = R.getD i [] by rw [List.getD_eq_getElem?_getD, List.getElem?_eq_getElem (by omega)]; rfl,
   rgood_ok a b c s0 s1 s2 s3 s4 s5 l hN (by omega) _ (hw i (by omega)) hl hv, obs]
  by_cases h : gd [s0, s1, s2, s3, s4, s5] N i (R.getD i []) = true
  ·rw [if_pos h, ck_of (by omega), obs]
   exact ih (i + 1) q (by omega) (by omega) fun j hj => by
    by_cases e : j = i
    ·rw [e]; exact h
    ·exact hg j (by omega)
  ·rw [if_neg h, if_neg fun e => h (dmgL_nil.1 e i (by omega))]
theorem rebuild_six {N : Nat} (hN : N <= 1000000) (hl : l.length <= 9223372036854775806) (hv : hvalB a b c (N : Int) l = true) (F : List Bytes) (hF : F.length = 6) (hw : ∀ j, j < 6 -> (F.getD j []).length <= 1000) :
  ∃ r, m_shards_Rebuild a b c (N : Int) s0 s1 s2 s3 s4 s5 l F = some r /\ m_r17_Rebuild a b c (N : Int) s0 s1 s2 s3 s4 s5 l F = some r /\ r.1.length <= 6 /\ r.2.1.length <= 6 /\
   (if (sel (gF [s0, s1, s2, s3, s4, s5] N F) 6).length < 4 then r = ([], [], 11) else
    ∀ C, IsCode C -> ∃ Q, Inverse 4 (fun i k => C (((sel (gF [s0, s1, s2, s3, s4, s5] N F) 6).take 4).getD i 0) k) Q /\
     r = if dmgL (gF [s0, s1, s2, s3, s4, s5] N (rsto C Q F (fun t => ((sel (gF [s0, s1, s2, s3, s4, s5] N F) 6).take 4).getD t 0) (ssz N))) 6 = [] then (rsto C Q F (fun t => ((sel (gF [s0, s1, s2, s3, s4, s5] N F) 6).take 4).getD t 0) (ssz N), dmgL (gF [s0, s1, s2, s3, s4, s5] N F) 6, 0) else ([], [], 5)) := by
 have hw6 : ∀ j, j < 6 -> (F.getD j []).length <= 1000000 := fun j hj => Nat.le_trans (hw j hj) (by omega)
 have hsel : sel (hb (tb 6 (gF [s0, s1, s2, s3, s4, s5] N F))) 6 = sel (gF [s0, s1, s2, s3, s4, s5] N F) 6 := hb_tb
 have hgl : ∀ j ∈ sel (gF [s0, s1, s2, s3, s4, s5] N F) 6, (F.getD j []).length = ssz N := fun j hj => by
  have := (sel_mem.1 hj).2
  unfold gF gd at this
  rw [Bool.and_eq_true] at this
  exact of_decide_eq_true this.1
 have hsame : Same F (sel (hb (tb 6 (gF [s0, s1, s2, s3, s4, s5] N F))) 6) := by
  rw [hsel]
  intro j hj
  rw [hgl j hj]
  cases hs : sel (gF [s0, s1, s2, s3, s4, s5] N F) 6 with
  | nil => rw [hs] at hj; cases hj
  | cons z zs => exact (hgl z (by rw [hs]; exact List.mem_cons_self ..)).symm
 have hp : ∀ k : List Bool -> Option (List Bytes × List Int × Int), (∀ h, m_shards_Rebuild_j1 a b l c (N : Int) s0 s1 s2 s3 s4 s5 F (dmgL (gF [s0, s1, s2, s3, s4, s5] N F) 6) h = k h) -> m_shards_Rebuild a b c (N : Int) s0 s1 s2 s3 s4 s5 l F = k (tb 6 (gF [s0, s1, s2, s3, s4, s5] N F)) := by
  intro k hk
  unfold m_shards_Rebuild
  rw [shards_Valid_eq _ _ _ _ _ _ _ _ _ _ _ hl, obs, if_pos hv, if_pos (by omega)]
  unfold m_shards_Rebuild_j0
  rw [damaged_ok a b c s0 s1 s2 s3 s4 s5 l hN F hF hw6, obs]
  have e0 : ([true, true, true, true, true, true] : List Bool) = tb 6 fun j => decide (j ∉ (sel (fun i => !gF [s0, s1, s2, s3, s4, s5] N F i) 6).take 0) := by
   rw [List.take_zero]; rfl
  have e1 : (tb 6 fun j => decide (j ∉ sel (fun i => !gF [s0, s1, s2, s3, s4, s5] N F i) 6)) = tb 6 (gF [s0, s1, s2, s3, s4, s5] N F) := tb_ext fun j hj => by
   cases hg : gF [s0, s1, s2, s3, s4, s5] N F j
   ·exact decide_eq_false fun h => h (sel_mem.2 ⟨hj, by rw [hg]; rfl⟩)
   ·exact decide_eq_true fun h => by have := (sel_mem.1 h).2; rw [hg] at this; cases this
  rw [e0, <- e1]
  have hs6 := sel_len (fun i => !gF [s0, s1, s2, s3, s4, s5] N F i) 6
  exact have_step a b c s0 s1 s2 s3 s4 s5 l (gF [s0, s1, s2, s3, s4, s5] N F) (sel (fun i => !gF [s0, s1, s2, s3, s4, s5] N F i) 6) (fun j hj => (sel_mem.1 hj).1) (by omega) _ 0 forever (Nat.zero_add _) (by unfold forever; omega) F (N : Int) k hk
 have hr : m_r17_Rebuild a b c (N : Int) s0 s1 s2 s3 s4 s5 l F = m_r17_Rebuild_j1 a b l c (N : Int) s0 s1 s2 s3 s4 s5 F (tb 6 (gF [s0, s1, s2, s3, s4, s5] N F)) (dmgL (gF [s0, s1, s2, s3, s4, s5] N F) 6) := by
  unfold m_r17_Rebuild
  rw [r17_Valid_eq _ _ _ _ _ _ _ _ _ _ _ hl, obs, if_pos hv, if_pos (by omega)]
  unfold m_r17_Rebuild_j0
  rw [show mks 1 (6 : Int) false = some (tb 6 fun j => if j < 0 then gF [s0, s1, s2, s3, s4, s5] N F j else false) from (mks_tb (n := 6) (by omega) (by omega)).trans (congrArg some (tb_ext fun j _ => (if_neg (by omega)).symm)), obs]
  exact rhave_loop a b c s0 s1 s2 s3 s4 s5 l hN hl hv F hF hw6 6 0 forever (by omega) (by unfold forever; omega)
 have h6 := dmgL_len (gF [s0, s1, s2, s3, s4, s5] N F) 6
 by_cases h4 : (sel (gF [s0, s1, s2, s3, s4, s5] N F) 6).length < 4
 ·obtain ⟨q1, q2⟩ := restore_few F (tb 6 (gF [s0, s1, s2, s3, s4, s5] N F)) hF (tb_len _ _) hsame (by rw [hsel]; exact h4)
  refine ⟨([], [], 11), ?_, ?_, by simp, by simp, by rw [if_pos h4]⟩
  ·rw [hp _ fun h => rfl]; unfold m_shards_Rebuild_j1; rw [q1, obs, if_neg (by decide)]
  ·rw [hr]; unfold m_r17_Rebuild_j1; rw [q2, obs, if_neg (by decide)]
 ·have hne : sel (gF [s0, s1, s2, s3, s4, s5] N F) 6 ≠ [] := fun e => by rw [e] at h4; simp at h4
  obtain ⟨z, zs, hz⟩ := List.exists_cons_of_ne_nil hne
  have hz6 : z ∈ sel (gF [s0, s1, s2, s3, s4, s5] N F) 6 := by rw [hz]; exact List.mem_cons_self ..
  have hwN : ssz N <= 1000 := by rw [<- hgl z hz6]; exact hw z (sel_mem.1 hz6).1
  have fin : ∀ R : List Bytes, R.length = 6 -> (∀ j, j < 6 -> (R.getD j []).length <= 1000000) -> m_rs_Restore F (tb 6 (gF [s0, s1, s2, s3, s4, s5] N F)) = some (R, 0) -> m_r04_Restore F (tb 6 (gF [s0, s1, s2, s3, s4, s5] N F)) = some (R, 0) ->
    m_shards_Rebuild a b c (N : Int) s0 s1 s2 s3 s4 s5 l F = some (if dmgL (gF [s0, s1, s2, s3, s4, s5] N R) 6 = [] then (R, dmgL (gF [s0, s1, s2, s3, s4, s5] N F) 6, 0) else ([], [], 5)) /\
    m_r17_Rebuild a b c (N : Int) s0 s1 s2 s3 s4 s5 l F = some (if dmgL (gF [s0, s1, s2, s3, s4, s5] N R) 6 = [] then (R, dmgL (gF [s0, s1, s2, s3, s4, s5] N F) 6, 0) else ([], [], 5)) := by
   intro R hRl hRw q2 q3
   refine ⟨?_, ?_⟩
   ·rw [hp _ fun h => rfl]; unfold m_shards_Rebuild_j1
    rw [q2, obs, if_pos rfl]
    show Option.bind (m_shards_Head_damaged a b c (N : Int) s0 s1 s2 s3 s4 s5 l R) _ = _
    rw [damaged_ok a b c s0 s1 s2 s3 s4 s5 l hN R hRl hRw, obs]
    by_cases hd : dmgL (gF [s0, s1, s2, s3, s4, s5] N R) 6 = []
    ·rw [if_pos hd, if_neg (by rw [hd]; simp)]
    ·rw [if_neg hd, if_pos (by have := List.length_pos_iff.2 hd; omega)]
   ·rw [hr]; unfold m_r17_Rebuild_j1
    rw [q3, obs, if_pos rfl]
    exact rcheck_loop a b c s0 s1 s2 s3 s4 s5 l hN hl hv R (dmgL (gF [s0, s1, s2, s3, s4, s5] N F) 6) hRl hRw 6 0 forever (by omega) (by unfold forever; omega) (fun j hj => by omega)
  have key : ∀ C, IsCode C -> ∃ Q, Inverse 4 (fun i k => C (((sel (gF [s0, s1, s2, s3, s4, s5] N F) 6).take 4).getD i 0) k) Q /\
    m_shards_Rebuild a b c (N : Int) s0 s1 s2 s3 s4 s5 l F = some (if dmgL (gF [s0, s1, s2, s3, s4, s5] N (rsto C Q F (fun t => ((sel (gF [s0, s1, s2, s3, s4, s5] N F) 6).take 4).getD t 0) (ssz N))) 6 = [] then (rsto C Q F (fun t => ((sel (gF [s0, s1, s2, s3, s4, s5] N F) 6).take 4).getD t 0) (ssz N), dmgL (gF [s0, s1, s2, s3, s4, s5] N F) 6, 0) else ([], [], 5)) /\
    m_r17_Rebuild a b c (N : Int) s0 s1 s2 s3 s4 s5 l F = some (if dmgL (gF [s0, s1, s2, s3, s4, s5] N (rsto C Q F (fun t => ((sel (gF [s0, s1, s2, s3, s4, s5] N F) 6).take 4).getD t 0) (ssz N))) 6 = [] then (rsto C Q F (fun t => ((sel (gF [s0, s1, s2, s3, s4, s5] N F) 6).take 4).getD t 0) (ssz N), dmgL (gF [s0, s1, s2, s3, s4, s5] N F) 6, 0) else ([], [], 5)) := by
   intro C hC
   obtain ⟨Q, q1, _, q2, q3⟩ := restore_ok hC F (tb 6 (gF [s0, s1, s2, s3, s4, s5] N F)) hF (tb_len _ _) hsame (by rw [hsel]; omega) (ssz N) (by rw [hsel]; exact hgl) hwN
   rw [hsel] at q1 q2 q3
   exact ⟨Q, q1, fin _ (tb_len _ _) (fun j hj => by unfold rsto; rw [getD_tb hj, tb_len]; omega) q2 q3⟩
  obtain ⟨C0, hC0⟩ := code_ex
  obtain ⟨Q0, p1, p2, p3⟩ := key C0 hC0
  refine ⟨_, p2, p3, ?_, ?_, ?_⟩
  ·split
   ·exact Nat.le_of_eq (tb_len _ _)
   ·simp
  ·split
   ·exact h6
   ·simp
  ·rw [if_neg h4]
   intro C hC
   obtain ⟨Q, t1, t2, _⟩ := key C hC
   exact ⟨Q, t1, Option.some.inj (p2.symm.trans t2)⟩
theorem rebuild_eq (n : Int) (hl : l.length <= 9223372036854775806) (F : List Bytes) (hw : ∀ j, j < F.length -> (F.getD j []).length <= 1000) :
  ∃ r, m_shards_Rebuild a b c n s0 s1 s2 s3 s4 s5 l F = some r /\ m_r17_Rebuild a b c n s0 s1 s2 s3 s4 s5 l F = some r /\ r.1.length <= 6 /\ r.2.1.length <= 6 := by
 cases hv : hvalB a b c n l
 ·refine ⟨([], [], 1), ?_, ?_, by simp, by simp⟩
  ·unfold m_shards_Rebuild; rw [shards_Valid_eq _ _ _ _ _ _ _ _ _ _ _ hl, obs, if_neg (by rw [hv]; simp)]
  ·unfold m_r17_Rebuild; rw [r17_Valid_eq _ _ _ _ _ _ _ _ _ _ _ hl, obs, if_neg (by rw [hv]; simp)]
 ·by_cases h6 : F.length = 6
  ·have hn := hvalB_len hv
   obtain ⟨N, rfl⟩ : ∃ N : Nat, n = (N : Int) := ⟨n.toNat, by omega⟩
   obtain ⟨r, r1, r2, r3, r4, _⟩ := rebuild_six a b c s0 s1 s2 s3 s4 s5 l (N := N) (by omega) hl hv F h6 (fun j hj => hw j (by omega))
   exact ⟨r, r1, r2, r3, r4⟩
  ·refine ⟨([], [], 1), ?_, ?_, by simp, by simp⟩
   ·unfold m_shards_Rebuild; rw [shards_Valid_eq _ _ _ _ _ _ _ _ _ _ _ hl, obs, if_pos hv, if_neg (by omega)]
   ·unfold m_r17_Rebuild; rw [r17_Valid_eq _ _ _ _ _ _ _ _ _ _ _ hl, obs, if_pos hv, if_neg (by omega)]
end
theorem hd7_ex : ∃ c, crcSum hd7 = c := ⟨_, rfl⟩
theorem rebuild_nil (a b c n : Int) (s0 s1 s2 s3 s4 s5 : BitVec 32) (l : List Item) (hl : l.length <= 9223372036854775806) : m_shards_Rebuild a b c n s0 s1 s2 s3 s4 s5 l [] = some ([], [], 1) := by
 unfold m_shards_Rebuild
 rw [shards_Valid_eq _ _ _ _ _ _ _ _ _ _ _ hl, obs]
 by_cases hv : hvalB a b c n l = true
 ·rw [if_pos hv, if_neg (by simp)]
 ·rw [if_neg hv]
theorem rebuild_gone (a b c : Int) (N : Nat) (s0 s1 s2 s3 s4 s5 : BitVec 32) (l : List Item) (hN : 0 < N /\ N <= 1000000) (hl : l.length <= 9223372036854775806) (hv : hvalB a b c (N : Int) l = true) : m_shards_Rebuild a b c (N : Int) s0 s1 s2 s3 s4 s5 l (List.replicate 6 []) = some ([], [], 11) := by
 have hz : ∀ j, j < 6 -> (List.replicate 6 ([] : Bytes)).getD j [] = [] := fun j hj => by
  rw [List.getD_eq_getElem?_getD, List.getElem?_replicate, if_pos hj]; rfl
 obtain ⟨r, h1, _, _, _, h2⟩ := rebuild_six a b c s0 s1 s2 s3 s4 s5 l hN.2 hl hv (List.replicate 6 []) (by simp) (fun j hj => by rw [hz j hj]; simp)
 have hs : sel (gF [s0, s1, s2, s3, s4, s5] N (List.replicate 6 [])) 6 = [] := by
  unfold sel
  refine List.filter_eq_nil_iff.2 fun j hj => ?_
  have hj6 := List.mem_range.1 hj
  unfold gF gd
  rw [hz j hj6, decide_eq_false (by simp only [List.length_nil]; unfold ssz; omega)]; simp
 rw [hs, if_pos (by simp)] at h2
 rw [h1, h2]
theorem awake_ok : m_law17_awake = some true := by
 obtain ⟨c, hc⟩ := hd7_ex
 obtain ⟨C, hC⟩ := code_ex
 have hg : Gen c (nsF [] 12) := nsF_gen hc [] (by omega)
 have e0 : nsF [] 12 = [] := rfl
 rw [e0] at hg
 have e1 : itemsOf [] = [] := rfl
 have hl : (datOf c []).length = 16 := by rw [datOf_len]; rfl
 have hm := pmake hC (datOf c []) hg.len.2 1 2 3 [] (by simp) (by have := hg.valid; rw [e1] at this; exact this)
 have hv : hvalB 1 2 3 ((16 : Nat) : Int) [] = true := by have := hg.valid; rw [e1, hl] at this; exact this
 have hs : (shardsOf C (datOf c [])).length = 6 := shardsOf_len _ _
 have h64 : ((shardsOf C (datOf c [])).getD 0 []).length = 64 := by rw [shard_len _ _ (by omega), hl]; rfl
 unfold m_law17_awake
 rw [file_ok hc, e0, obs]
 show Option.bind (m_shards_Make (datOf c []) 1 2 3 []) _ = _
 rw [hm, obs]
 dsimp only
 rw [rebuild_nil _ _ _ _ _ _ _ _ _ _ _ (by simp), obs, mks_of (by simp), obs, hl, show ((6 : Int)).toNat = 6 from rfl, rebuild_gone 1 2 3 16 _ _ _ _ _ _ [] (by omega) (by simp) hv, obs, if_pos rfl, if_pos (by rw [hs]; rfl)]
 rw [show idx (shardsOf C (datOf c [])) (0 : Int) = some ((shardsOf C (datOf c [])).getD 0 []) from idx_getD (i := 0) [] (by omega), obs, if_pos (by rw [h64]; rfl), if_pos rfl]
 rfl
end Go.Proofs.YthjnhlmfcejhkaaGreat
