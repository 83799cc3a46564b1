/- A part of the proof. Conditions: as each theorem says. -/
import Derived.Test.YthjnhlmfcejhkaaGreatTn
import Derived.Test.YthjnhlmfcejhkaaGreatMds5
namespace Go.Proofs.YthjnhlmfcejhkaaGreat
set_option linter.unusedVariables false
set_option linter.unusedSimpArgs false
set_option maxRecDepth 10000
theorem sub_mid {E p q r : List (BitVec 8)} (h : E = p ++ (q ++ r)) {lo k : Nat} (hp : p.length = lo) (hq : q.length = k) : sub E lo k = q := by
 subst h; unfold sub; rw [drop_app hp, take_app hq]
theorem val_beN (k : Nat) (v : BitVec 64) (h : v.toNat < 2 ^ (8 * k)) : val (be k v) = v := by
 apply BitVec.eq_of_getLsbD_eq
 intro i hi
 rw [val, valF_bit v k 0#64 i hi]
 split
 ·rfl
 ·rw [BitVec.getLsbD_zero, eq_comm]
  rw [BitVec.getLsbD, Nat.testBit_lt_two_pow]
  exact Nat.lt_of_lt_of_le h (Nat.pow_le_pow_right (by omega) (by omega))
theorem int_be (k : Nat) {z : Int} (h0 : 0 <= z) (h1 : z < 9223372036854775808) (h : z.toNat < 2 ^ (8 * k)) : (val (be k (BitVec.ofInt 64 z))).toInt = z := by
 obtain ⟨m, rfl⟩ : ∃ m : Nat, z = (m : Int) := ⟨z.toNat, by omega⟩
 have e : (BitVec.ofInt 64 (m : Int)).toNat = m := by rw [BitVec.ofInt_natCast, BitVec.toNat_ofNat]; exact Nat.mod_eq_of_lt (by omega)
 rw [val_beN k _ (by rw [e]; simpa using h), BitVec.toInt_eq_toNat_cond, e, if_pos (by omega)]
theorem fld_mid {E p r : List (BitVec 8)} {k : Nat} {z : Int} (h : E = p ++ (be k (BitVec.ofInt 64 z) ++ r)) {lo : Nat} (hp : p.length = lo) (h0 : 0 <= z) (h1 : z < 9223372036854775808) (h2 : z.toNat < 2 ^ (8 * k)) : fld E lo k = z := by
 unfold fld; rw [sub_mid h hp (be_length _ _), int_be k h0 h1 h2]
theorem smD_mid {E p r : List (BitVec 8)} {s : BitVec 32} (h : E = p ++ (be 4 (s.setWidth 64) ++ r)) {i : Nat} (hp : p.length = 20 + 4 * i) : smD E i = s := by
 unfold smD; rw [sub_mid h hp (be_length _ _), be_32]
theorem decI_mid {E p r : List (BitVec 8)} {x : Item} (h : E = p ++ (encI x ++ r)) {lo : Nat} (hp : p.length = lo) (hv : vItem x) : decI E lo = x /\ sub E lo 20 = itB x /\ sub E (lo + 20) 4 = le4 (crcSum (itB x)) := by
 unfold vItem at hv
 have s : ∀ {a : Nat} {p' q r' : List (BitVec 8)}, encI x = p' ++ (q ++ r') -> ∀ {k : Nat}, p'.length = a -> q.length = k -> sub E (lo + a) k = q := fun {a p' q r'} he {k} h1 h2 =>
  sub_mid (p := p ++ p') (r := r' ++ r) (by rw [h, he]; simp only [List.append_assoc]) (by rw [List.length_append]; omega) h2
 have a1 : sub E lo 8 = be 8 x.fKey := s (a := 0) (p' := []) (r' := be 4 (x.fCookie.setWidth 64) ++ be 4 (BitVec.ofInt 64 x.fOff) ++ be 4 (BitVec.ofInt 64 x.fSize) ++ le4 (crcSum (itB x))) (by simp only [encI, itB, List.append_assoc, List.nil_append]) rfl (be_length _ _)
 have a2 : sub E (lo + 8) 4 = be 4 (x.fCookie.setWidth 64) := s (p' := be 8 x.fKey) (r' := be 4 (BitVec.ofInt 64 x.fOff) ++ be 4 (BitVec.ofInt 64 x.fSize) ++ le4 (crcSum (itB x))) (by simp only [encI, itB, List.append_assoc]) (be_length _ _) (be_length _ _)
 have a3 : sub E (lo + 12) 4 = be 4 (BitVec.ofInt 64 x.fOff) := s (p' := be 8 x.fKey ++ be 4 (x.fCookie.setWidth 64)) (r' := be 4 (BitVec.ofInt 64 x.fSize) ++ le4 (crcSum (itB x))) (by simp only [encI, itB, List.append_assoc]) (by rw [List.length_append, be_length, be_length]) (be_length _ _)
 have a4 : sub E (lo + 16) 4 = be 4 (BitVec.ofInt 64 x.fSize) := s (p' := be 8 x.fKey ++ be 4 (x.fCookie.setWidth 64) ++ be 4 (BitVec.ofInt 64 x.fOff)) (r' := le4 (crcSum (itB x))) (by simp only [encI, itB, List.append_assoc]) (by simp only [List.length_append, be_length]) (be_length _ _)
 refine ⟨?_, s (a := 0) (p' := []) (r' := le4 (crcSum (itB x))) (by rw [List.nil_append]; rfl) rfl (itB_len x), s (p' := itB x) (r' := []) (by rw [List.append_nil]; rfl) (itB_len x) (le4_len _)⟩
 unfold decI
 rw [a1, a2, a3, a4, val_be8, be_32, int_be 4 (by omega) (by omega) (by omega), int_be 4 (by omega) (by omega) (by omega)]
theorem decL_enc (L : List Item) (hv : ivalB L = true) : ∀ (d i : Nat), i <= L.length -> (encIs L).length <= 24 * i + d -> decL (encIs L) d (24 * i) (L.take i) = (L, 0)
 | 0, i, hi, hd => by
  rw [encIs_len] at hd
  unfold decL
  rw [List.take_of_length_le (by omega), if_pos hv]
 | d + 1, i, hi, hd => by
  have hE := encIs_len L
  unfold decL
  by_cases h : i < L.length
  ·have hx := ivalB_all hv L[i] (List.getElem_mem h)
   have e : encIs L = encIs (L.take i) ++ (encI L[i] ++ encIs (L.drop (i + 1))) := by
    conv => lhs; rw [<- List.take_append_drop i L, List.drop_eq_getElem_cons h]
    unfold encIs
    rw [List.flatMap_append, List.flatMap_cons]
   obtain ⟨m1, m2, m3⟩ := decI_mid e (lo := 24 * i) (by rw [encIs_len, List.length_take]; omega) hx
   rw [if_pos (by omega), if_neg (by omega), m2, m3, if_pos rfl, m1, <- List.take_succ_eq_append_getElem h, show 24 * i + 24 = 24 * (i + 1) by omega]
   exact decL_enc L hv d (i + 1) (by omega) (by omega)
  ·rw [if_neg (by omega), List.take_of_length_le (by omega), if_pos hv]
theorem decIs_enc (L : List Item) (hv : ivalB L = true) : decIs (encIs L) = (L, 0) := decL_enc L hv _ 0 (by omega) (by omega)
section
variable (a b c n : Int) (s0 s1 s2 s3 s4 s5 : BitVec 32) (l : List Item)
theorem decH_enc (hl : l.length <= 1000) (hv : hvalB a b c n l = true) : decH (encH a b c n [s0, s1, s2, s3, s4, s5] l) = (a, b, c, n, s0, s1, s2, s3, s4, s5, l, 0) := by
 have hs := hvalB_sval hv
 have hn := hvalB_len hv
 have hL := encH_len a b c n s0 s1 s2 s3 s4 s5 l
 have hB := bodyB_len a b c n s0 s1 s2 s3 s4 s5 l
 have lm : mgc.length = 4 := rfl
 have e0 : encH a b c n [s0, s1, s2, s3, s4, s5] l = mgc ++ (be 2 (BitVec.ofInt 64 a) ++ (be 2 (BitVec.ofInt 64 b) ++ (be 4 (BitVec.ofInt 64 c) ++ (be 8 (BitVec.ofInt 64 n) ++ (be 4 (s0.setWidth 64) ++ (be 4 (s1.setWidth 64) ++ (be 4 (s2.setWidth 64) ++ (be 4 (s3.setWidth 64) ++ (be 4 (s4.setWidth 64) ++ (be 4 (s5.setWidth 64) ++ (be 4 (BitVec.ofInt 64 (l.length : Int)) ++ (encIs l ++ le4 (crcSum (bodyB a b c n [s0, s1, s2, s3, s4, s5] l)))))))))))))) := by
  unfold encH
  conv => lhs; arg 1; unfold bodyB hdB smB
  simp only [List.flatMap_cons, List.flatMap_nil, List.append_assoc, List.append_nil, List.nil_append]
 have eB : encH a b c n [s0, s1, s2, s3, s4, s5] l = [] ++ (bodyB a b c n [s0, s1, s2, s3, s4, s5] l ++ le4 (crcSum (bodyB a b c n [s0, s1, s2, s3, s4, s5] l))) := rfl
 have eC : encH a b c n [s0, s1, s2, s3, s4, s5] l = bodyB a b c n [s0, s1, s2, s3, s4, s5] l ++ (le4 (crcSum (bodyB a b c n [s0, s1, s2, s3, s4, s5] l)) ++ []) := by rw [List.append_nil]; rfl
 revert hL e0 eB eC
 generalize encH a b c n [s0, s1, s2, s3, s4, s5] l = E
 generalize bodyB a b c n [s0, s1, s2, s3, s4, s5] l = B at hB
 generalize hK : le4 (crcSum B) = K
 intro hL e0 eB eC
 have lK : K.length = 4 := by rw [<- hK]; rfl
 have p1 : sub E 0 4 = mgc := sub_mid (p := []) e0 rfl lm
 have f1 : fld E 4 2 = a := fld_mid e0 lm (by omega) (by omega) (by omega)
 have as := fun (x y z : List (BitVec 8)) => (List.append_assoc x y z).symm
 have e1 := e0.trans (as _ _ _)
 have f2 : fld E 6 2 = b := fld_mid e1 (by simp only [List.length_append, be_length, lm]) (by omega) (by omega) (by omega)
 have e2 := e1.trans (as _ _ _)
 have f3 : fld E 8 4 = c := fld_mid e2 (by simp only [List.length_append, be_length, lm]) (by omega) (by omega) (by omega)
 have e3 := e2.trans (as _ _ _)
 have f4 : fld E 12 8 = n := fld_mid e3 (by simp only [List.length_append, be_length, lm]) (by omega) (by omega) (by omega)
 have d0 := e3.trans (as _ _ _)
 have g0 : smD E 0 = s0 := smD_mid d0 (by simp only [List.length_append, be_length, lm])
 have d1 := d0.trans (as _ _ _)
 have g1 : smD E 1 = s1 := smD_mid d1 (by simp only [List.length_append, be_length, lm])
 have d2 := d1.trans (as _ _ _)
 have g2 : smD E 2 = s2 := smD_mid d2 (by simp only [List.length_append, be_length, lm])
 have d3 := d2.trans (as _ _ _)
 have g3 : smD E 3 = s3 := smD_mid d3 (by simp only [List.length_append, be_length, lm])
 have d4 := d3.trans (as _ _ _)
 have g4 : smD E 4 = s4 := smD_mid d4 (by simp only [List.length_append, be_length, lm])
 have d5 := d4.trans (as _ _ _)
 have g5 : smD E 5 = s5 := smD_mid d5 (by simp only [List.length_append, be_length, lm])
 have d6 := d5.trans (as _ _ _)
 have f5 : fld E 44 4 = (l.length : Int) := fld_mid d6 (by simp only [List.length_append, be_length, lm]) (by omega) (by omega) (by omega)
 have p2 : sub E 48 (E.length - 4 - 48) = encIs l := sub_mid (d6.trans (as _ _ _)) (by simp only [List.length_append, be_length, lm]) (by rw [encIs_len]; omega)
 have p3 : sub E 0 (E.length - 4) = B := sub_mid eB rfl (by omega)
 have p4 : sub E (E.length - 4) 4 = K := sub_mid eC (by omega) lK
 unfold decH
 rw [if_neg (by omega), if_neg (fun h => h p1), f5, if_neg (by omega), if_neg (by omega), p3, p4, hK, if_neg (fun h => h rfl), p2, decIs_enc l (hvalB_ival hv), if_neg (fun h => h rfl), f1, f2, f3, f4, if_pos hv, g0, g1, g2, g3, g4, g5]
end
theorem ok_ShardsBack (ns : List Nd) : m_law17_ShardsBack ns = some true := by
 unfold m_law17_ShardsBack
 obtain ⟨c, hc⟩ := hd7_ex
 obtain ⟨C, hC⟩ := code_ex
 have hg : Gen c (nsF ns 12) := nsF_gen hc ns (by omega)
 have hgi := hg.itemsLen
 have hgl := hg.len
 rw [file_ok hc, obs]
 dsimp only
 rw [make_eq (datOf c (nsF ns 12)) hg.len.2 1 2 3 (itemsOf (nsF ns 12)) (by omega), r17_make hC (datOf c (nsF ns 12)) hg.len.2 1 2 3 (itemsOf (nsF ns 12)) (by omega) hg.valid, obs]
 dsimp only
 rw [shards_Encode_ok _ _ _ _ _ _ _ _ _ _ _ (by omega) hg.valid, obs]
 dsimp only
 rw [shards_Decode_eq _ (by rw [encH_len]; omega), obs, decH_enc _ _ _ _ _ _ _ _ _ _ _ (by omega) hg.valid]
 dsimp only
 rw [pjoin_ok (datOf c (nsF ns 12)) (by omega) (shardsOf C (datOf c (nsF ns 12))) (shardsOf_len _ _) (fun j hj => by
  have h := shard_low hC (datOf c (nsF ns 12)) hj
  have h6 : j < (shardsOf C (datOf c (nsF ns 12))).length := by rw [shardsOf_len]; omega
  rw [List.getD_eq_getElem?_getD, List.getElem?_eq_getElem h6] at h
  rw [List.getElem?_eq_getElem h6, <- h]; rfl), obs]
 dsimp only
 rw [if_pos rfl, if_pos rfl, if_pos rfl, if_pos rfl, ck_of (by omega), obs, ck_of (by omega), obs, encH_len, if_pos (by omega), m_law17_told, obs, obs]
 dsimp only
 rw [same17_refl _ _ _ _ _ _ _ _ _ _ _ (by omega), obs, if_pos rfl, if_pos rfl]
 have hv := (verify_word hC (sD (datOf c (nsF ns 12))) hg.wid).2
 rw [show m_rs_Verify (shardsOf C (datOf c (nsF ns 12))) = some true from hv, obs, if_pos rfl, awake_ok]; rfl
end Go.Proofs.YthjnhlmfcejhkaaGreat
