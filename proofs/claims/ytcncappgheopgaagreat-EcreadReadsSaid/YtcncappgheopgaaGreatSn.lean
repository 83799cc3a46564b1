/- A part of the proof. Conditions: as each theorem says. -/
import Derived.Test.YtcncappgheopgaaGreatSg
import Derived.Test.YtcncappgheopgaaGreatSi
import Derived.Test.YtcncappgheopgaaGreatMdm1
namespace Go.Proofs.YtcncappgheopgaaGreat
set_option linter.unusedVariables false
set_option linter.unusedSimpArgs false
theorem andi_maskN (z : Int) (k : Nat) (hk : k < 9223372036854775808) : ∃ m : Nat, m <= k /\ andi z (k : Int) = (m : Int) := by
 unfold andi
 rw [BitVec.ofInt_natCast]
 have h1 : (BitVec.ofInt 64 z &&& BitVec.ofNat 64 k).toNat <= k := by
  rw [BitVec.toNat_and, BitVec.toNat_ofNat, Nat.mod_eq_of_lt (by omega)]
  exact Nat.and_le_right
 exact ⟨_, h1, BitVec.toInt_eq_toNat_of_lt (by omega)⟩
theorem light_loop (files : List Bytes) (items : List Item) (hl : files.length <= 9223372036854775807) (d : Nat) : ∀ (i q : Nat), i + d = files.length -> d < q -> ∃ v, m_law18_light_l1 files items q (i : Int) = some v /\ (v = true -> items.length <= 30) := by
 induction d with
 | zero =>
  intro i q hi hq
  obtain ⟨q, rfl⟩ := sucq hq
  unfold m_law18_light_l1 m_law18_light_j0
  rw [if_neg (by omega)]
  by_cases h : (files.length : Int) <= 8
  ·rw [if_pos h]; exact ⟨_, rfl, fun e => by have := of_decide_eq_true e; omega⟩
  ·rw [if_neg h]; exact ⟨_, rfl, fun e => by cases e⟩
 | succ d ih =>
  intro i q hi hq
  obtain ⟨q, rfl⟩ := sucq hq
  have h1 : i < files.length := by omega
  unfold m_law18_light_l1
  rw [if_pos (by omega), idx_nat, List.getElem?_eq_getElem h1, obs]
  by_cases h : (1000 : Int) < (files[i].length : Int)
  ·rw [if_pos h]; exact ⟨_, rfl, fun e => by cases e⟩
  ·rw [if_neg h, ck_of (by omega), obs]
   exact ih (i + 1) q (by omega) (by omega)
theorem light_ok (files : List Bytes) (a b c n : Int) (c0 c1 c2 c3 c4 c5 : BitVec 32) (items : List Item) (hl : files.length <= 9223372036854775807) : ∃ v, m_law18_light files a b c n c0 c1 c2 c3 c4 c5 items = some v /\ (v = true -> items.length <= 30) :=
 light_loop files items hl files.length 0 forever (by omega) (by unfold forever; omega)
theorem rmi_anyN (a : Int) (n : Nat) (h : 0 < n) : ∃ r, rmi a (n : Int) = some r /\ -(n : Int) < r /\ r < n :=
 ⟨_, by rw [rmi, if_neg (by omega)], Int.lt_tmod_of_pos a (by omega), Int.tmod_lt_of_pos a (by omega)⟩
theorem rmi_natN {a : Int} (h0 : 0 <= a) (n : Nat) (h : 0 < n) : ∃ m : Nat, rmi a (n : Int) = some (m : Int) /\ m < n := by
 have h1 := Int.emod_nonneg a (b := (n : Int)) (by omega)
 have h2 := Int.emod_lt_of_pos a (b := (n : Int)) (by omega)
 exact ⟨(a % n).toNat, by rw [rmi_of h0 (by omega)]; refine congrArg some ?_; omega, by omega⟩
structure Six (files : List Bytes) (hv : List Bool) : Prop where
 six : files.length = 6
 small : ∀ j, (files.getD j []).length <= 100000
 hsix : hv.length = 6
theorem Six.set {files : List Bytes} {hv : List Bool} (h : Six files hv) (k : Nat) {y : Bytes} (hy : y.length <= 100000) : Six (files.set k y) hv := by
 refine ⟨by rw [List.length_set]; exact h.six, fun j => ?_, h.hsix⟩
 rw [List.getD_eq_getElem?_getD, List.getElem?_set]
 split
 ·split
  ·exact hy
  ·exact Nat.zero_le _
 ·have := h.small j; rwa [List.getD_eq_getElem?_getD] at this
theorem spoilt_loop (spoil : List Int) (d : Nat) : ∀ (i q : Nat) (files : List Bytes) (hv : List Bool), i + 2 * d = 8 -> d < q -> Six files hv -> ∃ x y, m_law18_spoilt_l1 spoil q files hv (i : Int) = some (x, y) := by
 induction d with
 | zero =>
  intro i q files hv hi hq hs
  obtain ⟨q, rfl⟩ := sucq hq
  unfold m_law18_spoilt_l1 m_law18_spoilt_j0
  rw [ck_of (by omega), obs]
  by_cases h : (i : Int) + 1 < (spoil.length : Int)
  ·rw [if_pos h, if_neg (by omega)]; exact ⟨_, _, rfl⟩
  ·rw [if_neg h]; exact ⟨_, _, rfl⟩
 | succ d ih =>
  intro i q files hv hi hq hs
  obtain ⟨q, rfl⟩ := sucq hq
  have hf := hs.six
  have hh := hs.hsix
  unfold m_law18_spoilt_l1
  rw [ck_of (by omega), obs]
  by_cases h : (i : Int) + 1 < (spoil.length : Int)
  ·rw [if_pos h, if_pos (by omega)]
   unfold m_law18_spoilt_j2
   have h1 : i < spoil.length := by omega
   have h2 : i + 1 < spoil.length := by omega
   have e2 : ck ((i : Int) + 2) = some ((i + 2 : Nat) : Int) := by rw [ck_of (by omega)]; rfl
   obtain ⟨m, hm, em⟩ := andi_maskN spoil[i] 7 (by omega)
   have em' : andi spoil[i] (7 : Int) = (m : Int) := em
   obtain ⟨k, ek, hk⟩ := rmi_natN (a := (m : Int)) (by omega) 6 (by omega)
   have ek' : rmi (m : Int) (6 : Int) = some (k : Int) := ek
   rw [idx_nat, List.getElem?_eq_getElem h1, obs, em', ek', obs, obs]
   by_cases h64 : (0 : Int) < andi spoil[i] (64 : Int)
   ·rw [if_pos h64, idx_gD hv k false (by omega), obs, upd_of (by omega), obs, e2, obs]
    exact ih (i + 2) q files _ (by omega) (by omega) ⟨hf, hs.small, by rw [List.length_set]; exact hh⟩
   ·have hy := hs.small k
    rw [if_neg h64, idx_gD files k [] (by omega), obs, apd1_of (by rw [List.length_nil]; omega), obs, List.nil_append]
    generalize files.getD k [] = y at hy
    by_cases h0 : (0 : Int) < (y.length : Int)
    ·have e1 : ck ((i : Int) + 1) = some ((i + 1 : Nat) : Int) := by rw [ck_of (by omega)]; rfl
     obtain ⟨r, er, b1, b2⟩ := rmi_anyN spoil[i + 1] y.length (by omega)
     obtain ⟨p, ep, hp⟩ := rmi_natN (a := r + (y.length : Int)) (by omega) y.length (by omega)
     have es : shri spoil[i] ((7 : Nat) : Int) = some (spoil[i] / 2 ^ 7) := rfl
     rw [if_pos h0, e1, obs, idx_nat, List.getElem?_eq_getElem h2, obs, er, obs, ck_of (by omega), obs, ep, obs, idx_nat, List.getElem?_eq_getElem hp, obs, obs, es, obs, obs, upd_of (by omega), obs, obs, upd_of (by omega), obs, e2, obs]
     exact ih (i + 2) q _ hv (by omega) (by omega) (hs.set _ (by rw [List.length_set]; exact hy))
    ·rw [if_neg h0, obs, upd_of (by omega), obs, e2, obs]
     exact ih (i + 2) q _ hv (by omega) (by omega) (hs.set _ hy)
  ·rw [if_neg h]; exact ⟨_, _, rfl⟩
theorem spoilt_ok {C : Mx} {b : By} (hb : ssz b.length <= 1000) (spoil : List Int) : ∃ x y, m_law18_spoilt (shardsOf C b) spoil = some (x, y) := by
 unfold m_law18_spoilt
 rw [apd_of (by rw [shardsOf_len]; decide), obs, show m_law18_all = some [true, true, true, true, true, true] from rfl, obs, List.nil_append]
 refine spoilt_loop spoil 4 0 forever _ _ (by omega) (by unfold forever; omega) ⟨shardsOf_len _ _, fun j => ?_, rfl⟩
 by_cases hj : j < 6
 ·rw [shard_len C b hj]; omega
 ·rw [List.getD_eq_getElem?_getD, List.getElem?_eq_none (by rw [shardsOf_len]; omega)]; exact Nat.zero_le _
set_option linter.unusedVariables false
set_option linter.unusedSimpArgs false
theorem awake_ok : m_law18_awake = some true := by decide +kernel
theorem firstOr_total (f : List Int -> CR) (z : RR) : ∀ ss : List (List Int), ∃ v, firstOr f ss (some z) = some v
 | [] => ⟨_, rfl⟩
 | s :: ss => by
  unfold firstOr
  split
  ·exact ⟨_, rfl⟩
  ·exact firstOr_total f z ss
theorem readS_total (a b c n : Int) (l : List Item) (files : List Bytes) (hv : List Bool) (x : Item) : ∃ v, readS a b c n l files hv x = some v := by
 unfold readS
 split
 ·exact firstOr_total _ _ _
 ·exact ⟨_, rfl⟩
theorem items_loop2 (k : Int) (L : List Item) (hL : L.length <= 1000) (x142 : List Item) (x147 : List Bytes) (x154 : List Bool) (x156 a b c m : Int) (c0 c1 c2 c3 c4 c5 : BitVec 32) (l : List Item) (hl : l.length <= 1000) (f : List Bytes) (v : List Bool) (r3 : List Item -> List Bytes -> List Bool -> Int -> Option Bool) (d : Nat) : ∀ (t q : Nat), t + d = L.length -> d < q ->
  m_law18_EcreadReads_l6 k L x142 x147 x154 x156 a b c m c0 c1 c2 c3 c4 c5 l f v r3 q (t : Int) = m_law18_EcreadReads_j4 x142 x147 x154 x156 r3 := by
 obtain ⟨kk, hk1, hk2⟩ := andi_maskN k 31 (by omega)
 have hk3 : andi k (31 : Int) = (kk : Int) := hk2
 induction d with
 | zero =>
  intro t q hi hq
  obtain ⟨q, rfl⟩ := sucq hq
  unfold m_law18_EcreadReads_l6
  rw [if_neg (by omega)]
 | succ d ih =>
  intro t q hi hq
  obtain ⟨q, rfl⟩ := sucq hq
  have h1 : t < L.length := by omega
  unfold m_law18_EcreadReads_l6
  rw [if_pos (by omega), idx_nat, List.getElem?_eq_getElem h1, obs, m_law18_given, obs]
  dsimp only
  rw [hk3, eCandidate_ok _ _ _ _ _ _ _ _ _ _ _ _ _ (by omega) _ (by omega), obs]
  unfold m_law18_EcreadReads_j7
  rw [hk3, rCandidate_ok _ _ _ _ _ _ _ _ _ _ _ _ _ (by omega), obs, m_law18_given, obs]
  dsimp only
  obtain ⟨w, hw⟩ := readS_total a b c m l f v L[t]
  rw [eRead_ok _ _ _ _ _ _ _ _ _ _ _ _ _ (by omega), hw, obs]
  unfold m_law18_EcreadReads_j8
  rw [rRead_ok _ _ _ _ _ _ _ _ _ _ _ _ _ (by omega), hw, obs, if_pos rfl, if_pos rfl, same_ok, obs, if_pos (by simp), same_ok, obs, if_pos (by simp), ck_of (by omega), obs]
  exact ih (t + 1) q (by omega) (by omega)
theorem ok_EcreadReads (a b c m : Int) (c0 c1 c2 c3 c4 c5 : BitVec 32) (l : List Item) (files : List Bytes) (hv : List Bool) (ns : List Nd) (spoil : List Int) (x0 : BitVec 64) (x1 : BitVec 32) (x2 x3 k : Int) (hf : files.length <= 9223372036854775807) :
  m_law18_EcreadReads a b c m c0 c1 c2 c3 c4 c5 l files hv ns spoil x0 x1 x2 x3 k = some true := by
 unfold m_law18_EcreadReads
 obtain ⟨v, e1, h1⟩ := light_ok files a b c m c0 c1 c2 c3 c4 c5 l hf
 rw [e1, obs]
 by_cases hv1 : v = true
 ·rw [if_pos hv1]
  by_cases h3 : (10 : Int) < (hv.length : Int)
  ·rw [if_pos h3, awake_ok]; rfl
  ·rw [if_neg h3]
   have hl := h1 hv1
   obtain ⟨M⟩ := made_ok ns
   obtain ⟨x, y, e2⟩ := spoilt_ok (C := M.C) (b := datOf M.c (nsOf ns 10)) M.gen.wid spoil
   have hil := M.gen.itemsLen
   obtain ⟨z, hz1, hz2⟩ := andi_maskN x2 31 (by omega)
   have hz3 : andi x2 (31 : Int) = (z : Int) := hz2
   unfold m_law18_EcreadReads_j0
   rw [M.eq, obs]
   dsimp only
   rw [e2, obs, apdI (by simp; omega), obs, hz3, ck_of (by omega), obs, ck_of (by omega), obs, apdI (by simp; omega), obs]
   unfold m_law18_EcreadReads_j1
   have f : forever = 18446744073709551613 + 1 + 1 + 1 := rfl
   rw [f]
   generalize hL : ([(⟨x0, x1, x2, x3⟩ : Item)] ++ itemsOf (nsOf ns 10) ++ [(⟨x0 &&& 15#64, 0#32, 16 + 8 * (z : Int), andi x3 (255 : Int)⟩ : Item)]) = L
   have hLl : L.length <= 1000 := by rw [<- hL]; simp; omega
   unfold m_law18_EcreadReads_l3
   rw [if_pos (by omega), if_neg (by omega), m_law18_EcreadReads_j5]
   refine (items_loop2 k L hLl _ x y 0 a b c m c0 c1 c2 c3 c4 c5 l (by omega) files hv _ L.length 0 forever (by omega) (by unfold forever; omega)).trans ?_
   unfold m_law18_EcreadReads_j4
   rw [ck_of (by omega), obs]
   unfold m_law18_EcreadReads_l3
   rw [if_pos (by omega), if_pos (by omega), m_law18_EcreadReads_j5]
   refine (items_loop2 k L hLl _ x y 1 1 2 3 _ M.s0 M.s1 M.s2 M.s3 M.s4 M.s5 (itemsOf (nsOf ns 10)) (by omega) x y _ L.length 0 forever (by omega) (by unfold forever; omega)).trans ?_
   unfold m_law18_EcreadReads_j4
   rw [ck_of (by omega), obs]
   unfold m_law18_EcreadReads_l3
   rw [if_neg (by omega), m_law18_EcreadReads_j2, awake_ok]; rfl
 ·rw [if_neg hv1, awake_ok]; rfl
end Go.Proofs.YtcncappgheopgaaGreat
