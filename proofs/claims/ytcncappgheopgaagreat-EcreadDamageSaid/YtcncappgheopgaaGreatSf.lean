/- A part of the proof. Conditions: as each theorem says. -/
import Derived.Test.YtcncappgheopgaaGreatSe
import Derived.Test.YtcncappgheopgaaGreatVe
namespace Go.Proofs.YtcncappgheopgaaGreat
set_option linter.unusedVariables false
set_option linter.unusedSimpArgs false
section
variable {files : List Bytes} {us : Nat -> Bool} {w : Nat} {p : Pc}
theorem rest_okC {C : Mx} (hC : IsCode C) (hu : Usable files us w) (hp : Fits w p) (h4 : 4 <= (sel us 6).length) :
  ∃ Q, Inverse 4 (fun i k => C (((sel us 6).take 4).getD i 0) k) Q /\ m_rs_Restore (tb 6 (part files us p.2.1 p.2.2)) (tb 6 us) = some (rsto C Q (tb 6 (part files us p.2.1 p.2.2)) (fun t => ((sel us 6).take 4).getD t 0) p.2.2, 0) := by
 have hs := parts_same hu hp
 obtain ⟨Q, h1, _, h2, h3⟩ := restore_ok hC (tb 6 (part files us p.2.1 p.2.2)) (tb 6 us) (tb_len _ _) (tb_len _ _) (same_of hs) (by rw [sel_hb]; exact h4) p.2.2 hs (by have := hp.2.2.1; omega)
 rw [sel_hb] at h1 h2
 exact ⟨Q, h1, h2⟩
theorem tb_part {α : Type} {n a k : Nat} {F : Nat -> α} (h : a + k <= n) : ((tb n F).drop a).take k = tb k fun u => F (a + u) := by
 have := slc_tb (n := n) (lo := a) (hi := a + k) (F := F) (by omega) h
 rw [slc_nat _ _ _ ⟨by omega, by rw [tb_len]; exact h⟩] at this
 rw [Nat.add_sub_cancel_left] at this
 exact Option.some.inj this
def Intact (C : Mx) (b : By) (files : List Bytes) (us : Nat -> Bool) : Prop := ∀ j, j < 6 -> us j = true -> files.getD j [] = (shardsOf C b).getD j []
theorem part_intact {C : Mx} {b : By} (hi : Intact C b files us) {j : Nat} (hj : j < 6) (h : us j = true) {a k : Nat} (hak : a + k <= ssz b.length) : part files us a k j = tb k fun u => mm 4 C (sD b) j (a + u) := by
 unfold part; rw [if_pos h, hi j hj h]; unfold shardsOf; rw [getD_tb hj, tb_part hak]
theorem pval_intact {C : Mx} (hC : IsCode C) {b : By} (hu : Usable files us (ssz b.length)) (hi : Intact C b files us) {off n : Nat} (h0 : 0 < n) (hle : off + n <= b.length) (h4 : us (plS off) = true ∨ 4 <= (sel us 6).length) :
  pval files us (plS off, plA off, pk off n) = some ((b.drop off).take (pk off n)) := by
 have hp : Fits (ssz b.length) (plS off, plA off, pk off n) := pieces_mem n off hle _ (by rw [pieces_step h0]; exact List.mem_cons_self ..)
 have hs4 := plS_lt off
 have hak : plA off + pk off n <= ssz b.length := hp.2.2.2
 have low : (tb (pk off n) fun u => mm 4 C (sD b) (plS off) (plA off + u)) = (b.drop off).take (pk off n) := by
  rw [<- piece_read b h0 hle]
  exact tb_ext fun u _ => mm_low hC (sD b) hs4 _
 unfold pval
 by_cases hus : us (plS off) = true
 ·rw [if_pos hus]
  show some (part files us (plA off) (pk off n) (plS off)) = _
  rw [part_intact hi (by omega) hus hak, low]
 ·have h4' : 4 <= (sel us 6).length := h4.resolve_left hus
  rw [if_neg hus, if_pos h4']
  obtain ⟨Q, hQ, h1⟩ := rest_okC hC hu hp h4'
  have hw : rsto C Q (tb 6 (part files us (plA off) (pk off n))) (fun t => ((sel us 6).take 4).getD t 0) (pk off n) = tb 6 fun i => tb (pk off n) (mm 4 C (fun k u => sD b k (plA off + u)) i) := by
   refine rst_word hC hQ (D := fun k u => sD b k (plA off + u)) fun t ht u hu' => ?_
   have hm : ((sel us 6).take 4).getD t 0 ∈ sel us 6 := List.mem_of_mem_take (getD_mem (by rw [List.length_take]; omega))
   obtain ⟨m1, m2⟩ := sel_mem.1 hm
   show bt (tb 6 (part files us (plA off) (pk off n))) _ u = _
   unfold bt
   rw [getD_tb m1, part_intact hi m1 m2 hak, getD_tb hu']; simp only [mm]
  unfold rest
  dsimp only at h1 ⊢
  rw [h1]
  dsimp only
  rw [hw, tb_get (by omega)]
  refine congrArg some (Eq.trans ?_ low)
  exact tb_ext fun u _ => by simp only [mm]
theorem bls_intact {C : Mx} (hC : IsCode C) {b : By} (hu : Usable files us (ssz b.length)) (hi : Intact C b files us) (n off : Nat) : off + n <= b.length -> ((∀ p ∈ pieces off n, us p.1 = true) ∨ 4 <= (sel us 6).length) ->
  bls files us (pieces off n) = some ((b.drop off).take n) := by
 refine pieces_ind (motive := fun off n => off + n <= b.length -> ((∀ p ∈ pieces off n, us p.1 = true) ∨ 4 <= (sel us 6).length) -> bls files us (pieces off n) = some ((b.drop off).take n)) (fun off _ _ => rfl) (fun off n h ih hle h4 => ?_) n off
 have hk := pk_pos (off := off) h
 have h4a : us (plS off) = true ∨ 4 <= (sel us 6).length := h4.imp (fun f => f _ (by rw [pieces_step h]; exact List.mem_cons_self ..)) id
 have h4b : (∀ p ∈ pieces (off + pk off n) (n - pk off n), us p.1 = true) ∨ 4 <= (sel us 6).length := h4.imp (fun f p hp => f p (by rw [pieces_step h]; exact List.mem_cons_of_mem _ hp)) id
 rw [pieces_step h, bls, pval_intact hC hu hi h hle h4a, ih (by omega) h4b]
 refine congrArg some ?_
 have := List.take_add (l := b.drop off) (i := pk off n) (j := n - pk off n)
 rw [List.drop_drop, show pk off n + (n - pk off n) = n by omega] at this
 exact this.symm
theorem bls_len (hu : Usable files us w) (n off : Nat) : (∀ p ∈ pieces off n, Fits w p) -> ∀ {x : Bytes}, bls files us (pieces off n) = some x -> x.length = n := by
 refine pieces_ind (motive := fun off n => (∀ p ∈ pieces off n, Fits w p) -> ∀ {x : Bytes}, bls files us (pieces off n) = some x -> x.length = n) (fun off _ x h => ?_) (fun off n h ih hf x hx => ?_) n off
 ·rw [pieces_zero, bls] at h; injection h with h; subst h; rfl
 ·have hk := pk_pos (off := off) h
  rw [pieces_step h] at hx hf
  rw [bls] at hx
  cases h1 : pval files us (plS off, plA off, pk off n) with
  | none => rw [h1] at hx; cases hx
  | some y =>
   cases h2 : bls files us (pieces (off + pk off n) (n - pk off n)) with
   | none => rw [h1, h2] at hx; cases hx
   | some z =>
    rw [h1, h2] at hx
    injection hx with hx
    have e1 := pval_len hu (hf _ (List.mem_cons_self ..)) h1
    have e2 := ih (fun p hp => hf p (List.mem_cons_of_mem _ hp)) h2
    rw [<- hx, List.length_append, e1, e2]; show pk off n + _ = n; omega
end
theorem bytesS_len {a b c n : Int} {l : List Item} {files : List Bytes} {hv : List Bool} {skip : List Int} {off m : Int} (h : (bytesS a b c n l files hv skip off m).2 = true) : ((bytesS a b c n l files hv skip off m).1.length : Int) = m := by
 unfold bytesS at h ⊢
 split at h
 ·rename_i hc
  obtain ⟨h1, h2, h3, h4, h5, h6, h7⟩ := hc
  have hn := hvalB_len h1
  cases hb : bls files (usb n.toNat files hv skip) (pieces off.toNat m.toNat) with
  | none => rw [hb] at h; cases h
  | some x =>
   have := bls_len (usb_usable (show n.toNat <= 1000000 by omega) h2) m.toNat off.toNat (fun p hp => pieces_mem m.toNat off.toNat (show off.toNat + m.toNat <= n.toNat by omega) p hp) hb
   rw [if_pos ⟨h1, h2, h3, h4, h5, h6, h7⟩]
   show (([] ++ x : Bytes).length : Int) = m
   rw [List.nil_append, this]; omega
 ·cases h
theorem bytesS_bound {a b c n : Int} {l : List Item} {files : List Bytes} {hv : List Bool} {skip : List Int} {off m : Int} : (bytesS a b c n l files hv skip off m).1.length <= 1000000 := by
 by_cases h : (bytesS a b c n l files hv skip off m).2 = true
 ·have h1 := bytesS_len h
  unfold bytesS at h h1 ⊢
  split at h
  ·rename_i hc
   rw [if_pos hc] at h1 ⊢
   have := hvalB_len hc.1
   omega
  ·cases h
 ·unfold bytesS at h ⊢
  split
  ·rename_i hc
   rw [if_pos hc] at h
   cases hb : bls files (usb n.toNat files hv skip) (pieces off.toNat m.toNat) with
   | none => simp [blR]
   | some x => rw [hb] at h; exact absurd rfl h
  ·simp
abbrev CR := (BitVec 64) × (BitVec 32) × Bool × By × Bool
def cNone : CR := (0#64, 0#32, false, [], false)
def hits (x : Item) (r : Bytes × Bool) : Prop := r.2 = true /\ (ndec r.1).2.2.2.2.2 = 0 /\ (ndec r.1).2.2.2.2.1 = (r.1.length : Int) /\ (ndec r.1).2.2.1 = false /\ (ndec r.1).1 = x.fKey /\ (ndec r.1).2.1 = x.fCookie /\ ((ndec r.1).2.2.2.1.length : Int) = x.fSize
instance (x : Item) (r : Bytes × Bool) : Decidable (hits x r) := inferInstanceAs (Decidable (_ /\ _))
def candOf (x : Item) (r : Bytes × Bool) : CR := if 0 <= x.fSize /\ x.fSize <= 4096 /\ hits x r then ((ndec r.1).1, (ndec r.1).2.1, (ndec r.1).2.2.1, (ndec r.1).2.2.2.1, true) else cNone
section
variable (a b c n : Int) (c0 c1 c2 c3 c4 c5 : BitVec 32) (l : List Item) (files : List Bytes) (hv : List Bool)
def candS (a b c n : Int) (l : List Item) (files : List Bytes) (hv : List Bool) (s : List Int) (x : Item) : CR := candOf x (bytesS a b c n l files hv s x.fOff (sizeZ x.fSize))
theorem sizeZ_pos {z : Int} (h : 0 <= z /\ z <= 4096) : 24 <= sizeZ z := by
 unfold sizeZ; rw [if_pos h]; have := nsize_lo z.toNat; omega
theorem sizeZ_out {z : Int} (h : ¬ (0 <= z /\ z <= 4096)) : sizeZ z = 0 := if_neg h
theorem ecand_ok (hl : l.length <= 9223372036854775806) (s : List Int) (hs : s.length <= 1000000) (x : Item) :
  m_ecread_candidate a b c n c0 c1 c2 c3 c4 c5 l files hv s x.fKey x.fCookie x.fOff x.fSize = some (candS a b c n l files hv s x) := by
 unfold m_ecread_candidate candS
 rw [needle_Size_eq, obs, ebytes_ok _ _ _ _ _ _ _ _ _ _ _ _ _ _ _ _ hl hs, obs]
 generalize hr : bytesS a b c n l files hv s x.fOff (sizeZ x.fSize) = r
 have hlen : r.2 = true -> (r.1.length : Int) = sizeZ x.fSize := fun h => by rw [<- hr] at h ⊢; exact bytesS_len h
 have hbd : r.1.length <= 1000000 := by rw [<- hr]; exact bytesS_bound
 unfold candOf
 by_cases h1 : r.2 = true
 ·rw [if_pos h1]
  by_cases h2 : 0 <= x.fSize /\ x.fSize <= 4096
  ·have h3 := sizeZ_pos h2
   rw [if_neg (by omega)]
   unfold m_ecread_candidate_j0
   rw [needle_Decode_eq _ (by omega), obs]
   by_cases e1 : (ndec r.1).2.2.2.2.2 = 0
   ·by_cases e2 : (ndec r.1).2.2.2.2.1 = sizeZ x.fSize
    ·by_cases e3 : (ndec r.1).2.2.1 = true
     ·rw [if_pos e1, if_pos e2, if_pos e3, if_neg (fun h => by have := h.2.2.2.2.2.1; rw [this] at e3; cases e3)]; rfl
     ·by_cases e4 : (ndec r.1).1 = x.fKey
      ·by_cases e5 : (ndec r.1).2.1 = x.fCookie
       ·by_cases e6 : ((ndec r.1).2.2.2.1.length : Int) = x.fSize
        ·rw [if_pos e1, if_pos e2, if_neg e3, if_pos e4, if_pos e5, if_pos e6, if_pos ⟨h2.1, h2.2, h1, e1, by rw [hlen h1]; exact e2, Bool.eq_false_iff.2 e3, e4, e5, e6⟩]
        ·rw [if_pos e1, if_pos e2, if_neg e3, if_pos e4, if_pos e5, if_neg e6, if_neg (fun h => e6 h.2.2.2.2.2.2.2.2)]; rfl
       ·rw [if_pos e1, if_pos e2, if_neg e3, if_pos e4, if_neg e5, if_neg (fun h => e5 h.2.2.2.2.2.2.2.1)]; rfl
      ·rw [if_pos e1, if_pos e2, if_neg e3, if_neg e4, if_neg (fun h => e4 h.2.2.2.2.2.2.1)]; rfl
    ·rw [if_pos e1, if_neg e2, if_neg (fun h => e2 (by rw [<- hlen h1]; exact h.2.2.2.2.1))]; rfl
   ·rw [if_neg e1, if_neg (fun h => e1 h.2.2.2.1)]; rfl
  ·rw [if_pos (sizeZ_out h2), if_neg (fun h => h2 ⟨h.1, h.2.1⟩)]; rfl
 ·rw [if_neg h1, if_neg (fun h => h1 h.2.2.1)]; rfl
theorem ex_len (k : Int) : (ex k).length <= 2 := by
 unfold ex; split
 ·by_cases h : k.toNat < 22
  ·have : ∀ i : Fin 22, (sL.getD i.val []).length <= 2 := by decide
   exact this ⟨k.toNat, h⟩
  ·rw [List.getD_eq_getElem?_getD, List.getElem?_eq_none (by rw [sL_len]; omega)]; simp
 ·simp
theorem rCandidate_ok (hl : l.length <= 9223372036854775806) (k : Int) (x : Item) :
  m_r18_Candidate a b c n c0 c1 c2 c3 c4 c5 l files hv k x.fKey x.fCookie x.fOff x.fSize = some (if 0 <= k /\ k < 22 then candS a b c n l files hv (ex k) x else cNone) := by
 unfold m_r18_Candidate
 by_cases h1 : k < 0
 ·rw [if_pos h1, if_neg (by omega)]; rfl
 ·by_cases h2 : (22 : Int) <= k
  ·rw [if_neg h1, if_pos h2, if_neg (by omega)]; rfl
  ·rw [if_neg h1, if_neg h2, if_pos (show 0 <= k /\ k < 22 by omega)]
   unfold candS candOf
   by_cases h3 : x.fSize < 0
   ·rw [if_pos h3, if_neg (fun h => by omega)]; rfl
   ·by_cases h4 : (4096 : Int) < x.fSize
    ·rw [if_neg h3, if_pos h4, if_neg (fun h => by omega)]; rfl
    ·rw [if_neg h3, if_neg h4]
     unfold m_r18_Candidate_j0
     rw [rex_ok, obs, r06_Size_eq, obs, rbytes_ok _ _ _ _ _ _ _ _ _ _ _ _ _ _ _ _ hl (by have := ex_len k; omega), obs]
     generalize hr : bytesS a b c n l files hv (ex k) x.fOff (sizeZ x.fSize) = r
     have hbd : r.1.length <= 1000000 := by rw [<- hr]; exact bytesS_bound
     by_cases h1 : r.2 = true
     ·rw [if_pos h1, r06_Decode_eq _ (by omega), obs]
      by_cases e1 : (ndec r.1).2.2.2.2.2 = 0
      ·by_cases e2 : (ndec r.1).2.2.2.2.1 = (r.1.length : Int)
       ·by_cases e3 : (ndec r.1).2.2.1 = true
        ·rw [if_pos e1, if_pos e2, if_pos e3, if_neg (fun h => by have := h.2.2.2.2.2.1; rw [this] at e3; cases e3)]; rfl
        ·by_cases e4 : (ndec r.1).1 = x.fKey
         ·by_cases e5 : (ndec r.1).2.1 = x.fCookie
          ·by_cases e6 : ((ndec r.1).2.2.2.1.length : Int) = x.fSize
           ·rw [if_pos e1, if_pos e2, if_neg e3, if_pos e4, if_pos e5, if_pos e6, if_pos ⟨by omega, by omega, h1, e1, e2, Bool.eq_false_iff.2 e3, e4, e5, e6⟩]
           ·rw [if_pos e1, if_pos e2, if_neg e3, if_pos e4, if_pos e5, if_neg e6, if_neg (fun h => e6 h.2.2.2.2.2.2.2.2)]; rfl
          ·rw [if_pos e1, if_pos e2, if_neg e3, if_pos e4, if_neg e5, if_neg (fun h => e5 h.2.2.2.2.2.2.2.1)]; rfl
         ·rw [if_pos e1, if_pos e2, if_neg e3, if_neg e4, if_neg (fun h => e4 h.2.2.2.2.2.2.1)]; rfl
       ·rw [if_pos e1, if_neg e2, if_neg (fun h => e2 h.2.2.2.2.1)]; rfl
      ·rw [if_neg e1, if_neg (fun h => e1 h.2.2.2.1)]; rfl
     ·rw [if_neg h1, if_neg (fun h => h1 h.2.2.1)]; rfl
abbrev RR := (BitVec 64) × (BitVec 32) × Bool × By × Int
def rBad (e : Int) : RR := (0#64, 0#32, false, [], e)
def firstOr (f : List Int -> CR) : List (List Int) -> Option RR -> Option RR
 | [], k => k
 | s :: ss, k => if (f s).2.2.2.2 = true then some ((f s).1, (f s).2.1, (f s).2.2.1, (f s).2.2.2.1, 0) else firstOr f ss k
theorem firstOr_append (f : List Int -> CR) (k : Option RR) : ∀ (ss tt : List (List Int)), firstOr f (ss ++ tt) k = firstOr f ss (firstOr f tt k)
 | [], _ => rfl
 | s :: ss, tt => by
  simp only [List.cons_append, firstOr, firstOr_append f k ss tt]
def pairsFrom (i j d : Nat) : List (List Int) := (List.range' j d).map fun t => [(i : Int), ((t : Nat) : Int)]
def pairsAll : Nat -> Nat -> List (List Int)
 | _, 0 => []
 | i, d + 1 => pairsFrom i (i + 1) d ++ pairsAll (i + 1) d
theorem read_l5 (hl : l.length <= 9223372036854775806) (x : Item) (i : Nat) (hi6 : i < 6) (r3 : Int -> Option RR) (d : Nat) : ∀ (j q : Nat), j + d = 6 -> d < q ->
  m_ecread_Read_l5 a b l c n c0 c1 c2 c3 c4 c5 files hv x.fKey x.fCookie x.fOff x.fSize (i : Int) r3 q (j : Int) = firstOr (fun s => candS a b c n l files hv s x) (pairsFrom i j d) (r3 ((i + 1 : Nat) : Int)) := by
 induction d with
 | zero =>
  intro j q hj hq
  obtain ⟨q, rfl⟩ := sucq hq
  unfold m_ecread_Read_l5 m_ecread_Read_j4
  rw [if_neg (by omega), ck_of (by omega), obs]; rfl
 | succ d ih =>
  intro j q hj hq
  obtain ⟨q, rfl⟩ := sucq hq
  unfold m_ecread_Read_l5
  rw [if_pos (by omega), ecand_ok _ _ _ _ _ _ _ _ _ _ _ _ _ hl _ (by simp), obs]
  show _ = if _ then _ else _
  by_cases h : (candS a b c n l files hv [(i : Int), (j : Int)] x).2.2.2.2 = true
  ·rw [if_pos h, if_pos h]
  ·rw [if_neg h, if_neg h, ck_of (by omega), obs]
   exact ih (j + 1) q (by omega) (by omega)
theorem read_l3 (hl : l.length <= 9223372036854775806) (x : Item) (d : Nat) : ∀ (i q : Nat), i + d = 6 -> d < q ->
  m_ecread_Read_l3 a b l c n c0 c1 c2 c3 c4 c5 files hv x.fKey x.fCookie x.fOff x.fSize q (i : Int) = firstOr (fun s => candS a b c n l files hv s x) (pairsAll i d) (some (rBad 11)) := by
 induction d with
 | zero =>
  intro i q hi hq
  obtain ⟨q, rfl⟩ := sucq hq
  unfold m_ecread_Read_l3
  rw [if_neg (by omega)]; rfl
 | succ d ih =>
  intro i q hi hq
  obtain ⟨q, rfl⟩ := sucq hq
  unfold m_ecread_Read_l3
  rw [if_pos (by omega), ck_of (by omega), obs]
  refine (read_l5 a b c n c0 c1 c2 c3 c4 c5 l files hv hl x i (by omega) _ d (i + 1) forever (by omega) (by unfold forever; omega)).trans ?_
  rw [ih (i + 1) q (by omega) (by omega), pairsAll, firstOr_append]
theorem read_l2 (hl : l.length <= 9223372036854775806) (x : Item) (d : Nat) : ∀ (i q : Nat), i + d = 6 -> d < q ->
  m_ecread_Read_l2 a b l c n c0 c1 c2 c3 c4 c5 files hv x.fKey x.fCookie x.fOff x.fSize q (i : Int) = firstOr (fun s => candS a b c n l files hv s x) ((List.range' i d).map (fun t => [((t : Nat) : Int)]) ++ pairsAll 0 6) (some (rBad 11)) := by
 induction d with
 | zero =>
  intro i q hi hq
  obtain ⟨q, rfl⟩ := sucq hq
  unfold m_ecread_Read_l2 m_ecread_Read_j1
  rw [if_neg (by omega)]
  exact read_l3 a b c n c0 c1 c2 c3 c4 c5 l files hv hl x 6 0 forever (by omega) (by unfold forever; omega)
 | succ d ih =>
  intro i q hi hq
  obtain ⟨q, rfl⟩ := sucq hq
  unfold m_ecread_Read_l2
  rw [if_pos (by omega), ecand_ok _ _ _ _ _ _ _ _ _ _ _ _ _ hl _ (by simp), obs]
  show _ = if _ then _ else _
  by_cases h : (candS a b c n l files hv [(i : Int)] x).2.2.2.2 = true
  ·rw [if_pos h, if_pos h]
  ·rw [if_neg h, if_neg h, ck_of (by omega), obs]
   exact ih (i + 1) q (by omega) (by omega)
theorem sL_is : sL = [] :: ((List.range' 0 6).map (fun t => [((t : Nat) : Int)]) ++ pairsAll 0 6) := by decide
theorem item_eq (x y : Item) : (x.fKey = y.fKey /\ x.fCookie = y.fCookie /\ x.fOff = y.fOff /\ x.fSize = y.fSize /\ True) ↔ x = y := by
 constructor
 ·rintro ⟨h1, h2, h3, h4, _⟩; cases x; cases y; simp_all
 ·rintro rfl; exact ⟨rfl, rfl, rfl, rfl, trivial⟩
theorem iindex_loop (x : Item) (hl : l.length <= 9223372036854775806) (d : Nat) : ∀ (i q : Nat), i + d = l.length -> d < q -> ∃ r, m_slices_Index_api_Item_api_Item_l1 l x.fKey x.fCookie x.fOff x.fSize q (i : Int) = some r /\ (0 <= r ↔ x ∈ l.drop i) := by
 induction d with
 | zero =>
  intro i q hi hq
  obtain ⟨q, rfl⟩ := sucq hq
  refine ⟨-1, ?_, ?_⟩
  ·unfold m_slices_Index_api_Item_api_Item_l1; rw [if_neg (by omega)]; rfl
  ·rw [List.drop_of_length_le (by omega)]; simp
 | succ d ih =>
  intro i q hi hq
  obtain ⟨q, rfl⟩ := sucq hq
  have h1 : i < l.length := by omega
  unfold m_slices_Index_api_Item_api_Item_l1
  rw [if_pos (by omega), idx_nat, List.getElem?_eq_getElem h1, obs, List.drop_eq_getElem_cons h1]
  by_cases e : x = l[i]
  ·rw [if_pos ((item_eq _ _).2 e)]; exact ⟨_, rfl, fun _ => by rw [e]; exact List.mem_cons_self .., fun _ => by omega⟩
  ·rw [if_neg (fun h => e ((item_eq _ _).1 h)), ck_of (by omega), obs]
   obtain ⟨r, h2, h3⟩ := ih (i + 1) q (by omega) (by omega)
   exact ⟨r, h2, h3.trans ⟨fun h => List.mem_cons_of_mem _ h, fun h => (List.mem_cons.1 h).resolve_left e⟩⟩
theorem icontains_eq (x : Item) (hl : l.length <= 9223372036854775806) : m_slices_Contains_api_Item_api_Item l x.fKey x.fCookie x.fOff x.fSize = some (decide (x ∈ l)) := by
 unfold m_slices_Contains_api_Item_api_Item m_slices_Index_api_Item_api_Item
 obtain ⟨r, h1, h2⟩ := iindex_loop l x hl l.length 0 forever (by omega) (by unfold forever; omega)
 rw [List.drop_zero] at h2
 refine (congrArg (fun o => Option.bind o _) h1).trans ?_
 rw [obs]
 by_cases h : x ∈ l
 ·rw [decide_eq_true h, decide_eq_true (h2.2 h)]
 ·rw [decide_eq_false h, decide_eq_false (fun e => h (h2.1 e))]
def readS (a b c n : Int) (l : List Item) (files : List Bytes) (hv : List Bool) (x : Item) : Option RR :=
 if hvalB a b c n l = true /\ files.length = 6 /\ hv.length = 6 /\ x ∈ l then firstOr (fun s => candS a b c n l files hv s x) sL (some (rBad 11)) else some (rBad 1)
theorem eRead_ok (hl : l.length <= 9223372036854775806) (x : Item) : m_ecread_Read a b c n c0 c1 c2 c3 c4 c5 l files hv x.fKey x.fCookie x.fOff x.fSize = readS a b c n l files hv x := by
 unfold m_ecread_Read readS
 rw [shaped_eq _ _ _ _ _ _ _ _ _ _ _ _ _ hl, obs]
 by_cases h1 : hvalB a b c n l = true /\ files.length = 6 /\ hv.length = 6
 ·rw [if_pos (by rw [h1.1, decide_eq_true h1.2.1, decide_eq_true h1.2.2]; rfl), icontains_eq l x hl, obs]
  by_cases h2 : x ∈ l
  ·rw [if_pos (decide_eq_true h2), if_pos ⟨h1.1, h1.2.1, h1.2.2, h2⟩, sL_is]
   unfold m_ecread_Read_j0
   rw [ecand_ok _ _ _ _ _ _ _ _ _ _ _ _ _ hl _ (by simp), obs]
   show _ = if _ then _ else _
   by_cases h : (candS a b c n l files hv [] x).2.2.2.2 = true
   ·rw [if_pos h, if_pos h]
   ·rw [if_neg h, if_neg h]
    exact read_l2 a b c n c0 c1 c2 c3 c4 c5 l files hv hl x 6 0 forever (by omega) (by unfold forever; omega)
  ·rw [if_neg (by simpa using h2), if_neg (fun h => h2 h.2.2.2)]; rfl
 ·rw [if_neg (fun h => h1 ?_), if_neg (fun h => h1 ⟨h.1, h.2.1, h.2.2.1⟩)]
  ·rfl
  ·simp only [Bool.and_eq_true, decide_eq_true_eq] at h; exact ⟨h.1.1, h.1.2, h.2⟩
end
end Go.Proofs.YtcncappgheopgaaGreat
