/- A part of the proof. Conditions: as each theorem says. -/
import Derived.Test.YtcncappgheopgaaGreatSf
namespace Go.Proofs.YtcncappgheopgaaGreat
set_option linter.unusedVariables false
set_option linter.unusedSimpArgs false
def cutN (x : Nd) : Nd := ⟨x.fKey &&& 15#64, x.fCookie, x.fDeleted, if x.fDeleted = true then [] else x.fData.take 200⟩
theorem cutN_ok (x : Nd) : okN (cutN x) := by
 unfold okN cutN
 by_cases h : x.fDeleted = true
 ·rw [if_pos h]; exact ⟨by unfold nvalid; simp, Nat.zero_le _⟩
 ·have hl : (x.fData.take 200).length <= 200 := by rw [List.length_take]; omega
  rw [if_neg h, Bool.eq_false_iff.2 h]
  refine ⟨?_, hl⟩
  unfold nvalid
  rw [Bool.false_and, Bool.not_false, Bool.and_true]
  exact decide_eq_true (by simp only; omega)
def nsOf (l : List Nd) (i : Nat) : List Nd := (l.take i).map cutN
theorem nsOf_ok (l : List Nd) (i : Nat) : ∀ x ∈ nsOf l i, okN x := fun x hx => by
 obtain ⟨y, _, rfl⟩ := List.mem_map.1 hx
 exact cutN_ok y
theorem nsOf_len (l : List Nd) (i : Nat) : (nsOf l i).length = min i l.length := by unfold nsOf; rw [List.length_map, List.length_take]
theorem nsOf_succ (l : List Nd) {i : Nat} (h : i < l.length) : nsOf l (i + 1) = nsOf l i ++ [cutN l[i]] := by
 unfold nsOf; rw [List.take_succ_eq_append_getElem h, List.map_append]; rfl
theorem nsOf_gen {c : BitVec 32} (hc : crcSum hd7 = c) (l : List Nd) {i : Nat} (hi : i <= 12) : Gen c (nsOf l i) := ⟨hc, nsOf_ok l i, by rw [nsOf_len]; omega⟩
theorem datOf_snoc (c : BitVec 32) (ns : List Nd) (x : Nd) : datOf c (ns ++ [x]) = datOf c ns ++ encN x := by unfold datOf; rw [encs_snoc, List.append_assoc]
theorem made_loop {c : BitVec 32} (hc : crcSum hd7 = c) (l : List Nd) (d : Nat) : ∀ (i q : Nat), i + d = min l.length 10 -> d < q -> m_law18_made_l1 l q (datOf c (nsOf l i)) (i : Int) = m_law18_made_j0 (datOf c (nsOf l 10)) := by
 induction d with
 | zero =>
  intro i q hi hq
  obtain ⟨q, rfl⟩ := sucq hq
  have e : nsOf l i = nsOf l 10 := by
   unfold nsOf
   by_cases h : l.length <= 10
   ·rw [List.take_of_length_le (by omega), List.take_of_length_le h]
   ·rw [show i = 10 by omega]
  unfold m_law18_made_l1
  by_cases h : (i : Int) < (l.length : Int)
  ·rw [if_pos h, if_neg (by omega), e]
  ·rw [if_neg h, e]
 | succ d ih =>
  intro i q hi hq
  obtain ⟨q, rfl⟩ := sucq hq
  have h1 : i < l.length := by omega
  have hg := (nsOf_gen hc l (show i <= 12 by omega)).len
  have hb := sizeN_bd (cutN_ok l[i])
  have step := ih (i + 1) q (by omega) (by omega)
  rw [nsOf_succ l h1, datOf_snoc] at step
  have fin : ∀ xs : By, (l[i].fDeleted = false -> xs = l[i].fData.take 200) -> m_law18_made_j3 (datOf c (nsOf l i)) (i : Int) l[i] (m_law18_made_l1 l q) xs = m_law18_made_j0 (datOf c (nsOf l 10)) := by
   intro xs hx
   unfold m_law18_made_j3
   have key : ∀ ys, (cutN l[i]).fData = ys -> ((m_r06_Encode (l[i].fKey &&& 15#64) l[i].fCookie l[i].fDeleted ys).bind fun x54 => (apd 1 (datOf c (nsOf l i)) x54.1).bind fun x63 => (ck ((i : Int) + (1 : Int))).bind fun x67 => m_law18_made_l1 l q x63 x67) = m_law18_made_j0 (datOf c (nsOf l 10)) := by
    intro ys hy
    subst hy
    have e := encR_ok (cutN_ok l[i])
    have e' : m_r06_Encode (l[i].fKey &&& 15#64) l[i].fCookie l[i].fDeleted (cutN l[i]).fData = some (encN (cutN l[i]), 0) := e
    rw [e', obs, apd1_of (by rw [encN_len]; omega), obs, ck_of (by omega), obs]
    exact step
   by_cases hd : l[i].fDeleted = true
   ·rw [if_pos hd]; exact key [] (by unfold cutN; simp only; rw [if_pos hd])
   ·rw [if_neg hd]; exact key xs (by unfold cutN; simp only; rw [if_neg hd, hx (Bool.eq_false_iff.2 hd)])
  unfold m_law18_made_l1
  rw [if_pos (by omega), if_pos (by omega)]
  unfold m_law18_made_j2
  rw [idx_nat, List.getElem?_eq_getElem h1, obs]
  by_cases hl : (200 : Int) < (l[i].fData.length : Int)
  ·have e2 : slc l[i].fData 0 (200 : Int) = some (l[i].fData.take 200) := by rw [slc_of (by omega)]; rfl
   rw [if_pos hl, e2, obs]
   exact fin _ fun _ => rfl
  ·rw [if_neg hl]
   exact fin _ fun _ => (List.take_of_length_le (by omega)).symm
structure Made (l : List Nd) where
 c : BitVec 32
 C : Mx
 s0 : BitVec 32
 s1 : BitVec 32
 s2 : BitVec 32
 s3 : BitVec 32
 s4 : BitVec 32
 s5 : BitVec 32
 gen : Gen c (nsOf l 10)
 code : IsCode C
 eq : m_law18_made l = some (datOf c (nsOf l 10), recsOf 16 (nsOf l 10), 1, 2, 3, ((datOf c (nsOf l 10)).length : Int), s0, s1, s2, s3, s4, s5, itemsOf (nsOf l 10), shardsOf C (datOf c (nsOf l 10)))
theorem made_ok (l : List Nd) : Nonempty (Made l) := by
 obtain ⟨C, hC⟩ := code_ex
 obtain ⟨c, hc⟩ : ∃ c, crcSum hd7 = c := ⟨_, rfl⟩
 have hg : Gen c (nsOf l 10) := nsOf_gen hc l (by omega)
 have hm := r17_make hC (datOf c (nsOf l 10)) hg.len.2 1 2 3 (itemsOf (nsOf l 10)) (by have := hg.itemsLen; omega) hg.valid
 refine ⟨⟨c, C, _, _, _, _, _, _, hg, hC, Eq.trans ?_ (congrArg (fun o => Option.bind o fun x115 => some (datOf c (nsOf l 10), recsOf 16 (nsOf l 10), x115.2.1, x115.2.2.1, x115.2.2.2.1, x115.2.2.2.2.1, x115.2.2.2.2.2.1, x115.2.2.2.2.2.2.1, x115.2.2.2.2.2.2.2.1, x115.2.2.2.2.2.2.2.2.1, x115.2.2.2.2.2.2.2.2.2.1, x115.2.2.2.2.2.2.2.2.2.2.1, x115.2.2.2.2.2.2.2.2.2.2.2.1, x115.1)) hm)⟩⟩
 unfold m_law18_made
 rw [r07_enc hc, obs]
 refine (made_loop hc l (min l.length 10) 0 forever (by omega) (by unfold forever; omega)).trans ?_
 unfold m_law18_made_j0
 rw [hg.opens, obs, hg.items, obs]
end Go.Proofs.YtcncappgheopgaaGreat
