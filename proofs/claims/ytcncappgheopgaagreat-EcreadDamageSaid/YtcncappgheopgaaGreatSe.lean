/- A part of the proof. Conditions: as each theorem says. -/
import Derived.Test.YtcncappgheopgaaGreatSd
namespace Go.Proofs.YtcncappgheopgaaGreat
set_option linter.unusedVariables false
set_option linter.unusedSimpArgs false
theorem index_loop (l : List Int) (z : Int) (hl : l.length <= 9223372036854775806) (d : Nat) : ∀ (i q : Nat), i + d = l.length -> d < q -> ∃ r, m_slices_Index_int_int_l1 l z q (i : Int) = some r /\ (0 <= r ↔ z ∈ l.drop i) := by
 induction d with
 | zero =>
  intro i q hi hq
  obtain ⟨q, rfl⟩ := sucq hq
  refine ⟨-1, ?_, ?_⟩
  ·unfold m_slices_Index_int_int_l1; rw [if_neg (by omega)]; rfl
  ·rw [List.drop_of_length_le (by omega)]; simp
 | succ d ih =>
  intro i q hi hq
  obtain ⟨q, rfl⟩ := sucq hq
  have h1 : i < l.length := by omega
  unfold m_slices_Index_int_int_l1
  rw [if_pos (by omega), idx_nat, List.getElem?_eq_getElem h1, obs, List.drop_eq_getElem_cons h1]
  by_cases e : z = l[i]
  ·rw [if_pos e]; exact ⟨_, rfl, fun _ => by rw [e]; exact List.mem_cons_self .., fun _ => by omega⟩
  ·rw [if_neg e, ck_of (by omega), obs]
   obtain ⟨r, h2, h3⟩ := ih (i + 1) q (by omega) (by omega)
   refine ⟨r, h2, h3.trans ⟨fun h => List.mem_cons_of_mem _ h, fun h => (List.mem_cons.1 h).resolve_left e⟩⟩
theorem contains_eq (l : List Int) (z : Int) (hl : l.length <= 9223372036854775806) : m_slices_Contains_int_int l z = some (decide (z ∈ l)) := by
 unfold m_slices_Contains_int_int m_slices_Index_int_int
 obtain ⟨r, h1, h2⟩ := index_loop l z hl l.length 0 forever (by omega) (by unfold forever; omega)
 rw [List.drop_zero] at h2
 refine (congrArg (fun o => Option.bind o _) h1).trans ?_
 rw [obs]
 by_cases h : z ∈ l
 ·rw [decide_eq_true h, decide_eq_true (h2.2 h)]
 ·rw [decide_eq_false h, decide_eq_false (fun e => h (h2.1 e))]
def usb (N : Nat) (files : List Bytes) (hv : List Bool) (skip : List Int) (i : Nat) : Bool := hv.getD i false && ((files.getD i []).length == ssz N) && !decide ((i : Int) ∈ skip)
def preb' (g : Nat -> Bool) (i : Nat) : Nat -> Bool := fun j => if j < i then g j else false
theorem preb'_step (g : Nat -> Bool) (i : Nat) : tb 6 (st (preb' g i) i (g i)) = tb 6 (preb' g (i + 1)) := tb_ext fun j hj => by
 unfold st preb'
 by_cases e : j = i
 ·subst e; rw [if_pos rfl, if_pos (by omega)]
 ·rw [if_neg e]
  by_cases h : j < i
  ·rw [if_pos h, if_pos (by omega)]
  ·rw [if_neg h, if_neg (by omega)]
theorem preb'_zero (g : Nat -> Bool) : tb 6 (preb' g 0) = tb 6 fun _ => false := tb_ext fun j hj => if_neg (by omega)
theorem preb'_all (g : Nat -> Bool) : tb 6 (preb' g 6) = tb 6 g := tb_ext fun j hj => if_pos hj
section
variable {N : Nat} {files : List Bytes} {hv : List Bool} {skip : List Int}
theorem len_beq (a b : Nat) : (((a : Nat) : Int) == ((b : Nat) : Int)) = (a == b) := by
 by_cases h : a = b
 ·subst h; simp
 ·rw [beq_eq_false_iff_ne.2 h, beq_eq_false_iff_ne.2 (by omega)]
theorem eusable_loop (hN : N <= 1000000) (hf : files.length = 6) (hh : hv.length = 6) (hs : skip.length <= 1000000) (d : Nat) : ∀ (i q : Nat), i + d = 6 -> d < q ->
  m_ecread_usable_l1 (N : Int) files hv skip q (tb 6 (preb' (usb N files hv skip) i)) ((sel (usb N files hv skip) i).length : Int) (i : Int) = some (tb 6 (usb N files hv skip), ((sel (usb N files hv skip) 6).length : Int)) := by
 induction d with
 | zero =>
  intro i q hi hq
  obtain ⟨q, rfl⟩ := sucq hq
  obtain rfl : i = 6 := by omega
  unfold m_ecread_usable_l1
  rw [if_neg (by omega), preb'_all]; rfl
 | succ d ih =>
  intro i q hi hq
  obtain ⟨q, rfl⟩ := sucq hq
  have h6 : i < 6 := by omega
  have hsl := sel_len (usb N files hv skip) i
  have ef : idx files (i : Int) = some (files.getD i []) := idx_gD files i [] (by omega)
  have eh : idx hv (i : Int) = some (hv.getD i false) := idx_gD hv i false (by omega)
  have fin : ∀ v : Bool, usb N files hv skip i = v -> ((idx (tb 6 (preb' (usb N files hv skip) i)) (i : Int)).bind fun x30 => (upd (tb 6 (preb' (usb N files hv skip) i)) (i : Int) v).bind fun x31 => (idx x31 (i : Int)).bind fun x33 =>
    if x33 = true then (ck (((sel (usb N files hv skip) i).length : Int) + 1)).bind fun x36 => (ck ((i : Int) + 1)).bind fun x38 => m_ecread_usable_l1 (N : Int) files hv skip q x31 x36 x38
    else (ck ((i : Int) + 1)).bind fun x40 => m_ecread_usable_l1 (N : Int) files hv skip q x31 ((sel (usb N files hv skip) i).length : Int) x40) = some (tb 6 (usb N files hv skip), ((sel (usb N files hv skip) 6).length : Int)) := by
   intro v hvv
   have := ih (i + 1) q (by omega) (by omega)
   rw [<- preb'_step, hvv, sel_succ] at this
   rw [idx_tb h6, obs, upd_tb h6, obs, idx_tb h6, st_same, obs]
   cases v
   ·rw [if_neg (by simp), ck_of (by omega), obs]
    rw [hvv] at this
    exact this
   ·rw [if_pos rfl, ck_of (by omega), obs, ck_of (by omega), obs]
    rw [hvv, if_pos rfl, List.length_append, List.length_singleton] at this
    exact this
  unfold m_ecread_usable_l1
  rw [if_pos (by omega), ef, obs, eh, obs]
  by_cases h1 : hv.getD i false = true
  ·rw [if_pos h1, contains_eq _ _ (by omega), obs]
   by_cases h2 : (i : Int) ∈ skip
   ·rw [if_pos (decide_eq_true h2)]
    exact fin false (by unfold usb; rw [decide_eq_true h2]; simp)
   ·rw [if_neg (by simpa using h2), stripe_Size_nat N (by omega), obs, len_beq]
    exact fin _ (by unfold usb; rw [decide_eq_false h2, h1]; simp)
  ·rw [if_neg h1]
   exact fin false (by unfold usb; rw [Bool.eq_false_iff.2 h1]; simp)
theorem eusable_ok (z1 z2 z3 : Int) (c0 c1 c2 c3 c4 c5 : BitVec 32) (l : List Item) (hN : N <= 1000000) (hf : files.length = 6) (hh : hv.length = 6) (hs : skip.length <= 1000000) :
  m_ecread_usable z1 z2 z3 (N : Int) c0 c1 c2 c3 c4 c5 l files hv skip = some (tb 6 (usb N files hv skip), ((sel (usb N files hv skip) 6).length : Int)) := by
 unfold m_ecread_usable
 rw [show mks 1 (6 : Int) false = some (tb 6 fun _ => false) from mks_tb (n := 6) (by omega) (by omega), obs, <- preb'_zero (usb N files hv skip)]
 exact eusable_loop hN hf hh hs 6 0 forever (by omega) (by unfold forever; omega)
theorem rusable_l4 (z : Nat) (hz : z < 6) (r1 : List Bool -> Int -> Option (List Bool)) (hs : skip.length <= 1000000) (P : Nat -> Bool) (d : Nat) : ∀ (k q : Nat) (v : Bool), k + d = skip.length -> d < q ->
  m_r18_usable_l4 skip (z : Int) r1 q (tb 6 (st P z v)) (k : Int) = m_r18_usable_j2 (z : Int) r1 (tb 6 (st P z (v && !decide ((z : Int) ∈ skip.drop k)))) := by
 induction d with
 | zero =>
  intro k q v hi hq
  obtain ⟨q, rfl⟩ := sucq hq
  unfold m_r18_usable_l4
  rw [if_neg (by omega), List.drop_of_length_le (by omega)]; simp
 | succ d ih =>
  intro k q v hi hq
  obtain ⟨q, rfl⟩ := sucq hq
  have h1 : k < skip.length := by omega
  unfold m_r18_usable_l4
  rw [if_pos (by omega), idx_tb hz, st_same, obs, List.drop_eq_getElem_cons h1]
  cases v
  ·rw [if_neg (by simp), obs, upd_tb hz, obs, ck_of (by omega), obs, st_st]
   refine (ih (k + 1) q false (by omega) (by omega)).trans ?_
   simp
  ·rw [if_pos rfl, idx_nat, List.getElem?_eq_getElem h1, obs, obs, upd_tb hz, obs, ck_of (by omega), obs, st_st]
   refine (ih (k + 1) q _ (by omega) (by omega)).trans ?_
   congr 3
   by_cases e : (z : Int) = skip[k]
   ·rw [decide_eq_true (show (z : Int) ∈ skip[k] :: skip.drop (k + 1) by rw [e]; exact List.mem_cons_self ..)]; simp [e]
   ·have e' : skip[k] ≠ (z : Int) := fun h => e h.symm
    have hm : ((z : Int) ∈ skip[k] :: skip.drop (k + 1)) ↔ (z : Int) ∈ skip.drop (k + 1) := by rw [List.mem_cons]; exact ⟨fun h => h.resolve_left e, .inr⟩
    rw [show (skip[k] != (z : Int)) = true from bne_iff_ne.2 e', Bool.true_and, Bool.true_and, decide_eq_decide.2 hm]
theorem rusable_loop (hN : N <= 1000000) (hf : files.length = 6) (hh : hv.length = 6) (hs : skip.length <= 1000000) (d : Nat) : ∀ (i q : Nat), i + d = 6 -> d < q ->
  m_r18_usable_l1 (N : Int) files hv skip q (tb 6 (preb' (usb N files hv skip) i)) (i : Int) = some (tb 6 (usb N files hv skip)) := by
 induction d with
 | zero =>
  intro i q hi hq
  obtain ⟨q, rfl⟩ := sucq hq
  obtain rfl : i = 6 := by omega
  unfold m_r18_usable_l1
  rw [if_neg (by omega), preb'_all]; rfl
 | succ d ih =>
  intro i q hi hq
  obtain ⟨q, rfl⟩ := sucq hq
  have h6 : i < 6 := by omega
  have ef : idx files (i : Int) = some (files.getD i []) := idx_gD files i [] (by omega)
  have eh : idx hv (i : Int) = some (hv.getD i false) := idx_gD hv i false (by omega)
  have fin : ∀ v : Bool, usb N files hv skip i = (v && !decide ((i : Int) ∈ skip)) -> m_r18_usable_j3 skip (i : Int) (m_r18_usable_l1 (N : Int) files hv skip q) (tb 6 (st (preb' (usb N files hv skip) i) i v)) = some (tb 6 (usb N files hv skip)) := by
   intro v hvv
   unfold m_r18_usable_j3
   refine (rusable_l4 i h6 _ hs _ skip.length 0 forever v (by omega) (by unfold forever; omega)).trans ?_
   unfold m_r18_usable_j2
   rw [List.drop_zero, <- hvv, preb'_step, ck_of (by omega), obs]
   exact ih (i + 1) q (by omega) (by omega)
  unfold m_r18_usable_l1
  rw [if_pos (by omega), eh, obs]
  by_cases h1 : hv.getD i false = true
  ·rw [if_pos h1, ef, obs, r05_Size_nat N (by omega), obs, idx_tb h6, obs, upd_tb h6, obs, len_beq]
   exact fin _ (by unfold usb; rw [h1, Bool.true_and])
  ·rw [if_neg h1, idx_tb h6, obs, upd_tb h6, obs]
   exact fin false (by unfold usb; rw [Bool.eq_false_iff.2 h1]; simp)
theorem rusable_ok (z1 z2 z3 : Int) (c0 c1 c2 c3 c4 c5 : BitVec 32) (l : List Item) (hN : N <= 1000000) (hf : files.length = 6) (hh : hv.length = 6) (hs : skip.length <= 1000000) :
  m_r18_usable z1 z2 z3 (N : Int) c0 c1 c2 c3 c4 c5 l files hv skip = some (tb 6 (usb N files hv skip)) := by
 unfold m_r18_usable
 rw [show mks 1 (6 : Int) false = some (tb 6 fun _ => false) from mks_tb (n := 6) (by omega) (by omega), obs, <- preb'_zero (usb N files hv skip)]
 exact rusable_loop hN hf hh hs 6 0 forever (by omega) (by unfold forever; omega)
end
def part (files : List Bytes) (us : Nat -> Bool) (a k j : Nat) : Bytes := if us j = true then ((files.getD j []).drop a).take k else []
structure Usable (files : List Bytes) (us : Nat -> Bool) (w : Nat) : Prop where
 small : w <= 1000000
 six : files.length = 6
 len : ∀ j, j < 6 -> us j = true -> (files.getD j []).length = w
def Fits (w : Nat) (p : Pc) : Prop := p.1 < 4 /\ 0 < p.2.2 /\ p.2.2 <= 64 /\ p.2.1 + p.2.2 <= w
def rest (files : List Bytes) (us : Nat -> Bool) (p : Pc) : Option Bytes :=
 match m_rs_Restore (tb 6 (part files us p.2.1 p.2.2)) (tb 6 us) with
 | some r => r.1[p.1]?
 | none => none
def pval (files : List Bytes) (us : Nat -> Bool) (p : Pc) : Option Bytes := if us p.1 = true then some (part files us p.2.1 p.2.2 p.1) else if 4 <= (sel us 6).length then rest files us p else none
section
variable {files : List Bytes} {us : Nat -> Bool} {w : Nat} {p : Pc}
theorem part_len (hu : Usable files us w) (hp : Fits w p) {j : Nat} (hj : j < 6) (h : us j = true) : (part files us p.2.1 p.2.2 j).length = p.2.2 := by
 unfold part; rw [if_pos h, List.length_take, List.length_drop, hu.len j hj h]; have := hp.2.2.2; omega
theorem part_slc (hu : Usable files us w) (hp : Fits w p) {j : Nat} (hj : j < 6) (h : us j = true) : slc (files.getD j []) (p.2.1 : Int) ((p.2.1 + p.2.2 : Nat) : Int) = some (part files us p.2.1 p.2.2 j) := by
 rw [slc_nat _ _ _ ⟨by omega, by rw [hu.len j hj h]; exact hp.2.2.2⟩]; unfold part; rw [if_pos h, Nat.add_sub_cancel_left]
theorem sel_hb (us : Nat -> Bool) : sel (hb (tb 6 us)) 6 = sel us 6 := hb_tb
theorem parts_same (hu : Usable files us w) (hp : Fits w p) : ∀ j ∈ sel (hb (tb 6 us)) 6, ((tb 6 (part files us p.2.1 p.2.2)).getD j []).length = p.2.2 := by
 intro j hj
 rw [sel_hb] at hj
 obtain ⟨h1, h2⟩ := sel_mem.1 hj
 rw [getD_tb h1]; exact part_len hu hp h1 h2
theorem same_of {l : List Bytes} {s : List Nat} {k : Nat} (h : ∀ j ∈ s, (l.getD j []).length = k) : Same l s := by
 intro j hj
 cases s with
 | nil => cases hj
 | cons a s => rw [h j hj]; exact (h a (List.mem_cons_self ..)).symm
theorem rest_ok (hu : Usable files us w) (hp : Fits w p) (h4 : 4 <= (sel us 6).length) :
  ∃ (C Q : Mx), IsCode C /\ Inverse 4 (fun i k => C (((sel us 6).take 4).getD i 0) k) Q /\
   m_rs_Restore (tb 6 (part files us p.2.1 p.2.2)) (tb 6 us) = some (rsto C Q (tb 6 (part files us p.2.1 p.2.2)) (fun t => ((sel us 6).take 4).getD t 0) p.2.2, 0) /\
   m_r04_Restore (tb 6 (part files us p.2.1 p.2.2)) (tb 6 us) = some (rsto C Q (tb 6 (part files us p.2.1 p.2.2)) (fun t => ((sel us 6).take 4).getD t 0) p.2.2, 0) := by
 obtain ⟨C, hC⟩ := code_ex
 have hs := parts_same hu hp
 obtain ⟨Q, h1, _, h2, h3⟩ := restore_ok hC (tb 6 (part files us p.2.1 p.2.2)) (tb 6 us) (tb_len _ _) (tb_len _ _) (same_of hs) (by rw [sel_hb]; exact h4) p.2.2 hs (by have := hp.2.2.1; omega)
 rw [sel_hb] at h1 h2 h3
 exact ⟨C, Q, hC, h1, h2, h3⟩
theorem rest_few (hu : Usable files us w) (hp : Fits w p) (h4 : ¬ 4 <= (sel us 6).length) : m_r04_Restore (tb 6 (part files us p.2.1 p.2.2)) (tb 6 us) = some ([], 11) :=
 (restore_few _ _ (tb_len _ _) (tb_len _ _) (same_of (parts_same hu hp)) (by rw [sel_hb]; omega)).2
theorem rest_val (hu : Usable files us w) (hp : Fits w p) (h4 : 4 <= (sel us 6).length) : ∃ R x, m_rs_Restore (tb 6 (part files us p.2.1 p.2.2)) (tb 6 us) = some (R, 0) /\ m_r04_Restore (tb 6 (part files us p.2.1 p.2.2)) (tb 6 us) = some (R, 0) /\ idx R (p.1 : Int) = some x /\ rest files us p = some x /\ x.length = p.2.2 := by
 obtain ⟨C, Q, _, _, h1, h2⟩ := rest_ok hu hp h4
 have h6 : p.1 < 6 := by have := hp.1; omega
 have hl : ∀ (X : List Bytes) (f : Nat -> Nat) (k : Nat), (rsto C Q X f k).length = 6 := fun X f k => tb_len _ _
 refine ⟨_, (rsto C Q (tb 6 (part files us p.2.1 p.2.2)) (fun t => ((sel us 6).take 4).getD t 0) p.2.2).getD p.1 [], h1, h2, idx_gD _ _ _ (by rw [hl]; exact h6), ?_, ?_⟩
 ·unfold rest; rw [h1]
  show (rsto C Q (tb 6 (part files us p.2.1 p.2.2)) (fun t => ((sel us 6).take 4).getD t 0) p.2.2)[p.1]? = _
  rw [List.getD_eq_getElem?_getD, List.getElem?_eq_getElem (by rw [hl]; exact h6)]; rfl
 ·unfold rsto; rw [getD_tb h6, tb_len]
theorem erest_loop (hu : Usable files us w) (hp : Fits w p) (d : Nat) : ∀ (i q : Nat), i + d = 6 -> d < q ->
  m_ecread_restore_l1 files (tb 6 us) (p.1 : Int) (p.2.1 : Int) (p.2.2 : Int) q (tb 6 fun j => if j < i then part files us p.2.1 p.2.2 j else []) (i : Int) = m_ecread_restore_j0 (tb 6 us) (p.1 : Int) (tb 6 (part files us p.2.1 p.2.2)) := by
 have hb := hp.2.2.1
 induction d with
 | zero =>
  intro i q hi hq
  obtain ⟨q, rfl⟩ := sucq hq
  have := hu.six
  unfold m_ecread_restore_l1
  rw [if_neg (by omega)]
  congr 1
  exact tb_ext fun j hj => if_pos (by omega)
 | succ d ih =>
  intro i q hi hq
  obtain ⟨q, rfl⟩ := sucq hq
  have h6 : i < 6 := by omega
  have hs := hu.six
  have ef : idx files (i : Int) = some (files.getD i []) := idx_gD files i [] (by omega)
  have step := ih (i + 1) q (by omega) (by omega)
  unfold m_ecread_restore_l1
  rw [if_pos (by omega), ef, obs, idx_tb h6, obs]
  by_cases h1 : us i = true
  ·have hl := hu.len i h6 h1
   have hf := hp.2.2.2
   have e0 : slc (files.getD i []) (p.2.1 : Int) ((p.2.1 : Int) + (p.2.2 : Int)) = some (part files us p.2.1 p.2.2 i) := part_slc hu hp h6 h1
   have hsm := hu.small
   rw [if_pos h1, ck_of (by omega), obs, e0, obs, idx_tb h6, obs, upd_tb h6, obs, ck_of (by omega), obs]
   refine Eq.trans ?_ step
   congr 1
   refine tb_ext fun j hj => ?_
   unfold st
   by_cases e : j = i
   ·subst e; rw [if_pos rfl, if_pos (by omega)]
   ·rw [if_neg e]
    dsimp only
    by_cases hlt : j < i
    ·rw [if_pos hlt, if_pos (by omega)]
    ·rw [if_neg hlt, if_neg (by omega)]
  ·rw [if_neg h1, ck_of (by omega), obs]
   refine Eq.trans ?_ step
   congr 1
   refine tb_ext fun j hj => ?_
   by_cases e : j = i
   ·subst e; rw [if_neg (by omega), if_pos (by omega)]; unfold part; rw [if_neg h1]
   ·by_cases hlt : j < i
    ·rw [if_pos hlt, if_pos (by omega)]
    ·rw [if_neg hlt, if_neg (by omega)]
theorem erest_ok (hu : Usable files us w) (hp : Fits w p) (h4 : 4 <= (sel us 6).length) {x : Bytes} (hx : rest files us p = some x) : m_ecread_restore files (tb 6 us) (p.1 : Int) (p.2.1 : Int) (p.2.2 : Int) = some x := by
 unfold m_ecread_restore
 rw [show mks 24 (6 : Int) ([] : By) = some (tb 6 fun _ => []) from mks_tb (n := 6) (by omega) (by omega), obs]
 have e0 : (tb 6 fun _ => ([] : Bytes)) = tb 6 fun j => if j < 0 then part files us p.2.1 p.2.2 j else [] := tb_ext fun j hj => (if_neg (by omega)).symm
 rw [e0]
 refine (erest_loop hu hp 6 0 forever (by omega) (by unfold forever; omega)).trans ?_
 obtain ⟨R, y, h1, _, h2, h3, _⟩ := rest_val hu hp h4
 unfold m_ecread_restore_j0
 rw [h1, obs, h2, obs]
 rw [h3] at hx; exact hx
theorem rrest_loop (hu : Usable files us w) (hp : Fits w p) (acc : Bytes) (i0 : Int) (r2 : List Bool -> Bytes -> Int -> Option (Bytes × Bool)) (d : Nat) : ∀ (i q : Nat), i + d = 6 -> d < q ->
  m_r18_Bytes_l5 files (tb 6 us) acc i0 (toR p) r2 q (tb i (part files us p.2.1 p.2.2)) (i : Int) = m_r18_Bytes_j4 (tb 6 us) acc i0 (toR p) r2 (tb 6 (part files us p.2.1 p.2.2)) := by
 have hb := hp.2.2.1
 induction d with
 | zero =>
  intro i q hi hq
  obtain ⟨q, rfl⟩ := sucq hq
  obtain rfl : i = 6 := by omega
  unfold m_r18_Bytes_l5
  rw [if_neg (by omega)]
 | succ d ih =>
  intro i q hi hq
  obtain ⟨q, rfl⟩ := sucq hq
  have h6 : i < 6 := by omega
  have hs := hu.six
  have hsm := hu.small
  have hf := hp.2.2.2
  have ef : idx files (i : Int) = some (files.getD i []) := idx_gD files i [] (by omega)
  have step := ih (i + 1) q (by omega) (by omega)
  unfold m_r18_Bytes_l5
  rw [if_pos (by omega), idx_tb h6, obs]
  by_cases h1 : us i = true
  ·have e0 : slc (files.getD i []) (toR p).fAt ((toR p).fAt + (toR p).fLen) = some (part files us p.2.1 p.2.2 i) := part_slc hu hp h6 h1
   have e1 : ck ((toR p).fAt + (toR p).fLen) = some ((toR p).fAt + (toR p).fLen) := ck_of (by unfold toR; simp only; omega)
   rw [if_pos h1, ef, obs, e1, obs, e0, obs, apd_tb (by omega) (by omega) rfl, obs, ck_of (by omega), obs]
   exact step
  ·have e0 : part files us p.2.1 p.2.2 i = [] := if_neg h1
   rw [if_neg h1, apd_tb (by omega) (by omega) e0, obs, ck_of (by omega), obs]
   exact step
def bls (files : List Bytes) (us : Nat -> Bool) : List Pc -> Option Bytes
 | [] => some []
 | p :: ps => match pval files us p, bls files us ps with
  | some x, some y => some (x ++ y)
  | _, _ => none
def blR (acc : Bytes) : Option Bytes -> Bytes × Bool
 | some b => (acc ++ b, true)
 | none => ([], false)
theorem pval_len (hu : Usable files us w) (hp : Fits w p) {x : Bytes} (h : pval files us p = some x) : x.length = p.2.2 := by
 unfold pval at h
 split at h
 ·rename_i h1; injection h with h; subst h; exact part_len hu hp (by have := hp.1; omega) h1
 ·split at h
  ·rename_i h1 h4
   obtain ⟨R, y, _, _, _, h3, h5⟩ := rest_val hu hp h4
   rw [h3] at h; injection h with h; subst h; exact h5
  ·cases h
theorem blR_some {x : Bytes} (acc : Bytes) (o : Option Bytes) : blR acc (match some x, o with | some x, some y => some (x ++ y) | _, _ => none) = blR (acc ++ x) o := by
 cases o with
 | none => rfl
 | some y => show (acc ++ (x ++ y), true) = (acc ++ x ++ y, true); rw [List.append_assoc]
theorem ebytes_loop (hu : Usable files us w) (ps : List Pc) (hps : ∀ p ∈ ps, Fits w p) (hn : ps.length <= 2000000) (d : Nat) : ∀ (i q : Nat) (acc : Bytes), i + d = ps.length -> d < q -> acc.length + 64 * d <= 1000000000 ->
  m_ecread_Bytes_l2 files (tb 6 us, ((sel us 6).length : Int)) (ps.map toS, 0) q (tb 6 us) acc (i : Int) = some (blR acc (bls files us (ps.drop i))) := by
 induction d with
 | zero =>
  intro i q acc hi hq ha
  obtain ⟨q, rfl⟩ := sucq hq
  unfold m_ecread_Bytes_l2
  rw [if_neg (by rw [List.length_map]; omega), List.drop_of_length_le (by omega)]
  show some (acc, true) = some (acc ++ [], true)
  rw [List.append_nil]
 | succ d ih =>
  intro i q acc hi hq ha
  obtain ⟨q, rfl⟩ := sucq hq
  have h1 : i < ps.length := by omega
  have hp := hps _ (List.getElem_mem h1)
  have h6 : ps[i].1 < 6 := by have := hp.1; omega
  have hsm := hu.small
  have hf := hp.2.2.2
  have hk := hp.2.2.1
  have ei : idx (ps.map toS) (i : Int) = some (toS ps[i]) := by rw [idx_nat, List.getElem?_map, List.getElem?_eq_getElem h1]; rfl
  unfold m_ecread_Bytes_l2
  rw [if_pos (by rw [List.length_map]; omega), ei, obs]
  show (idx (tb 6 us) (ps[i].1 : Int)).bind _ = _
  rw [idx_tb h6, obs, List.drop_eq_getElem_cons h1, bls]
  by_cases hus : us ps[i].1 = true
  ·have e0 : slc (files.getD ps[i].1 []) (toS ps[i]).fAt ((toS ps[i]).fAt + (toS ps[i]).fLen) = some (part files us ps[i].2.1 ps[i].2.2 ps[i].1) := part_slc hu hp h6 hus
   have e1 : ck ((toS ps[i]).fAt + (toS ps[i]).fLen) = some ((toS ps[i]).fAt + (toS ps[i]).fLen) := ck_of (by unfold toS; simp only; omega)
   have ef : idx files (toS ps[i]).fShard = some (files.getD ps[i].1 []) := idx_gD files ps[i].1 [] (by rw [hu.six]; omega)
   have ev : pval files us ps[i] = some (part files us ps[i].2.1 ps[i].2.2 ps[i].1) := if_pos hus
   have el := part_len hu hp h6 hus
   rw [if_pos hus, ef, obs, e1, obs, e0, obs, apd1_of (by omega), obs, ck_of (by omega), obs, ev, blR_some]
   exact ih (i + 1) q _ (by omega) (by omega) (by rw [List.length_append]; omega)
  ·rw [if_neg hus]
   by_cases h4 : 4 <= (sel us 6).length
   ·obtain ⟨R, x, _, _, _, h3, h5⟩ := rest_val hu hp h4
    have ev : pval files us ps[i] = some x := by unfold pval; rw [if_neg hus, if_pos h4, h3]
    rw [if_pos (by show (4 : Int) <= ((sel us 6).length : Int); omega)]
    show (m_ecread_restore files (tb 6 us) (ps[i].1 : Int) (ps[i].2.1 : Int) (ps[i].2.2 : Int)).bind _ = _
    rw [erest_ok hu hp h4 h3, obs, apd1_of (by omega), obs, ck_of (by omega), obs, ev, blR_some]
    exact ih (i + 1) q _ (by omega) (by omega) (by rw [List.length_append]; omega)
   ·have ev : pval files us ps[i] = none := by unfold pval; rw [if_neg hus, if_neg h4]
    rw [if_neg (by show ¬ (4 : Int) <= ((sel us 6).length : Int); omega), ev]; rfl
theorem rbytes_loop (hu : Usable files us w) (ps : List Pc) (hps : ∀ p ∈ ps, Fits w p) (hn : ps.length <= 2000000) (d : Nat) : ∀ (i q : Nat) (acc : Bytes), i + d = ps.length -> d < q -> acc.length + 64 * d <= 1000000000 ->
  m_r18_Bytes_l2 files (ps.map toR, 0) q (tb 6 us) acc (i : Int) = some (blR acc (bls files us (ps.drop i))) := by
 induction d with
 | zero =>
  intro i q acc hi hq ha
  obtain ⟨q, rfl⟩ := sucq hq
  unfold m_r18_Bytes_l2
  rw [if_neg (by rw [List.length_map]; omega), List.drop_of_length_le (by omega)]
  show some (acc, true) = some (acc ++ [], true)
  rw [List.append_nil]
 | succ d ih =>
  intro i q acc hi hq ha
  obtain ⟨q, rfl⟩ := sucq hq
  have h1 : i < ps.length := by omega
  have hp := hps _ (List.getElem_mem h1)
  have h6 : ps[i].1 < 6 := by have := hp.1; omega
  have ei : idx (ps.map toR) (i : Int) = some (toR ps[i]) := by rw [idx_nat, List.getElem?_map, List.getElem?_eq_getElem h1]; rfl
  unfold m_r18_Bytes_l2
  rw [if_pos (by rw [List.length_map]; omega), ei, obs]
  refine (rrest_loop hu hp acc (i : Int) _ 6 0 forever (by omega) (by unfold forever; omega)).trans ?_
  unfold m_r18_Bytes_j4
  show (idx (tb 6 us) (ps[i].1 : Int)).bind _ = _
  rw [idx_tb h6, obs, List.drop_eq_getElem_cons h1, bls]
  have hk := hp.2.2.1
  by_cases hus : us ps[i].1 = true
  ·have ev : pval files us ps[i] = some (part files us ps[i].2.1 ps[i].2.2 ps[i].1) := if_pos hus
   have el := part_len hu hp h6 hus
   have ef : idx (tb 6 (part files us ps[i].2.1 ps[i].2.2)) (toR ps[i]).fShard = some (part files us ps[i].2.1 ps[i].2.2 ps[i].1) := idx_tb h6
   rw [if_pos hus, ef, obs, apd1_of (by omega), obs, m_r18_Bytes_j3, ck_of (by omega), obs, ev, blR_some]
   exact ih (i + 1) q _ (by omega) (by omega) (by rw [List.length_append]; omega)
  ·rw [if_neg hus]
   by_cases h4 : 4 <= (sel us 6).length
   ·obtain ⟨R, x, _, h2, hi2, h3, h5⟩ := rest_val hu hp h4
    have ev : pval files us ps[i] = some x := by unfold pval; rw [if_neg hus, if_pos h4, h3]
    have ef : idx R (toR ps[i]).fShard = some x := hi2
    rw [h2, obs, if_pos rfl, ef, obs, apd1_of (by omega), obs, m_r18_Bytes_j3, ck_of (by omega), obs, ev, blR_some]
    exact ih (i + 1) q _ (by omega) (by omega) (by rw [List.length_append]; omega)
   ·have ev : pval files us ps[i] = none := by unfold pval; rw [if_neg hus, if_neg h4]
    rw [rest_few hu hp h4, obs, if_neg (by decide), ev]; rfl
end
theorem usb_usable {N : Nat} {files : List Bytes} {hv : List Bool} {skip : List Int} (hN : N <= 1000000) (hf : files.length = 6) : Usable files (usb N files hv skip) (ssz N) :=
 ⟨by unfold ssz; omega, hf, fun j hj h => by unfold usb at h; simp only [Bool.and_eq_true] at h; exact beq_iff_eq.1 h.1.2⟩
def bytesS (a b c n : Int) (l : List Item) (files : List Bytes) (hv : List Bool) (skip : List Int) (off m : Int) : Bytes × Bool :=
 if hvalB a b c n l = true /\ files.length = 6 /\ hv.length = 6 /\ 0 <= off /\ 0 <= m /\ off <= n /\ m <= n - off then
  blR [] (bls files (usb n.toNat files hv skip) (pieces off.toNat m.toNat))
 else ([], false)
theorem shaped_eq (a b c n : Int) (c0 c1 c2 c3 c4 c5 : BitVec 32) (l : List Item) (files : List Bytes) (hv : List Bool) (hl : l.length <= 9223372036854775806) :
  m_ecread_shaped a b c n c0 c1 c2 c3 c4 c5 l files hv = some (hvalB a b c n l && decide (files.length = 6) && decide (hv.length = 6)) := by
 unfold m_ecread_shaped
 rw [shards_Valid_eq _ _ _ _ _ _ _ _ _ _ _ hl, obs]
 by_cases h1 : hvalB a b c n l = true
 ·rw [if_pos h1, h1]
  by_cases h2 : files.length = 6
  ·rw [if_pos (by omega), decide_eq_true h2]
   by_cases h3 : hv.length = 6
   ·rw [h3]; rfl
   ·rw [decide_eq_false h3, beq_eq_false_iff_ne.2 (by omega)]; rfl
  ·rw [if_neg (by omega), decide_eq_false h2]; rfl
 ·rw [if_neg h1, Bool.eq_false_iff.2 h1]; rfl
theorem ebytes_ok (a b c n : Int) (c0 c1 c2 c3 c4 c5 : BitVec 32) (l : List Item) (files : List Bytes) (hv : List Bool) (skip : List Int) (off m : Int) (hl : l.length <= 9223372036854775806) (hs : skip.length <= 1000000) :
  m_ecread_Bytes a b c n c0 c1 c2 c3 c4 c5 l files hv skip off m = some (bytesS a b c n l files hv skip off m) := by
 unfold m_ecread_Bytes bytesS
 rw [shaped_eq _ _ _ _ _ _ _ _ _ _ _ _ _ hl, obs]
 by_cases h1 : hvalB a b c n l = true
 ·by_cases h2 : files.length = 6
  ·by_cases h3 : hv.length = 6
   ·rw [if_pos (by rw [h1, decide_eq_true h2, decide_eq_true h3]; rfl)]
    have hn := hvalB_len h1
    by_cases h4 : off < 0
    ·rw [if_pos h4, if_neg (fun h => by omega)]
    ·by_cases h5 : m < 0
     ·rw [if_neg h4, if_pos h5, if_neg (fun h => by omega)]
     ·by_cases h6 : n < off
      ·rw [if_neg h4, if_neg h5, if_pos h6, if_neg (fun h => by omega)]
      ·rw [if_neg h4, if_neg h5, if_neg h6, ck_of (by omega), obs]
       by_cases h7 : n - off < m
       ·rw [if_pos h7, if_neg (fun h => by omega)]
       ·rw [if_neg h7, if_pos ⟨h1, h2, h3, by omega, by omega, by omega, by omega⟩]
        obtain ⟨N, rfl⟩ := Int.eq_ofNat_of_zero_le (show 0 <= n by omega)
        obtain ⟨O, rfl⟩ := Int.eq_ofNat_of_zero_le (show 0 <= off by omega)
        obtain ⟨M, rfl⟩ := Int.eq_ofNat_of_zero_le (show 0 <= m by omega)
        simp only [Int.toNat_natCast]
        unfold m_ecread_Bytes_j0
        rw [eusable_ok _ _ _ _ _ _ _ _ _ _ (by omega) h2 h3 hs, obs, stripe_Pieces_nat (by omega) (by omega), obs]
        have hpl := pieces_len M O
        exact ebytes_loop (usb_usable (by omega) h2) (pieces O M) (fun p hp => pieces_mem M O (show O + M <= N by omega) p hp) (by omega) (pieces O M).length 0 forever [] (by omega) (by unfold forever; omega) (by simp; omega)
   ·rw [if_neg (by rw [decide_eq_false h3]; simp), if_neg (fun h => h3 h.2.2.1)]
  ·rw [if_neg (by rw [decide_eq_false h2]; simp), if_neg (fun h => h2 h.2.1)]
 ·rw [if_neg (by rw [Bool.eq_false_iff.2 h1]; simp), if_neg (fun h => h1 h.1)]
theorem rbytes_ok (a b c n : Int) (c0 c1 c2 c3 c4 c5 : BitVec 32) (l : List Item) (files : List Bytes) (hv : List Bool) (skip : List Int) (off m : Int) (hl : l.length <= 9223372036854775806) (hs : skip.length <= 1000000) :
  m_r18_Bytes a b c n c0 c1 c2 c3 c4 c5 l files hv skip off m = some (bytesS a b c n l files hv skip off m) := by
 unfold m_r18_Bytes bytesS
 rw [r17_Valid_eq _ _ _ _ _ _ _ _ _ _ _ hl, obs]
 by_cases h1 : hvalB a b c n l = true
 ·rw [if_pos h1]
  by_cases h2 : files.length = 6
  ·rw [if_pos (by omega)]
   by_cases h3 : hv.length = 6
   ·rw [if_pos (by omega)]
    have hn := hvalB_len h1
    by_cases h4 : off < 0
    ·rw [if_pos h4, if_neg (fun h => by omega)]
    ·by_cases h5 : m < 0
     ·rw [if_neg h4, if_pos h5, if_neg (fun h => by omega)]
     ·by_cases h6 : n < off
      ·rw [if_neg h4, if_neg h5, if_pos h6, if_neg (fun h => by omega)]
      ·rw [if_neg h4, if_neg h5, if_neg h6, ck_of (by omega), obs]
       by_cases h7 : n - off < m
       ·rw [if_pos h7, if_neg (fun h => by omega)]
       ·rw [if_neg h7, if_pos ⟨h1, h2, h3, by omega, by omega, by omega, by omega⟩]
        obtain ⟨N, rfl⟩ := Int.eq_ofNat_of_zero_le (show 0 <= n by omega)
        obtain ⟨O, rfl⟩ := Int.eq_ofNat_of_zero_le (show 0 <= off by omega)
        obtain ⟨M, rfl⟩ := Int.eq_ofNat_of_zero_le (show 0 <= m by omega)
        simp only [Int.toNat_natCast]
        unfold m_r18_Bytes_j0
        rw [rusable_ok _ _ _ _ _ _ _ _ _ _ (by omega) h2 h3 hs, obs, r05_Pieces_nat (by omega) (by omega), obs]
        have hpl := pieces_len M O
        exact rbytes_loop (usb_usable (by omega) h2) (pieces O M) (fun p hp => pieces_mem M O (show O + M <= N by omega) p hp) (by omega) (pieces O M).length 0 forever [] (by omega) (by unfold forever; omega) (by simp; omega)
   ·rw [if_neg (by omega), if_neg (fun h => h3 h.2.2.1)]
  ·rw [if_neg (by omega), if_neg (fun h => h2 h.2.1)]
 ·rw [if_neg h1, if_neg (fun h => h1 h.1)]
end Go.Proofs.YtcncappgheopgaaGreat
