/- A part of the proof. Conditions: as each theorem says. -/
import Derived.Test.YtcncappgheopgaaGreatSi
import Derived.Test.YtcncappgheopgaaGreatMdm3
namespace Go.Proofs.YtcncappgheopgaaGreat
set_option linter.unusedVariables false
set_option linter.unusedSimpArgs false
theorem awake_ok : m_law18_awake = some true := by decide +kernel
theorem rmi_any (a : Int) (n : Nat) (h : 0 < n) : ∃ r, rmi a (n : Int) = some r /\ -(n : Int) < r /\ r < n :=
 ⟨_, by rw [rmi, if_neg (by omega)], Int.lt_tmod_of_pos a (by omega), Int.tmod_lt_of_pos a (by omega)⟩
theorem rmi_nat {a : Int} (h0 : 0 <= a) (n : Nat) (h : 0 < n) : ∃ m : Nat, rmi a (n : Int) = some (m : Int) /\ m < n := by
 have h1 := Int.emod_nonneg a (b := (n : Int)) (by omega)
 have h2 := Int.emod_lt_of_pos a (b := (n : Int)) (by omega)
 exact ⟨(a % n).toNat, by rw [rmi_of h0 (by omega)]; refine congrArg some ?_; omega, by omega⟩
theorem getD_set {α : Type} (l : List α) (j t : Nat) (y d : α) (hj : j < l.length) : (l.set j y).getD t d = if t = j then y else l.getD t d := by
 rw [List.getD_eq_getElem?_getD, List.getElem?_set, List.getD_eq_getElem?_getD]
 by_cases e : t = j
 ·subst e; rw [if_pos rfl, if_pos hj, if_pos rfl]; rfl
 ·rw [if_neg (fun h => e h.symm), if_neg e]
structure Dmg (C : Mx) (b : By) (i k : Nat) (files : List Bytes) : Prop where
 six : files.length = 6
 len : ∀ j, j < 6 -> (files.getD j []).length = ssz b.length
 same : ∀ j, j < 6 -> j ≠ i -> j ≠ k -> files.getD j [] = (shardsOf C b).getD j []
theorem Dmg.set {C : Mx} {b : By} {i k : Nat} {files : List Bytes} (h : Dmg C b i k files) {j : Nat} (hj : j = i ∨ j = k) (hj6 : j < 6) {y : Bytes} (hy : y.length = ssz b.length) : Dmg C b i k (files.set j y) := by
 have hs := h.six
 refine ⟨by rw [List.length_set]; exact hs, fun t ht => ?_, fun t ht h1 h2 => ?_⟩
 ·rw [getD_set _ _ _ _ _ (by omega)]; split
  ·exact hy
  ·exact h.len t ht
 ·rw [getD_set _ _ _ _ _ (by omega), if_neg (by omega)]; exact h.same t ht h1 h2
theorem xor_loop (noise : By) (x90 : List Bytes) (x93 x105 : Int) (r1 : List Bytes -> Int -> Option Bool) (d : Nat) : ∀ (p q : Nat) (y : Bytes), p + d = y.length -> d < q -> y.length <= 1000000 ->
  ∃ y', y'.length = y.length /\ m_law18_EcreadDamage_l4 noise x90 x93 x105 r1 q y (p : Int) = m_law18_EcreadDamage_j3 x90 x93 x105 r1 y' := by
 induction d with
 | zero =>
  intro p q y hp hq hl
  obtain ⟨q, rfl⟩ := sucq hq
  refine ⟨y, rfl, ?_⟩
  unfold m_law18_EcreadDamage_l4
  rw [if_neg (by omega)]
 | succ d ih =>
  intro p q y hp hq hl
  obtain ⟨q, rfl⟩ := sucq hq
  unfold m_law18_EcreadDamage_l4
  by_cases hn : (p : Int) < (noise.length : Int)
  ·have h1 : p < y.length := by omega
   have h2 : p < noise.length := by omega
   rw [if_pos (by omega), if_pos hn, idx_nat, List.getElem?_eq_getElem h1, obs, idx_nat, List.getElem?_eq_getElem h2, obs, obs, upd_of (by omega), obs, ck_of (by omega), obs]
   obtain ⟨y', e1, e2⟩ := ih (p + 1) q (y.set (p : Int).toNat (y[p] ^^^ noise[p])) (by rw [List.length_set]; omega) (by omega) (by rw [List.length_set]; exact hl)
   exact ⟨y', by rw [e1, List.length_set], e2⟩
  ·rw [if_pos (by omega), if_neg hn]; exact ⟨y, rfl, rfl⟩
theorem sets_two : ∀ i k : Fin 6, ∃ t : Fin 22, ∀ j : Fin 6, decide ((j.val : Int) ∈ sL.getD t.val []) = (j.val == i.val || j.val == k.val) := by decide
theorem four_left : ∀ i k : Fin 6, 4 <= (sel (fun j => !(j == i.val || j == k.val)) 6).length := by decide
section
variable {c : BitVec 32} {ns : List Nd} {C : Mx} {r : Rec} {i k : Nat} {files : List Bytes} {hv : List Bool}
theorem dmg_found (hg : Gen c ns) (hC : IsCode C) (hi : i < 6) (hk : k < 6) (hd : Dmg C (datOf c ns) i k files) (hh : hv.length = 6) (hv1 : ∀ j, j < 6 -> j ≠ k -> hv.getD j false = true) (hr : r ∈ recsOf 16 ns) (hx : itemOf r ∈ itemsOf ns) :
  ∃ s ∈ sL, candS 1 2 3 ((datOf c ns).length : Int) (itemsOf ns) files hv s (itemOf r) = crOf r.fNeedle := by
 obtain ⟨t, ht⟩ := sets_two ⟨i, hi⟩ ⟨k, hk⟩
 have hm : ∀ j : Nat, j < 6 -> decide ((j : Int) ∈ sL.getD t.val []) = (j == i || j == k) := fun j hj => ht ⟨j, hj⟩
 have hu : ∀ j : Nat, j < 6 -> usb (datOf c ns).length files hv (sL.getD t.val []) j = !(j == i || j == k) := fun j hj => by
  unfold usb
  rw [hm j hj, hd.len j hj, beq_self_eq_true, Bool.and_true]
  by_cases e : (j == i || j == k) = true
  ·rw [e]; simp
  ·have e' := Bool.eq_false_iff.2 e
   rw [e', hv1 j hj (fun h => by subst h; simp at e)]; rfl
 have hmem : sL.getD t.val [] ∈ sL := by
  rw [List.getD_eq_getElem?_getD, List.getElem?_eq_getElem (by rw [sL_len]; exact t.isLt)]; exact List.getElem_mem _
 refine ⟨_, hmem, cand_intact hg hC hd.six hh _ (fun j hj h => ?_) hr (live_rec hg hr hx) (.inr ?_)⟩
 ·rw [hu j hj] at h
  simp only [Bool.not_eq_true', Bool.or_eq_false_iff, beq_eq_false_iff_ne] at h
  exact hd.same j hj h.1 h.2
 ·rw [sel_congr hu]; exact four_left ⟨i, hi⟩ ⟨k, hk⟩
end
def differs (f : List Int -> CR) (x : Nd) (s : List Int) : Bool := (f s).2.2.2.2 && !decide ((f s).1 = x.fKey /\ (f s).2.1 = x.fCookie /\ (f s).2.2.1 = x.fDeleted /\ (f s).2.2.2.1 = x.fData)
theorem collides_loop (a b c n : Int) (c0 c1 c2 c3 c4 c5 : BitVec 32) (l : List Item) (files : List Bytes) (hv : List Bool) (x : Item) (y : Nd) (hl : l.length <= 9223372036854775806) (d : Nat) : ∀ (k q : Nat), k + d = 22 -> d < q ->
  m_law18_collides_l1 c4 c5 l a b c n c0 c1 c2 c3 files hv x.fKey x.fCookie x.fOff x.fSize y.fKey y.fCookie y.fDeleted y.fData q (k : Int) = some ((sL.drop k).any (differs (fun s => candS a b c n l files hv s x) y)) := by
 induction d with
 | zero =>
  intro k q hi hq
  obtain ⟨q, rfl⟩ := sucq hq
  unfold m_law18_collides_l1
  rw [if_neg (by omega), List.drop_of_length_le (by rw [sL_len]; omega)]; rfl
 | succ d ih =>
  intro k q hi hq
  obtain ⟨q, rfl⟩ := sucq hq
  have h1 : k < sL.length := by rw [sL_len]; omega
  have ee : ex (k : Int) = sL[k] := by unfold ex; rw [if_pos (by omega), Int.toNat_natCast, List.getD_eq_getElem?_getD, List.getElem?_eq_getElem h1]; rfl
  unfold m_law18_collides_l1
  rw [if_pos (by omega), rCandidate_ok _ _ _ _ _ _ _ _ _ _ _ _ _ hl, obs, if_pos (show 0 <= (k : Int) /\ (k : Int) < 22 by omega), ee, List.drop_eq_getElem_cons h1, List.any_cons]
  have nxt := ih (k + 1) q (by omega) (by omega)
  by_cases h : (candS a b c n l files hv sL[k] x).2.2.2.2 = true
  ·rw [if_pos h, same_ok, obs]
   by_cases hs : (candS a b c n l files hv sL[k] x).1 = y.fKey /\ (candS a b c n l files hv sL[k] x).2.1 = y.fCookie /\ (candS a b c n l files hv sL[k] x).2.2.1 = y.fDeleted /\ (candS a b c n l files hv sL[k] x).2.2.2.1 = y.fData
   ·have ed : differs (fun s => candS a b c n l files hv s x) y sL[k] = false := by unfold differs; rw [decide_eq_true hs]; simp
    rw [if_pos (decide_eq_true hs), ck_of (by omega), obs, ed, Bool.false_or]
    exact nxt
   ·have ed : differs (fun s => candS a b c n l files hv s x) y sL[k] = true := by unfold differs; rw [decide_eq_false hs, h]; rfl
    rw [if_neg (by simpa using hs), ed, Bool.true_or]
  ·have ed : differs (fun s => candS a b c n l files hv s x) y sL[k] = false := by unfold differs; rw [Bool.eq_false_iff.2 h]; rfl
   rw [if_neg h, ck_of (by omega), obs, ed, Bool.false_or]
   exact nxt
abbrev X3 := By × List Rec × Int × Int × Int × Int × BitVec 32 × BitVec 32 × BitVec 32 × BitVec 32 × BitVec 32 × BitVec 32 × List Item × List Bytes
theorem live_loop (x3 : X3) (x83 : List Bytes) (x146 : List Bool) (l : List Item) (x98 : Int) (r : Rec) (r3 : List Item -> Int -> Option Bool) (hl : l.length <= 1000000) (d : Nat) : ∀ (i q : Nat) (f : Bool), i + d = l.length -> d < q ->
  m_law18_EcreadDamage_l10 x3 x83 x146 l x98 r r3 q f (i : Int) = m_law18_EcreadDamage_j9 x3 x83 x146 l x98 r r3 (f || decide (itemOf r ∈ l.drop i)) := by
 induction d with
 | zero =>
  intro i q f hi hq
  obtain ⟨q, rfl⟩ := sucq hq
  unfold m_law18_EcreadDamage_l10
  rw [if_neg (by omega), List.drop_of_length_le (by omega)]; simp
 | succ d ih =>
  intro i q f hi hq
  obtain ⟨q, rfl⟩ := sucq hq
  have h1 : i < l.length := by omega
  unfold m_law18_EcreadDamage_l10
  rw [if_pos (by omega), idx_nat, List.getElem?_eq_getElem h1, obs, List.drop_eq_getElem_cons h1]
  cases f
  ·rw [if_neg (by simp), ck_of (by omega), obs]
   refine (ih (i + 1) q _ (by omega) (by omega)).trans ?_
   rw [live_dec, live_or]
  ·rw [if_pos rfl, ck_of (by omega), obs]
   exact ih (i + 1) q true (by omega) (by omega)
section
variable {l : List Nd} (M : Made l)
abbrev x3of : X3 := (datOf M.c (nsOf l 10), recsOf 16 (nsOf l 10), 1, 2, 3, ((datOf M.c (nsOf l 10)).length : Int), M.s0, M.s1, M.s2, M.s3, M.s4, M.s5, itemsOf (nsOf l 10), shardsOf M.C (datOf M.c (nsOf l 10)))
theorem dmg_loop {i k : Nat} {files : List Bytes} {hv : List Bool} (hi : i < 6) (hk : k < 6) (hd : Dmg M.C (datOf M.c (nsOf l 10)) i k files) (hh : hv.length = 6) (hv1 : ∀ j, j < 6 -> j ≠ k -> hv.getD j false = true) (d : Nat) : ∀ (p q : Nat), p + d = (recsOf 16 (nsOf l 10)).length -> d < q ->
  m_law18_EcreadDamage_l7 (x3of M) files hv q (itemsOf (nsOf l 10)) (p : Int) = some true := by
 have hg := M.gen
 have hil := hg.itemsLen
 have hrl : (recsOf 16 (nsOf l 10)).length <= 15 := by rw [recsOf_len]; exact hg.few
 induction d with
 | zero =>
  intro p q hp hq
  obtain ⟨q, rfl⟩ := sucq hq
  unfold m_law18_EcreadDamage_l7 m_law18_EcreadDamage_j6
  rw [if_neg (by show ¬ (p : Int) < ((recsOf 16 (nsOf l 10)).length : Int); omega), awake_ok, obs]
 | succ d ih =>
  intro p q hp hq
  obtain ⟨q, rfl⟩ := sucq hq
  have h1 : p < (recsOf 16 (nsOf l 10)).length := by omega
  have hr : (recsOf 16 (nsOf l 10))[p] ∈ recsOf 16 (nsOf l 10) := List.getElem_mem h1
  have nxt : m_law18_EcreadDamage_j8 (itemsOf (nsOf l 10)) (p : Int) (m_law18_EcreadDamage_l7 (x3of M) files hv q) = some true := by
   unfold m_law18_EcreadDamage_j8
   rw [ck_of (by omega), obs]
   exact ih (p + 1) q (by omega) (by omega)
  have e0 : idx (x3of M).2.1 (p : Int) = some (recsOf 16 (nsOf l 10))[p] := by rw [idx_nat]; exact List.getElem?_eq_getElem h1
  unfold m_law18_EcreadDamage_l7
  rw [if_pos (by show (p : Int) < ((recsOf 16 (nsOf l 10)).length : Int); omega), e0, obs]
  generalize (recsOf 16 (nsOf l 10))[p] = r at hr
  refine (live_loop (x3of M) files hv (itemsOf (nsOf l 10)) (p : Int) r _ (by omega) (itemsOf (nsOf l 10)).length 0 forever false (by omega) (by unfold forever; omega)).trans ?_
  rw [List.drop_zero, Bool.false_or]
  unfold m_law18_EcreadDamage_j9
  by_cases hx : itemOf r ∈ itemsOf (nsOf l 10)
  ·rw [if_pos (decide_eq_true hx)]
   unfold m_law18_collides
   dsimp only
   have ec := collides_loop 1 2 3 ((datOf M.c (nsOf l 10)).length : Int) M.s0 M.s1 M.s2 M.s3 M.s4 M.s5 (itemsOf (nsOf l 10)) files hv (itemOf r) r.fNeedle (by omega) 22 0 forever (by omega) (by unfold forever; omega)
   rw [List.drop_zero] at ec
   refine (congrArg (fun o => Option.bind o _) ec).trans ?_
   rw [obs]
   by_cases hc : sL.any (differs (fun s => candS 1 2 3 ((datOf M.c (nsOf l 10)).length : Int) (itemsOf (nsOf l 10)) files hv s (itemOf r)) r.fNeedle) = true
   ·rw [if_pos hc]; exact nxt
   ·rw [if_neg hc]
    unfold m_law18_EcreadDamage_j11 m_law18_given
    rw [obs]
    dsimp only
    have er := eRead_ok 1 2 3 ((datOf M.c (nsOf l 10)).length : Int) M.s0 M.s1 M.s2 M.s3 M.s4 M.s5 (itemsOf (nsOf l 10)) files hv (by omega) (itemOf r)
    have er' : m_ecread_Read 1 2 3 ((datOf M.c (nsOf l 10)).length : Int) M.s0 M.s1 M.s2 M.s3 M.s4 M.s5 (itemsOf (nsOf l 10)) files hv r.fNeedle.fKey r.fNeedle.fCookie r.fOff ((r.fNeedle.fData.length : Nat) : Int) = _ := er
    rw [er']
    unfold readS
    rw [if_pos ⟨hg.valid, hd.six, hh, hx⟩]
    obtain ⟨s, hs, hs2⟩ := dmg_found hg M.code hi hk hd hh hv1 hr hx
    obtain ⟨t, ht, ht2, ht3⟩ := firstOr_some (f := fun s => candS 1 2 3 ((datOf M.c (nsOf l 10)).length : Int) (itemsOf (nsOf l 10)) files hv s (itemOf r)) (some (rBad 11)) sL ⟨s, hs, by rw [hs2]; rfl⟩
    have hnd : differs (fun s => candS 1 2 3 ((datOf M.c (nsOf l 10)).length : Int) (itemsOf (nsOf l 10)) files hv s (itemOf r)) r.fNeedle t = false := by
     refine Bool.eq_false_iff.2 fun h => hc (List.any_eq_true.2 ⟨t, ht, h⟩)
    unfold differs at hnd
    rw [ht2, Bool.true_and] at hnd
    have hsame : (candS 1 2 3 ((datOf M.c (nsOf l 10)).length : Int) (itemsOf (nsOf l 10)) files hv t (itemOf r)).1 = r.fNeedle.fKey /\ (candS 1 2 3 ((datOf M.c (nsOf l 10)).length : Int) (itemsOf (nsOf l 10)) files hv t (itemOf r)).2.1 = r.fNeedle.fCookie /\ (candS 1 2 3 ((datOf M.c (nsOf l 10)).length : Int) (itemsOf (nsOf l 10)) files hv t (itemOf r)).2.2.1 = r.fNeedle.fDeleted /\ (candS 1 2 3 ((datOf M.c (nsOf l 10)).length : Int) (itemsOf (nsOf l 10)) files hv t (itemOf r)).2.2.2.1 = r.fNeedle.fData := by
     simpa using hnd
    rw [ht3, obs, if_pos rfl, same_ok, obs, if_pos (decide_eq_true hsame)]
    exact nxt
  ·rw [if_neg (by simpa using hx)]
   exact nxt
theorem dmg_end {i k : Nat} {files : List Bytes} (hi : i < 6) (hk : k < 6) (gone : Bool) (hd : Dmg M.C (datOf M.c (nsOf l 10)) i k files) : m_law18_EcreadDamage_j0 gone (x3of M) (k : Int) [true, true, true, true, true, true] files = some true := by
 have hrl : (recsOf 16 (nsOf l 10)).length <= 15 := by rw [recsOf_len]; exact M.gen.few
 have all1 : ∀ j, j < 6 -> ([true, true, true, true, true, true] : List Bool).getD j false = true := fun j hj => by
  have : ∀ i : Fin 6, ([true, true, true, true, true, true] : List Bool).getD i.val false = true := by decide
  exact this ⟨j, hj⟩
 unfold m_law18_EcreadDamage_j0 m_law18_EcreadDamage_j5
 cases gone
 ·rw [if_neg (by simp)]
  exact dmg_loop M hi hk hd rfl (fun j hj _ => all1 j hj) (recsOf 16 (nsOf l 10)).length 0 forever (by omega) (by unfold forever; omega)
 ·have h6 : k < ([true, true, true, true, true, true] : List Bool).length := hk
  rw [if_pos rfl, idx_nat, List.getElem?_eq_getElem h6, obs, upd_of ⟨by omega, by simpa using h6⟩, obs, Int.toNat_natCast]
  refine dmg_loop M hi hk hd (by rw [List.length_set]; rfl) (fun j hj hne => ?_) (recsOf 16 (nsOf l 10)).length 0 forever (by omega) (by unfold forever; omega)
  rw [getD_set _ _ _ _ _ h6, if_neg hne]; exact all1 j hj
theorem dmg_step {i k j : Nat} {files : List Bytes} (gone : Bool) (noise : By) (hi : i < 6) (hk : k < 6) (hd : Dmg M.C (datOf M.c (nsOf l 10)) i k files) (p q : Nat) (hp : p < 2) (hj : ([(i : Int), (k : Int)] : List Int)[p]? = some (j : Int)) (hj2 : j = i ∨ j = k)
  (nxt : ∀ files', Dmg M.C (datOf M.c (nsOf l 10)) i k files' -> m_law18_EcreadDamage_l1 gone noise (x3of M) (i : Int) (k : Int) [true, true, true, true, true, true] q files' ((p + 1 : Nat) : Int) = some true) :
  m_law18_EcreadDamage_l1 gone noise (x3of M) (i : Int) (k : Int) [true, true, true, true, true, true] (q + 1) files (p : Int) = some true := by
 have h6 : j < 6 := by omega
 have hs := hd.six
 have hw := hd.len j h6
 have hsm : ssz (datOf M.c (nsOf l 10)).length <= 1000 := M.gen.wid
 unfold m_law18_EcreadDamage_l1
 rw [if_pos (by show (p : Int) < 2; omega), idx_nat, hj, obs, idx_gD files j [] (by omega), obs, apd1_of (by rw [List.length_nil, hw]; omega), obs, List.nil_append]
 obtain ⟨y', e1, e2⟩ := xor_loop noise files (p : Int) (j : Int) (m_law18_EcreadDamage_l1 gone noise (x3of M) (i : Int) (k : Int) [true, true, true, true, true, true] q) (files.getD j []).length 0 forever (files.getD j []) (by omega) (by unfold forever; omega) (by omega)
 refine Eq.trans e2 ?_
 unfold m_law18_EcreadDamage_j3 m_law18_EcreadDamage_j2
 rw [idx_gD files j [] (by omega), obs, upd_of (by omega), obs, ck_of (by omega), obs, Int.toNat_natCast]
 exact nxt _ (hd.set hj2 h6 (by rw [e1, hw]))
end
theorem ok_EcreadDamage (l : List Nd) (first second : Int) (gone : Bool) (noise : By) : m_law18_EcreadDamage l first second gone noise = some true := by
 obtain ⟨M⟩ := made_ok l
 unfold m_law18_EcreadDamage
 rw [M.eq, obs]
 obtain ⟨r1, e1, b1, b2⟩ := rmi_any first 6 (by omega)
 have e1' : rmi first (6 : Int) = some r1 := e1
 rw [e1', obs, ck_of (by omega), obs]
 obtain ⟨i, e2, hi⟩ := rmi_nat (a := r1 + 6) (by omega) 6 (by omega)
 have e2' : rmi (r1 + 6) (6 : Int) = some (i : Int) := e2
 rw [e2', obs]
 obtain ⟨r2, e3, b3, b4⟩ := rmi_any second 6 (by omega)
 have e3' : rmi second (6 : Int) = some r2 := e3
 rw [e3', obs, ck_of (by omega), obs]
 obtain ⟨k, e4, hk⟩ := rmi_nat (a := r2 + 6) (by omega) 6 (by omega)
 have e4' : rmi (r2 + 6) (6 : Int) = some (k : Int) := e4
 rw [e4', obs]
 have e5 : apd 24 ([] : List Bytes) (shardsOf M.C (datOf M.c (nsOf l 10))) = some (shardsOf M.C (datOf M.c (nsOf l 10))) := by
  rw [apd_of (by rw [shardsOf_len]; decide), List.nil_append]
 dsimp only
 rw [e5, obs, show m_law18_all = some [true, true, true, true, true, true] from rfl, obs]
 have d0 : Dmg M.C (datOf M.c (nsOf l 10)) i k (shardsOf M.C (datOf M.c (nsOf l 10))) := ⟨shardsOf_len _ _, fun j hj => shard_len _ _ hj, fun j _ _ _ => rfl⟩
 have f : forever = 18446744073709551613 + 1 + 1 + 1 := rfl
 rw [f]
 refine dmg_step M gone noise hi hk d0 0 _ (by omega) (j := i) rfl (.inl rfl) fun f1 d1 => ?_
 refine dmg_step M gone noise hi hk d1 1 _ (by omega) (j := k) rfl (.inr rfl) fun f2 d2 => ?_
 unfold m_law18_EcreadDamage_l1
 rw [if_neg (by show ¬ (((1 + 1 : Nat) : Int) < 2); omega)]
 exact dmg_end M hi hk gone d2
end Go.Proofs.YtcncappgheopgaaGreat
