/- A part of the proof. Conditions: as each theorem says. -/
import Derived.Test.YtcncappgheopgaaGreatSg
namespace Go.Proofs.YtcncappgheopgaaGreat
set_option linter.unusedVariables false
set_option linter.unusedSimpArgs false
theorem same_ok (k k' : BitVec 64) (c c' : BitVec 32) (d d' : Bool) (xs xs' : By) : m_r06_Same k c d xs k' c' d' xs' = some (decide (k = k' /\ c = c' /\ d = d' /\ xs = xs')) := by
 unfold m_r06_Same
 by_cases h1 : k = k'
 ·by_cases h2 : c = c'
  ·by_cases h3 : d = d'
   ·by_cases h4 : xs = xs'
    ·simp [h1, h2, h3, h4]
    ·simp [h1, h2, h3, h4]
   ·simp [h1, h2, h3]
  ·simp [h1, h2]
 ·simp [h1]
theorem live_dec (y : Item) (r : Rec) : decide (y.fKey = r.fNeedle.fKey /\ y.fCookie = r.fNeedle.fCookie /\ y.fOff = r.fOff /\ y.fSize = (r.fNeedle.fData.length : Int) /\ True) = decide (y = itemOf r) := decide_eq_decide.2 (item_eq y (itemOf r))
theorem live_or (r : Rec) (y : Item) (l : List Item) : (decide (y = itemOf r) || decide (itemOf r ∈ l)) = (false || decide (itemOf r ∈ y :: l)) := by
 rw [Bool.false_or]
 by_cases e : y = itemOf r
 ·rw [decide_eq_true e, decide_eq_true (show itemOf r ∈ y :: l by rw [e]; exact List.mem_cons_self ..)]; rfl
 ·have hm : (itemOf r ∈ y :: l) ↔ itemOf r ∈ l := by rw [List.mem_cons]; exact ⟨fun h => h.resolve_left (fun h => e h.symm), .inr⟩
  rw [decide_eq_false e, decide_eq_decide.2 hm]; rfl
def crOf (x : Nd) : CR := (x.fKey, x.fCookie, x.fDeleted, x.fData, true)
theorem ndec_of {x : Nd} (h : okN x) (tail : By) (ht : tail.length <= 1000000) : ndec (encN x ++ tail) = (x.fKey, x.fCookie, x.fDeleted, x.fData, ((sizeN x : Nat) : Int), 0) := by
 have := decR_ok h tail ht
 have hb := sizeN_bd h
 rw [r06_Decode_eq _ (by rw [List.length_append, encN_len]; omega)] at this
 exact Option.some.inj this
section
variable {c : BitVec 32} {ns : List Nd} {C : Mx} {files : List Bytes} {hv : List Bool} {r : Rec}
theorem live_rec (hg : Gen c ns) (hr : r ∈ recsOf 16 ns) (hx : itemOf r ∈ itemsOf ns) : r.fNeedle.fDeleted = false := by
 obtain ⟨r', hr', hd, he⟩ := items_mem hx
 obtain ⟨h1, off, tail, h2, _, _, h5, h6⟩ := hg.at hr
 obtain ⟨h1', off', tail', h2', _, _, h5', h6'⟩ := hg.at hr'
 have ho : r.fOff = r'.fOff := congrArg Sapi_Item.fOff he
 have hoo : off = off' := by rw [h2, h2'] at ho; omega
 subst hoo
 have hl := hg.len
 have t1 : tail.length <= 1000000 := by have := congrArg List.length h6; rw [List.length_drop, List.length_append] at this; omega
 have t2 : tail'.length <= 1000000 := by have := congrArg List.length h6'; rw [List.length_drop, List.length_append] at this; omega
 have e1 := ndec_of h1 tail t1
 have e2 := ndec_of h1' tail' t2
 rw [<- h6] at e1
 rw [<- h6', e1] at e2
 have := congrArg (fun z => z.2.2.1) e2
 exact this.trans hd
theorem size_rec (hg : Gen c ns) (hr : r ∈ recsOf 16 ns) : sizeZ ((r.fNeedle.fData.length : Nat) : Int) = ((sizeN r.fNeedle : Nat) : Int) := by
 have := (hg.at hr).1.2; exact sizeZ_nat _ (by omega)
def pcsOf (r : Rec) : List Pc := pieces r.fOff.toNat (sizeN r.fNeedle)
theorem cand_intact (hg : Gen c ns) (hC : IsCode C) (hf : files.length = 6) (hh : hv.length = 6) (s : List Int) (hi : Intact C (datOf c ns) files (usb (datOf c ns).length files hv s)) (hr : r ∈ recsOf 16 ns) (hd : r.fNeedle.fDeleted = false)
  (h4 : (∀ p ∈ pcsOf r, usb (datOf c ns).length files hv s p.1 = true) ∨ 4 <= (sel (usb (datOf c ns).length files hv s) 6).length) :
  candS 1 2 3 ((datOf c ns).length : Int) (itemsOf ns) files hv s (itemOf r) = crOf r.fNeedle := by
 obtain ⟨h1, off, tail, h2, h3, h3', h5, h6⟩ := hg.at hr
 have hl := hg.len
 have hb := sizeN_bd h1
 have hv' := hg.valid
 have e0 : (itemOf r).fOff = (off : Int) := h2
 have e1 : sizeZ (itemOf r).fSize = ((sizeN r.fNeedle : Nat) : Int) := size_rec hg hr
 have hbs : bytesS 1 2 3 ((datOf c ns).length : Int) (itemsOf ns) files hv s (itemOf r).fOff (sizeZ (itemOf r).fSize) = (encN r.fNeedle, true) := by
  rw [e0, e1]
  unfold bytesS
  rw [if_pos ⟨hv', hf, hh, by omega, by omega, by omega, by omega⟩]
  simp only [Int.toNat_natCast]
  have h4' : (∀ p ∈ pieces off (sizeN r.fNeedle), usb (datOf c ns).length files hv s p.1 = true) ∨ 4 <= (sel (usb (datOf c ns).length files hv s) 6).length := by
   unfold pcsOf at h4; rw [h2, Int.toNat_natCast] at h4; exact h4
  rw [bls_intact hC (usb_usable (by omega) hf) hi (sizeN r.fNeedle) off h5 h4', h6]
  have := encN_len r.fNeedle
  rw [List.take_append_of_le_length (by omega), List.take_of_length_le (by omega)]; rfl
 have hn : ndec (encN r.fNeedle) = (r.fNeedle.fKey, r.fNeedle.fCookie, r.fNeedle.fDeleted, r.fNeedle.fData, ((sizeN r.fNeedle : Nat) : Int), 0) := by
  have := ndec_of h1 [] (by simp); rwa [List.append_nil] at this
 unfold candS candOf
 rw [hbs]
 have h200 := h1.2
 have hhit : hits (itemOf r) (encN r.fNeedle, true) := by
  unfold hits
  rw [hn]
  exact ⟨rfl, rfl, by simp only; rw [encN_len], hd, rfl, rfl, rfl⟩
 have hs1 : 0 <= (itemOf r).fSize /\ (itemOf r).fSize <= 4096 := by show 0 <= ((r.fNeedle.fData.length : Nat) : Int) /\ _; constructor; omega; show ((r.fNeedle.fData.length : Nat) : Int) <= 4096; omega
 rw [if_pos ⟨hs1.1, hs1.2, hhit⟩, hn]; rfl
end
theorem firstOr_some {f : List Int -> CR} (k : Option RR) : ∀ (ss : List (List Int)), (∃ s ∈ ss, (f s).2.2.2.2 = true) -> ∃ s ∈ ss, (f s).2.2.2.2 = true /\ firstOr f ss k = some ((f s).1, (f s).2.1, (f s).2.2.1, (f s).2.2.2.1, 0)
 | [], ⟨_, h, _⟩ => by cases h
 | s :: ss, ⟨t, ht, h⟩ => by
  by_cases hs : (f s).2.2.2.2 = true
  ·exact ⟨s, List.mem_cons_self .., hs, by unfold firstOr; rw [if_pos hs]⟩
  ·rcases List.mem_cons.1 ht with rfl | ht
   ·exact absurd h hs
   ·obtain ⟨u, h1, h2, h3⟩ := firstOr_some k ss ⟨t, ht, h⟩
    exact ⟨u, List.mem_cons_of_mem _ h1, h2, by unfold firstOr; rw [if_neg hs]; exact h3⟩
end Go.Proofs.YtcncappgheopgaaGreat
