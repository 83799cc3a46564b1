/-
  Plain laws: numbers as bytes; journals: entries, what a reader finds, cuts and changes of bits. No conditions.
-/
import Derived.Test.YtclhepegfmhmjaaM3
namespace Go.Proofs.Ytclhepegfmhmjaa
open Go
set_option linter.unusedVariables false
set_option linter.unusedSimpArgs false

/-- the big-endian bytes of a number -/
def be : Nat → BitVec 64 → List (BitVec 8)
  | 0, _ => []
  | n + 1, v => (v >>> (8 * n)).setWidth 8 :: be n v
theorem be_length (n : Nat) (v : BitVec 64) : (be n v).length = n := by induction n with | zero => rfl | succ n ih => simp [be, ih]
/-- the first i of n big-endian bytes -/
theorem be_take_succ (v : BitVec 64) : ∀ (n i : Nat), i < n → (be n v).take (i + 1) = (be n v).take i ++ [(v >>> (8 * (n - 1 - i))).setWidth 8]
  | n + 1, 0, _ => by simp [be]
  | n + 1, i + 1, h => by
    have := be_take_succ v n i (by omega)
    simp only [be, List.take_succ_cons, List.cons_append, this]
    rw [show n + 1 - 1 - (i + 1) = n - 1 - i by omega]
/-- the number that big-endian bytes are -/
def valF (acc : BitVec 64) (xs : List (BitVec 8)) : BitVec 64 := xs.foldl (fun v b => v <<< 8 ||| b.setWidth 64) acc
def val (xs : List (BitVec 8)) : BitVec 64 := valF 0#64 xs
theorem val_take_succ (xs : List (BitVec 8)) (k : Nat) (h : k < xs.length) : val (xs.take (k + 1)) = val (xs.take k) <<< 8 ||| (xs.getD k 0).setWidth 64 := by
  rw [take_getD xs k 0 h]
  simp only [val, valF, List.foldl_append, List.foldl_cons, List.foldl_nil]
theorem valF_bit (v : BitVec 64) : ∀ (n : Nat) (acc : BitVec 64) (i : Nat), i < 64 → (valF acc (be n v)).getLsbD i = if i < 8 * n then v.getLsbD i else acc.getLsbD (i - 8 * n)
  | 0, acc, i, _ => by simp [be, valF]
  | n + 1, acc, i, hi => by
    show (valF (acc <<< 8 ||| ((v >>> (8 * n)).setWidth 8).setWidth 64) (be n v)).getLsbD i = _
    rw [valF_bit v n _ i hi]
    by_cases h1 : i < 8 * n
    · rw [if_pos h1, if_pos (by omega)]
    · rw [if_neg h1]
      simp only [BitVec.getLsbD_or, BitVec.getLsbD_shiftLeft, BitVec.getLsbD_setWidth, BitVec.getLsbD_ushiftRight]
      by_cases h2 : i < 8 * (n + 1)
      · rw [if_pos h2, show 8 * n + (i - 8 * n) = i by omega]
        simp [show i - 8 * n < 8 by omega, show i - 8 * n < 64 by omega]
      · rw [if_neg h2, show i - 8 * n - 8 = i - 8 * (n + 1) by omega]
        simp [show ¬ i - 8 * n < 8 by omega, show i - 8 * n < 64 by omega]
theorem val_be8 (v : BitVec 64) : val (be 8 v) = v := by
  apply BitVec.eq_of_getLsbD_eq
  intro i hi
  rw [val, valF_bit v 8 _ i hi, if_pos (by omega)]

/-- four little-endian bytes -/
def le4 (s : BitVec 32) : List (BitVec 8) := [s.setWidth 8, (s >>> 8).setWidth 8, (s >>> 16).setWidth 8, (s >>> 24).setWidth 8]
def leTo (bs : List (BitVec 8)) : Nat → BitVec 32
  | 0 => 0#32
  | i + 1 => leTo bs i ||| (bs.getD i 0).setWidth 32 <<< (8 * i)
theorem leTo_bit (bs : List (BitVec 8)) : ∀ (n i : Nat), i < 32 → (leTo bs n).getLsbD i = (decide (i < 8 * n) && (bs.getD (i / 8) 0).getLsbD (i % 8))
  | 0, i, _ => by simp [leTo]
  | n + 1, i, hi => by
    show (leTo bs n ||| (bs.getD n 0).setWidth 32 <<< (8 * n)).getLsbD i = _
    rw [BitVec.getLsbD_or, leTo_bit bs n i hi, BitVec.getLsbD_shiftLeft, BitVec.getLsbD_setWidth]
    by_cases h1 : i < 8 * n
    · simp [h1, show i < 8 * (n + 1) by omega]
    · by_cases h2 : i < 8 * (n + 1)
      · rw [show i / 8 = n by omega, show i % 8 = i - 8 * n by omega]
        simp [h1, h2, hi, show i - 8 * n < 32 by omega]
      · have : (bs.getD n 0).getLsbD (i - 8 * n) = false := BitVec.getLsbD_of_ge _ _ (by omega)
        rw [this]; simp [h1, h2]
theorem byte_of (s : BitVec 32) (j t : Nat) (ht : t < 8) : ((s >>> (8 * j)).setWidth 8).getLsbD t = s.getLsbD (8 * j + t) := by
  simp [BitVec.getLsbD_setWidth, BitVec.getLsbD_ushiftRight, ht]
theorem le4_leTo (bs : List (BitVec 8)) (h : 4 ≤ bs.length) : le4 (leTo bs 4) = bs.take 4 := by
  have e : ∀ j, j < 4 → ((leTo bs 4) >>> (8 * j)).setWidth 8 = bs.getD j 0 := by
    intro j hj
    apply BitVec.eq_of_getLsbD_eq
    intro t ht
    rw [byte_of _ _ _ ht, leTo_bit _ _ _ (by omega), show (8 * j + t) / 8 = j by omega, show (8 * j + t) % 8 = t by omega]
    simp; omega
  have e0 := e 0 (by omega)
  have e1 := e 1 (by omega)
  have e2 := e 2 (by omega)
  have e3 := e 3 (by omega)
  simp only [Nat.mul_zero, Nat.reduceMul, BitVec.ushiftRight_zero] at e0 e1 e2 e3
  rw [le4, e0, e1, e2, e3]
  rcases bs with _ | ⟨a, _ | ⟨b, _ | ⟨c, _ | ⟨d, l⟩⟩⟩⟩ <;> simp at h ⊢
theorem leTo_le4 (s : BitVec 32) : leTo (le4 s) 4 = s := by
  apply BitVec.eq_of_getLsbD_eq
  intro i hi
  rw [leTo_bit _ _ _ hi]
  have key : ∀ j t, j < 4 → t < 8 → ((le4 s).getD j 0).getLsbD t = s.getLsbD (8 * j + t) := by
    intro j t hj ht
    rcases (by omega : j = 0 ∨ j = 1 ∨ j = 2 ∨ j = 3) with rfl | rfl | rfl | rfl
    · have := byte_of s 0 t ht; simpa [le4] using this
    · exact byte_of s 1 t ht
    · exact byte_of s 2 t ht
    · exact byte_of s 3 t ht
  rw [key _ _ (by omega) (by omega), show 8 * (i / 8) + i % 8 = i by omega]
  simp [show i < 8 * 4 by omega]
theorem le4_take_succ (s : BitVec 32) (j : Nat) (h : j < 4) : (le4 s).take (j + 1) = (le4 s).take j ++ [(s >>> (8 * j)).setWidth 8] := by
  rcases (by omega : j = 0 ∨ j = 1 ∨ j = 2 ∨ j = 3) with rfl | rfl | rfl | rfl <;> rfl
theorem leTo_take (bs : List (BitVec 8)) : leTo (bs.take 4) 4 = leTo bs 4 := by
  have e : ∀ j, j < 4 → (bs.take 4).getD j 0 = bs.getD j 0 := by
    intro j hj; simp [List.getD_eq_getElem?_getD, List.getElem?_take, hj]
  simp only [leTo, e 0 (by omega), e 1 (by omega), e 2 (by omega), e 3 (by omega)]
theorem leTo_iff (bs : List (BitVec 8)) (s : BitVec 32) (h : 4 ≤ bs.length) : leTo bs 4 = s ↔ le4 s = bs.take 4 :=
  ⟨fun e => by rw [← e, le4_leTo bs h], fun e => by rw [← leTo_take, ← e, leTo_le4]⟩
theorem le4_xor (a b : BitVec 32) : le4 (a ^^^ b) = List.zipWith (· ^^^ ·) (le4 a) (le4 b) := by
  simp [le4, BitVec.ushiftRight_xor_distrib, BitVec.setWidth_xor]

theorem crcStep_even {r : BitVec 32} (h : r.getLsbD 0 = false) : crcStep r = r >>> 1 := by
  rw [crcStep, if_neg]
  intro e
  have := congrArg (·.getLsbD 0) e
  simp at this h
  rw [h] at this; cases this
theorem crcIter_low : ∀ (n : Nat) (y : BitVec 32), (∀ i, i < n → y.getLsbD i = false) → crcIter n y = y >>> n
  | 0, y, _ => by simp [crcIter]
  | n + 1, y, h => by
    show crcStep (crcIter n y) = _
    rw [crcIter_low n y (fun i hi => h i (by omega)), crcStep_even (by simp [BitVec.getLsbD_ushiftRight, h n (by omega)]), ← BitVec.shiftRight_add]
theorem crcByte_own (r : BitVec 32) : crcByte r (r.setWidth 8) = r >>> 8 := by
  rw [crcByte, crcIter_low]
  · apply BitVec.eq_of_getLsbD_eq
    intro i hi
    simp [BitVec.getLsbD_ushiftRight, BitVec.getLsbD_xor, BitVec.getLsbD_setWidth]
  · intro i hi
    simp [BitVec.getLsbD_xor, BitVec.getLsbD_setWidth, hi, show i < 32 by omega]
theorem crcRaw_own (r : BitVec 32) : crcRaw r (le4 r) = 0#32 := by
  have e2 : r >>> 16 = r >>> 8 >>> 8 := by rw [← BitVec.shiftRight_add]
  have e3 : r >>> 24 = r >>> 8 >>> 8 >>> 8 := by rw [← BitVec.shiftRight_add, ← BitVec.shiftRight_add]
  simp only [crcRaw, le4, List.foldl_cons, List.foldl_nil]
  rw [e3, e2, crcByte_own, crcByte_own, crcByte_own, crcByte_own, ← BitVec.shiftRight_add, ← BitVec.shiftRight_add, ← BitVec.shiftRight_add]
  exact shr32 r
theorem crcRaw_flip (r z : BitVec 32) : crcRaw r (le4 (r ^^^ z)) = crcRaw 0#32 (le4 z) := by
  have h := crcRaw_xor (le4 r) (le4 z) r 0#32 rfl
  rwa [← le4_xor, BitVec.xor_zero, crcRaw_own, BitVec.zero_xor] at h
/-- bytes behind which their checksum lies leave one and the same register -/
theorem crcRaw_code (d e : List (BitVec 8)) : crcRaw (~~~0#32) (d ++ le4 (crcSum d)) = crcRaw (~~~0#32) (e ++ le4 (crcSum e)) := by
  have h : ∀ r s z : BitVec 32, crcRaw r (le4 (r ^^^ z)) = crcRaw s (le4 (s ^^^ z)) := fun r s z => by rw [crcRaw_flip, crcRaw_flip]
  have h2 : ∀ x : List (BitVec 8), crcSum x = crcRaw (~~~0#32) x ^^^ 4294967295#32 := fun x => not_as _
  rw [crcRaw_append, crcRaw_append, h2, h2]
  exact h _ _ _

/-- an entry at the head of bytes -/
def jok (x : List (BitVec 8)) : Bool := decide (12 ≤ x.length) && (le4 (crcSum (x.take 8)) == (x.drop 8).take 4)
def jdF : Nat → List (BitVec 8) → List (BitVec 64)
  | 0, _ => []
  | f + 1, x => if jok x = true then val (x.take 8) :: jdF f (x.drop 12) else []
theorem jok_of {x : List (BitVec 8)} (h : 12 ≤ x.length) (e : le4 (crcSum (x.take 8)) = (x.drop 8).take 4) : jok x = true := by
  simp only [jok, Bool.and_eq_true, decide_eq_true_eq, beq_iff_eq]; exact ⟨h, e⟩
theorem jok_not {x : List (BitVec 8)} (h : ¬ (12 ≤ x.length ∧ le4 (crcSum (x.take 8)) = (x.drop 8).take 4)) : ¬ jok x = true := by
  simp only [jok, Bool.and_eq_true, decide_eq_true_eq, beq_iff_eq]; exact h
theorem getD_drop' {α : Type} (x : List α) (i j : Nat) (d : α) : (x.drop i).getD j d = x.getD (i + j) d := by
  simp [List.getD_eq_getElem?_getD, List.getElem?_drop]
theorem jok_len {x : List (BitVec 8)} (h : jok x = true) : 12 ≤ x.length := by simp [jok] at h; exact h.1
theorem jdF_fuel : ∀ (f g : Nat) (x : List (BitVec 8)), x.length ≤ f → x.length ≤ g → jdF f x = jdF g x
  | 0, 0, _, _, _ => rfl
  | 0, g + 1, x, h, _ => by
    rw [jdF, jdF, if_neg]
    intro hx; have := jok_len hx; omega
  | f + 1, 0, x, _, h => by
    rw [jdF, jdF, if_neg]
    intro hx; have := jok_len hx; omega
  | f + 1, g + 1, x, h1, h2 => by
    rw [jdF, jdF]
    split
    · rename_i hx
      have := jok_len hx
      rw [jdF_fuel f g _ (by simp; omega) (by simp; omega)]
    · rfl
/-- the keys that a reader finds -/
def jd (x : List (BitVec 8)) : List (BitVec 64) := jdF x.length x
theorem jd_ok {x : List (BitVec 8)} (h : jok x = true) : jd x = val (x.take 8) :: jd (x.drop 12) := by
  have hl := jok_len h
  rw [jd, show x.length = (x.length - 1) + 1 by omega, jdF, if_pos h, jd, jdF_fuel (x.length - 1) (x.drop 12).length _ (by simp; omega) (by omega)]
theorem jd_no {x : List (BitVec 8)} (h : ¬ jok x = true) : jd x = [] := by
  rw [jd]
  cases hn : x.length with
  | zero => rfl
  | succ n => rw [jdF, if_neg h]
theorem jd_len : ∀ (n : Nat) (x : List (BitVec 8)), x.length ≤ n → 12 * (jd x).length ≤ x.length
  | 0, x, h => by rw [jd_no (fun hx => by have := jok_len hx; omega)]; simp
  | n + 1, x, h => by
    by_cases hx : jok x = true
    · have := jok_len hx
      have := jd_len n (x.drop 12) (by simp; omega)
      rw [jd_ok hx]; simp at this ⊢; omega
    · rw [jd_no hx]; simp

def entry (key : BitVec 64) : List (BitVec 8) := be 8 key ++ le4 (crcSum (be 8 key))
def jenc (ks : List (BitVec 64)) : List (BitVec 8) := ks.flatMap entry
theorem entry_length (k : BitVec 64) : (entry k).length = 12 := by simp [entry, be_length, le4]
theorem jenc_length (ks : List (BitVec 64)) : (jenc ks).length = 12 * ks.length := by
  induction ks with
  | nil => rfl
  | cons k ks ih => simp only [jenc, List.flatMap_cons, List.length_append, entry_length, List.length_cons] at ih ⊢; omega
theorem jenc_append (a b : List (BitVec 64)) : jenc (a ++ b) = jenc a ++ jenc b := by simp [jenc]
theorem jenc_take_succ (ks : List (BitVec 64)) (k : Nat) (h : k < ks.length) : jenc (ks.take (k + 1)) = jenc (ks.take k) ++ entry (ks.getD k 0) := by
  rw [take_getD ks k 0 h, jenc_append]; simp [jenc]
theorem entry_take (k : BitVec 64) (r : List (BitVec 8)) : (entry k ++ r).take 8 = be 8 k := by
  rw [entry, List.append_assoc, List.take_append_of_le_length (by simp [be_length]), List.take_of_length_le (by simp [be_length])]
theorem entry_drop (k : BitVec 64) (r : List (BitVec 8)) : (entry k ++ r).drop 12 = r := by
  rw [show 12 = (entry k).length by rw [entry_length], List.drop_left]
theorem jok_entry (k : BitVec 64) (r : List (BitVec 8)) : jok (entry k ++ r) = true := by
  have h : ((entry k ++ r).drop 8).take 4 = le4 (crcSum (be 8 k)) := by
    rw [entry, List.append_assoc, List.drop_append_of_le_length (by simp [be_length]), List.drop_of_length_le (by simp [be_length])]; simp [le4]
  simp only [jok, entry_take, h, Bool.and_eq_true, decide_eq_true_eq, beq_self_eq_true, and_true]
  simp [entry_length]
theorem jd_enc (ks : List (BitVec 64)) (r : List (BitVec 8)) : jd (jenc ks ++ r) = ks ++ jd r := by
  induction ks with
  | nil => rfl
  | cons k ks ih =>
    have e : jenc (k :: ks) ++ r = entry k ++ (jenc ks ++ r) := by simp [jenc]
    rw [e, jd_ok (jok_entry _ _), entry_take, entry_drop, val_be8, ih]; rfl
theorem jd_short {x : List (BitVec 8)} (h : x.length < 12) : jd x = [] := jd_no fun hx => by have := jok_len hx; omega
theorem jd_all (ks : List (BitVec 64)) : jd (jenc ks) = ks := by
  have h := jd_enc ks []
  have e : jd [] = [] := rfl
  rw [e] at h
  simpa only [List.append_nil] using h
theorem jd_torn (ks : List (BitVec 64)) (left : Nat) (h : left ≤ 12 * ks.length) : jd ((jenc ks).take left) = ks.take (left / 12) := by
  have e : jenc ks = jenc (ks.take (left / 12)) ++ jenc (ks.drop (left / 12)) := by rw [← jenc_append, List.take_append_drop]
  have hl : (jenc (ks.take (left / 12))).length = 12 * (left / 12) := by rw [jenc_length, List.length_take]; omega
  rw [e, List.take_append, List.take_of_length_le (by omega), jd_enc, jd_short (by rw [List.length_take]; omega), List.append_nil]

theorem set_append_mid {α : Type} (a e b : List α) (j : Nat) (v : α) (h : j < e.length) : (a ++ (e ++ b)).set (a.length + j) v = a ++ (e.set j v ++ b) := by
  rw [List.set_append_right _ _ (by omega), show a.length + j - a.length = j by omega, List.set_append_left _ _ h]
theorem getD_append_mid {α : Type} (a e b : List α) (j : Nat) (d : α) (h : j < e.length) : (a ++ (e ++ b)).getD (a.length + j) d = e.getD j d := by
  simp only [List.getD_eq_getElem?_getD]
  rw [List.getElem?_append_right (by omega), show a.length + j - a.length = j by omega, List.getElem?_append_left h]
/-- a change of bits of a part changes the part alone -/
theorem burst_mid (a e b : List (BitVec 8)) (bit : Nat) (flip : BitVec 32) : ∀ m, bit + m ≤ 8 * e.length → burstTo (a ++ (e ++ b)) (8 * a.length + bit) flip m = a ++ (burstTo e bit flip m ++ b)
  | 0, _ => rfl
  | m + 1, h => by
    have hl := burstTo_length e bit flip m
    rw [burstTo, burst_mid a e b bit flip m (by omega), show (8 * a.length + bit + m) / 8 = a.length + (bit + m) / 8 by omega, show (8 * a.length + bit + m) % 8 = (bit + m) % 8 by omega,
      getD_append_mid _ _ _ _ _ (by omega), set_append_mid _ _ _ _ _ (by omega)]
    rfl
/-- a codeword of another's bytes, changed within 32 bits, is itself -/
theorem code_burst (d e : List (BitVec 8)) (bit m : Nat) (flip : BitVec 32) (hm : bit + m ≤ 8 * (d ++ le4 (crcSum d)).length) (he : burstTo (d ++ le4 (crcSum d)) bit flip m = e ++ le4 (crcSum e)) :
    burstTo (d ++ le4 (crcSum d)) bit flip m = d ++ le4 (crcSum d) :=
  (crcRaw_burst (~~~0#32) _ bit m flip hm).1 (by rw [he]; exact crcRaw_code e d)
theorem jd_burst (ks : List (BitVec 64)) (i bit m : Nat) (flip : BitVec 32) (hi : i < ks.length) (hm : bit + m ≤ 96) (hne : burstTo (jenc ks) (96 * i + bit) flip m ≠ jenc ks) :
    jd (burstTo (jenc ks) (96 * i + bit) flip m) = ks.take i := by
  have e0 : ks = ks.take i ++ (ks.getD i 0 :: ks.drop (i + 1)) := by
    rw [← List.singleton_append, ← List.append_assoc, ← take_getD ks i 0 hi, List.take_append_drop]
  have e : jenc ks = jenc (ks.take i) ++ (entry (ks.getD i 0) ++ jenc (ks.drop (i + 1))) := by
    conv => lhs; rw [e0, jenc_append]
    simp [jenc]
  have hl : (jenc (ks.take i)).length = 12 * i := by rw [jenc_length, List.length_take]; omega
  have hb := burst_mid (jenc (ks.take i)) (entry (ks.getD i 0)) (jenc (ks.drop (i + 1))) bit flip m (by rw [entry_length]; omega)
  rw [hl, ← e, show 8 * (12 * i) + bit = 96 * i + bit by omega] at hb
  rw [hb, jd_enc]
  have hn : ¬ jok (burstTo (entry (ks.getD i 0)) bit flip m ++ jenc (ks.drop (i + 1))) = true := by
    intro hj
    apply hne
    have h12 : (burstTo (entry (ks.getD i 0)) bit flip m).length = 12 := by rw [burstTo_length, entry_length]
    generalize hE : burstTo (entry (ks.getD i 0)) bit flip m = E at hj h12 hb
    have h8 : (E ++ jenc (ks.drop (i + 1))).take 8 = E.take 8 := List.take_append_of_le_length (by omega)
    have h4 : ((E ++ jenc (ks.drop (i + 1))).drop 8).take 4 = E.drop 8 := by
      rw [List.drop_append_of_le_length (by omega), List.take_append_of_le_length (by simp; omega), List.take_of_length_le (by simp; omega)]
    simp only [jok, h8, h4, Bool.and_eq_true, beq_iff_eq] at hj
    have := code_burst (be 8 (ks.getD i 0)) (E.take 8) bit m flip (by have := entry_length (ks.getD i 0); rw [entry] at this; omega) (by
      show burstTo (entry _) bit flip m = _
      rw [hE, hj.2, List.take_append_drop])
    have h2 : E = entry (ks.getD i 0) := by rw [← hE]; exact this
    rw [hb, h2, ← e]
  rw [jd_no hn, List.append_nil]
end Go.Proofs.Ytclhepegfmhmjaa
