/- A part of the proof. Conditions: as each theorem says. -/
import Derived.Test.YthjnhlmfcejhkaaGreatMdr
namespace Go.Proofs.YthjnhlmfcejhkaaGreat
set_option linter.unusedVariables false
set_option linter.unusedSimpArgs false
set_option maxRecDepth 10000
def crcPoly : BitVec 32 := 2197175160#32
def crcStep (r : BitVec 32) : BitVec 32 := if r &&& 1#32 = 1#32 then (r >>> 1) ^^^ crcPoly else r >>> 1
def crcIter : Nat -> BitVec 32 -> BitVec 32
 | 0, r => r
 | n + 1, r => crcStep (crcIter n r)
def crcByte (r : BitVec 32) (b : BitVec 8) : BitVec 32 := crcIter 8 (r ^^^ b.setWidth 32)
def crcRaw (r : BitVec 32) (bs : List (BitVec 8)) : BitVec 32 := bs.foldl crcByte r
def crcExt (c : BitVec 32) (bs : List (BitVec 8)) : BitVec 32 := ~~~ crcRaw (~~~ c) bs
def crcSum (bs : List (BitVec 8)) : BitVec 32 := crcExt 0#32 bs
theorem crcRaw_append (r : BitVec 32) (a b : List (BitVec 8)) : crcRaw r (a ++ b) = crcRaw (crcRaw r a) b := by simp [crcRaw]
theorem shr32 (v : BitVec 32) : v >>> 32 = 0#32 := by
 apply BitVec.eq_of_toNat_eq; simp [Nat.shiftRight_eq_div_pow]; have := v.isLt; omega
def Lin (f : BitVec 32 -> BitVec 32) : Prop := ∀ a b, f (a ^^^ b) = f a ^^^ f b
theorem Lin.zero {f : BitVec 32 -> BitVec 32} (h : Lin f) : f 0#32 = 0#32 := by
 have := h 0#32 0#32
 simp at this
 exact this
theorem testBit_one (j : Nat) : Nat.testBit 1 j = decide (j = 0) := by
 cases j with
 | zero => rfl
 | succ j => rw [Nat.testBit_succ]; simp
def low (v : BitVec 32) (i : Nat) : BitVec 32 := v &&& BitVec.ofNat 32 (2 ^ i - 1)
theorem low_bit (v : BitVec 32) (i j : Nat) : (low v i).getLsbD j = (v.getLsbD j && decide (j < i) && decide (j < 32)) := by
 simp only [low, BitVec.getLsbD_and, BitVec.getLsbD_ofNat, Nat.testBit_two_pow_sub_one]
 by_cases h1 : j < 32 <;> by_cases h2 : j < i <;> simp [h1, h2]
theorem and_one_bit (v : BitVec 32) (i : Nat) : ((v >>> i) &&& 1#32 = 1#32) ↔ v.getLsbD i = true := by
 constructor
 ·intro h
  have := congrArg (fun x : BitVec 32 => x.getLsbD 0) h
  simpa using this
 ·intro h
  apply BitVec.eq_of_getLsbD_eq
  intro j hj
  by_cases h0 : j = 0
  ·subst h0; simpa using h
  ·have e : (1#32 : BitVec 32).getLsbD j = false := by
    rw [BitVec.getLsbD_ofNat, testBit_one]; simp [h0]
   simp [e]
theorem crcStep_lin : Lin crcStep := by
 have key : ∀ a b : BitVec 32, ((a ^^^ b) &&& 1#32 = 1#32) ↔ ¬ ((a &&& 1#32 = 1#32) ↔ (b &&& 1#32 = 1#32)) := by
  intro a b
  have h := fun v : BitVec 32 => and_one_bit v 0
  simp only [BitVec.ushiftRight_zero] at h
  rw [h, h, h, BitVec.getLsbD_xor]
  cases a.getLsbD 0 <;> cases b.getLsbD 0 <;> simp
 intro a b
 have e : (a ^^^ b) >>> 1 = (a >>> 1) ^^^ (b >>> 1) := BitVec.ushiftRight_xor_distrib ..
 simp only [crcStep, key a b, e]
 have x3 : ∀ x y p : BitVec 32, (x ^^^ p) ^^^ (y ^^^ p) = x ^^^ y := fun x y p => by
  rw [BitVec.xor_assoc, <- BitVec.xor_assoc p, BitVec.xor_comm p y, BitVec.xor_assoc y, BitVec.xor_self]; simp
 by_cases ha : a &&& 1#32 = 1#32 <;> by_cases hb : b &&& 1#32 = 1#32 <;> simp only [ha, hb, iff_true, iff_false, not_true_eq_false, not_false_eq_true, if_true, if_false]
 ·exact (x3 _ _ _).symm
 ·rw [BitVec.xor_assoc, BitVec.xor_assoc, BitVec.xor_comm crcPoly]
 ·rw [BitVec.xor_assoc]
theorem crcIter_lin : ∀ n, Lin (crcIter n)
 | 0 => fun _ _ => rfl
 | n + 1 => fun a b => by simp only [crcIter]; rw [crcIter_lin n, crcStep_lin]
theorem crcIter_add (m n : Nat) (r : BitVec 32) : crcIter (m + n) r = crcIter m (crcIter n r) := by
 induction m with
 | zero => simp [crcIter]
 | succ m ih => rw [show m + 1 + n = (m + n) + 1 by omega]; simp only [crcIter]; rw [ih]
def zs (n : Nat) (r : BitVec 32) : BitVec 32 := crcIter (8 * n) r
theorem not_xor_ones (a : BitVec 32) : ~~~ a = a ^^^ 4294967295#32 := by
 have : (4294967295#32 : BitVec 32) = BitVec.allOnes 32 := by decide
 rw [this, BitVec.xor_allOnes]
theorem crcIter_succ' (n : Nat) (r : BitVec 32) : crcIter (n + 1) r = crcIter n (crcStep r) := by
 rw [crcIter_add n 1 r]; rfl
theorem not_as (a : BitVec 32) : ~~~a = a ^^^ 4294967295#32 := not_xor_ones a
theorem crcByte_xor (r s : BitVec 32) (a b : BitVec 8) : crcByte (r ^^^ s) (a ^^^ b) = crcByte r a ^^^ crcByte s b := by
 simp only [crcByte]
 rw [<- crcIter_lin 8]; congr 1
 rw [BitVec.setWidth_xor]; ac_rfl
theorem crcRaw_xor : ∀ (a b : List (BitVec 8)) (r s : BitVec 32), a.length = b.length -> crcRaw (r ^^^ s) (List.zipWith (· ^^^ ·) a b) = crcRaw r a ^^^ crcRaw s b
 | [], [], r, s, _ => rfl
 | [], _ :: _, _, _, h => by simp at h
 | _ :: _, [], _, _, h => by simp at h
 | x :: a, y :: b, r, s, h => by
  show crcRaw (crcByte (r ^^^ s) (x ^^^ y)) (List.zipWith _ a b) = _
  rw [crcByte_xor, crcRaw_xor a b _ _ (by simpa using h)]; rfl
def bit1 (b : Bool) : BitVec 32 := if b then 1#32 else 0#32
def crcBits (r : BitVec 32) (l : List Bool) : BitVec 32 := l.foldl (fun r b => crcStep (r ^^^ bit1 b)) r
theorem crcBits_append (r : BitVec 32) (a b : List Bool) : crcBits r (a ++ b) = crcBits (crcBits r a) b := by simp [crcBits]
theorem crcBits_xor : ∀ (a b : List Bool) (r s : BitVec 32), a.length = b.length -> crcBits (r ^^^ s) (List.zipWith Bool.xor a b) = crcBits r a ^^^ crcBits s b
 | [], [], r, s, _ => rfl
 | [], _ :: _, _, _, h => by simp at h
 | _ :: _, [], _, _, h => by simp at h
 | x :: a, y :: b, r, s, h => by
  show crcBits (crcStep (r ^^^ s ^^^ bit1 (x ^^ y))) (List.zipWith _ a b) = _
  have e : r ^^^ s ^^^ bit1 (x ^^ y) = (r ^^^ bit1 x) ^^^ (s ^^^ bit1 y) := by
   have : bit1 (x ^^ y) = bit1 x ^^^ bit1 y := by cases x <;> cases y <;> rfl
   rw [this]; ac_rfl
  rw [e, crcStep_lin, crcBits_xor a b _ _ (by simpa using h)]; rfl
theorem crcBits_false : ∀ (n : Nat) (r : BitVec 32), crcBits r (List.replicate n false) = crcIter n r
 | 0, r => rfl
 | n + 1, r => by
  rw [List.replicate_succ]
  show crcBits (crcStep (r ^^^ bit1 false)) _ = _
  rw [crcBits_false n, crcIter_succ']
  simp [bit1]
def bitsN (v : BitVec 32) (n : Nat) : List Bool := (List.range n).map fun i => v.getLsbD i
theorem bitsN_succ (v : BitVec 32) (n : Nat) : bitsN v (n + 1) = v.getLsbD 0 :: bitsN (v >>> 1) n := by
 simp only [bitsN, List.range_succ_eq_map, List.map_cons, List.map_map]
 congr 1
 apply List.map_congr_left
 intro i _
 simp [BitVec.getLsbD_ushiftRight, Nat.add_comm]
theorem split_low (v : BitVec 32) : crcStep v = crcStep (bit1 (v.getLsbD 0)) ^^^ (v >>> 1) := by
 have h0 : ∀ w : BitVec 32, (w &&& 1#32 = 1#32) ↔ w.getLsbD 0 = true := fun w => by
  have := and_one_bit w 0; simpa using this
 cases hb : v.getLsbD 0
 ·have e : ¬ (v &&& 1#32 = 1#32) := by rw [h0, hb]; simp
  rw [crcStep, if_neg e]
  show _ = crcStep 0#32 ^^^ _
  rw [show crcStep 0#32 = 0#32 by decide, BitVec.zero_xor]
 ·have e : v &&& 1#32 = 1#32 := by rw [h0, hb]
  rw [crcStep, if_pos e]
  show _ = crcStep 1#32 ^^^ _
  rw [show crcStep 1#32 = crcPoly by decide, BitVec.xor_comm]
theorem crcBits_word : ∀ (n : Nat) (r v : BitVec 32), v.toNat < 2 ^ n -> crcBits r (bitsN v n) = crcIter n (r ^^^ v)
 | 0, r, v, h => by
  have : v = 0#32 := BitVec.eq_of_toNat_eq (by simp at h ⊢; omega)
  subst this; simp [bitsN, crcBits, crcIter]
 | n + 1, r, v, h => by
  rw [bitsN_succ]
  show crcBits (crcStep (r ^^^ bit1 (v.getLsbD 0))) _ = _
  have h2 : (v >>> 1).toNat < 2 ^ n := by
   rw [BitVec.toNat_ushiftRight, Nat.shiftRight_eq_div_pow]
   have := Nat.pow_succ 2 n
   omega
  rw [crcBits_word n _ _ h2, crcIter_succ', crcStep_lin, crcStep_lin, split_low v]
  congr 1; ac_rfl
def bitAt (xs : List (BitVec 8)) (j : Nat) : Bool := (xs.getD (j / 8) 0).getLsbD (j % 8)
def bitsOf (xs : List (BitVec 8)) : List Bool := (List.range (8 * xs.length)).map (bitAt xs)
theorem bitsOf_length (xs : List (BitVec 8)) : (bitsOf xs).length = 8 * xs.length := by simp [bitsOf]
theorem range_add (a b : Nat) : List.range (a + b) = List.range a ++ (List.range b).map (a + ·) := by
 rw [List.range_add]
theorem bitsOf_cons (x : BitVec 8) (xs : List (BitVec 8)) : bitsOf (x :: xs) = bitsN (x.setWidth 32) 8 ++ bitsOf xs := by
 simp only [bitsOf, List.length_cons, Nat.mul_add, Nat.mul_one]
 rw [Nat.add_comm, range_add, List.map_append, List.map_map]
 refine congr (congrArg HAppend.hAppend ?_) ?_
 ·simp only [bitsN]
  apply List.map_congr_left
  intro i hi
  have : i < 8 := by simpa using hi
  simp only [bitAt, Nat.div_eq_of_lt this, Nat.mod_eq_of_lt this, List.getD_cons_zero, BitVec.getLsbD_setWidth]
  simp [show i < 32 by omega]
 ·apply List.map_congr_left
  intro i _
  simp only [bitAt, Function.comp]
  rw [show (8 + i) / 8 = i / 8 + 1 by omega, show (8 + i) % 8 = i % 8 by omega, List.getD_cons_succ]
theorem crcRaw_bits : ∀ (xs : List (BitVec 8)) (r : BitVec 32), crcRaw r xs = crcBits r (bitsOf xs)
 | [], r => rfl
 | x :: xs, r => by
  rw [bitsOf_cons, crcBits_append, crcBits_word 8 r _ (by have := x.isLt; simp; omega), <- crcRaw_bits xs]; rfl
def burstTo (xs : List (BitVec 8)) (k : Nat) (flip : BitVec 32) : Nat -> List (BitVec 8)
 | 0 => xs
 | i + 1 => (burstTo xs k flip i).set ((k + i) / 8) ((burstTo xs k flip i).getD ((k + i) / 8) 0 ^^^ (((flip >>> i) &&& 1#32) <<< ((k + i) % 8)).setWidth 8)
theorem burstTo_length (xs : List (BitVec 8)) (k : Nat) (flip : BitVec 32) : ∀ i, (burstTo xs k flip i).length = xs.length
 | 0 => rfl
 | i + 1 => by simp [burstTo, burstTo_length xs k flip i]
theorem bit_flip (flip : BitVec 32) (i s t : Nat) (hs : s < 8) (ht : t < 8) : ((((flip >>> i) &&& 1#32) <<< s).setWidth 8).getLsbD t = (flip.getLsbD i && decide (t = s)) := by
 have hz : (flip >>> i) &&& 1#32 = bit1 (flip.getLsbD i) := by
  cases hb : flip.getLsbD i
  ·have hne : ¬ ((flip >>> i) &&& 1#32 = 1#32) := by rw [and_one_bit, hb]; simp
   apply BitVec.eq_of_getLsbD_eq
   intro j hj
   by_cases h0 : j = 0
   ·subst h0
    simp [bit1, hb]
   ·have : (1#32 : BitVec 32).getLsbD j = false := by rw [BitVec.getLsbD_ofNat, testBit_one]; simp [h0]
    rw [BitVec.getLsbD_and, this]; simp [bit1]
  ·exact (and_one_bit flip i).2 hb
 rw [hz]
 cases flip.getLsbD i
 ·simp [bit1]
 ·simp only [bit1, if_true, BitVec.getLsbD_setWidth, BitVec.getLsbD_shiftLeft, BitVec.getLsbD_ofNat, testBit_one]
  by_cases h1 : t < s <;> by_cases h2 : t = s
  all_goals simp [h1, h2, ht, show t < 32 by omega, hs, show s < 32 by omega]
  all_goals omega
theorem getD_set {α : Type} (l : List α) (i j : Nat) (a d : α) (h : i < l.length) : (l.set i a).getD j d = if j = i then a else l.getD j d := by
 simp only [List.getD_eq_getElem?_getD, List.getElem?_set]
 by_cases e : i = j
 ·subst e; simp [h]
 ·simp [e, show ¬ j = i from fun h => e h.symm]
theorem bitAt_burst (xs : List (BitVec 8)) (k : Nat) (flip : BitVec 32) : ∀ i, k + i <= 8 * xs.length -> ∀ j, j < 8 * xs.length ->
  bitAt (burstTo xs k flip i) j = (bitAt xs j ^^ (flip.getLsbD (j - k) && decide (k <= j) && decide (j < k + i)))
 | 0, _, j, _ => by
  have : ¬ (k <= j /\ j < k) := by omega
  have hz : (flip.getLsbD (j - k) && decide (k <= j) && decide (j < k + 0)) = false := by
   by_cases h1 : k <= j
   ·simp
   ·simp [h1]
  rw [hz]; simp [burstTo]
 | i + 1, h, j, hj => by
  have ih := bitAt_burst xs k flip i (by omega) j hj
  have hlt : (k + i) / 8 < (burstTo xs k flip i).length := by rw [burstTo_length]; omega
  simp only [bitAt, burstTo] at ih ⊢
  rw [getD_set _ _ _ _ _ hlt]
  by_cases hq : j / 8 = (k + i) / 8
  ·rw [if_pos hq, BitVec.getLsbD_xor, bit_flip _ _ _ _ (by omega) (by omega), <- hq, ih]
   by_cases he : j = k + i
   ·subst he
    simp [show ¬ k + i < k + i by omega]
   ·have h1 : ¬ (j % 8 = (k + i) % 8) := by omega
    by_cases h2 : k <= j <;> by_cases h3 : j < k + i
    all_goals simp [h1, h2, h3, show (j < k + (i + 1)) ↔ j < k + i by omega]
  ·rw [if_neg hq, ih]
   by_cases h2 : k <= j <;> by_cases h3 : j < k + i
   all_goals simp [h2, h3, show (j < k + (i + 1)) ↔ j < k + i by omega]
theorem bitsOf_inj {xs ys : List (BitVec 8)} (hl : xs.length = ys.length) (h : ∀ j, j < 8 * xs.length -> bitAt xs j = bitAt ys j) : xs = ys := by
 apply List.ext_getElem hl
 intro i h1 h2
 apply BitVec.eq_of_getLsbD_eq
 intro s hs
 have := h (8 * i + s) (by omega)
 simp only [bitAt, show (8 * i + s) / 8 = i by omega, show (8 * i + s) % 8 = s by omega] at this
 simpa [List.getD_eq_getElem?_getD, h1, h2] using this
theorem crcStep_eq_zero {r : BitVec 32} (h : crcStep r = 0#32) : r = 0#32 := by
 unfold crcStep at h
 split at h
 ·exfalso
  have h1 := congrArg (fun x : BitVec 32 => x.getLsbD 31) h
  simp only [BitVec.getLsbD_xor, BitVec.getLsbD_ushiftRight] at h1
  have h2 : r.getLsbD (1 + 31) = false := BitVec.getLsbD_of_ge _ _ (by omega)
  rw [h2, show crcPoly.getLsbD 31 = true by decide] at h1
  simp at h1
 ·rename_i hn
  have h0 : r.getLsbD 0 = false := by
   cases hb : r.getLsbD 0
   ·rfl
   ·exact absurd ((by have := and_one_bit r 0; simpa using this : (r &&& 1#32 = 1#32) ↔ r.getLsbD 0 = true).2 hb) hn
  apply BitVec.eq_of_getLsbD_eq
  intro j hj
  cases j with
  | zero => simpa using h0
  | succ j =>
   have h1 := congrArg (fun x : BitVec 32 => x.getLsbD j) h
   simp only [BitVec.getLsbD_ushiftRight] at h1
   rw [Nat.add_comm] at h1
   simpa using h1
theorem crcIter_eq_zero : ∀ {n : Nat} {r : BitVec 32}, crcIter n r = 0#32 -> r = 0#32
 | 0, _, h => h
 | n + 1, _, h => crcIter_eq_zero (crcStep_eq_zero (by rw [crcIter] at h; exact h))
theorem bitsOf_burst (xs : List (BitVec 8)) (k m : Nat) (flip : BitVec 32) (h : k + m <= 8 * xs.length) :
  bitsOf (burstTo xs k flip m) = List.zipWith Bool.xor (bitsOf xs) (List.replicate k false ++ (bitsN (low flip m) m ++ List.replicate (8 * xs.length - (k + m)) false)) := by
 apply List.ext_getElem?
 intro j
 by_cases hj : j < 8 * xs.length
 ·have e1 : (bitsOf (burstTo xs k flip m))[j]? = some (bitAt (burstTo xs k flip m) j) := by
   simp [bitsOf, burstTo_length, hj]
  have e2 : (bitsOf xs)[j]? = some (bitAt xs j) := by simp [bitsOf, hj]
  rw [e1, bitAt_burst xs k flip m h j hj, List.getElem?_zipWith, e2]
  by_cases h1 : j < k
  ·rw [List.getElem?_append_left (by simpa using h1)]
   simp [h1, show ¬ k <= j by omega]
  ·rw [List.getElem?_append_right (by simp; omega), List.length_replicate]
   by_cases h2 : j < k + m
   ·rw [List.getElem?_append_left (by simp [bitsN]; omega)]
    simp only [bitsN, List.getElem?_map, List.getElem?_range (show j - k < m by omega), Option.map_some, low_bit]
    by_cases h3 : j - k < 32
    ·simp [show k <= j by omega, h2, show j - k < m by omega, h3]
    ·have : flip.getLsbD (j - k) = false := BitVec.getLsbD_of_ge _ _ (by omega)
     simp [this]
   ·rw [List.getElem?_append_right (by simp [bitsN]; omega)]
    simp only [bitsN, List.length_map, List.length_range]
    rw [List.getElem?_replicate, if_pos (by omega)]
    simp [h2]
 ·rw [List.getElem?_eq_none (by rw [bitsOf_length, burstTo_length]; omega), List.getElem?_eq_none]
  rw [List.length_zipWith, bitsOf_length]
  exact Nat.le_trans (Nat.min_le_left _ _) (by omega)
theorem low_lt (v : BitVec 32) (m : Nat) : (low v m).toNat < 2 ^ m := by
 rw [low, BitVec.toNat_and]
 refine Nat.lt_of_le_of_lt Nat.and_le_right ?_
 rw [BitVec.toNat_ofNat]
 have := Nat.two_pow_pos m
 exact Nat.lt_of_le_of_lt (Nat.mod_le _ _) (by omega)
theorem crcRaw_burst (r : BitVec 32) (xs : List (BitVec 8)) (k m : Nat) (flip : BitVec 32) (h : k + m <= 8 * xs.length) : crcRaw r (burstTo xs k flip m) = crcRaw r xs ↔ burstTo xs k flip m = xs := by
 refine ⟨fun e => ?_, fun e => by rw [e]⟩
 have hb := bitsOf_burst xs k m flip h
 have hlen : (bitsOf xs).length = (List.replicate k false ++ (bitsN (low flip m) m ++ List.replicate (8 * xs.length - (k + m)) false)).length := by
  simp [bitsOf_length, bitsN]; omega
 have h1 := crcBits_xor (bitsOf xs) _ r 0#32 hlen
 rw [BitVec.xor_zero, <- hb, <- crcRaw_bits, <- crcRaw_bits, e] at h1
 have h2 : crcBits 0#32 (List.replicate k false ++ (bitsN (low flip m) m ++ List.replicate (8 * xs.length - (k + m)) false)) = 0#32 := by
  have : crcRaw r xs ^^^ (crcRaw r xs ^^^ crcBits 0#32 (List.replicate k false ++ (bitsN (low flip m) m ++ List.replicate (8 * xs.length - (k + m)) false))) = crcRaw r xs ^^^ crcRaw r xs := by rw [<- h1]
  rwa [<- BitVec.xor_assoc, BitVec.xor_self, BitVec.zero_xor] at this
 rw [crcBits_append, crcBits_false, (crcIter_lin k).zero, crcBits_append, crcBits_word m _ _ (low_lt flip m), BitVec.zero_xor, crcBits_false, <- crcIter_add] at h2
 have h3 := crcIter_eq_zero h2
 apply bitsOf_inj (burstTo_length _ _ _ _)
 intro j hj
 rw [burstTo_length] at hj
 rw [bitAt_burst xs k flip m h j hj]
 have h4 := congrArg (fun v : BitVec 32 => v.getLsbD (j - k)) h3
 simp only [low_bit] at h4
 by_cases h5 : k <= j <;> by_cases h6 : j < k + m
 ·by_cases h7 : j - k < 32
  ·have h8 : flip.getLsbD (j - k) = false := by
    cases hq : flip.getLsbD (j - k)
    ·rfl
    ·rw [hq] at h4; simp [h7, show j - k < m by omega] at h4
   rw [h8]; simp
  ·have : flip.getLsbD (j - k) = false := BitVec.getLsbD_of_ge _ _ (by omega)
   simp [this]
 all_goals simp [h5, h6]
open Go
open Go
def be : Nat -> BitVec 64 -> List (BitVec 8)
 | 0, _ => []
 | n + 1, v => (v >>> (8 * n)).setWidth 8 :: be n v
theorem be_length (n : Nat) (v : BitVec 64) : (be n v).length = n := by induction n with | zero => rfl | succ n ih => simp [be, ih]
def valF (acc : BitVec 64) (xs : List (BitVec 8)) : BitVec 64 := xs.foldl (fun v b => v <<< 8 ||| b.setWidth 64) acc
def val (xs : List (BitVec 8)) : BitVec 64 := valF 0#64 xs
theorem valF_bit (v : BitVec 64) : ∀ (n : Nat) (acc : BitVec 64) (i : Nat), i < 64 -> (valF acc (be n v)).getLsbD i = if i < 8 * n then v.getLsbD i else acc.getLsbD (i - 8 * n)
 | 0, acc, i, _ => by simp [be, valF]
 | n + 1, acc, i, hi => by
  show (valF (acc <<< 8 ||| ((v >>> (8 * n)).setWidth 8).setWidth 64) (be n v)).getLsbD i = _
  rw [valF_bit v n _ i hi]
  by_cases h1 : i < 8 * n
  ·rw [if_pos h1, if_pos (by omega)]
  ·rw [if_neg h1]
   simp only [BitVec.getLsbD_or, BitVec.getLsbD_shiftLeft, BitVec.getLsbD_setWidth, BitVec.getLsbD_ushiftRight]
   by_cases h2 : i < 8 * (n + 1)
   ·rw [if_pos h2, show 8 * n + (i - 8 * n) = i by omega]
    simp [show i - 8 * n < 8 by omega, show i - 8 * n < 64 by omega]
   ·rw [if_neg h2, show i - 8 * n - 8 = i - 8 * (n + 1) by omega]
    simp [show ¬ i - 8 * n < 8 by omega, show i - 8 * n < 64 by omega]
theorem val_be8 (v : BitVec 64) : val (be 8 v) = v := by
 apply BitVec.eq_of_getLsbD_eq
 intro i hi
 rw [val, valF_bit v 8 _ i hi, if_pos (by omega)]
def le4 (s : BitVec 32) : List (BitVec 8) := [s.setWidth 8, (s >>> 8).setWidth 8, (s >>> 16).setWidth 8, (s >>> 24).setWidth 8]
theorem le4_xor (a b : BitVec 32) : le4 (a ^^^ b) = List.zipWith (· ^^^ ·) (le4 a) (le4 b) := by
 simp [le4, BitVec.ushiftRight_xor_distrib, BitVec.setWidth_xor]
theorem crcStep_even {r : BitVec 32} (h : r.getLsbD 0 = false) : crcStep r = r >>> 1 := by
 rw [crcStep, if_neg]
 intro e
 have := congrArg (·.getLsbD 0) e
 simp at this h
 rw [h] at this; cases this
theorem crcIter_low : ∀ (n : Nat) (y : BitVec 32), (∀ i, i < n -> y.getLsbD i = false) -> crcIter n y = y >>> n
 | 0, y, _ => by simp [crcIter]
 | n + 1, y, h => by
  show crcStep (crcIter n y) = _
  rw [crcIter_low n y (fun i hi => h i (by omega)), crcStep_even (by simp [BitVec.getLsbD_ushiftRight, h n (by omega)]), <- BitVec.shiftRight_add]
theorem crcByte_own (r : BitVec 32) : crcByte r (r.setWidth 8) = r >>> 8 := by
 rw [crcByte, crcIter_low]
 ·apply BitVec.eq_of_getLsbD_eq
  intro i hi
  simp [BitVec.getLsbD_ushiftRight, BitVec.getLsbD_xor, BitVec.getLsbD_setWidth]
 ·intro i hi
  simp [BitVec.getLsbD_xor, BitVec.getLsbD_setWidth, hi, show i < 32 by omega]
theorem crcRaw_own (r : BitVec 32) : crcRaw r (le4 r) = 0#32 := by
 have e2 : r >>> 16 = r >>> 8 >>> 8 := by rw [<- BitVec.shiftRight_add]
 have e3 : r >>> 24 = r >>> 8 >>> 8 >>> 8 := by rw [<- BitVec.shiftRight_add, <- BitVec.shiftRight_add]
 simp only [crcRaw, le4, List.foldl_cons, List.foldl_nil]
 rw [e3, e2, crcByte_own, crcByte_own, crcByte_own, crcByte_own, <- BitVec.shiftRight_add, <- BitVec.shiftRight_add, <- BitVec.shiftRight_add]
 exact shr32 r
theorem crcRaw_flip (r z : BitVec 32) : crcRaw r (le4 (r ^^^ z)) = crcRaw 0#32 (le4 z) := by
 have h := crcRaw_xor (le4 r) (le4 z) r 0#32 rfl
 rwa [<- le4_xor, BitVec.xor_zero, crcRaw_own, BitVec.zero_xor] at h
theorem crcRaw_code (d e : List (BitVec 8)) : crcRaw (~~~0#32) (d ++ le4 (crcSum d)) = crcRaw (~~~0#32) (e ++ le4 (crcSum e)) := by
 have h : ∀ r s z : BitVec 32, crcRaw r (le4 (r ^^^ z)) = crcRaw s (le4 (s ^^^ z)) := fun r s z => by rw [crcRaw_flip, crcRaw_flip]
 have h2 : ∀ x : List (BitVec 8), crcSum x = crcRaw (~~~0#32) x ^^^ 4294967295#32 := fun x => not_as _
 rw [crcRaw_append, crcRaw_append, h2, h2]
 exact h _ _ _
theorem code_burst (d e : List (BitVec 8)) (bit m : Nat) (flip : BitVec 32) (hm : bit + m <= 8 * (d ++ le4 (crcSum d)).length) (he : burstTo (d ++ le4 (crcSum d)) bit flip m = e ++ le4 (crcSum e)) :
  burstTo (d ++ le4 (crcSum d)) bit flip m = d ++ le4 (crcSum d) :=
 (crcRaw_burst (~~~0#32) _ bit m flip hm).1 (by rw [he]; exact crcRaw_code e d)
theorem bs {α β : Type} (x : α) (f : α -> Option β) : Option.bind (some x) f = f x := rfl
theorem ckn (n : Nat) (h : n <= 9223372036854775807) : ck (n : Int) = some (n : Int) := ck_of (by omega)
theorem idx_gD {α : Type} (xs : List α) (i : Nat) (d : α) (h : i < xs.length) : idx xs (i : Int) = some (xs.getD i d) := by
 rw [idx_nat, List.getElem?_eq_getElem h, List.getD_eq_getElem?_getD, List.getElem?_eq_getElem h]; rfl
theorem r01_shift_l (n : Nat) : ∀ (j : Nat) (r : BitVec 32), j <= 8 -> 8 - j < n -> m_r01_shift_l1 n r (j : Int) = some (crcIter (8 - j) r) := by
 induction n with
 | zero => intro j r _ h; omega
 | succ n ih =>
  intro j r hj hn
  rw [m_r01_shift_l1]
  by_cases h : j < 8
  ·have e : (8 - j) = (8 - (j + 1)) + 1 := by omega
   have h1 := ih (j + 1) (crcStep r) (by omega) (by omega)
   rw [if_pos (by omega), e, crcIter_succ', <- h1]
   rw [show ((j : Int) + 1) = ((j + 1 : Nat) : Int) by omega, ckn _ (by omega)]
   simp only [bs, crcStep, crcPoly]
   split <;> rfl
  ·rw [if_neg (by omega), show 8 - j = 0 by omega]; rfl
theorem r01_shift_eq (r : BitVec 32) : m_r01_shift r = some (crcIter 8 r) := r01_shift_l forever 0 r (by omega) (by unfold forever; omega)
theorem r01_Extend_l (xs : List (BitVec 8)) (hx : xs.length <= 9223372036854775806) (n : Nat) : ∀ (i : Nat) (r : BitVec 32), i <= xs.length -> xs.length - i < n -> m_r01_Extend_l1 xs n r (i : Int) = some (~~~ crcRaw r (xs.drop i)) := by
 induction n with
 | zero => intro i r _ h; omega
 | succ n ih =>
  intro i r hi hn
  rw [m_r01_Extend_l1]
  by_cases h : i < xs.length
  ·rw [if_pos (by omega), idx_gD xs i 0 h, bs, r01_shift_eq, bs, show ((i : Int) + 1) = ((i + 1 : Nat) : Int) by omega, ckn _ (by omega), bs, ih _ _ (by omega) (by omega)]
   have e : xs.drop i = xs.getD i 0 :: xs.drop (i + 1) := by
    rw [List.drop_eq_getElem_cons h, List.getD_eq_getElem?_getD, List.getElem?_eq_getElem h]; rfl
   rw [e]; rfl
  ·rw [if_neg (by omega), List.drop_of_length_le (by omega)]; rfl
theorem r01_Extend_eq (c : BitVec 32) (xs : List (BitVec 8)) (hx : xs.length <= 9223372036854775806) : m_r01_Extend c xs = some (crcExt c xs) := by
 have := r01_Extend_l xs hx forever 0 (~~~c) (by omega) (by unfold forever; omega)
 simpa [m_r01_Extend, crcExt] using this
theorem r01_Sum_eq (xs : List (BitVec 8)) (hx : xs.length <= 9223372036854775806) : m_r01_Sum xs = some (crcSum xs) := by
 rw [m_r01_Sum, r01_Extend_eq _ _ hx]; rfl
theorem ext_l3 (x : Int) (k : BitVec 32 -> Int -> Option (BitVec 32)) (n : Nat) : ∀ (j : Nat) (r : BitVec 32), j <= 8 -> 8 - j < n -> m_crc32c_Extend_l3 x k n r (j : Int) = m_crc32c_Extend_j2 x k (crcIter (8 - j) r) := by
 induction n with
 | zero => intro j r _ h; omega
 | succ n ih =>
  intro j r hj hn
  rw [m_crc32c_Extend_l3]
  by_cases h : j < 8
  ·have e : (8 - j) = (8 - (j + 1)) + 1 := by omega
   have h1 := ih (j + 1) (crcStep r) (by omega) (by omega)
   rw [if_pos (by omega), e, crcIter_succ', <- h1]
   rw [show ((j : Int) + 1) = ((j + 1 : Nat) : Int) by omega, ckn _ (by omega)]
   simp only [bs, crcStep, crcPoly]
   split <;> rfl
  ·rw [if_neg (by omega), show 8 - j = 0 by omega]; rfl
theorem ext_l1 (xs : List (BitVec 8)) (hx : xs.length <= 9223372036854775806) (n : Nat) : ∀ (i : Nat) (r : BitVec 32), i <= xs.length -> xs.length - i < n -> m_crc32c_Extend_l1 xs n r (i : Int) = some (~~~ crcRaw r (xs.drop i)) := by
 induction n with
 | zero => intro i r _ h; omega
 | succ n ih =>
  intro i r hi hn
  rw [m_crc32c_Extend_l1]
  by_cases h : i < xs.length
  ·have e3 := ext_l3 (i : Int) (m_crc32c_Extend_l1 xs n) forever 0 (r ^^^ (xs.getD i 0).setWidth 32) (by omega) (by unfold forever; omega)
   rw [if_pos (by omega), idx_gD xs i 0 h, bs]
   refine e3.trans ?_
   rw [m_crc32c_Extend_j2, show ((i : Int) + 1) = ((i + 1 : Nat) : Int) by omega, ckn _ (by omega), bs, ih _ _ (by omega) (by omega)]
   have e : xs.drop i = xs.getD i 0 :: xs.drop (i + 1) := by
    rw [List.drop_eq_getElem_cons h, List.getD_eq_getElem?_getD, List.getElem?_eq_getElem h]; rfl
   rw [e]; rfl
  ·rw [if_neg (by omega), List.drop_of_length_le (by omega)]; rfl
theorem crc_Extend_eq (c : BitVec 32) (xs : List (BitVec 8)) (hx : xs.length <= 9223372036854775806) : m_crc32c_Extend c xs = some (crcExt c xs) := by
 have := ext_l1 xs hx forever 0 (~~~c) (by omega) (by unfold forever; omega)
 simpa [m_crc32c_Extend, crcExt] using this
theorem crc_Sum_eq (xs : List (BitVec 8)) (hx : xs.length <= 9223372036854775806) : m_crc32c_Sum xs = some (crcSum xs) := by
 rw [m_crc32c_Sum, crc_Extend_eq _ _ hx]; rfl
theorem valF_cons (acc : BitVec 64) (b : BitVec 8) (xs : List (BitVec 8)) : valF acc (b :: xs) = valF (acc <<< 8 ||| b.setWidth 64) xs := rfl
theorem drop_getD {α : Type} (xs : List α) (i : Nat) (d : α) (h : i < xs.length) : xs.drop i = xs.getD i d :: xs.drop (i + 1) := by
 rw [List.drop_eq_getElem_cons h, List.getD_eq_getElem?_getD, List.getElem?_eq_getElem h]; rfl
theorem r06_Value_l (xs : List (BitVec 8)) (hx : xs.length <= 9223372036854775806) (n : Nat) : ∀ (i : Nat) (v : BitVec 64), i <= xs.length -> xs.length - i < n -> m_r06_Value_l1 xs n v (i : Int) = some (valF v (xs.drop i)) := by
 induction n with
 | zero => intro i r _ h; omega
 | succ n ih =>
  intro i r hi hn
  rw [m_r06_Value_l1]
  by_cases h : i < xs.length
  ·rw [if_pos (by omega), idx_gD xs i 0 h, bs, show ((i : Int) + 1) = ((i + 1 : Nat) : Int) by omega, ckn _ (by omega), bs, ih _ _ (by omega) (by omega), drop_getD xs i 0 h, valF_cons]
  ·rw [if_neg (by omega), List.drop_of_length_le (by omega)]; rfl
theorem r06_Value_eq (xs : List (BitVec 8)) (hx : xs.length <= 9223372036854775806) : m_r06_Value xs = some (val xs) := by
 have := r06_Value_l xs hx forever 0 0#64 (by omega) (by unfold forever; omega)
 simpa [m_r06_Value, val] using this
theorem be_succ (v : BitVec 64) (n : Nat) : be (n + 1) v = (v >>> (8 * n)).setWidth 8 :: be n v := rfl
theorem r06_Number_l (v : BitVec 64) (n : Nat) : ∀ (k : Nat) (ys : List (BitVec 8)), k <= 8 -> ys.length + k <= 1000000 -> k < n -> m_r06_Number_l1 v n ys ((k : Int) - 1) = some (ys ++ be k v) := by
 induction n with
 | zero => intro k ys _ _ h; omega
 | succ n ih =>
  intro k ys hk hy hn
  rw [m_r06_Number_l1]
  cases k with
  | zero => rw [if_neg (by omega)]; simp [m_r06_Number_j0, be]
  | succ k =>
   rw [if_pos (by omega), show ((k + 1 : Nat) : Int) - 1 = (k : Int) by omega]
   rw [show ((8 : Int) * (k : Int)) = ((8 * k : Nat) : Int) by omega, ckn _ (by omega), bs, apd1_of (by simp; omega), bs, ck_of (by omega), bs, ih k _ (by omega) (by simp; omega) (by omega), be_succ]
   have e : (BitVec.ofInt 64 ((8 * k : Nat) : Int)).toNat = 8 * k := by rw [BitVec.ofInt_natCast, BitVec.toNat_ofNat]; exact Nat.mod_eq_of_lt (by omega)
   rw [e, List.append_assoc]; rfl
theorem r06_Number_eq (v : BitVec 64) (n : Nat) (h : n <= 8) : m_r06_Number v (n : Int) = some (be n v) := by
 rw [m_r06_Number, ck_of (by omega), bs, r06_Number_l v forever n [] h (by simp; omega) (by unfold forever; omega)]; rfl
theorem r06_Check_eq (xs : List (BitVec 8)) (hx : xs.length <= 9223372036854775806) : m_r06_Check xs = some (le4 (crcSum xs)) := by
 rw [m_r06_Check, r01_Sum_eq _ hx]; rfl
def nsize (n : Nat) : Nat := (20 + n + 4 + 7) / 8 * 8
def sizeZ (z : Int) : Int := if 0 <= z /\ z <= 4096 then (nsize z.toNat : Nat) else 0
theorem needle_Size_eq (z : Int) : m_needle_Size z = some (sizeZ z) := by
 unfold m_needle_Size sizeZ
 by_cases h0 : z < 0
 ·rw [if_pos h0, if_neg (by omega)]
 ·rw [if_neg h0]
  by_cases h1 : 4096 < z
  ·rw [if_pos h1, if_neg (by omega)]
  ·rw [if_neg h1, if_pos (by omega), ck_of (by omega), bs, ck_of (by omega), bs, ck_of (by omega), bs, ck_of (by omega), bs, dvi_of (by omega) (by omega), bs, ck_of (by omega), bs]
   unfold nsize; congr 1; omega
theorem r06_Size_eq (z : Int) : m_r06_Size z = some (sizeZ z) := by
 unfold m_r06_Size sizeZ
 by_cases h0 : z < 0
 ·rw [if_pos h0, if_neg (by omega)]
 ·rw [if_neg h0]
  by_cases h1 : 4096 < z
  ·rw [if_pos h1, if_neg (by omega)]
  ·rw [if_neg h1, if_pos (by omega), ck_of (by omega), bs, ck_of (by omega), bs, ck_of (by omega), bs, dvi_of (by omega) (by omega), bs, ck_of (by omega), bs]
   unfold nsize; congr 1; omega
theorem sizeZ_nat (n : Nat) (h : n <= 4096) : sizeZ (n : Int) = (nsize n : Nat) := by rw [sizeZ, if_pos (by omega), Int.toNat_natCast]
theorem nsize_lo (n : Nat) : 24 + n <= nsize n /\ nsize n <= 24 + n + 7 /\ nsize n % 8 = 0 := by unfold nsize; omega
def nvalid (d : Bool) (xs : List (BitVec 8)) : Bool := decide (xs.length <= 4096) && !(d && decide (0 < xs.length))
theorem needle_Valid_eq (k : BitVec 64) (c : BitVec 32) (d : Bool) (xs : List (BitVec 8)) : m_r06_Valid k c d xs = some (nvalid d xs) := by
 unfold m_r06_Valid nvalid
 by_cases h : xs.length <= 4096
 ·rw [if_pos (by omega)]; cases d <;> simp [h] <;> omega
 ·rw [if_neg (by omega)]; simp [h]
theorem r06_Valid_eq (k : BitVec 64) (c : BitVec 32) (d : Bool) (xs : List (BitVec 8)) : m_r06_Valid k c d xs = some (nvalid d xs) := needle_Valid_eq k c d xs
def nhead (k : BitVec 64) (c : BitVec 32) (d : Bool) (n : Nat) : List (BitVec 8) := [78#8, 165#8, if d then 1#8 else 0#8, 0#8] ++ be 4 (c.setWidth 64) ++ be 8 k ++ be 4 (BitVec.ofInt 64 (n : Int))
def nbody (k : BitVec 64) (c : BitVec 32) (d : Bool) (xs : List (BitVec 8)) : List (BitVec 8) := nhead k c d xs.length ++ xs
def nenc (k : BitVec 64) (c : BitVec 32) (d : Bool) (xs : List (BitVec 8)) : List (BitVec 8) :=
 nbody k c d xs ++ le4 (crcSum (nbody k c d xs)) ++ List.replicate (nsize xs.length - (24 + xs.length)) 0#8
def nencR (k : BitVec 64) (c : BitVec 32) (d : Bool) (xs : List (BitVec 8)) : List (BitVec 8) × Int :=
 if 4096 < xs.length then ([], 8) else if nvalid d xs = true then (nenc k c d xs, 0) else ([], 1)
theorem nhead_length (k : BitVec 64) (c : BitVec 32) (d : Bool) (n : Nat) : (nhead k c d n).length = 20 := by simp [nhead, be_length]
theorem nbody_length (k : BitVec 64) (c : BitVec 32) (d : Bool) (xs : List (BitVec 8)) : (nbody k c d xs).length = 20 + xs.length := by simp [nbody, nhead_length]
theorem le4_length (s : BitVec 32) : (le4 s).length = 4 := rfl
theorem nenc_length (k : BitVec 64) (c : BitVec 32) (d : Bool) (xs : List (BitVec 8)) : (nenc k c d xs).length = nsize xs.length := by
 have := nsize_lo xs.length
 simp only [nenc, List.length_append, nbody_length, le4_length, List.length_replicate]; omega
theorem renc_l2 (k : BitVec 64) (xs : List (BitVec 8)) (hx : xs.length <= 4096) (n : Nat) : ∀ (ys : List (BitVec 8)), ys.length <= nsize xs.length -> nsize xs.length - ys.length < n -> m_r06_Encode_l2 xs n ys = some (ys ++ List.replicate (nsize xs.length - ys.length) 0#8, 0) := by
 have hs := nsize_lo xs.length
 induction n with
 | zero => intro ys _ h; omega
 | succ n ih =>
  intro ys hy hn
  rw [m_r06_Encode_l2, r06_Size_eq, bs, sizeZ_nat _ hx]
  by_cases h : ys.length < nsize xs.length
  ·have hl : (ys ++ [0#8]).length = ys.length + 1 := by simp
   rw [if_pos (by omega), apd1_of (by simp; omega), bs, ih _ (by rw [hl]; omega) (by rw [hl]; omega), hl, show nsize xs.length - ys.length = (nsize xs.length - (ys.length + 1)) + 1 by omega, List.replicate_succ, List.append_assoc]; rfl
  ·rw [if_neg (by omega), show nsize xs.length - ys.length = 0 by omega]; simp [m_r06_Encode_j1]
theorem renc_j0 (k : BitVec 64) (c : BitVec 32) (d : Bool) (xs : List (BitVec 8)) (hx : xs.length <= 4096) : m_r06_Encode_j0 k c xs [78#8, 165#8, if d then 1#8 else 0#8, 0#8] = some (nenc k c d xs, 0) := by
 have e4 : (4 : Int) = ((4 : Nat) : Int) := rfl
 have e8 : (8 : Int) = ((8 : Nat) : Int) := rfl
 rw [m_r06_Encode_j0, e4, e8, r06_Number_eq _ _ (by omega), bs, apd1_of (by simp [be_length]), bs, r06_Number_eq _ _ (by omega), bs, apd1_of (by simp [be_length]), bs, r06_Number_eq _ _ (by omega), bs, apd1_of (by simp [be_length]), bs, apd1_of (by simp [be_length]; omega), bs]
 have eb : [78#8, 165#8, if d then 1#8 else 0#8, 0#8] ++ be 4 (c.setWidth 64) ++ be 8 k ++ be 4 (BitVec.ofInt 64 (xs.length : Int)) ++ xs = nbody k c d xs := rfl
 have hl : (nbody k c d xs ++ le4 (crcSum (nbody k c d xs))).length = 24 + xs.length := by rw [List.length_append, nbody_length, le4_length]; omega
 have hs := nsize_lo xs.length
 rw [eb, r06_Check_eq _ (by rw [nbody_length]; omega), bs, apd1_of (by rw [nbody_length, le4_length]; omega), bs, renc_l2 k xs hx _ _ (by rw [hl]; omega) (by unfold forever; omega), hl, nenc]
theorem r06_Encode_eq (k : BitVec 64) (c : BitVec 32) (d : Bool) (xs : List (BitVec 8)) : m_r06_Encode k c d xs = some (nencR k c d xs) := by
 unfold m_r06_Encode nencR
 by_cases h : 4096 < xs.length
 ·rw [if_pos (by omega), if_pos h]
 ·rw [if_neg (by omega), if_neg h, r06_Valid_eq, bs]
  by_cases hv : nvalid d xs = true
  ·rw [if_pos hv, if_pos hv]
   have := renc_j0 k c d xs (by omega)
   cases d <;> simpa [idx, upd] using this
  ·rw [if_neg hv, if_neg hv]
abbrev NR := (BitVec 64) × (BitVec 32) × Bool × (List (BitVec 8)) × Int × Int
def nbad (e : Int) : NR := (0#64, 0#32, false, [], 0, e)
def bget (b : List (BitVec 8)) (i : Nat) : BitVec 8 := b.getD i 0#8
def nlen (b : List (BitVec 8)) : BitVec 64 := val ((b.drop 16).take 4)
def ncore (b : List (BitVec 8)) (n : Nat) : NR :=
 if b.length < nsize n then nbad 4
 else if le4 (crcSum (b.take (20 + n))) = (b.drop (20 + n)).take 4 then
  if ((b.drop (24 + n)).take (nsize n - (24 + n))).all (· == 0#8) = true then
   (val ((b.drop 8).take 8), (val ((b.drop 4).take 4)).setWidth 32, (bget b 2 == 1#8), (b.drop 20).take n, ((nsize n : Nat) : Int), 0)
  else nbad 3
 else nbad 5
def ndec (b : List (BitVec 8)) : NR :=
 if b.length < 20 then nbad 4
 else if bget b 0 = 78#8 /\ bget b 1 = 165#8 /\ ¬ 1#8 < bget b 2 /\ bget b 3 = 0#8 /\ ¬ 4096#64 < nlen b /\ (bget b 2 = 1#8 -> ¬ 0#64 < nlen b) then ncore b (nlen b).toNat
 else nbad 3
theorem slc_nat {α : Type} (xs : List α) (lo hi : Nat) (h : lo <= hi /\ hi <= xs.length) : slc xs (lo : Int) (hi : Int) = some ((xs.drop lo).take (hi - lo)) := by
 rw [slc_of (by omega)]; simp
theorem small_toInt (x : BitVec 64) (h : ¬ 4096#64 < x) : x.toInt = (x.toNat : Int) /\ x.toNat <= 4096 := by
 have h1 : x.toNat <= 4096 := by
  have : ¬ (4096#64).toNat < x.toNat := h
  simpa using this
 exact ⟨by rw [BitVec.toInt_eq_toNat_cond, if_pos (by omega)], h1⟩
theorem rdec_l2 (b : List (BitVec 8)) (N : Nat) (hb : nsize N <= b.length) (hN : N <= 4096) (q : Nat) : ∀ (i : Nat), i <= nsize N -> nsize N - i < q ->
  m_r06_Decode_l2 b ((nsize N : Nat) : Int) ((20 + N : Nat) : Int) q (i : Int) = if ((b.drop i).take (nsize N - i)).all (· == 0#8) = true then m_r06_Decode_j1 b ((nsize N : Nat) : Int) ((20 + N : Nat) : Int) else some (nbad 3) := by
 have hs := nsize_lo N
 induction q with
 | zero => intro i _ h; omega
 | succ q ih =>
  intro i hi hq
  rw [m_r06_Decode_l2]
  by_cases h : i < nsize N
  ·rw [if_pos (by omega), idx_gD b i 0#8 (by omega), bs, drop_getD b i 0#8 (by omega), show nsize N - i = (nsize N - (i + 1)) + 1 by omega, List.take_succ_cons, List.all_cons]
   by_cases hz : b.getD i 0#8 = 0#8
   ·rw [if_pos hz, show ((i : Int) + 1) = ((i + 1 : Nat) : Int) by omega, ckn _ (by omega), bs, ih (i + 1) (by omega) (by omega), hz]; simp
   ·rw [if_neg hz, if_neg (by simp; intro h; exact absurd h hz)]; rfl
  ·rw [if_neg (by omega), show nsize N - i = 0 by omega]; simp
theorem rdec_j1 (b : List (BitVec 8)) (N : Nat) (hb : nsize N <= b.length) (hN : N <= 4096) (hm : b.length <= 9223372036854775806) : m_r06_Decode_j1 b ((nsize N : Nat) : Int) ((20 + N : Nat) : Int) =
  some ((val ((b.drop 8).take 8), (val ((b.drop 4).take 4)).setWidth 32, (bget b 2 == 1#8), (b.drop 20).take N, ((nsize N : Nat) : Int), (0 : Int)) : NR) := by
 have hs := nsize_lo N
 rw [m_r06_Decode_j1, show (8 : Int) = ((8 : Nat) : Int) from rfl, show (16 : Int) = ((16 : Nat) : Int) from rfl, show (4 : Int) = ((4 : Nat) : Int) from rfl, show (20 : Int) = ((20 : Nat) : Int) from rfl, show (2 : Int) = ((2 : Nat) : Int) from rfl,
  slc_nat _ _ _ (by omega), bs, r06_Value_eq _ (by simp; omega), bs, slc_nat _ _ _ (by omega), bs, r06_Value_eq _ (by simp; omega), bs, idx_gD b 2 0#8 (by omega), bs, slc_nat _ _ _ (by omega), bs, apd1_of (by simp; omega), bs, show 20 + N - 20 = N by omega]
 rfl
theorem rdec_j0 (b : List (BitVec 8)) (x : BitVec 64) (hx : ¬ 4096#64 < x) (h20 : 20 <= b.length) (hm : b.length <= 9223372036854775806) : m_r06_Decode_j0 b x = some (ncore b x.toNat) := by
 obtain ⟨hxi, hN⟩ := small_toInt x hx
 have hs := nsize_lo x.toNat
 rw [m_r06_Decode_j0, hxi, r06_Size_eq, bs, sizeZ_nat _ hN, show ((20 : Int) + (x.toNat : Int)) = ((20 + x.toNat : Nat) : Int) by omega, ckn _ (by omega), bs, ncore]
 by_cases h1 : b.length < nsize x.toNat
 ·rw [if_pos (by omega), if_pos h1]; rfl
 ·rw [if_neg (by omega), if_neg h1, show (0 : Int) = ((0 : Nat) : Int) from rfl, slc_nat _ _ _ (by omega), bs, r06_Check_eq _ (by simp; omega), bs, show (((20 + x.toNat : Nat) : Int) + (4 : Int)) = ((24 + x.toNat : Nat) : Int) by omega, ckn _ (by omega), bs, slc_nat _ _ _ (by omega), bs]
  rw [List.drop_zero, Nat.sub_zero, show 24 + x.toNat - (20 + x.toNat) = 4 by omega]
  by_cases h2 : le4 (crcSum (b.take (20 + x.toNat))) = (b.drop (20 + x.toNat)).take 4
  ·rw [if_pos h2, if_pos h2, bs, rdec_l2 b x.toNat (by omega) hN forever (24 + x.toNat) (by omega) (by unfold forever; omega), rdec_j1 b _ (by omega) hN hm]
   split <;> rfl
  ·rw [if_neg h2, if_neg h2]; rfl
theorem r06_Decode_eq (b : List (BitVec 8)) (hm : b.length <= 9223372036854775806) : m_r06_Decode b = some (ndec b) := by
 unfold m_r06_Decode ndec
 by_cases h : b.length < 20
 ·rw [if_pos (by omega), if_pos h]; rfl
 ·rw [if_neg (by omega), if_neg h, show (16 : Int) = ((16 : Nat) : Int) from rfl, show (20 : Int) = ((20 : Nat) : Int) from rfl, slc_nat _ _ _ (by omega), bs, r06_Value_eq _ (by simp; omega), bs,
   show (0 : Int) = ((0 : Nat) : Int) from rfl, idx_gD b 0 0#8 (by omega), bs, show (1 : Int) = ((1 : Nat) : Int) from rfl, show (2 : Int) = ((2 : Nat) : Int) from rfl, show (3 : Int) = ((3 : Nat) : Int) from rfl,
   idx_gD b 1 0#8 (by omega), idx_gD b 2 0#8 (by omega), idx_gD b 3 0#8 (by omega)]
  simp only [bs]
  have e : (b.drop 16).take (20 - 16) = (b.drop 16).take 4 := rfl
  rw [e]
  change (if bget b 0 = 78#8 then if bget b 1 = 165#8 then if 1#8 < bget b 2 then _ else if bget b 3 = 0#8 then if 4096#64 < nlen b then _ else if bget b 2 = 1#8 then if 0#64 < nlen b then _ else m_r06_Decode_j0 b (nlen b) else m_r06_Decode_j0 b (nlen b) else _ else _ else _) = _
  by_cases c0 : bget b 0 = 78#8
  ·by_cases c1 : bget b 1 = 165#8
   ·by_cases c2 : 1#8 < bget b 2
    ·rw [if_pos c0, if_pos c1, if_pos c2, if_neg (by simp [c2])]; rfl
    ·by_cases c3 : bget b 3 = 0#8
     ·by_cases c4 : 4096#64 < nlen b
      ·rw [if_pos c0, if_pos c1, if_neg c2, if_pos c3, if_pos c4, if_neg (by simp [c4])]; rfl
      ·rw [if_pos c0, if_pos c1, if_neg c2, if_pos c3, if_neg c4]
       by_cases c5 : bget b 2 = 1#8
       ·rw [if_pos c5]
        by_cases c6 : 0#64 < nlen b
        ·rw [if_pos c6, if_neg (fun h => h.2.2.2.2.2 c5 c6)]; rfl
        ·rw [if_neg c6, if_pos ⟨c0, c1, c2, c3, c4, fun _ => c6⟩, rdec_j0 b _ c4 (by omega) hm]
       ·rw [if_neg c5, if_pos ⟨c0, c1, c2, c3, c4, fun h => absurd h c5⟩, rdec_j0 b _ c4 (by omega) hm]
     ·rw [if_pos c0, if_pos c1, if_neg c2, if_neg c3, if_neg (by simp [c3])]; rfl
   ·rw [if_pos c0, if_neg c1, if_neg (by simp [c1])]; rfl
  ·rw [if_neg c0, if_neg (by simp [c0])]; rfl
theorem slices_Equal_l (xs ys : List (BitVec 8)) (hl : xs.length = ys.length) (hx : xs.length <= 9223372036854775806) (n : Nat) : ∀ (i : Nat), i <= xs.length -> xs.length - i < n -> m_slices_Equal_byte_byte_l1 xs ys n (i : Int) = some (xs.drop i == ys.drop i) := by
 induction n with
 | zero => intro i _ h; omega
 | succ n ih =>
  intro i hi hn
  rw [m_slices_Equal_byte_byte_l1]
  by_cases h : i < xs.length
  ·rw [if_pos (by omega), idx_gD xs i 0 h, bs, idx_gD ys i 0 (by omega), bs, drop_getD xs i 0 h, drop_getD ys i 0 (by omega)]
   by_cases he : xs.getD i 0 = ys.getD i 0
   ·rw [if_pos he, show ((i : Int) + 1) = ((i + 1 : Nat) : Int) by omega, ckn _ (by omega), bs, ih _ (by omega) (by omega), he]; simp
   ·rw [if_neg he]; congr 1; rw [eq_comm, beq_eq_false_iff_ne]; intro e; injection e with e1 e2; exact he e1
  ·rw [if_neg (by omega), List.drop_of_length_le (by omega), List.drop_of_length_le (by omega)]; rfl
theorem slices_Equal_eq (xs ys : List (BitVec 8)) (hx : xs.length <= 9223372036854775806) : m_slices_Equal_byte_byte xs ys = some (xs == ys) := by
 unfold m_slices_Equal_byte_byte
 by_cases h : xs.length = ys.length
 ·rw [if_pos (by omega)]; exact slices_Equal_l xs ys h hx forever 0 (by omega) (by unfold forever; omega)
 ·rw [if_neg (by omega)]
  have : (xs == ys) = false := by rw [beq_eq_false_iff_ne]; intro e; subst e; exact h rfl
  rw [this]
theorem drop_app {α : Type} {a b : List α} {n : Nat} (h : a.length = n) : (a ++ b).drop n = b := by subst h; simp
theorem take_app {α : Type} {a b : List α} {n : Nat} (h : a.length = n) : (a ++ b).take n = a := by subst h; simp
theorem val_be4 (v : BitVec 64) (h : v.toNat < 2 ^ 32) : val (be 4 v) = v := by
 apply BitVec.eq_of_getLsbD_eq
 intro i hi
 rw [val, valF_bit v 4 0#64 i hi]
 split
 ·rfl
 ·rw [BitVec.getLsbD_zero, eq_comm]
  rw [BitVec.getLsbD, Nat.testBit_lt_two_pow]
  exact Nat.lt_of_lt_of_le h (Nat.pow_le_pow_right (by omega) (by omega))
theorem drop_two {α : Type} {l r s : List α} {a b n : Nat} (h1 : l.drop a = r) (h2 : r.drop b = s) (e : a + b = n) : l.drop n = s := by subst e; rw [<- List.drop_drop, h1, h2]
def npad (n : Nat) : List (BitVec 8) := List.replicate (nsize n - (24 + n)) 0#8
theorem ofInt_small (n : Nat) (h : n <= 4096) : (BitVec.ofInt 64 (n : Int)).toNat = n := by rw [BitVec.ofInt_natCast, BitVec.toNat_ofNat]; exact Nat.mod_eq_of_lt (by omega)
theorem be_32 (c : BitVec 32) : (val (be 4 (c.setWidth 64))).setWidth 32 = c := by
 rw [val_be4 _ (by have := c.isLt; rw [BitVec.toNat_setWidth]; omega)]
 apply BitVec.eq_of_getLsbD_eq
 intro i hi
 simp [hi, show i < 64 by omega]
theorem ndec_enc (k : BitVec 64) (c : BitVec 32) (d : Bool) (xs tail : List (BitVec 8)) (hv : nvalid d xs = true) : ndec (nenc k c d xs ++ tail) = (k, c, d, xs, ((nsize xs.length : Nat) : Int), 0) := by
 have hn : xs.length <= 4096 := by simp [nvalid] at hv; exact hv.1
 have hd : d = true -> xs.length = 0 := by intro h; subst h; simp [nvalid] at hv; rw [hv.2]; rfl
 have hs := nsize_lo xs.length
 have hL : (nenc k c d xs ++ tail).length = nsize xs.length + tail.length := by rw [List.length_append, nenc_length]
 let b2 : BitVec 8 := if d then 1#8 else 0#8
 have e0 : nenc k c d xs ++ tail = [78#8, 165#8, b2, 0#8] ++ (be 4 (c.setWidth 64) ++ (be 8 k ++ (be 4 (BitVec.ofInt 64 (xs.length : Int)) ++ (xs ++ (le4 (crcSum (nbody k c d xs)) ++ (npad xs.length ++ tail)))))) := by
  simp only [nenc, nbody, nhead, npad, List.append_assoc, b2]
 have d4 : (nenc k c d xs ++ tail).drop 4 = be 4 (c.setWidth 64) ++ (be 8 k ++ (be 4 (BitVec.ofInt 64 (xs.length : Int)) ++ (xs ++ (le4 (crcSum (nbody k c d xs)) ++ (npad xs.length ++ tail))))) := by rw [e0]; exact drop_app rfl
 have d8 : (nenc k c d xs ++ tail).drop 8 = be 8 k ++ (be 4 (BitVec.ofInt 64 (xs.length : Int)) ++ (xs ++ (le4 (crcSum (nbody k c d xs)) ++ (npad xs.length ++ tail)))) := by
  exact drop_two d4 (drop_app (be_length _ _)) rfl
 have d16 : (nenc k c d xs ++ tail).drop 16 = be 4 (BitVec.ofInt 64 (xs.length : Int)) ++ (xs ++ (le4 (crcSum (nbody k c d xs)) ++ (npad xs.length ++ tail))) := by
  exact drop_two d8 (drop_app (be_length _ _)) rfl
 have d20 : (nenc k c d xs ++ tail).drop 20 = xs ++ (le4 (crcSum (nbody k c d xs)) ++ (npad xs.length ++ tail)) := by
  exact drop_two d16 (drop_app (be_length _ _)) rfl
 have dn : (nenc k c d xs ++ tail).drop (20 + xs.length) = le4 (crcSum (nbody k c d xs)) ++ (npad xs.length ++ tail) := by
  exact drop_two d20 (drop_app rfl) rfl
 have dn4 : (nenc k c d xs ++ tail).drop (24 + xs.length) = npad xs.length ++ tail := by
  exact drop_two dn (drop_app (le4_length _)) (by omega)
 have tn : (nenc k c d xs ++ tail).take (20 + xs.length) = nbody k c d xs := by
  rw [nenc, List.append_assoc, List.append_assoc]; exact take_app (nbody_length _ _ _ _)
 have hl : nlen (nenc k c d xs ++ tail) = BitVec.ofInt 64 (xs.length : Int) := by
  rw [nlen, d16, take_app (be_length _ _), val_be4 _ (by rw [ofInt_small _ hn]; omega)]
 have hlN : (nlen (nenc k c d xs ++ tail)).toNat = xs.length := by rw [hl, ofInt_small _ hn]
 have g0 : bget (nenc k c d xs ++ tail) 0 = 78#8 := by rw [e0]; rfl
 have g1 : bget (nenc k c d xs ++ tail) 1 = 165#8 := by rw [e0]; rfl
 have g2 : bget (nenc k c d xs ++ tail) 2 = b2 := by rw [e0]; rfl
 have g3 : bget (nenc k c d xs ++ tail) 3 = 0#8 := by rw [e0]; rfl
 have hcond : bget (nenc k c d xs ++ tail) 0 = 78#8 /\ bget (nenc k c d xs ++ tail) 1 = 165#8 /\ ¬ 1#8 < bget (nenc k c d xs ++ tail) 2 /\ bget (nenc k c d xs ++ tail) 3 = 0#8 /\ ¬ 4096#64 < nlen (nenc k c d xs ++ tail) /\ (bget (nenc k c d xs ++ tail) 2 = 1#8 -> ¬ 0#64 < nlen (nenc k c d xs ++ tail)) := by
  refine ⟨g0, g1, by rw [g2]; cases d <;> decide, g3, ?_, fun h => ?_⟩
  ·show ¬ (4096#64).toNat < _; rw [hlN]; simp; omega
  ·show ¬ (0#64).toNat < _; rw [hlN]
   rw [g2] at h
   have : d = true := by cases d <;> first | rfl | exact absurd h (by decide)
   rw [hd this]; simp
 rw [ndec, if_neg (by rw [hL]; omega), if_pos hcond, hlN, ncore, if_neg (by rw [hL]; omega), tn, dn, take_app (le4_length _), if_pos rfl, dn4, take_app (by simp [npad]), if_pos (by simp [npad]), d8, take_app (be_length _ _), val_be8, d4, take_app (be_length _ _), be_32, d20, take_app rfl, g2]
 cases d <;> rfl
def wi (a : Int) (n : Nat) : Nat := ((a.tmod n + n) % n).toNat
theorem wi_lt (a : Int) (n : Nat) (hn : 0 < n) : wi a n < n := by
 have h1 := Int.emod_nonneg (a.tmod n + n) (b := (n : Int)) (by omega)
 have h2 := Int.emod_lt_of_pos (a.tmod n + n) (b := (n : Int)) (by omega)
 unfold wi; omega
theorem wi_chain {ρ : Type} (a : Int) (n : Nat) (hn : 0 < n) (hb : n <= 4611686018427387904) (f : Int -> Option ρ) :
  (Option.bind (rmi a (n : Int)) fun x => Option.bind (ck (x + (n : Int))) fun y => Option.bind (rmi y (n : Int)) f) = f ((wi a n : Nat) : Int) := by
 have h1 := Int.tmod_lt_of_pos a (show (0 : Int) < n by omega)
 have h2 := Int.lt_tmod_of_pos a (show (0 : Int) < n by omega)
 have h3 := Int.emod_nonneg (a.tmod n + n) (b := (n : Int)) (by omega)
 rw [rmi, if_neg (by omega), bs, ck_of (by omega), bs, rmi_of (by omega) (by omega), bs]
 congr 1; unfold wi; omega
theorem nencR_val {k : BitVec 64} {c : BitVec 32} {d : Bool} {xs : List (BitVec 8)} (h : nvalid d xs = true) : nencR k c d xs = (nenc k c d xs, 0) := by
 have : xs.length <= 4096 := by simp [nvalid] at h; exact h.1
 unfold nencR
 rw [if_neg (by omega), if_pos h]
end Go.Proofs.YthjnhlmfcejhkaaGreat
