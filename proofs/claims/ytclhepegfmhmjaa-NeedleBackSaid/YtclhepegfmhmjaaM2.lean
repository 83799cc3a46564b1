/-
  CRC-32C as plain Lean: what the statements on checksums need: joining, sums of sequences, bursts.
  Conditions: none.
-/
import Derived.Test.YtclhepegfmhmjaaM1
namespace Go.Proofs.Ytclhepegfmhmjaa

theorem crcIter_succ' (n : Nat) (r : BitVec 32) : crcIter (n + 1) r = crcIter n (crcStep r) := by
  rw [crcIter_add n 1 r]; rfl
theorem crcRaw_lin (r s : BitVec 32) : ∀ bs : List (BitVec 8), crcRaw (r ^^^ s) bs = crcRaw r bs ^^^ zs bs.length s
  | [] => by simp [crcRaw, zs_zero]
  | b :: bs => by
    have e : crcByte (r ^^^ s) b = crcByte r b ^^^ zs 1 s := by
      show crcIter 8 _ = crcIter 8 _ ^^^ crcIter 8 _
      rw [← crcIter_lin 8]; congr 1
      rw [BitVec.xor_assoc, BitVec.xor_comm s, ← BitVec.xor_assoc]
    show crcRaw (crcByte (r ^^^ s) b) bs = crcRaw (crcByte r b) bs ^^^ _
    rw [e, crcRaw_lin _ _ bs, List.length_cons, zs_add]
theorem crcRaw_from (r : BitVec 32) (bs : List (BitVec 8)) : crcRaw r bs = zs bs.length r ^^^ crcRaw 0#32 bs := by
  have := crcRaw_lin 0#32 r bs
  rw [BitVec.zero_xor] at this
  rw [this, BitVec.xor_comm]
theorem crcExt_sum (a b : List (BitVec 8)) : crcExt (crcSum a) b = crcSum (a ++ b) := by
  simp [crcSum, crcExt, crcRaw_append]
theorem not_xor (a b : BitVec 32) : ~~~(a ^^^ b) = (~~~a) ^^^ b := by
  rw [not_xor_ones, not_xor_ones, BitVec.xor_assoc, BitVec.xor_assoc, BitVec.xor_comm b]
theorem not_as (a : BitVec 32) : ~~~a = a ^^^ 4294967295#32 := not_xor_ones a
theorem crcComb_join (a b : List (BitVec 8)) : crcComb (crcSum a) (crcSum b) (b.length : Int) = crcSum (a ++ b) := by
  rw [crcComb, if_neg (by omega), Int.toNat_natCast]
  simp only [crcSum, crcExt, crcRaw_append]
  rw [crcRaw_from (crcRaw (~~~0#32) a) b, crcRaw_from (~~~0#32) b]
  generalize crcRaw (~~~0#32) a = r1
  generalize crcRaw 0#32 b = rb
  simp only [not_as, zs_xor, BitVec.zero_xor]
  generalize zs b.length r1 = x
  generalize zs b.length 4294967295#32 = y
  have h : x ^^^ y ^^^ (y ^^^ rb ^^^ 4294967295#32) = x ^^^ (y ^^^ y) ^^^ (rb ^^^ 4294967295#32) := by ac_rfl
  rw [h, BitVec.xor_self, BitVec.xor_zero]; ac_rfl
theorem crcComb_assoc (a b c : BitVec 32) (m n : Nat) : crcComb (crcComb a b m) c n = crcComb a (crcComb b c n) ((m : Int) + (n : Int)) := by
  simp only [crcComb]
  rw [if_neg (by omega), if_neg (by omega), if_neg (by omega), if_neg (by omega)]
  have e : ((m : Int) + (n : Int)).toNat = n + m := by omega
  rw [e, Int.toNat_natCast, Int.toNat_natCast, zs_add, zs_xor]
  ac_rfl

/-- the exclusive or of three sequences -/
def xor3 (a b c : List (BitVec 8)) : List (BitVec 8) := (List.range (min a.length (min b.length c.length))).map fun i => a.getD i 0 ^^^ b.getD i 0 ^^^ c.getD i 0
theorem crcByte_xor (r s : BitVec 32) (a b : BitVec 8) : crcByte (r ^^^ s) (a ^^^ b) = crcByte r a ^^^ crcByte s b := by
  simp only [crcByte]
  rw [← crcIter_lin 8]; congr 1
  rw [BitVec.setWidth_xor]; ac_rfl
theorem crcRaw_xor : ∀ (a b : List (BitVec 8)) (r s : BitVec 32), a.length = b.length → crcRaw (r ^^^ s) (List.zipWith (· ^^^ ·) a b) = crcRaw r a ^^^ crcRaw s b
  | [], [], r, s, _ => rfl
  | [], _ :: _, _, _, h => by simp at h
  | _ :: _, [], _, _, h => by simp at h
  | x :: a, y :: b, r, s, h => by
    show crcRaw (crcByte (r ^^^ s) (x ^^^ y)) (List.zipWith _ a b) = _
    rw [crcByte_xor, crcRaw_xor a b _ _ (by simpa using h)]; rfl
theorem crcSum_xor3 (a b c : List (BitVec 8)) (h1 : a.length = b.length) (h2 : a.length = c.length) :
    crcSum (List.zipWith (· ^^^ ·) (List.zipWith (· ^^^ ·) a b) c) = crcSum a ^^^ crcSum b ^^^ crcSum c := by
  have hl : (List.zipWith (· ^^^ ·) a b).length = c.length := by simp [h1.symm, h2]
  have e : (~~~0#32 : BitVec 32) = ((~~~0#32) ^^^ (~~~0#32)) ^^^ (~~~0#32) := by decide
  have h := crcRaw_xor (List.zipWith (· ^^^ ·) a b) c ((~~~0#32) ^^^ (~~~0#32)) (~~~0#32) hl
  rw [← e, crcRaw_xor a b _ _ h1] at h
  simp only [crcSum, crcExt, h]
  simp only [not_as]
  generalize crcRaw _ a = x
  generalize crcRaw _ b = y
  generalize crcRaw _ c = z
  have h3 : x ^^^ 4294967295#32 ^^^ (y ^^^ 4294967295#32) ^^^ (z ^^^ 4294967295#32) = x ^^^ y ^^^ z ^^^ 4294967295#32 ^^^ (4294967295#32 ^^^ 4294967295#32) := by ac_rfl
  rw [h3, BitVec.xor_self, BitVec.xor_zero]

/-! ### bits -/
def bit1 (b : Bool) : BitVec 32 := if b then 1#32 else 0#32
def crcBits (r : BitVec 32) (l : List Bool) : BitVec 32 := l.foldl (fun r b => crcStep (r ^^^ bit1 b)) r
theorem crcBits_append (r : BitVec 32) (a b : List Bool) : crcBits r (a ++ b) = crcBits (crcBits r a) b := by simp [crcBits]
theorem crcBits_xor : ∀ (a b : List Bool) (r s : BitVec 32), a.length = b.length → crcBits (r ^^^ s) (List.zipWith Bool.xor a b) = crcBits r a ^^^ crcBits s b
  | [], [], r, s, _ => rfl
  | [], _ :: _, _, _, h => by simp at h
  | _ :: _, [], _, _, h => by simp at h
  | x :: a, y :: b, r, s, h => by
    show crcBits (crcStep (r ^^^ s ^^^ bit1 (x ^^ y))) (List.zipWith _ a b) = _
    have e : r ^^^ s ^^^ bit1 (x ^^ y) = (r ^^^ bit1 x) ^^^ (s ^^^ bit1 y) := by
      have : bit1 (x ^^ y) = bit1 x ^^^ bit1 y := by cases x <;> cases y <;> rfl
      rw [this]; ac_rfl
    rw [e, crcStep_lin, crcBits_xor a b _ _ (by simpa using h)]; rfl
theorem crcBits_false : ∀ (n : Nat) (r : BitVec 32), crcBits r (List.replicate n false) = crcIter n r
  | 0, r => rfl
  | n + 1, r => by
    rw [List.replicate_succ]
    show crcBits (crcStep (r ^^^ bit1 false)) _ = _
    rw [crcBits_false n, crcIter_succ']
    simp [bit1]
/-- the bits of a number, the least one first -/
def bitsN (v : BitVec 32) (n : Nat) : List Bool := (List.range n).map fun i => v.getLsbD i
theorem bitsN_succ (v : BitVec 32) (n : Nat) : bitsN v (n + 1) = v.getLsbD 0 :: bitsN (v >>> 1) n := by
  simp only [bitsN, List.range_succ_eq_map, List.map_cons, List.map_map]
  congr 1
  apply List.map_congr_left
  intro i _
  simp [BitVec.getLsbD_ushiftRight, Nat.add_comm]
theorem split_low (v : BitVec 32) : crcStep v = crcStep (bit1 (v.getLsbD 0)) ^^^ (v >>> 1) := by
  have h0 : ∀ w : BitVec 32, (w &&& 1#32 = 1#32) ↔ w.getLsbD 0 = true := fun w => by
    have := and_one_bit w 0; simpa using this
  cases hb : v.getLsbD 0
  · have e : ¬ (v &&& 1#32 = 1#32) := by rw [h0, hb]; simp
    rw [crcStep, if_neg e]
    show _ = crcStep 0#32 ^^^ _
    rw [show crcStep 0#32 = 0#32 by decide, BitVec.zero_xor]
  · have e : v &&& 1#32 = 1#32 := by rw [h0, hb]
    rw [crcStep, if_pos e]
    show _ = crcStep 1#32 ^^^ _
    rw [show crcStep 1#32 = crcPoly by decide, BitVec.xor_comm]
theorem crcBits_word : ∀ (n : Nat) (r v : BitVec 32), v.toNat < 2 ^ n → crcBits r (bitsN v n) = crcIter n (r ^^^ v)
  | 0, r, v, h => by
    have : v = 0#32 := BitVec.eq_of_toNat_eq (by simp at h ⊢; omega)
    subst this; simp [bitsN, crcBits, crcIter]
  | n + 1, r, v, h => by
    rw [bitsN_succ]
    show crcBits (crcStep (r ^^^ bit1 (v.getLsbD 0))) _ = _
    have h2 : (v >>> 1).toNat < 2 ^ n := by
      rw [BitVec.toNat_ushiftRight, Nat.shiftRight_eq_div_pow]
      have := Nat.pow_succ 2 n
      omega
    rw [crcBits_word n _ _ h2, crcIter_succ', crcStep_lin, crcStep_lin, split_low v]
    congr 1; ac_rfl

/-! the bits of a sequence of bytes -/
def bitAt (xs : List (BitVec 8)) (j : Nat) : Bool := (xs.getD (j / 8) 0).getLsbD (j % 8)
def bitsOf (xs : List (BitVec 8)) : List Bool := (List.range (8 * xs.length)).map (bitAt xs)
theorem bitsOf_length (xs : List (BitVec 8)) : (bitsOf xs).length = 8 * xs.length := by simp [bitsOf]
theorem range_add (a b : Nat) : List.range (a + b) = List.range a ++ (List.range b).map (a + ·) := by
  rw [List.range_add]
theorem bitsOf_cons (x : BitVec 8) (xs : List (BitVec 8)) : bitsOf (x :: xs) = bitsN (x.setWidth 32) 8 ++ bitsOf xs := by
  simp only [bitsOf, List.length_cons, Nat.mul_add, Nat.mul_one]
  rw [Nat.add_comm, range_add, List.map_append, List.map_map]
  refine congr (congrArg HAppend.hAppend ?_) ?_
  · simp only [bitsN]
    apply List.map_congr_left
    intro i hi
    have : i < 8 := by simpa using hi
    simp only [bitAt, Nat.div_eq_of_lt this, Nat.mod_eq_of_lt this, List.getD_cons_zero, BitVec.getLsbD_setWidth]
    simp [show i < 32 by omega]
  · apply List.map_congr_left
    intro i _
    simp only [bitAt, Function.comp]
    rw [show (8 + i) / 8 = i / 8 + 1 by omega, show (8 + i) % 8 = i % 8 by omega, List.getD_cons_succ]
theorem crcRaw_bits : ∀ (xs : List (BitVec 8)) (r : BitVec 32), crcRaw r xs = crcBits r (bitsOf xs)
  | [], r => rfl
  | x :: xs, r => by
    rw [bitsOf_cons, crcBits_append, crcBits_word 8 r _ (by have := x.isLt; simp; omega), ← crcRaw_bits xs]; rfl

/-! ### bursts -/
def burstTo (xs : List (BitVec 8)) (k : Nat) (flip : BitVec 32) : Nat → List (BitVec 8)
  | 0 => xs
  | i + 1 => (burstTo xs k flip i).set ((k + i) / 8) ((burstTo xs k flip i).getD ((k + i) / 8) 0 ^^^ (((flip >>> i) &&& 1#32) <<< ((k + i) % 8)).setWidth 8)
theorem burstTo_length (xs : List (BitVec 8)) (k : Nat) (flip : BitVec 32) : ∀ i, (burstTo xs k flip i).length = xs.length
  | 0 => rfl
  | i + 1 => by simp [burstTo, burstTo_length xs k flip i]
theorem bit_flip (flip : BitVec 32) (i s t : Nat) (hs : s < 8) (ht : t < 8) : ((((flip >>> i) &&& 1#32) <<< s).setWidth 8).getLsbD t = (flip.getLsbD i && decide (t = s)) := by
  have hz : (flip >>> i) &&& 1#32 = bit1 (flip.getLsbD i) := by
    cases hb : flip.getLsbD i
    · have hne : ¬ ((flip >>> i) &&& 1#32 = 1#32) := by rw [and_one_bit, hb]; simp
      apply BitVec.eq_of_getLsbD_eq
      intro j hj
      by_cases h0 : j = 0
      · subst h0
        simp [bit1, hb]
      · have : (1#32 : BitVec 32).getLsbD j = false := by rw [BitVec.getLsbD_ofNat, testBit_one]; simp [h0]
        rw [BitVec.getLsbD_and, this]; simp [bit1]
    · exact (and_one_bit flip i).2 hb
  rw [hz]
  cases flip.getLsbD i
  · simp [bit1]
  · simp only [bit1, if_true, BitVec.getLsbD_setWidth, BitVec.getLsbD_shiftLeft, BitVec.getLsbD_ofNat, testBit_one]
    by_cases h1 : t < s <;> by_cases h2 : t = s
    all_goals simp [h1, h2, ht, show t < 32 by omega, hs, show s < 32 by omega]
    all_goals omega
theorem getD_set {α : Type} (l : List α) (i j : Nat) (a d : α) (h : i < l.length) : (l.set i a).getD j d = if j = i then a else l.getD j d := by
  simp only [List.getD_eq_getElem?_getD, List.getElem?_set]
  by_cases e : i = j
  · subst e; simp [h]
  · simp [e, show ¬ j = i from fun h => e h.symm]
theorem bitAt_burst (xs : List (BitVec 8)) (k : Nat) (flip : BitVec 32) : ∀ i, k + i ≤ 8 * xs.length → ∀ j, j < 8 * xs.length →
    bitAt (burstTo xs k flip i) j = (bitAt xs j ^^ (flip.getLsbD (j - k) && decide (k ≤ j) && decide (j < k + i)))
  | 0, _, j, _ => by
    have : ¬ (k ≤ j ∧ j < k) := by omega
    have hz : (flip.getLsbD (j - k) && decide (k ≤ j) && decide (j < k + 0)) = false := by
      by_cases h1 : k ≤ j
      · simp
      · simp [h1]
    rw [hz]; simp [burstTo]
  | i + 1, h, j, hj => by
    have ih := bitAt_burst xs k flip i (by omega) j hj
    have hlt : (k + i) / 8 < (burstTo xs k flip i).length := by rw [burstTo_length]; omega
    simp only [bitAt, burstTo] at ih ⊢
    rw [getD_set _ _ _ _ _ hlt]
    by_cases hq : j / 8 = (k + i) / 8
    · rw [if_pos hq, BitVec.getLsbD_xor, bit_flip _ _ _ _ (by omega) (by omega), ← hq, ih]
      by_cases he : j = k + i
      · subst he
        simp [show ¬ k + i < k + i by omega]
      · have h1 : ¬ (j % 8 = (k + i) % 8) := by omega
        by_cases h2 : k ≤ j <;> by_cases h3 : j < k + i
        all_goals simp [h1, h2, h3, show (j < k + (i + 1)) ↔ j < k + i by omega]
    · rw [if_neg hq, ih]
      by_cases h2 : k ≤ j <;> by_cases h3 : j < k + i
      all_goals simp [h2, h3, show (j < k + (i + 1)) ↔ j < k + i by omega]
theorem bitsOf_inj {xs ys : List (BitVec 8)} (hl : xs.length = ys.length) (h : ∀ j, j < 8 * xs.length → bitAt xs j = bitAt ys j) : xs = ys := by
  apply List.ext_getElem hl
  intro i h1 h2
  apply BitVec.eq_of_getLsbD_eq
  intro s hs
  have := h (8 * i + s) (by omega)
  simp only [bitAt, show (8 * i + s) / 8 = i by omega, show (8 * i + s) % 8 = s by omega] at this
  simpa [List.getD_eq_getElem?_getD, h1, h2] using this

theorem crcStep_eq_zero {r : BitVec 32} (h : crcStep r = 0#32) : r = 0#32 := by
  unfold crcStep at h
  split at h
  · exfalso
    have h1 := congrArg (fun x : BitVec 32 => x.getLsbD 31) h
    simp only [BitVec.getLsbD_xor, BitVec.getLsbD_ushiftRight] at h1
    have h2 : r.getLsbD (1 + 31) = false := BitVec.getLsbD_of_ge _ _ (by omega)
    rw [h2, show crcPoly.getLsbD 31 = true by decide] at h1
    simp at h1
  · rename_i hn
    have h0 : r.getLsbD 0 = false := by
      cases hb : r.getLsbD 0
      · rfl
      · exact absurd ((by have := and_one_bit r 0; simpa using this : (r &&& 1#32 = 1#32) ↔ r.getLsbD 0 = true).2 hb) hn
    apply BitVec.eq_of_getLsbD_eq
    intro j hj
    cases j with
    | zero => simpa using h0
    | succ j =>
      have h1 := congrArg (fun x : BitVec 32 => x.getLsbD j) h
      simp only [BitVec.getLsbD_ushiftRight] at h1
      rw [Nat.add_comm] at h1
      simpa using h1
theorem crcIter_eq_zero : ∀ {n : Nat} {r : BitVec 32}, crcIter n r = 0#32 → r = 0#32
  | 0, _, h => h
  | n + 1, _, h => crcIter_eq_zero (crcStep_eq_zero (by rw [crcIter] at h; exact h))
theorem crcIter_inj {n : Nat} {a b : BitVec 32} (h : crcIter n a = crcIter n b) : a = b := by
  have : crcIter n (a ^^^ b) = 0#32 := by rw [crcIter_lin, h, BitVec.xor_self]
  have h1 := crcIter_eq_zero this
  have : a ^^^ b ^^^ b = b := by rw [h1, BitVec.zero_xor]
  rwa [BitVec.xor_assoc, BitVec.xor_self, BitVec.xor_zero] at this

theorem bitsOf_burst (xs : List (BitVec 8)) (k m : Nat) (flip : BitVec 32) (h : k + m ≤ 8 * xs.length) :
    bitsOf (burstTo xs k flip m) = List.zipWith Bool.xor (bitsOf xs) (List.replicate k false ++ (bitsN (low flip m) m ++ List.replicate (8 * xs.length - (k + m)) false)) := by
  apply List.ext_getElem?
  intro j
  by_cases hj : j < 8 * xs.length
  · have e1 : (bitsOf (burstTo xs k flip m))[j]? = some (bitAt (burstTo xs k flip m) j) := by
      simp [bitsOf, burstTo_length, hj]
    have e2 : (bitsOf xs)[j]? = some (bitAt xs j) := by simp [bitsOf, hj]
    rw [e1, bitAt_burst xs k flip m h j hj, List.getElem?_zipWith, e2]
    by_cases h1 : j < k
    · rw [List.getElem?_append_left (by simpa using h1)]
      simp [h1, show ¬ k ≤ j by omega]
    · rw [List.getElem?_append_right (by simp; omega), List.length_replicate]
      by_cases h2 : j < k + m
      · rw [List.getElem?_append_left (by simp [bitsN]; omega)]
        simp only [bitsN, List.getElem?_map, List.getElem?_range (show j - k < m by omega), Option.map_some, low_bit]
        by_cases h3 : j - k < 32
        · simp [show k ≤ j by omega, h2, show j - k < m by omega, h3]
        · have : flip.getLsbD (j - k) = false := BitVec.getLsbD_of_ge _ _ (by omega)
          simp [this]
      · rw [List.getElem?_append_right (by simp [bitsN]; omega)]
        simp only [bitsN, List.length_map, List.length_range]
        rw [List.getElem?_replicate, if_pos (by omega)]
        simp [h2]
  · rw [List.getElem?_eq_none (by rw [bitsOf_length, burstTo_length]; omega), List.getElem?_eq_none]
    rw [List.length_zipWith, bitsOf_length]
    exact Nat.le_trans (Nat.min_le_left _ _) (by omega)
theorem low_lt (v : BitVec 32) (m : Nat) : (low v m).toNat < 2 ^ m := by
  rw [low, BitVec.toNat_and]
  refine Nat.lt_of_le_of_lt Nat.and_le_right ?_
  rw [BitVec.toNat_ofNat]
  have := Nat.two_pow_pos m
  exact Nat.lt_of_le_of_lt (Nat.mod_le _ _) (by omega)
/-- a burst changes the checksum's register exactly if it changes the bytes -/
theorem crcRaw_burst (r : BitVec 32) (xs : List (BitVec 8)) (k m : Nat) (flip : BitVec 32) (h : k + m ≤ 8 * xs.length) : crcRaw r (burstTo xs k flip m) = crcRaw r xs ↔ burstTo xs k flip m = xs := by
  refine ⟨fun e => ?_, fun e => by rw [e]⟩
  have hb := bitsOf_burst xs k m flip h
  have hlen : (bitsOf xs).length = (List.replicate k false ++ (bitsN (low flip m) m ++ List.replicate (8 * xs.length - (k + m)) false)).length := by
    simp [bitsOf_length, bitsN]; omega
  have h1 := crcBits_xor (bitsOf xs) _ r 0#32 hlen
  rw [BitVec.xor_zero, ← hb, ← crcRaw_bits, ← crcRaw_bits, e] at h1
  have h2 : crcBits 0#32 (List.replicate k false ++ (bitsN (low flip m) m ++ List.replicate (8 * xs.length - (k + m)) false)) = 0#32 := by
    have : crcRaw r xs ^^^ (crcRaw r xs ^^^ crcBits 0#32 (List.replicate k false ++ (bitsN (low flip m) m ++ List.replicate (8 * xs.length - (k + m)) false))) = crcRaw r xs ^^^ crcRaw r xs := by rw [← h1]
    rwa [← BitVec.xor_assoc, BitVec.xor_self, BitVec.zero_xor] at this
  rw [crcBits_append, crcBits_false, (crcIter_lin k).zero, crcBits_append, crcBits_word m _ _ (low_lt flip m), BitVec.zero_xor, crcBits_false, ← crcIter_add] at h2
  have h3 := crcIter_eq_zero h2
  apply bitsOf_inj (burstTo_length _ _ _ _)
  intro j hj
  rw [burstTo_length] at hj
  rw [bitAt_burst xs k flip m h j hj]
  have h4 := congrArg (fun v : BitVec 32 => v.getLsbD (j - k)) h3
  simp only [low_bit] at h4
  by_cases h5 : k ≤ j <;> by_cases h6 : j < k + m
  · by_cases h7 : j - k < 32
    · have h8 : flip.getLsbD (j - k) = false := by
        cases hq : flip.getLsbD (j - k)
        · rfl
        · rw [hq] at h4; simp [h7, show j - k < m by omega] at h4
      rw [h8]; simp
    · have : flip.getLsbD (j - k) = false := BitVec.getLsbD_of_ge _ _ (by omega)
      simp [this]
  all_goals simp [h5, h6]
theorem crcSum_burst (xs : List (BitVec 8)) (k m : Nat) (flip : BitVec 32) (h : k + m ≤ 8 * xs.length) : crcSum (burstTo xs k flip m) = crcSum xs ↔ burstTo xs k flip m = xs := by
  rw [← crcRaw_burst (~~~0#32) xs k m flip h]
  simp only [crcSum, crcExt]
  exact ⟨fun e => by have := congrArg (~~~ ·) e; simpa using this, fun e => by rw [e]⟩
end Go.Proofs.Ytclhepegfmhmjaa
