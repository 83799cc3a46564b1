/-
  CRC-32C as plain Lean: one step, a byte, a list of bytes; linear maps of checksums as 32 columns.
  Conditions: none.
-/
namespace Go.Proofs.Ytclhepegfmhmjaa

def crcPoly : BitVec 32 := 2197175160#32
def crcStep (r : BitVec 32) : BitVec 32 := if r &&& 1#32 = 1#32 then (r >>> 1) ^^^ crcPoly else r >>> 1
def crcIter : Nat → BitVec 32 → BitVec 32
  | 0, r => r
  | n + 1, r => crcStep (crcIter n r)
def crcByte (r : BitVec 32) (b : BitVec 8) : BitVec 32 := crcIter 8 (r ^^^ b.setWidth 32)
def crcRaw (r : BitVec 32) (bs : List (BitVec 8)) : BitVec 32 := bs.foldl crcByte r
def crcExt (c : BitVec 32) (bs : List (BitVec 8)) : BitVec 32 := ~~~ crcRaw (~~~ c) bs
def crcSum (bs : List (BitVec 8)) : BitVec 32 := crcExt 0#32 bs

theorem take_getD {α : Type} (xs : List α) (k : Nat) (d : α) (h : k < xs.length) : xs.take (k + 1) = xs.take k ++ [xs.getD k d] := by
  rw [List.take_succ_eq_append_getElem h]; simp [List.getD_eq_getElem?_getD, h]
theorem crcRaw_snoc (r : BitVec 32) (bs : List (BitVec 8)) (b : BitVec 8) : crcRaw r (bs ++ [b]) = crcByte (crcRaw r bs) b := by simp [crcRaw]
theorem crcRaw_take (r : BitVec 32) (xs : List (BitVec 8)) (k : Nat) (h : k < xs.length) : crcRaw r (xs.take (k + 1)) = crcByte (crcRaw r (xs.take k)) (xs.getD k 0) := by
  rw [take_getD xs k 0 h, crcRaw_snoc]
theorem crcRaw_append (r : BitVec 32) (a b : List (BitVec 8)) : crcRaw r (a ++ b) = crcRaw (crcRaw r a) b := by simp [crcRaw]

/-- the image of v: the columns of its bits, added; to bit i -/
def imgTo (ms : List (BitVec 32)) (v : BitVec 32) : Nat → BitVec 32
  | 0 => 0#32
  | i + 1 => if (v >>> i) &&& 1#32 = 1#32 then imgTo ms v i ^^^ ms.getD i 0 else imgTo ms v i
def img (ms : List (BitVec 32)) (v : BitVec 32) : BitVec 32 := imgTo ms v 32
theorem imgTo_end (ms : List (BitVec 32)) (v : BitVec 32) (i : Nat) (hi : v >>> i = 0#32) : ∀ j, imgTo ms v (i + j) = imgTo ms v i
  | 0 => rfl
  | j + 1 => by
    have h : v >>> (i + j) = 0#32 := by rw [BitVec.shiftRight_add, hi]; simp
    show (if (v >>> (i + j)) &&& 1#32 = 1#32 then _ else _) = _
    rw [h, if_neg (by decide)]
    exact imgTo_end ms v i hi j
theorem imgTo_img (ms : List (BitVec 32)) (v : BitVec 32) (i : Nat) (hi : v >>> i = 0#32) (h : i ≤ 32) : imgTo ms v i = img ms v := by
  have := imgTo_end ms v i hi (32 - i)
  rw [show i + (32 - i) = 32 by omega] at this
  exact this.symm
theorem shr32 (v : BitVec 32) : v >>> 32 = 0#32 := by
  apply BitVec.eq_of_toNat_eq; simp [Nat.shiftRight_eq_div_pow]; have := v.isLt; omega

/-- the columns of a map -/
def cols (f : BitVec 32 → BitVec 32) : List (BitVec 32) := (List.range 32).map fun i => f (1#32 <<< i)
def Lin (f : BitVec 32 → BitVec 32) : Prop := ∀ a b, f (a ^^^ b) = f a ^^^ f b
theorem Lin.zero {f : BitVec 32 → BitVec 32} (h : Lin f) : f 0#32 = 0#32 := by
  have := h 0#32 0#32
  simp at this
  exact this
theorem cols_getD (f : BitVec 32 → BitVec 32) (i : Nat) (h : i < 32) : (cols f).getD i 0 = f (1#32 <<< i) := by
  simp [cols, List.getD_eq_getElem?_getD, h]
theorem cols_length (f : BitVec 32 → BitVec 32) : (cols f).length = 32 := by simp [cols]

theorem testBit_one (j : Nat) : Nat.testBit 1 j = decide (j = 0) := by
  cases j with
  | zero => rfl
  | succ j => rw [Nat.testBit_succ]; simp
/-- the lowest i bits -/
def low (v : BitVec 32) (i : Nat) : BitVec 32 := v &&& BitVec.ofNat 32 (2 ^ i - 1)
theorem low_bit (v : BitVec 32) (i j : Nat) : (low v i).getLsbD j = (v.getLsbD j && decide (j < i) && decide (j < 32)) := by
  simp only [low, BitVec.getLsbD_and, BitVec.getLsbD_ofNat, Nat.testBit_two_pow_sub_one]
  by_cases h1 : j < 32 <;> by_cases h2 : j < i <;> simp [h1, h2]
theorem and_one_bit (v : BitVec 32) (i : Nat) : ((v >>> i) &&& 1#32 = 1#32) ↔ v.getLsbD i = true := by
  constructor
  · intro h
    have := congrArg (fun x : BitVec 32 => x.getLsbD 0) h
    simpa using this
  · intro h
    apply BitVec.eq_of_getLsbD_eq
    intro j hj
    by_cases h0 : j = 0
    · subst h0; simpa using h
    · have e : (1#32 : BitVec 32).getLsbD j = false := by
        rw [BitVec.getLsbD_ofNat, testBit_one]; simp [h0]
      simp [e]
theorem low_succ (v : BitVec 32) (i : Nat) : low v (i + 1) = if v.getLsbD i then low v i ^^^ (1#32 <<< i) else low v i := by
  have bit1 : ∀ j, (1#32 <<< i).getLsbD j = (decide (j < 32) && decide (j = i)) := by
    intro j
    simp only [BitVec.getLsbD_shiftLeft, BitVec.getLsbD_ofNat, testBit_one]
    by_cases h1 : j < 32 <;> by_cases h2 : j < i <;> by_cases h3 : j = i
    all_goals simp [h1, h2, h3]
    all_goals omega
  apply BitVec.eq_of_getLsbD_eq
  intro j hj
  split
  · rename_i hb
    rw [BitVec.getLsbD_xor, low_bit, low_bit, bit1]
    by_cases h3 : j = i
    · subst h3; simp [hb, hj]
    · by_cases h2 : j < i
      · simp [h2, h3, hj, show j < i + 1 by omega]
      · simp [h2, h3, hj, show ¬ j < i + 1 by omega]
  · rename_i hb
    rw [low_bit, low_bit]
    by_cases h3 : j = i
    · subst h3; simp [hb]
    · by_cases h2 : j < i
      · simp [h2, show j < i + 1 by omega]
      · simp [h2, show ¬ j < i + 1 by omega]
theorem imgTo_cols {f : BitVec 32 → BitVec 32} (h : Lin f) (v : BitVec 32) : ∀ i, i ≤ 32 → imgTo (cols f) v i = f (low v i)
  | 0, _ => by
    have e : low v 0 = 0#32 := by simp [low]
    rw [e, h.zero]; rfl
  | i + 1, hi => by
    have ih := imgTo_cols h v i (by omega)
    rw [low_succ, imgTo, ih, cols_getD f i (by omega)]
    by_cases hb : v.getLsbD i = true
    · rw [if_pos ((and_one_bit v i).2 hb), if_pos hb, h]
    · rw [if_neg (fun e => hb ((and_one_bit v i).1 e)), if_neg hb]
theorem img_cols {f : BitVec 32 → BitVec 32} (h : Lin f) (v : BitVec 32) : img (cols f) v = f v := by
  have e : low v 32 = v := by
    apply BitVec.eq_of_getLsbD_eq
    intro j hj
    rw [low_bit]; simp [hj]
  rw [img, imgTo_cols h v 32 (Nat.le_refl _), e]
/-- the map twice -/
def sqM (ms : List (BitVec 32)) : List (BitVec 32) := ms.map (img ms)
theorem sqM_cols {f : BitVec 32 → BitVec 32} (h : Lin f) : sqM (cols f) = cols (fun r => f (f r)) := by
  simp only [sqM, cols, List.map_map]
  apply List.map_congr_left
  intro i _
  exact img_cols h _

theorem crcStep_lin : Lin crcStep := by
  have key : ∀ a b : BitVec 32, ((a ^^^ b) &&& 1#32 = 1#32) ↔ ¬ ((a &&& 1#32 = 1#32) ↔ (b &&& 1#32 = 1#32)) := by
    intro a b
    have h := fun v : BitVec 32 => and_one_bit v 0
    simp only [BitVec.ushiftRight_zero] at h
    rw [h, h, h, BitVec.getLsbD_xor]
    cases a.getLsbD 0 <;> cases b.getLsbD 0 <;> simp
  intro a b
  have e : (a ^^^ b) >>> 1 = (a >>> 1) ^^^ (b >>> 1) := BitVec.ushiftRight_xor_distrib ..
  simp only [crcStep, key a b, e]
  have x3 : ∀ x y p : BitVec 32, (x ^^^ p) ^^^ (y ^^^ p) = x ^^^ y := fun x y p => by
    rw [BitVec.xor_assoc, ← BitVec.xor_assoc p, BitVec.xor_comm p y, BitVec.xor_assoc y, BitVec.xor_self]; simp
  by_cases ha : a &&& 1#32 = 1#32 <;> by_cases hb : b &&& 1#32 = 1#32 <;> simp only [ha, hb, iff_true, iff_false, not_true_eq_false, not_false_eq_true, if_true, if_false]
  · exact (x3 _ _ _).symm
  · rw [BitVec.xor_assoc, BitVec.xor_assoc, BitVec.xor_comm crcPoly]
  · rw [BitVec.xor_assoc]
theorem crcIter_lin : ∀ n, Lin (crcIter n)
  | 0 => fun _ _ => rfl
  | n + 1 => fun a b => by simp only [crcIter]; rw [crcIter_lin n, crcStep_lin]
theorem crcIter_add (m n : Nat) (r : BitVec 32) : crcIter (m + n) r = crcIter m (crcIter n r) := by
  induction m with
  | zero => simp [crcIter]
  | succ m ih => rw [show m + 1 + n = (m + n) + 1 by omega]; simp only [crcIter]; rw [ih]
/-- r after n bytes 0 -/
def zs (n : Nat) (r : BitVec 32) : BitVec 32 := crcIter (8 * n) r
theorem zs_lin (n : Nat) : Lin (zs n) := crcIter_lin _
theorem zs_add (m n : Nat) (r : BitVec 32) : zs (m + n) r = zs m (zs n r) := by unfold zs; rw [Nat.mul_add, crcIter_add]
theorem zs_zero (r : BitVec 32) : zs 0 r = r := rfl
theorem sqM_zs (n : Nat) : sqM (cols (zs n)) = cols (zs (2 * n)) := by
  rw [sqM_cols (zs_lin n)]
  congr 1
  funext r
  rw [← zs_add]; congr 1; omega
/-- the columns of one bit 0, as the program writes them -/
def shiftM : List (BitVec 32) := (List.range 32).map fun i => if i = 0 then crcPoly else 1#32 <<< (i - 1)
theorem shiftM_cols : shiftM = cols crcStep := by decide +kernel
theorem sq3_shiftM : sqM (sqM (sqM shiftM)) = cols (zs 1) := by
  rw [shiftM_cols, sqM_cols crcStep_lin, sqM_cols (f := fun r => crcStep (crcStep r)) (fun a b => by simp only [crcStep_lin _ _]),
    sqM_cols (f := fun r => crcStep (crcStep (crcStep (crcStep r)))) (fun a b => by simp only [crcStep_lin _ _])]
  rfl
theorem take_set_map {α β : Type} (ms : List α) (f : α → β) (os : List β) (k : Nat) {d : α} (hk : k < ms.length) (ho : k < os.length) (ht : os.take k = (ms.map f).take k) :
    (os.set k (f (ms.getD k d))).take (k + 1) = (ms.map f).take (k + 1) := by
  apply List.ext_getElem?
  intro j
  have h := congrArg (fun l => l[j]?) ht
  simp only [List.getElem?_take, List.getElem?_set, List.getElem?_map] at h ⊢
  by_cases h1 : j < k
  · simp only [h1, if_true, show j < k + 1 by omega, show ¬ k = j by omega, if_false] at h ⊢; exact h
  · by_cases h2 : j = k
    · subst h2
      simp [ho, hk, List.getD_eq_getElem?_getD]
    · simp [show ¬ j < k + 1 by omega]
theorem take_set_tgt {β : Type} (tgt os : List β) (k : Nat) (d : β) (hk : k < tgt.length) (ho : k < os.length) (ht : os.take k = tgt.take k) :
    (os.set k (tgt.getD k d)).take (k + 1) = tgt.take (k + 1) := by
  apply List.ext_getElem?
  intro j
  have h := congrArg (fun l => l[j]?) ht
  simp only [List.getElem?_take, List.getElem?_set] at h ⊢
  by_cases h1 : j < k
  · simp only [h1, if_true, show j < k + 1 by omega, show ¬ k = j by omega, if_false] at h ⊢; exact h
  · by_cases h2 : j = k
    · subst h2
      simp [ho, hk, List.getD_eq_getElem?_getD]
    · simp [show ¬ j < k + 1 by omega]
theorem take_all {β : Type} {tgt os : List β} {n : Nat} (h1 : os.length = n) (h2 : tgt.length = n) (ht : os.take n = tgt.take n) : os = tgt := by
  rw [List.take_of_length_le (by omega), List.take_of_length_le (by omega)] at ht; exact ht
theorem shiftM_length : shiftM.length = 32 := by simp [shiftM]
theorem shiftM_getD (k : Nat) (h : 1 ≤ k ∧ k < 32) : 1#32 <<< ((k : Int) - 1).toNat = shiftM.getD k 0 := by
  have e : ((k : Int) - 1).toNat = k - 1 := by omega
  simp [shiftM, List.getD_eq_getElem?_getD, h.2, e, show ¬ k = 0 by omega]
theorem sqM_length (ms : List (BitVec 32)) : (sqM ms).length = ms.length := by simp [sqM]
/-- Combine -/
def crcComb (a b : BitVec 32) (n : Int) : BitVec 32 := if n < 0 then 0#32 else zs n.toNat a ^^^ b
theorem img_zs (q : Nat) (v : BitVec 32) : img (cols (zs q)) v = zs q v := img_cols (zs_lin q) v
theorem half_odd {q n N : Nat} {a a0 : BitVec 32} (h : zs (q * n) a = zs N a0) (ho : n % 2 = 1) : zs (2 * q * (n / 2)) (img (cols (zs q)) a) = zs N a0 := by
  rw [img_zs, ← zs_add, ← h]; congr 1
  have : n = 2 * (n / 2) + 1 := by omega
  calc 2 * q * (n / 2) + q = q * (2 * (n / 2) + 1) := by rw [Nat.mul_add, Nat.mul_one, Nat.mul_comm 2 q, Nat.mul_assoc]
    _ = q * n := by rw [← this]
theorem half_even {q n N : Nat} {a a0 : BitVec 32} (h : zs (q * n) a = zs N a0) (ho : n % 2 = 0) : zs (2 * q * (n / 2)) a = zs N a0 := by
  rw [← h]; congr 1
  have : n = 2 * (n / 2) := by omega
  calc 2 * q * (n / 2) = q * (2 * (n / 2)) := by rw [Nat.mul_comm 2 q, Nat.mul_assoc]
    _ = q * n := by rw [← this]
theorem zs_xor (n : Nat) (a b : BitVec 32) : zs n (a ^^^ b) = zs n a ^^^ zs n b := zs_lin n a b
theorem not_xor_ones (a : BitVec 32) : ~~~ a = a ^^^ 4294967295#32 := by
  have : (4294967295#32 : BitVec 32) = BitVec.allOnes 32 := by decide
  rw [this, BitVec.xor_allOnes]
theorem ref_comb (a b : BitVec 32) (n : Nat) : zs n (~~~a) ^^^ zs n 4294967295#32 ^^^ b = zs n a ^^^ b := by
  rw [← zs_xor, not_xor_ones, BitVec.xor_assoc a, BitVec.xor_self, BitVec.xor_zero]
end Go.Proofs.Ytclhepegfmhmjaa
