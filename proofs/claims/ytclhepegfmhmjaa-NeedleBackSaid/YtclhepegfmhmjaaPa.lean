/-
  Plain laws of the models of checksums and numbers: what they give.
  Conditions: as each theorem says.
-/
import Derived.Test.YtclhepegfmhmjaaMda
import Derived.Test.YtclhepegfmhmjaaM5
namespace Go.Proofs.Ytclhepegfmhmjaa
set_option linter.unusedVariables false
set_option linter.unusedSimpArgs false

theorem bs {α β : Type} (x : α) (f : α → Option β) : Option.bind (some x) f = f x := rfl
theorem ckn (n : Nat) (h : n ≤ 9223372036854775807) : ck (n : Int) = some (n : Int) := ck_of (by omega)
theorem idx_getD {α : Type} (xs : List α) (i : Nat) (d : α) (h : i < xs.length) : idx xs (i : Int) = some (xs.getD i d) := by
  rw [idx_nat, List.getElem?_eq_getElem h, List.getD_eq_getElem?_getD, List.getElem?_eq_getElem h]; rfl

theorem r01_shift_l (n : Nat) : ∀ (j : Nat) (r : BitVec 32), j ≤ 8 → 8 - j < n → m_r01_shift_l1 n r (j : Int) = some (crcIter (8 - j) r) := by
  induction n with
  | zero => intro j r _ h; omega
  | succ n ih =>
    intro j r hj hn
    rw [m_r01_shift_l1]
    by_cases h : j < 8
    · have e : (8 - j) = (8 - (j + 1)) + 1 := by omega
      have h1 := ih (j + 1) (crcStep r) (by omega) (by omega)
      rw [if_pos (by omega), e, crcIter_succ', ← h1]
      rw [show ((j : Int) + 1) = ((j + 1 : Nat) : Int) by omega, ckn _ (by omega)]
      simp only [bs, crcStep, crcPoly]
      split <;> rfl
    · rw [if_neg (by omega), show 8 - j = 0 by omega]; rfl
theorem r01_shift_eq (r : BitVec 32) : m_r01_shift r = some (crcIter 8 r) := r01_shift_l forever 0 r (by omega) (by unfold forever; omega)

theorem r01_Extend_l (xs : List (BitVec 8)) (hx : xs.length ≤ 9223372036854775806) (n : Nat) : ∀ (i : Nat) (r : BitVec 32), i ≤ xs.length → xs.length - i < n → m_r01_Extend_l1 xs n r (i : Int) = some (~~~ crcRaw r (xs.drop i)) := by
  induction n with
  | zero => intro i r _ h; omega
  | succ n ih =>
    intro i r hi hn
    rw [m_r01_Extend_l1]
    by_cases h : i < xs.length
    · rw [if_pos (by omega), idx_getD xs i 0 h, bs, r01_shift_eq, bs, show ((i : Int) + 1) = ((i + 1 : Nat) : Int) by omega, ckn _ (by omega), bs, ih _ _ (by omega) (by omega)]
      have e : xs.drop i = xs.getD i 0 :: xs.drop (i + 1) := by
        rw [List.drop_eq_getElem_cons h, List.getD_eq_getElem?_getD, List.getElem?_eq_getElem h]; rfl
      rw [e]; rfl
    · rw [if_neg (by omega), List.drop_of_length_le (by omega)]; rfl
theorem r01_Extend_eq (c : BitVec 32) (xs : List (BitVec 8)) (hx : xs.length ≤ 9223372036854775806) : m_r01_Extend c xs = some (crcExt c xs) := by
  have := r01_Extend_l xs hx forever 0 (~~~c) (by omega) (by unfold forever; omega)
  simpa [m_r01_Extend, crcExt] using this
theorem r01_Sum_eq (xs : List (BitVec 8)) (hx : xs.length ≤ 9223372036854775806) : m_r01_Sum xs = some (crcSum xs) := by
  rw [m_r01_Sum, r01_Extend_eq _ _ hx]; rfl

theorem ext_l3 (x : Int) (k : BitVec 32 → Int → Option (BitVec 32)) (n : Nat) : ∀ (j : Nat) (r : BitVec 32), j ≤ 8 → 8 - j < n → m_crc32c_Extend_l3 x k n r (j : Int) = m_crc32c_Extend_j2 x k (crcIter (8 - j) r) := by
  induction n with
  | zero => intro j r _ h; omega
  | succ n ih =>
    intro j r hj hn
    rw [m_crc32c_Extend_l3]
    by_cases h : j < 8
    · have e : (8 - j) = (8 - (j + 1)) + 1 := by omega
      have h1 := ih (j + 1) (crcStep r) (by omega) (by omega)
      rw [if_pos (by omega), e, crcIter_succ', ← h1]
      rw [show ((j : Int) + 1) = ((j + 1 : Nat) : Int) by omega, ckn _ (by omega)]
      simp only [bs, crcStep, crcPoly]
      split <;> rfl
    · rw [if_neg (by omega), show 8 - j = 0 by omega]; rfl
theorem ext_l1 (xs : List (BitVec 8)) (hx : xs.length ≤ 9223372036854775806) (n : Nat) : ∀ (i : Nat) (r : BitVec 32), i ≤ xs.length → xs.length - i < n → m_crc32c_Extend_l1 xs n r (i : Int) = some (~~~ crcRaw r (xs.drop i)) := by
  induction n with
  | zero => intro i r _ h; omega
  | succ n ih =>
    intro i r hi hn
    rw [m_crc32c_Extend_l1]
    by_cases h : i < xs.length
    · have e3 := ext_l3 (i : Int) (m_crc32c_Extend_l1 xs n) forever 0 (r ^^^ (xs.getD i 0).setWidth 32) (by omega) (by unfold forever; omega)
      rw [if_pos (by omega), idx_getD xs i 0 h, bs]
      refine e3.trans ?_
      rw [m_crc32c_Extend_j2, show ((i : Int) + 1) = ((i + 1 : Nat) : Int) by omega, ckn _ (by omega), bs, ih _ _ (by omega) (by omega)]
      have e : xs.drop i = xs.getD i 0 :: xs.drop (i + 1) := by
        rw [List.drop_eq_getElem_cons h, List.getD_eq_getElem?_getD, List.getElem?_eq_getElem h]; rfl
      rw [e]; rfl
    · rw [if_neg (by omega), List.drop_of_length_le (by omega)]; rfl
theorem crc_Extend_eq (c : BitVec 32) (xs : List (BitVec 8)) (hx : xs.length ≤ 9223372036854775806) : m_crc32c_Extend c xs = some (crcExt c xs) := by
  have := ext_l1 xs hx forever 0 (~~~c) (by omega) (by unfold forever; omega)
  simpa [m_crc32c_Extend, crcExt] using this
theorem crc_Sum_eq (xs : List (BitVec 8)) (hx : xs.length ≤ 9223372036854775806) : m_crc32c_Sum xs = some (crcSum xs) := by
  rw [m_crc32c_Sum, crc_Extend_eq _ _ hx]; rfl

/-! numbers -/
theorem valF_cons (acc : BitVec 64) (b : BitVec 8) (xs : List (BitVec 8)) : valF acc (b :: xs) = valF (acc <<< 8 ||| b.setWidth 64) xs := rfl
theorem drop_getD {α : Type} (xs : List α) (i : Nat) (d : α) (h : i < xs.length) : xs.drop i = xs.getD i d :: xs.drop (i + 1) := by
  rw [List.drop_eq_getElem_cons h, List.getD_eq_getElem?_getD, List.getElem?_eq_getElem h]; rfl
theorem needle_big_l (xs : List (BitVec 8)) (hx : xs.length ≤ 9223372036854775806) (n : Nat) : ∀ (i : Nat) (v : BitVec 64), i ≤ xs.length → xs.length - i < n → m_needle_big_l1 xs n v (i : Int) = some (valF v (xs.drop i)) := by
  induction n with
  | zero => intro i r _ h; omega
  | succ n ih =>
    intro i r hi hn
    rw [m_needle_big_l1]
    by_cases h : i < xs.length
    · rw [if_pos (by omega), idx_getD xs i 0 h, bs, show ((i : Int) + 1) = ((i + 1 : Nat) : Int) by omega, ckn _ (by omega), bs, ih _ _ (by omega) (by omega), drop_getD xs i 0 h, valF_cons]
    · rw [if_neg (by omega), List.drop_of_length_le (by omega)]; rfl
theorem needle_big_eq (xs : List (BitVec 8)) (hx : xs.length ≤ 9223372036854775806) : m_needle_big xs = some (val xs) := by
  have := needle_big_l xs hx forever 0 0#64 (by omega) (by unfold forever; omega)
  simpa [m_needle_big, val] using this
theorem r06_Value_l (xs : List (BitVec 8)) (hx : xs.length ≤ 9223372036854775806) (n : Nat) : ∀ (i : Nat) (v : BitVec 64), i ≤ xs.length → xs.length - i < n → m_r06_Value_l1 xs n v (i : Int) = some (valF v (xs.drop i)) := by
  induction n with
  | zero => intro i r _ h; omega
  | succ n ih =>
    intro i r hi hn
    rw [m_r06_Value_l1]
    by_cases h : i < xs.length
    · rw [if_pos (by omega), idx_getD xs i 0 h, bs, show ((i : Int) + 1) = ((i + 1 : Nat) : Int) by omega, ckn _ (by omega), bs, ih _ _ (by omega) (by omega), drop_getD xs i 0 h, valF_cons]
    · rw [if_neg (by omega), List.drop_of_length_le (by omega)]; rfl
theorem r06_Value_eq (xs : List (BitVec 8)) (hx : xs.length ≤ 9223372036854775806) : m_r06_Value xs = some (val xs) := by
  have := r06_Value_l xs hx forever 0 0#64 (by omega) (by unfold forever; omega)
  simpa [m_r06_Value, val] using this
theorem be_succ (v : BitVec 64) (n : Nat) : be (n + 1) v = (v >>> (8 * n)).setWidth 8 :: be n v := rfl
theorem r06_Number_l (v : BitVec 64) (n : Nat) : ∀ (k : Nat) (ys : List (BitVec 8)), k ≤ 8 → ys.length + k ≤ 1000000 → k < n → m_r06_Number_l1 v n ys ((k : Int) - 1) = some (ys ++ be k v) := by
  induction n with
  | zero => intro k ys _ _ h; omega
  | succ n ih =>
    intro k ys hk hy hn
    rw [m_r06_Number_l1]
    cases k with
    | zero => rw [if_neg (by omega)]; simp [m_r06_Number_j0, be]
    | succ k =>
      rw [if_pos (by omega), show ((k + 1 : Nat) : Int) - 1 = (k : Int) by omega]
      rw [show ((8 : Int) * (k : Int)) = ((8 * k : Nat) : Int) by omega, ckn _ (by omega), bs, apd1_of (by simp; omega), bs, ck_of (by omega), bs, ih k _ (by omega) (by simp; omega) (by omega), be_succ]
      have e : (BitVec.ofInt 64 ((8 * k : Nat) : Int)).toNat = 8 * k := by rw [BitVec.ofInt_natCast, BitVec.toNat_ofNat]; exact Nat.mod_eq_of_lt (by omega)
      rw [e, List.append_assoc]; rfl
theorem r06_Number_eq (v : BitVec 64) (n : Nat) (h : n ≤ 8) : m_r06_Number v (n : Int) = some (be n v) := by
  rw [m_r06_Number, ck_of (by omega), bs, r06_Number_l v forever n [] h (by simp; omega) (by unfold forever; omega)]; rfl
theorem r06_Check_eq (xs : List (BitVec 8)) (hx : xs.length ≤ 9223372036854775806) : m_r06_Check xs = some (le4 (crcSum xs)) := by
  rw [m_r06_Check, r01_Sum_eq _ hx]; rfl
end Go.Proofs.Ytclhepegfmhmjaa
