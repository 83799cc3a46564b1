/-
  Plain laws of the models of needle: Size, Valid, Encode. Conditions: as each theorem says. Printed by pb.py.
-/
import Derived.Test.YtclhepegfmhmjaaMdb
import Derived.Test.YtclhepegfmhmjaaPa
namespace Go.Proofs.Ytclhepegfmhmjaa
set_option linter.unusedVariables false
set_option linter.unusedSimpArgs false

def nsize (n : Nat) : Nat := (20 + n + 4 + 7) / 8 * 8
def sizeZ (z : Int) : Int := if 0 ≤ z ∧ z ≤ 4096 then (nsize z.toNat : Nat) else 0
theorem needle_Size_eq (z : Int) : m_needle_Size z = some (sizeZ z) := by
  unfold m_needle_Size sizeZ
  by_cases h0 : z < 0
  · rw [if_pos h0, if_neg (by omega)]
  · rw [if_neg h0]
    by_cases h1 : 4096 < z
    · rw [if_pos h1, if_neg (by omega)]
    · rw [if_neg h1, if_pos (by omega), ck_of (by omega), bs, ck_of (by omega), bs, ck_of (by omega), bs, ck_of (by omega), bs, dvi_of (by omega) (by omega), bs, ck_of (by omega), bs]
      unfold nsize; congr 1; omega
theorem r06_Size_eq (z : Int) : m_r06_Size z = some (sizeZ z) := by
  unfold m_r06_Size sizeZ
  by_cases h0 : z < 0
  · rw [if_pos h0, if_neg (by omega)]
  · rw [if_neg h0]
    by_cases h1 : 4096 < z
    · rw [if_pos h1, if_neg (by omega)]
    · rw [if_neg h1, if_pos (by omega), ck_of (by omega), bs, ck_of (by omega), bs, ck_of (by omega), bs, dvi_of (by omega) (by omega), bs, ck_of (by omega), bs]
      unfold nsize; congr 1; omega
theorem sizeZ_nat (n : Nat) (h : n ≤ 4096) : sizeZ (n : Int) = (nsize n : Nat) := by rw [sizeZ, if_pos (by omega), Int.toNat_natCast]
theorem nsize_lo (n : Nat) : 24 + n ≤ nsize n ∧ nsize n ≤ 24 + n + 7 ∧ nsize n % 8 = 0 := by unfold nsize; omega

def nvalid (d : Bool) (xs : List (BitVec 8)) : Bool := decide (xs.length ≤ 4096) && !(d && decide (0 < xs.length))
theorem needle_Valid_eq (k : BitVec 64) (c : BitVec 32) (d : Bool) (xs : List (BitVec 8)) : m_needle_Valid k c d xs = some (nvalid d xs) := by
  unfold m_needle_Valid nvalid
  by_cases h : xs.length ≤ 4096
  · rw [if_pos (by omega)]; cases d <;> simp [h] <;> omega
  · rw [if_neg (by omega)]; simp [h]
theorem r06_Valid_eq (k : BitVec 64) (c : BitVec 32) (d : Bool) (xs : List (BitVec 8)) : m_r06_Valid k c d xs = some (nvalid d xs) := needle_Valid_eq k c d xs

def nhead (k : BitVec 64) (c : BitVec 32) (d : Bool) (n : Nat) : List (BitVec 8) := [78#8, 165#8, if d then 1#8 else 0#8, 0#8] ++ be 4 (c.setWidth 64) ++ be 8 k ++ be 4 (BitVec.ofInt 64 (n : Int))
def nbody (k : BitVec 64) (c : BitVec 32) (d : Bool) (xs : List (BitVec 8)) : List (BitVec 8) := nhead k c d xs.length ++ xs
def nenc (k : BitVec 64) (c : BitVec 32) (d : Bool) (xs : List (BitVec 8)) : List (BitVec 8) :=
  nbody k c d xs ++ le4 (crcSum (nbody k c d xs)) ++ List.replicate (nsize xs.length - (24 + xs.length)) 0#8
def nencR (k : BitVec 64) (c : BitVec 32) (d : Bool) (xs : List (BitVec 8)) : List (BitVec 8) × Int :=
  if 4096 < xs.length then ([], 8) else if nvalid d xs = true then (nenc k c d xs, 0) else ([], 1)
theorem nhead_length (k : BitVec 64) (c : BitVec 32) (d : Bool) (n : Nat) : (nhead k c d n).length = 20 := by simp [nhead, be_length]
theorem nbody_length (k : BitVec 64) (c : BitVec 32) (d : Bool) (xs : List (BitVec 8)) : (nbody k c d xs).length = 20 + xs.length := by simp [nbody, nhead_length]
theorem le4_length (s : BitVec 32) : (le4 s).length = 4 := rfl
theorem nenc_length (k : BitVec 64) (c : BitVec 32) (d : Bool) (xs : List (BitVec 8)) : (nenc k c d xs).length = nsize xs.length := by
  have := nsize_lo xs.length
  simp only [nenc, List.length_append, nbody_length, le4_length, List.length_replicate]; omega

theorem enc_l1 (k : BitVec 64) (c : BitVec 32) (xs : List (BitVec 8)) (d : BitVec 64) (n : Nat) : ∀ (j : Nat) (ys : List (BitVec 8)), j ≤ 8 → ys.length + j ≤ 1000000 → j < n → m_needle_Encode_l1 k c xs d n ys ((j : Int) - 1) = Option.bind (ck ((1 : Int) - (1 : Int))) fun i => m_needle_Encode_l2 k c xs d forever (ys ++ be j 78#64) i := by
  induction n with
  | zero => intro j ys _ _ h; omega
  | succ n ih =>
    intro j ys hk hy hn
    rw [m_needle_Encode_l1]
    cases j with
    | zero => rw [if_neg (by omega), show ys ++ be 0 78#64 = ys from List.append_nil ys]
    | succ j =>
      rw [if_pos (by omega), show ((j + 1 : Nat) : Int) - 1 = (j : Int) by omega, show ((8 : Int) * (j : Int)) = ((8 * j : Nat) : Int) by omega, ckn _ (by omega), bs, shru_of (by omega), bs, apd1_of (by simp; omega), bs, ck_of (by omega), bs, ih j _ (by omega) (by simp; omega) (by omega), be_succ,
        List.append_assoc, Int.toNat_natCast]; rfl

theorem enc_l2 (k : BitVec 64) (c : BitVec 32) (xs : List (BitVec 8)) (d : BitVec 64) (n : Nat) : ∀ (j : Nat) (ys : List (BitVec 8)), j ≤ 8 → ys.length + j ≤ 1000000 → j < n → m_needle_Encode_l2 k c xs d n ys ((j : Int) - 1) = Option.bind (ck ((1 : Int) - (1 : Int))) fun i => m_needle_Encode_l3 k c xs d forever (ys ++ be j 165#64) i := by
  induction n with
  | zero => intro j ys _ _ h; omega
  | succ n ih =>
    intro j ys hk hy hn
    rw [m_needle_Encode_l2]
    cases j with
    | zero => rw [if_neg (by omega), show ys ++ be 0 165#64 = ys from List.append_nil ys]
    | succ j =>
      rw [if_pos (by omega), show ((j + 1 : Nat) : Int) - 1 = (j : Int) by omega, show ((8 : Int) * (j : Int)) = ((8 * j : Nat) : Int) by omega, ckn _ (by omega), bs, shru_of (by omega), bs, apd1_of (by simp; omega), bs, ck_of (by omega), bs, ih j _ (by omega) (by simp; omega) (by omega), be_succ,
        List.append_assoc, Int.toNat_natCast]; rfl

theorem enc_l3 (k : BitVec 64) (c : BitVec 32) (xs : List (BitVec 8)) (d : BitVec 64) (n : Nat) : ∀ (j : Nat) (ys : List (BitVec 8)), j ≤ 8 → ys.length + j ≤ 1000000 → j < n → m_needle_Encode_l3 k c xs d n ys ((j : Int) - 1) = Option.bind (ck ((1 : Int) - (1 : Int))) fun i => m_needle_Encode_l4 k c xs forever (ys ++ be j d) i := by
  induction n with
  | zero => intro j ys _ _ h; omega
  | succ n ih =>
    intro j ys hk hy hn
    rw [m_needle_Encode_l3]
    cases j with
    | zero => rw [if_neg (by omega), show ys ++ be 0 d = ys from List.append_nil ys]
    | succ j =>
      rw [if_pos (by omega), show ((j + 1 : Nat) : Int) - 1 = (j : Int) by omega, show ((8 : Int) * (j : Int)) = ((8 * j : Nat) : Int) by omega, ckn _ (by omega), bs, shru_of (by omega), bs, apd1_of (by simp; omega), bs, ck_of (by omega), bs, ih j _ (by omega) (by simp; omega) (by omega), be_succ,
        List.append_assoc, Int.toNat_natCast]; rfl

theorem enc_l4 (k : BitVec 64) (c : BitVec 32) (xs : List (BitVec 8)) (n : Nat) : ∀ (j : Nat) (ys : List (BitVec 8)), j ≤ 8 → ys.length + j ≤ 1000000 → j < n → m_needle_Encode_l4 k c xs n ys ((j : Int) - 1) = Option.bind (ck ((4 : Int) - (1 : Int))) fun i => m_needle_Encode_l5 k c xs forever (ys ++ be j 0#64) i := by
  induction n with
  | zero => intro j ys _ _ h; omega
  | succ n ih =>
    intro j ys hk hy hn
    rw [m_needle_Encode_l4]
    cases j with
    | zero => rw [if_neg (by omega), show ys ++ be 0 0#64 = ys from List.append_nil ys]
    | succ j =>
      rw [if_pos (by omega), show ((j + 1 : Nat) : Int) - 1 = (j : Int) by omega, show ((8 : Int) * (j : Int)) = ((8 * j : Nat) : Int) by omega, ckn _ (by omega), bs, shru_of (by omega), bs, apd1_of (by simp; omega), bs, ck_of (by omega), bs, ih j _ (by omega) (by simp; omega) (by omega), be_succ,
        List.append_assoc, Int.toNat_natCast]; rfl

theorem enc_l5 (k : BitVec 64) (c : BitVec 32) (xs : List (BitVec 8)) (n : Nat) : ∀ (j : Nat) (ys : List (BitVec 8)), j ≤ 8 → ys.length + j ≤ 1000000 → j < n → m_needle_Encode_l5 k c xs n ys ((j : Int) - 1) = Option.bind (ck ((8 : Int) - (1 : Int))) fun i => m_needle_Encode_l6 k xs forever (ys ++ be j (c.setWidth 64)) i := by
  induction n with
  | zero => intro j ys _ _ h; omega
  | succ n ih =>
    intro j ys hk hy hn
    rw [m_needle_Encode_l5]
    cases j with
    | zero => rw [if_neg (by omega), show ys ++ be 0 (c.setWidth 64) = ys from List.append_nil ys]
    | succ j =>
      rw [if_pos (by omega), show ((j + 1 : Nat) : Int) - 1 = (j : Int) by omega, show ((8 : Int) * (j : Int)) = ((8 * j : Nat) : Int) by omega, ckn _ (by omega), bs, shru_of (by omega), bs, apd1_of (by simp; omega), bs, ck_of (by omega), bs, ih j _ (by omega) (by simp; omega) (by omega), be_succ,
        List.append_assoc, Int.toNat_natCast]; rfl

theorem enc_l6 (k : BitVec 64) (xs : List (BitVec 8)) (n : Nat) : ∀ (j : Nat) (ys : List (BitVec 8)), j ≤ 8 → ys.length + j ≤ 1000000 → j < n → m_needle_Encode_l6 k xs n ys ((j : Int) - 1) = Option.bind (ck ((4 : Int) - (1 : Int))) fun i => m_needle_Encode_l7 xs forever (ys ++ be j k) i := by
  induction n with
  | zero => intro j ys _ _ h; omega
  | succ n ih =>
    intro j ys hk hy hn
    rw [m_needle_Encode_l6]
    cases j with
    | zero => rw [if_neg (by omega), show ys ++ be 0 k = ys from List.append_nil ys]
    | succ j =>
      rw [if_pos (by omega), show ((j + 1 : Nat) : Int) - 1 = (j : Int) by omega, show ((8 : Int) * (j : Int)) = ((8 * j : Nat) : Int) by omega, ckn _ (by omega), bs, shru_of (by omega), bs, apd1_of (by simp; omega), bs, ck_of (by omega), bs, ih j _ (by omega) (by simp; omega) (by omega), be_succ,
        List.append_assoc, Int.toNat_natCast]; rfl

theorem enc_l7 (xs : List (BitVec 8)) (n : Nat) : ∀ (j : Nat) (ys : List (BitVec 8)), j ≤ 8 → ys.length + j ≤ 1000000 → j < n → m_needle_Encode_l7 xs n ys ((j : Int) - 1) = Option.bind (apd 1 (ys ++ be j (BitVec.ofInt 64 (xs.length : Int))) xs) fun z => Option.bind (m_crc32c_Sum z) fun s => m_needle_Encode_l8 s forever z (0 : Int) := by
  induction n with
  | zero => intro j ys _ _ h; omega
  | succ n ih =>
    intro j ys hk hy hn
    rw [m_needle_Encode_l7]
    cases j with
    | zero => rw [if_neg (by omega), show ys ++ be 0 (BitVec.ofInt 64 (xs.length : Int)) = ys from List.append_nil ys]
    | succ j =>
      rw [if_pos (by omega), show ((j + 1 : Nat) : Int) - 1 = (j : Int) by omega, show ((8 : Int) * (j : Int)) = ((8 * j : Nat) : Int) by omega, ckn _ (by omega), bs, shru_of (by omega), bs, apd1_of (by simp; omega), bs, ck_of (by omega), bs, ih j _ (by omega) (by simp; omega) (by omega), be_succ,
        List.append_assoc, Int.toNat_natCast]; rfl

theorem le4_drop (s : BitVec 32) (j : Nat) (h : j < 4) : (le4 s).drop j = (((s.setWidth 64 >>> (8 * j)).setWidth 8 : BitVec 8)) :: (le4 s).drop (j + 1) := by
  have e : ∀ i, i < 4 → (s.setWidth 64 >>> (8 * i)).setWidth 8 = ((s >>> (8 * i)).setWidth 8 : BitVec 8) := by
    intro i hi
    apply BitVec.eq_of_getLsbD_eq
    intro t ht
    simp only [BitVec.getLsbD_setWidth, BitVec.getLsbD_ushiftRight]
    have h1 : decide (8 * i + t < 64) = true := by rw [decide_eq_true_eq]; omega
    simp [h1]
  rw [e j h]
  rcases (by omega : j = 0 ∨ j = 1 ∨ j = 2 ∨ j = 3) with rfl | rfl | rfl | rfl <;> simp [le4]
theorem enc_l8 (s : BitVec 32) (n : Nat) : ∀ (j : Nat) (ys : List (BitVec 8)), j ≤ 4 → ys.length + (4 - j) ≤ 1000000 → 4 - j < n → m_needle_Encode_l8 s n ys (j : Int) = m_needle_Encode_l10 forever (ys ++ (le4 s).drop j) := by
  induction n with
  | zero => intro j ys _ _ h; omega
  | succ n ih =>
    intro j ys hk hy hn
    rw [m_needle_Encode_l8]
    by_cases h : j < 4
    · rw [if_pos (by omega), show ((8 : Int) * (j : Int)) = ((8 * j : Nat) : Int) by omega, ckn _ (by omega), bs, shru_of (by omega), bs, apd1_of (by simp; omega), bs, show ((j : Int) + 1) = ((j + 1 : Nat) : Int) by omega, ckn _ (by omega), bs, ih (j + 1) _ (by omega) (by simp; omega) (by omega),
        List.append_assoc, Int.toNat_natCast, le4_drop s j h]; rfl
    · rw [if_neg (by omega), show (le4 s).drop j = [] from List.drop_of_length_le (by rw [le4_length]; omega), List.append_nil]
theorem enc_l11 (r : List (BitVec 8) → Option (List (BitVec 8) × Int)) (ys : List (BitVec 8)) (hy : ys.length ≤ 1000000) : m_needle_Encode_l11 r forever ys (0 : Int) = r (ys ++ [0#8]) := by
  have key : ∀ (m : Nat), m_needle_Encode_l11 r (m + 2) ys (0 : Int) = r (ys ++ [0#8]) := by
    intro m
    rw [m_needle_Encode_l11, if_pos (by omega), ck_of (by omega), bs, shru_of (by omega), bs, apd1_of (by simp; omega), bs, ck_of (by omega), bs, m_needle_Encode_l11, if_neg (by omega)]; rfl
  exact key 18446744073709551614
theorem enc_l10 (n : Nat) : ∀ (ys : List (BitVec 8)), ys.length + (8 - ys.length % 8) % 8 ≤ 900000 → (8 - ys.length % 8) % 8 < n → m_needle_Encode_l10 n ys = some (ys ++ List.replicate ((8 - ys.length % 8) % 8) 0#8, 0) := by
  induction n with
  | zero => intro ys _ h; omega
  | succ n ih =>
    intro ys hy hn
    rw [m_needle_Encode_l10, rmi_of (by omega) (by omega), bs]
    by_cases h : ys.length % 8 = 0
    · rw [if_pos (by omega), h]; simp [m_needle_Encode_j9]
    · have hl : (ys ++ [0#8]).length = ys.length + 1 := by simp
      rw [if_neg (by omega), enc_l11 _ _ (by omega), ih _ (by rw [hl]; omega) (by rw [hl]; omega), hl]
      have e : (8 - ys.length % 8) % 8 = (8 - (ys.length + 1) % 8) % 8 + 1 := by omega
      rw [e, List.replicate_succ, List.append_assoc]; rfl
theorem enc_j0 (k : BitVec 64) (c : BitVec 32) (d : Bool) (xs : List (BitVec 8)) (hx : xs.length ≤ 4096) : m_needle_Encode_j0 k c xs (if d then 1#64 else 0#64) = some (nenc k c d xs, 0) := by
  have F : ∀ n : Nat, n ≤ 8 → n < forever := by intro n hn; unfold forever; omega
  have i0 : ((1 : Int) - (1 : Int)) = ((1 : Nat) : Int) - 1 := rfl
  have i3 : ((4 : Int) - (1 : Int)) = ((4 : Nat) : Int) - 1 := rfl
  have i7 : ((8 : Int) - (1 : Int)) = ((8 : Nat) : Int) - 1 := rfl
  have c0 : ck (((1 : Nat) : Int) - 1) = some (((1 : Nat) : Int) - 1) := ck_of (by omega)
  have c3 : ck (((4 : Nat) : Int) - 1) = some (((4 : Nat) : Int) - 1) := ck_of (by omega)
  have c7 : ck (((8 : Nat) : Int) - 1) = some (((8 : Nat) : Int) - 1) := ck_of (by omega)
  rw [m_needle_Encode_j0, i0, c0, bs, enc_l1 _ _ _ _ _ _ _ (by omega) (by simp) (F _ (by omega))]
  rw [i0, c0, bs, enc_l2 _ _ _ _ _ _ _ (by omega) (by simp [be_length]) (F _ (by omega))]
  rw [i0, c0, bs, enc_l3 _ _ _ _ _ _ _ (by omega) (by simp [be_length]) (F _ (by omega))]
  rw [i0, c0, bs, enc_l4 _ _ _ _ _ _ (by omega) (by simp [be_length]) (F _ (by omega))]
  rw [i3, c3, bs, enc_l5 _ _ _ _ _ _ (by omega) (by simp [be_length]) (F _ (by omega))]
  rw [i7, c7, bs, enc_l6 _ _ _ _ _ (by omega) (by simp [be_length]) (F _ (by omega))]
  rw [i3, c3, bs, enc_l7 _ _ _ _ (by omega) (by simp [be_length]) (F _ (by omega))]
  have eb : [] ++ be 1 78#64 ++ be 1 165#64 ++ be 1 (if d then 1#64 else 0#64) ++ be 1 0#64 ++ be 4 (c.setWidth 64) ++ be 8 k ++ be 4 (BitVec.ofInt 64 (xs.length : Int)) ++ xs = nbody k c d xs := by
    cases d <;> rfl
  rw [apd1_of (by simp [be_length]; omega), bs, eb, crc_Sum_eq _ (by rw [nbody_length]; omega), bs]
  have h8 := enc_l8 (crcSum (nbody k c d xs)) forever 0 (nbody k c d xs) (by omega) (by rw [nbody_length]; omega) (F _ (by omega))
  have hl : (nbody k c d xs ++ le4 (crcSum (nbody k c d xs))).length = 24 + xs.length := by rw [List.length_append, nbody_length, le4_length]; omega
  refine h8.trans ?_
  rw [List.drop_zero, enc_l10 _ _ (by rw [hl]; omega) (by unfold forever; omega), hl, nenc]
  have : (8 - (24 + xs.length) % 8) % 8 = nsize xs.length - (24 + xs.length) := by unfold nsize; omega
  rw [this]
theorem needle_Encode_eq (k : BitVec 64) (c : BitVec 32) (d : Bool) (xs : List (BitVec 8)) : m_needle_Encode k c d xs = some (nencR k c d xs) := by
  unfold m_needle_Encode nencR
  by_cases h : 4096 < xs.length
  · rw [if_pos (by omega), if_pos h]
  · rw [if_neg (by omega), if_neg h, needle_Valid_eq, bs]
    by_cases hv : nvalid d xs = true
    · rw [if_pos hv, if_pos hv]
      have := enc_j0 k c d xs (by omega)
      cases d <;> simpa using this
    · rw [if_neg hv, if_neg hv]
theorem renc_l2 (k : BitVec 64) (xs : List (BitVec 8)) (hx : xs.length ≤ 4096) (n : Nat) : ∀ (ys : List (BitVec 8)), ys.length ≤ nsize xs.length → nsize xs.length - ys.length < n → m_r06_Encode_l2 xs n ys = some (ys ++ List.replicate (nsize xs.length - ys.length) 0#8, 0) := by
  have hs := nsize_lo xs.length
  induction n with
  | zero => intro ys _ h; omega
  | succ n ih =>
    intro ys hy hn
    rw [m_r06_Encode_l2, r06_Size_eq, bs, sizeZ_nat _ hx]
    by_cases h : ys.length < nsize xs.length
    · have hl : (ys ++ [0#8]).length = ys.length + 1 := by simp
      rw [if_pos (by omega), apd1_of (by simp; omega), bs, ih _ (by rw [hl]; omega) (by rw [hl]; omega), hl, show nsize xs.length - ys.length = (nsize xs.length - (ys.length + 1)) + 1 by omega, List.replicate_succ, List.append_assoc]; rfl
    · rw [if_neg (by omega), show nsize xs.length - ys.length = 0 by omega]; simp [m_r06_Encode_j1]
theorem renc_j0 (k : BitVec 64) (c : BitVec 32) (d : Bool) (xs : List (BitVec 8)) (hx : xs.length ≤ 4096) : m_r06_Encode_j0 k c xs [78#8, 165#8, if d then 1#8 else 0#8, 0#8] = some (nenc k c d xs, 0) := by
  have e4 : (4 : Int) = ((4 : Nat) : Int) := rfl
  have e8 : (8 : Int) = ((8 : Nat) : Int) := rfl
  rw [m_r06_Encode_j0, e4, e8, r06_Number_eq _ _ (by omega), bs, apd1_of (by simp [be_length]), bs, r06_Number_eq _ _ (by omega), bs, apd1_of (by simp [be_length]), bs, r06_Number_eq _ _ (by omega), bs, apd1_of (by simp [be_length]), bs, apd1_of (by simp [be_length]; omega), bs]
  have eb : [78#8, 165#8, if d then 1#8 else 0#8, 0#8] ++ be 4 (c.setWidth 64) ++ be 8 k ++ be 4 (BitVec.ofInt 64 (xs.length : Int)) ++ xs = nbody k c d xs := rfl
  have hl : (nbody k c d xs ++ le4 (crcSum (nbody k c d xs))).length = 24 + xs.length := by rw [List.length_append, nbody_length, le4_length]; omega
  have hs := nsize_lo xs.length
  rw [eb, r06_Check_eq _ (by rw [nbody_length]; omega), bs, apd1_of (by rw [nbody_length, le4_length]; omega), bs, renc_l2 k xs hx _ _ (by rw [hl]; omega) (by unfold forever; omega), hl, nenc]
theorem r06_Encode_eq (k : BitVec 64) (c : BitVec 32) (d : Bool) (xs : List (BitVec 8)) : m_r06_Encode k c d xs = some (nencR k c d xs) := by
  unfold m_r06_Encode nencR
  by_cases h : 4096 < xs.length
  · rw [if_pos (by omega), if_pos h]
  · rw [if_neg (by omega), if_neg h, r06_Valid_eq, bs]
    by_cases hv : nvalid d xs = true
    · rw [if_pos hv, if_pos hv]
      have := renc_j0 k c d xs (by omega)
      cases d <;> simpa [idx, upd] using this
    · rw [if_neg hv, if_neg hv]
end Go.Proofs.Ytclhepegfmhmjaa
