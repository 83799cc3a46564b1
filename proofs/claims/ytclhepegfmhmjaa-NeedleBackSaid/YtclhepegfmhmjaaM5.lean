/-
  Plain laws: superblocks as bytes; what their reader answers. No conditions.
-/
import Derived.Test.YtclhepegfmhmjaaM4
namespace Go.Proofs.Ytclhepegfmhmjaa
open Go
set_option linter.unusedVariables false
set_option linter.unusedSimpArgs false

theorem be_getD (v : BitVec 64) : ∀ (n j : Nat), j < n → (be n v).getD j 0 = (v >>> (8 * (n - 1 - j))).setWidth 8
  | n + 1, 0, _ => by simp [be]
  | n + 1, j + 1, h => by
    have := be_getD v n j (by omega)
    rw [show n + 1 - 1 - (j + 1) = n - 1 - j by omega, ← this]
    simp [be]
theorem drop_set_tgt {α : Type} (tgt os : List α) (j : Nat) (d : α) (h1 : j < tgt.length) (h2 : j < os.length) (h : os.drop (j + 1) = tgt.drop (j + 1)) : (os.set j (tgt.getD j d)).drop j = tgt.drop j := by
  rw [List.drop_eq_getElem_cons (by simpa using h2), List.drop_eq_getElem_cons h1, List.drop_set_of_lt (by omega), h]
  simp [List.getD_eq_getElem?_getD, h1]
theorem ofInt_byte (n : Int) (k : Nat) (h : 0 ≤ n ∧ n ≤ 9223372036854775807) : BitVec.ofInt 8 (n / 2 ^ k) = ((BitVec.ofInt 64 n) >>> k).setWidth 8 := by
  obtain ⟨m, rfl⟩ : ∃ m : Nat, n = m := ⟨n.toNat, by omega⟩
  apply BitVec.eq_of_toNat_eq
  have e : ((m : Int) / 2 ^ k) = ((m / 2 ^ k : Nat) : Int) := by simp
  rw [e, BitVec.ofInt_natCast, BitVec.ofInt_natCast]
  simp only [BitVec.toNat_ofNat, BitVec.toNat_setWidth, BitVec.toNat_ushiftRight, Nat.shiftRight_eq_div_pow]
  rw [Nat.mod_eq_of_lt (a := m) (by omega)]

/-- the number that big-endian bytes are, as a natural number -/
def vnF (acc : Nat) (xs : List (BitVec 8)) : Nat := xs.foldl (fun v b => v * 256 + b.toNat) acc
def vn (xs : List (BitVec 8)) : Nat := vnF 0 xs
theorem vn_take_succ (xs : List (BitVec 8)) (k : Nat) (h : k < xs.length) : vn (xs.take (k + 1)) = vn (xs.take k) * 256 + (xs.getD k 0).toNat := by
  rw [take_getD xs k 0 h]
  simp only [vn, vnF, List.foldl_append, List.foldl_cons, List.foldl_nil]
theorem vn_lt (xs : List (BitVec 8)) : ∀ k, k ≤ xs.length → vn (xs.take k) < 256 ^ k
  | 0, _ => by simp [vn, vnF]
  | k + 1, h => by
    have := vn_lt xs k (by omega)
    have hb := (xs.getD k 0).isLt
    rw [vn_take_succ xs k (by omega), Nat.pow_succ]
    simp only [Nat.reducePow] at hb
    omega
theorem vn_bd (xs : List (BitVec 8)) (k m : Nat) (h : k ≤ xs.length) (hm : k ≤ m) : vn (xs.take k) < 256 ^ m := Nat.lt_of_lt_of_le (vn_lt xs k h) (Nat.pow_le_pow_right (by decide) hm)
theorem or_byte (v b : Nat) (h : b < 256) : v <<< 8 ||| b = v * 256 + b := by
  rw [← Nat.shiftLeft_add_eq_or_of_lt (by simpa using h), Nat.shiftLeft_eq]
theorem val_vn (xs : List (BitVec 8)) : ∀ k, k ≤ xs.length → k ≤ 7 → (val (xs.take k)).toNat = vn (xs.take k)
  | 0, _, _ => by simp [val, valF, vn, vnF]
  | k + 1, h, h7 => by
    have ih := val_vn xs k (by omega) (by omega)
    have hlt := vn_bd xs k 6 (by omega) (by omega)
    have hb := (xs.getD k 0).isLt
    simp only [Nat.reducePow] at hlt hb
    rw [val_take_succ xs k (by omega), vn_take_succ xs k (by omega), BitVec.toNat_or, BitVec.toNat_shiftLeft, BitVec.toNat_setWidth, ih, Nat.mod_eq_of_lt (a := (xs.getD k 0).toNat) (by omega),
      Nat.mod_eq_of_lt (by rw [Nat.shiftLeft_eq]; omega), or_byte _ _ (by omega)]
theorem val_int (xs : List (BitVec 8)) (h : xs.length ≤ 7) : (val xs).toInt = (vn xs : Int) := by
  have h1 := val_vn xs xs.length (Nat.le_refl _) h
  have h2 := vn_bd xs xs.length 7 (Nat.le_refl _) h
  rw [List.take_of_length_le (Nat.le_refl _)] at h1 h2
  rw [BitVec.toInt_eq_toNat_cond, h1]
  simp only [Nat.reducePow] at h2 ⊢
  rw [if_pos (by omega)]
theorem vnF_be (v : BitVec 64) : ∀ (n acc : Nat), vnF acc (be n v) = acc * 256 ^ n + v.toNat % 256 ^ n
  | 0, acc => by simp [be, vnF, Nat.mod_one]
  | n + 1, acc => by
    have e : vnF acc (be (n + 1) v) = vnF (acc * 256 + ((v >>> (8 * n)).setWidth 8).toNat) (be n v) := rfl
    rw [e, vnF_be v n]
    simp only [BitVec.toNat_setWidth, BitVec.toNat_ushiftRight, Nat.shiftRight_eq_div_pow]
    rw [show (2 : Nat) ^ (8 * n) = 256 ^ n by rw [Nat.pow_mul], show (2 : Nat) ^ 8 = 256 by rfl, Nat.pow_succ, Nat.mod_mul, Nat.add_mul, Nat.mul_assoc acc 256, Nat.mul_comm 256 (256 ^ n), Nat.mul_comm (v.toNat / 256 ^ n % 256)]
    omega
theorem vn_be (n : Nat) (a : Int) (h : 0 ≤ a ∧ a < 9223372036854775808) (hn : a < (256 ^ n : Nat)) : ((vn (be n (BitVec.ofInt 64 a)) : Nat) : Int) = a := by
  obtain ⟨m, rfl⟩ : ∃ m : Nat, a = m := ⟨a.toNat, by omega⟩
  rw [vn, vnF_be, BitVec.ofInt_natCast, BitVec.toNat_ofNat]
  rw [Nat.mod_eq_of_lt (a := m) (by omega), Nat.mod_eq_of_lt (by omega)]; omega

/-- a valid superblock -/
def sv (a b c : Int) : Bool := decide (0 ≤ a) && (decide (a < 4) && (decide (1 ≤ b) && (decide (b ≤ 8) && (decide (0 ≤ c) && decide (c ≤ 4294967295)))))
theorem sv_iff {a b c : Int} : sv a b c = true ↔ 0 ≤ a ∧ a < 4 ∧ 1 ≤ b ∧ b ≤ 8 ∧ 0 ≤ c ∧ c ≤ 4294967295 := by simp [sv]
theorem sv_not {a b c : Int} : sv a b c = false ↔ ¬ (0 ≤ a ∧ a < 4 ∧ 1 ≤ b ∧ b ≤ 8 ∧ 0 ≤ c ∧ c ≤ 4294967295) := by
  rw [← sv_iff]; simp
def smagic : List (BitVec 8) := [78#8, 86#8, 79#8, 76#8]
def sbody (a b c : Int) : List (BitVec 8) := smagic ++ be 2 (BitVec.ofInt 64 a) ++ be 2 (BitVec.ofInt 64 b) ++ be 4 (BitVec.ofInt 64 c)
def senc (a b c : Int) : List (BitVec 8) := sbody a b c ++ le4 (crcSum (sbody a b c))
theorem sbody_length (a b c : Int) : (sbody a b c).length = 12 := by simp [sbody, smagic, be_length]
theorem senc_length (a b c : Int) : (senc a b c).length = 16 := by simp [senc, sbody_length, le4]
/-- the bytes that Encode answers: none for a superblock that is not valid -/
def sbytes (a b c : Int) : List (BitVec 8) := if sv a b c = true then senc a b c else []
def serr (a b c : Int) : Int := if sv a b c = true then 0 else 1

def sfA (xs : List (BitVec 8)) : Int := (vn ((xs.drop 4).take 2) : Nat)
def sfB (xs : List (BitVec 8)) : Int := (vn ((xs.drop 6).take 2) : Nat)
def sfC (xs : List (BitVec 8)) : Int := (vn ((xs.drop 8).take 4) : Nat)
def sgood (xs : List (BitVec 8)) : Bool := decide (16 ≤ xs.length) && ((xs.take 4 == smagic) && ((le4 (crcSum (xs.take 12)) == (xs.drop 12).take 4) && sv (sfA xs) (sfB xs) (sfC xs)))
/-- what Decode answers: the error -/
def sdE (xs : List (BitVec 8)) : Int := if xs.length < 16 then 4 else if xs.take 4 = smagic then if le4 (crcSum (xs.take 12)) = (xs.drop 12).take 4 then if sv (sfA xs) (sfB xs) (sfC xs) = true then 0 else 3 else 5 else 3
def sdA (xs : List (BitVec 8)) : Int := if sdE xs = 0 then sfA xs else 0
def sdB (xs : List (BitVec 8)) : Int := if sdE xs = 0 then sfB xs else 0
def sdC (xs : List (BitVec 8)) : Int := if sdE xs = 0 then sfC xs else 0
theorem sdE_short {xs : List (BitVec 8)} (h : xs.length < 16) : sdE xs = 4 := if_pos h
theorem sdE_form {xs : List (BitVec 8)} (h : ¬ xs.length < 16) (h2 : ¬ xs.take 4 = smagic) : sdE xs = 3 := by rw [sdE, if_neg h, if_neg h2]
theorem sdE_check {xs : List (BitVec 8)} (h : ¬ xs.length < 16) (h2 : xs.take 4 = smagic) (h3 : ¬ le4 (crcSum (xs.take 12)) = (xs.drop 12).take 4) : sdE xs = 5 := by rw [sdE, if_neg h, if_pos h2, if_neg h3]
theorem sdE_form2 {xs : List (BitVec 8)} (h : ¬ xs.length < 16) (h2 : xs.take 4 = smagic) (h3 : le4 (crcSum (xs.take 12)) = (xs.drop 12).take 4) (h4 : sv (sfA xs) (sfB xs) (sfC xs) = false) : sdE xs = 3 := by
  rw [sdE, if_neg h, if_pos h2, if_pos h3, if_neg (by rw [h4]; decide)]
theorem sdE_ok {xs : List (BitVec 8)} (h : ¬ xs.length < 16) (h2 : xs.take 4 = smagic) (h3 : le4 (crcSum (xs.take 12)) = (xs.drop 12).take 4) (h4 : sv (sfA xs) (sfB xs) (sfC xs) = true) : sdE xs = 0 := by
  rw [sdE, if_neg h, if_pos h2, if_pos h3, if_pos h4]
theorem sd_bad {xs : List (BitVec 8)} (h : sdE xs ≠ 0) : sdA xs = 0 ∧ sdB xs = 0 ∧ sdC xs = 0 := ⟨if_neg h, if_neg h, if_neg h⟩
theorem sd_good {xs : List (BitVec 8)} (h : sdE xs = 0) : sdA xs = sfA xs ∧ sdB xs = sfB xs ∧ sdC xs = sfC xs := ⟨if_pos h, if_pos h, if_pos h⟩

/-- what Next answers -/
def snE (a b c : Int) : Int := if sv a b c = true then if c = 4294967295 then 2 else 0 else 1
def snA (a b c : Int) : Int := if snE a b c = 0 then a else 0
def snB (a b c : Int) : Int := if snE a b c = 0 then b else 0
def snC (a b c : Int) : Int := if snE a b c = 0 then c + 1 else 0
theorem sn_bad {a b c e : Int} (h : snE a b c = e) (he : e ≠ 0) : snE a b c = e ∧ snA a b c = 0 ∧ snB a b c = 0 ∧ snC a b c = 0 := ⟨h, if_neg (by omega), if_neg (by omega), if_neg (by omega)⟩
theorem sn_good {a b c : Int} (h : snE a b c = 0) : snE a b c = 0 ∧ snA a b c = a ∧ snB a b c = b ∧ snC a b c = c + 1 := ⟨h, if_pos h, if_pos h, if_pos h⟩
theorem snE_1 {a b c : Int} (h : sv a b c = false) : snE a b c = 1 := by rw [snE, if_neg (by rw [h]; decide)]
theorem snE_2 {a b c : Int} (h : sv a b c = true) (hc : c = 4294967295) : snE a b c = 2 := by rw [snE, if_pos h, if_pos hc]
theorem snE_0 {a b c : Int} (h : sv a b c = true) (hc : c ≠ 4294967295) : snE a b c = 0 := by rw [snE, if_pos h, if_neg hc]

theorem sv_near {a b c : Int} : sv (a % 4) (1 + b % 8) (c % 4294967296) = true := sv_iff.2 (by omega)
/-- what the reader answers to a valid superblock, whatever follows it -/
theorem sd_senc {a b c : Int} (h : sv a b c = true) (r : List (BitVec 8)) : sdE (senc a b c ++ r) = 0 ∧ sdA (senc a b c ++ r) = a ∧ sdB (senc a b c ++ r) = b ∧ sdC (senc a b c ++ r) = c := by
  have hv := sv_iff.1 h
  have e4 : (senc a b c ++ r).take 4 = smagic := rfl
  have e12 : (senc a b c ++ r).take 12 = sbody a b c := rfl
  have e16 : ((senc a b c ++ r).drop 12).take 4 = le4 (crcSum (sbody a b c)) := rfl
  have eA : sfA (senc a b c ++ r) = a := by
    show ((vn (be 2 (BitVec.ofInt 64 a)) : Nat) : Int) = a
    exact vn_be 2 a (by omega) (by simp only [Nat.reducePow]; omega)
  have eB : sfB (senc a b c ++ r) = b := by
    show ((vn (be 2 (BitVec.ofInt 64 b)) : Nat) : Int) = b
    exact vn_be 2 b (by omega) (by simp only [Nat.reducePow]; omega)
  have eC : sfC (senc a b c ++ r) = c := by
    show ((vn (be 4 (BitVec.ofInt 64 c)) : Nat) : Int) = c
    exact vn_be 4 c (by omega) (by simp only [Nat.reducePow]; omega)
  have e0 : sdE (senc a b c ++ r) = 0 := sdE_ok (by simp [senc_length]) e4 (by rw [e12, e16]) (by rw [eA, eB, eC]; exact h)
  obtain ⟨h1, h2, h3⟩ := sd_good e0
  exact ⟨e0, h1.trans eA, h2.trans eB, h3.trans eC⟩
theorem serr_sv (a b c : Int) : (!((serr a b c == 0) == sv a b c)) = false := by
  unfold serr; cases h : sv a b c <;> simp
theorem serr_0 {a b c : Int} (h : serr a b c = 0) : sv a b c = true := by
  unfold serr at h; cases hv : sv a b c
  · rw [hv] at h; simp at h
  · rfl
theorem sdE_code {xs : List (BitVec 8)} (hl : xs.length = 16) (h : sdE xs = 0) : xs = xs.take 12 ++ le4 (crcSum (xs.take 12)) := by
  have h3 : le4 (crcSum (xs.take 12)) = (xs.drop 12).take 4 := by
    apply Classical.byContradiction
    intro hn
    rw [sdE, if_neg (by omega)] at h
    split at h
    · first | (rw [if_neg hn] at h; cases h) | cases h
    · cases h
  have h4 : (xs.drop 12).take 4 = xs.drop 12 := List.take_of_length_le (by simp; omega)
  rw [h3, h4, List.take_append_drop]
theorem sb_burst {a b c : Int} (h : sv a b c = true) (bit m : Nat) (flip : BitVec 32) (hm : bit + m ≤ 128) :
    ((senc a b c == burstTo (senc a b c) bit flip m) == (sdE (burstTo (senc a b c) bit flip m) == 0)) = true := by
  have hl : (burstTo (senc a b c) bit flip m).length = 16 := by rw [burstTo_length, senc_length]
  by_cases e : burstTo (senc a b c) bit flip m = senc a b c
  · have h0 := (sd_senc h []).1
    rw [List.append_nil] at h0
    rw [e, h0]; simp
  · have h1 : (senc a b c == burstTo (senc a b c) bit flip m) = false := beq_false_of_ne (fun h => e h.symm)
    have h2 : (sdE (burstTo (senc a b c) bit flip m) == 0) = false := by
      apply beq_false_of_ne
      intro h0
      have hc := sdE_code hl h0
      exact e (code_burst (sbody a b c) _ bit m flip (by have := senc_length a b c; rw [senc] at this; omega) hc)
    rw [h1, h2]; rfl
end Go.Proofs.Ytclhepegfmhmjaa
