/-
  The field with 256 elements: multiplication, its laws, inverses; what the program's and the reference's functions on bytes compute. Conditions: none.
-/
import Derived.Test.YtnbcphofimicdaaMda
namespace Go.Proofs.Ytnbcphofimicdaa
set_option linter.unusedVariables false
set_option linter.unusedSimpArgs false

/-! ### bytes -/
theorem all8 {p : BitVec 8 → Prop} (h : ∀ n, n < 256 → p (BitVec.ofNat 8 n)) (a : BitVec 8) : p a := by
  have := h a.toNat a.isLt
  rwa [BitVec.ofNat_toNat, BitVec.setWidth_eq] at this
theorem xor4 {w : Nat} (a b c d : BitVec w) : (a ^^^ b) ^^^ (c ^^^ d) = (a ^^^ c) ^^^ (b ^^^ d) := by
  rw [BitVec.xor_assoc, BitVec.xor_assoc]; congr 1
  rw [← BitVec.xor_assoc, ← BitVec.xor_assoc, BitVec.xor_comm b c]
theorem xor_nil {w : Nat} (a : BitVec w) : a ^^^ a = 0#w := by simp
def Lin8 {w : Nat} (f : BitVec 8 → BitVec w) : Prop := ∀ a b, f (a ^^^ b) = f a ^^^ f b
theorem Lin8.zero {w : Nat} {f : BitVec 8 → BitVec w} (h : Lin8 f) : f 0#8 = 0#w := by
  have := h 0#8 0#8
  rw [BitVec.xor_self] at this
  rw [this, BitVec.xor_self]
def bit8 (a : BitVec 8) (k : Nat) : BitVec 8 := if a.getLsbD k then 1#8 <<< k else 0#8
theorem bits8 : ∀ a : BitVec 8, a = bit8 a 0 ^^^ bit8 a 1 ^^^ bit8 a 2 ^^^ bit8 a 3 ^^^ bit8 a 4 ^^^ bit8 a 5 ^^^ bit8 a 6 ^^^ bit8 a 7 := all8 (by decide +kernel)
theorem lin_ext {w : Nat} {f g : BitVec 8 → BitVec w} (hf : Lin8 f) (hg : Lin8 g) (h : ∀ k, k < 8 → f (1#8 <<< k) = g (1#8 <<< k)) (a : BitVec 8) : f a = g a := by
  have hb : ∀ k, k < 8 → f (bit8 a k) = g (bit8 a k) := fun k hk => by
    unfold bit8; split
    · exact h k hk
    · rw [hf.zero, hg.zero]
  rw [bits8 a]
  simp only [hf _ _, hg _ _]
  rw [hb 0 (by omega), hb 1 (by omega), hb 2 (by omega), hb 3 (by omega), hb 4 (by omega), hb 5 (by omega), hb 6 (by omega), hb 7 (by omega)]

/-! ### multiplication -/
def xt (x : BitVec 8) : BitVec 8 := if x.getLsbD 7 then (x <<< 1) ^^^ 0x1d#8 else x <<< 1
def xtn : Nat → BitVec 8 → BitVec 8
  | 0, x => x
  | n + 1, x => xt (xtn n x)
def gmT (a b : BitVec 8) : Nat → BitVec 8
  | 0 => 0#8
  | n + 1 => gmT a b n ^^^ (if b.getLsbD n then xtn n a else 0#8)
def gm (a b : BitVec 8) : BitVec 8 := gmT a b 8

theorem xt_lin : Lin8 xt := fun a b => by
  unfold xt
  rw [BitVec.getLsbD_xor, BitVec.shiftLeft_xor_distrib]
  cases a.getLsbD 7 <;> cases b.getLsbD 7
  · simp
  · simp [BitVec.xor_assoc]
  · simp only [Bool.xor_false, if_true, Bool.false_eq_true, if_false]
    rw [BitVec.xor_assoc, BitVec.xor_comm (b <<< 1), ← BitVec.xor_assoc]
  · simp only [Bool.xor_true, Bool.not_true, Bool.false_eq_true, if_false, if_true]
    rw [xor4, xor_nil, BitVec.xor_zero]
theorem xtn_lin : ∀ n, Lin8 (xtn n)
  | 0 => fun _ _ => rfl
  | n + 1 => fun a b => by simp only [xtn]; rw [xtn_lin n a b, xt_lin]
theorem gmT_linL (b : BitVec 8) : ∀ n, Lin8 (fun a => gmT a b n)
  | 0 => fun _ _ => by simp [gmT]
  | n + 1 => fun a a' => by
    have ih := gmT_linL b n a a'
    simp only at ih
    simp only [gmT]
    rw [ih, xor4]
    congr 1
    split
    · exact xtn_lin n a a'
    · simp
theorem gmT_linR (a : BitVec 8) : ∀ n, Lin8 (fun b => gmT a b n)
  | 0 => fun _ _ => by simp [gmT]
  | n + 1 => fun b b' => by
    have ih := gmT_linR a n b b'
    simp only at ih
    simp only [gmT]
    rw [ih, xor4]
    congr 1
    rw [BitVec.getLsbD_xor]
    cases b.getLsbD n <;> cases b'.getLsbD n <;> simp
theorem gm_linL (b : BitVec 8) : Lin8 (fun a => gm a b) := gmT_linL b 8
theorem gm_linR (a : BitVec 8) : Lin8 (fun b => gm a b) := gmT_linR a 8
theorem gm_addL (a a' b : BitVec 8) : gm (a ^^^ a') b = gm a b ^^^ gm a' b := gm_linL b a a'
theorem gm_addR (a b b' : BitVec 8) : gm a (b ^^^ b') = gm a b ^^^ gm a b' := gm_linR a b b'
theorem gm_zeroL (b : BitVec 8) : gm 0#8 b = 0#8 := (gm_linL b).zero
theorem gm_zeroR (a : BitVec 8) : gm a 0#8 = 0#8 := (gm_linR a).zero
theorem gm_comm (a b : BitVec 8) : gm a b = gm b a :=
  lin_ext (gm_linL b) (gm_linR b) (fun k hk => lin_ext (gm_linR (1#8 <<< k)) (gm_linL (1#8 <<< k)) (fun j hj => by
    revert k j; decide +kernel) b) a
theorem gm_basis : ∀ i, i < 8 → ∀ j, j < 8 → ∀ k, k < 8 → gm (gm (1#8 <<< i) (1#8 <<< j)) (1#8 <<< k) = gm (1#8 <<< i) (gm (1#8 <<< j) (1#8 <<< k)) := by decide +kernel
theorem gm_assoc (a b c : BitVec 8) : gm (gm a b) c = gm a (gm b c) :=
  lin_ext (f := fun a => gm (gm a b) c) (g := fun a => gm a (gm b c)) (fun x y => by simp only [gm_addL]) (gm_linL _) (fun i hi =>
    lin_ext (f := fun b => gm (gm (1#8 <<< i) b) c) (g := fun b => gm (1#8 <<< i) (gm b c)) (fun x y => by simp only [gm_addL, gm_addR]) (fun x y => by simp only [gm_addL, gm_addR]) (fun j hj =>
      lin_ext (f := fun c => gm (gm (1#8 <<< i) (1#8 <<< j)) c) (g := fun c => gm (1#8 <<< i) (gm (1#8 <<< j) c)) (gm_linR _) (fun x y => by simp only [gm_addR]) (fun k hk => gm_basis i hi j hj k hk) c) b) a
theorem gm_oneL (b : BitVec 8) : gm 1#8 b = b := by
  refine lin_ext (gm_linR 1#8) (g := fun b => b) (fun _ _ => rfl) (fun k hk => ?_) b
  revert k; decide +kernel
theorem gm_oneR (b : BitVec 8) : gm b 1#8 = b := by rw [gm_comm, gm_oneL]
def gpow (a : BitVec 8) : Nat → BitVec 8
  | 0 => 1#8
  | n + 1 => gm (gpow a n) a
theorem gpow_add (a : BitVec 8) (m : Nat) : ∀ n, gpow a (m + n) = gm (gpow a m) (gpow a n)
  | 0 => by rw [Nat.add_zero, gpow, gm_oneR]
  | n + 1 => by rw [← Nat.add_assoc, gpow, gpow, gpow_add a m n, gm_assoc]

/-! ### numbers of the models -/
theorem xori_nat (a b : Nat) (ha : a < 9223372036854775808) (hb : b < 9223372036854775808) : xori (a : Int) (b : Int) = ((a ^^^ b : Nat) : Int) := by
  have hx : a ^^^ b < 2 ^ 63 := Nat.xor_lt_two_pow (by omega) (by omega)
  unfold xori
  rw [BitVec.ofInt_natCast, BitVec.ofInt_natCast]
  have e : (BitVec.ofNat 64 a ^^^ BitVec.ofNat 64 b).toNat = a ^^^ b := by
    rw [BitVec.toNat_xor, BitVec.toNat_ofNat, BitVec.toNat_ofNat, Nat.mod_eq_of_lt (by omega), Nat.mod_eq_of_lt (by omega)]
  rw [BitVec.toInt_eq_toNat_of_lt (by rw [e]; omega), e]
theorem andi_nat (a b : Nat) (ha : a < 9223372036854775808) (hb : b < 9223372036854775808) : andi (a : Int) (b : Int) = ((a &&& b : Nat) : Int) := by
  have hx : a &&& b ≤ a := Nat.and_le_left
  unfold andi
  rw [BitVec.ofInt_natCast, BitVec.ofInt_natCast]
  have e : (BitVec.ofNat 64 a &&& BitVec.ofNat 64 b).toNat = a &&& b := by
    rw [BitVec.toNat_and, BitVec.toNat_ofNat, BitVec.toNat_ofNat, Nat.mod_eq_of_lt (by omega), Nat.mod_eq_of_lt (by omega)]
  rw [BitVec.toInt_eq_toNat_of_lt (by rw [e]; omega), e]
theorem shli_nat (a k : Nat) (hk : k ≤ 63) (h : a * 2 ^ k ≤ 9223372036854775807) : shli (a : Int) (k : Int) = some ((a * 2 ^ k : Nat) : Int) := by
  unfold shli
  rw [if_pos (by omega)]
  have e : (a : Int) * 2 ^ (k : Int).toNat = ((a * 2 ^ k : Nat) : Int) := by simp
  rw [e]
  exact ck_of (by omega)
theorem shri_nat (a k : Nat) (hk : k ≤ 63) : shri (a : Int) (k : Int) = some ((a / 2 ^ k : Nat) : Int) := by
  unfold shri
  rw [if_pos (by omega)]
  simp
theorem bit_and1 {w : Nat} (v : BitVec w) (i : Nat) : (v.toNat / 2 ^ i) &&& 1 = if v.getLsbD i then 1 else 0 := by
  rw [Nat.and_one_is_mod, ← Nat.shiftRight_eq_div_pow, BitVec.getLsbD, Nat.testBit, Nat.and_comm, Nat.and_one_is_mod]
  have := Nat.mod_two_eq_zero_or_one (v.toNat >>> i)
  rcases this with h | h <;> simp [h]
theorem and_one8 : ∀ b : BitVec 8, (b &&& 1#8 = 1#8) ↔ b.getLsbD 0 = true := all8 (by decide +kernel)

/-! ### the program's multiplication -/
def gmr : Nat → BitVec 8 → BitVec 8 → BitVec 8 → BitVec 8
  | 0, _, p, _ => p
  | n + 1, b, p, x => gmr n (b >>> 1) (if b &&& 1#8 = 1#8 then p ^^^ x else p) (xt x)
theorem gmr_zero : ∀ n p x, gmr n 0#8 p x = p
  | 0, _, _ => rfl
  | n + 1, p, x => by
    rw [gmr, if_neg (by decide)]
    exact gmr_zero n p _
theorem gmr_gm (a b : BitVec 8) : ∀ n m, gmr n (b >>> m) (gmT a b m) (xtn m a) = gmT a b (m + n)
  | 0, m => rfl
  | n + 1, m => by
    have ih := gmr_gm a b n (m + 1)
    rw [gmr, show m + (n + 1) = (m + 1) + n by omega, ← ih]
    have e : (b >>> m) >>> 1 = b >>> (m + 1) := by rw [BitVec.shiftRight_add]
    rw [e]
    congr 1
    rw [gmT]
    have hb : ((b >>> m) &&& 1#8 = 1#8) ↔ b.getLsbD m = true := by rw [and_one8, BitVec.getLsbD_ushiftRight, Nat.add_zero]
    by_cases h : b.getLsbD m = true
    · rw [if_pos (hb.2 h), if_pos h]
    · rw [if_neg (fun e => h (hb.1 e)), if_neg h, BitVec.xor_zero]
theorem xt_step : ∀ x : BitVec 8, (x.toNat * 2 ^ 1 / 2 ^ 8 = 1 ∧ x.toNat * 2 ^ 1 ^^^ 285 = (xt x).toNat) ∨ (x.toNat * 2 ^ 1 / 2 ^ 8 ≠ 1 ∧ x.toNat * 2 ^ 1 = (xt x).toNat) := all8 (by decide +kernel)
theorem mul_step {ρ : Type} (x : BitVec 8) (k : Int → Option ρ) : (Option.bind (shli (x.toNat : Int) (1 : Nat)) fun y => Option.bind (shri y (8 : Nat)) fun z => if z = (1 : Int) then k (xori y (285 : Int)) else k y) = k ((xt x).toNat : Int) := by
  have hx := x.isLt
  rw [shli_nat _ _ (by omega) (by omega)]
  simp only [Option.bind_some]
  rw [shri_nat _ _ (by omega)]
  simp only [Option.bind_some]
  rcases xt_step x with ⟨h1, h2⟩ | ⟨h1, h2⟩
  · rw [if_pos (by rw [h1]; rfl), show (285 : Int) = ((285 : Nat) : Int) from rfl, xori_nat _ _ (by omega) (by omega), h2]
  · rw [if_neg (fun e => h1 (by exact_mod_cast e)), h2]
theorem gmul_loop : ∀ (n q : Nat) (b p x : BitVec 8), b.toNat < 2 ^ n → n < q → m_gf256_Mul_l1 q b (p.toNat : Int) (x.toNat : Int) = some (gmr n b p x)
  | n, 0, _, _, _, _, h => by omega
  | n, q + 1, b, p, x, hb, hq => by
    unfold m_gf256_Mul_l1
    by_cases h0 : b = 0#8
    · subst h0
      rw [if_pos rfl, gmr_zero]
      simp [m_gf256_Mul_j0]
    · rw [if_neg h0]
      cases n with
      | zero => exact absurd (BitVec.eq_of_toNat_eq (by simp at hb ⊢; omega)) h0
      | succ n =>
        have hb' : (b >>> 1).toNat < 2 ^ n := by
          rw [BitVec.toNat_ushiftRight, Nat.shiftRight_eq_div_pow]
          rw [Nat.pow_succ] at hb; omega
        have hp := p.isLt
        have hx := x.isLt
        rw [gmr]
        split
        · rename_i h1
          rw [xori_nat _ _ (by omega) (by omega), ← BitVec.toNat_xor]
          rw [mul_step x (fun y => m_gf256_Mul_l1 q (b >>> 1) ((p ^^^ x).toNat : Int) y)]
          exact gmul_loop n q _ _ _ hb' (by omega)
        · rename_i h1
          rw [mul_step x (fun y => m_gf256_Mul_l1 q (b >>> 1) (p.toNat : Int) y)]
          exact gmul_loop n q _ _ _ hb' (by omega)
theorem gf_mul (a b : BitVec 8) : m_gf256_Mul a b = some (gm a b) := by
  unfold m_gf256_Mul
  have h := gmul_loop 8 forever b 0#8 a b.isLt (by unfold forever; omega)
  have h2 := gmr_gm a b 8 0
  rw [show gm a b = gmT a b (0 + 8) from rfl, ← h2]
  exact h

/-! ### the reference's multiplication -/
def cm (a b : BitVec 8) : Nat → BitVec 16
  | 0 => 0#16
  | n + 1 => cm a b n ^^^ (if b.getLsbD n then a.setWidth 16 <<< n else 0#16)
def rst (k : Nat) (p : BitVec 16) : BitVec 16 := if p.getLsbD k then p ^^^ (0x11d#16 <<< (k - 8)) else p
def red : Nat → BitVec 16 → BitVec 16
  | 0, p => p
  | n + 1, p => red n (rst (n + 8) p)
theorem rst_lin (k : Nat) (p q : BitVec 16) : rst k (p ^^^ q) = rst k p ^^^ rst k q := by
  unfold rst
  rw [BitVec.getLsbD_xor]
  cases p.getLsbD k <;> cases q.getLsbD k
  · simp
  · simp [BitVec.xor_assoc]
  · simp only [Bool.xor_false, if_true, Bool.false_eq_true, if_false]
    rw [BitVec.xor_assoc, BitVec.xor_comm q, ← BitVec.xor_assoc]
  · simp only [Bool.xor_true, Bool.not_true, Bool.false_eq_true, if_false, if_true]
    rw [xor4, xor_nil, BitVec.xor_zero]
theorem red_lin : ∀ n (p q : BitVec 16), red n (p ^^^ q) = red n p ^^^ red n q
  | 0, _, _ => rfl
  | n + 1, p, q => by simp only [red]; rw [rst_lin, red_lin n]
theorem cm_linL (b : BitVec 8) : ∀ n, Lin8 (fun a => cm a b n)
  | 0 => fun _ _ => by simp [cm]
  | n + 1 => fun a a' => by
    have ih := cm_linL b n a a'
    simp only at ih
    simp only [cm]
    rw [ih, xor4]
    congr 1
    split
    · rw [BitVec.setWidth_xor, BitVec.shiftLeft_xor_distrib]
    · simp
theorem cm_linR (a : BitVec 8) : ∀ n, Lin8 (fun b => cm a b n)
  | 0 => fun _ _ => by simp [cm]
  | n + 1 => fun b b' => by
    have ih := cm_linR a n b b'
    simp only at ih
    simp only [cm]
    rw [ih, xor4]
    congr 1
    rw [BitVec.getLsbD_xor]
    cases b.getLsbD n <;> cases b'.getLsbD n <;> simp
theorem rm_basis : ∀ i, i < 8 → ∀ j, j < 8 → (red 7 (cm (1#8 <<< i) (1#8 <<< j) 8)).setWidth 8 = gm (1#8 <<< i) (1#8 <<< j) := by decide +kernel
theorem rm_gm (a b : BitVec 8) : (red 7 (cm a b 8)).setWidth 8 = gm a b :=
  lin_ext (f := fun a => (red 7 (cm a b 8)).setWidth 8) (g := fun a => gm a b) (fun x y => by have := cm_linL b 8 x y; simp only at this ⊢; rw [this, red_lin, BitVec.setWidth_xor]) (gm_linL b) (fun i hi =>
    lin_ext (f := fun b => (red 7 (cm (1#8 <<< i) b 8)).setWidth 8) (g := fun b => gm (1#8 <<< i) b) (fun x y => by have := cm_linR (1#8 <<< i) 8 x y; simp only at this ⊢; rw [this, red_lin, BitVec.setWidth_xor]) (gm_linR _) (fun j hj => rm_basis i hi j hj) b) a
theorem ofInt64 (k : Nat) (h : k < 64) : (BitVec.ofInt 64 (k : Int)).toNat = k := by
  rw [BitVec.ofInt_natCast, BitVec.toNat_ofNat, Nat.mod_eq_of_lt (by omega)]
theorem shl285 : ∀ n : Nat, n < 7 → shli (285 : Int) ((BitVec.ofInt 64 (n : Int)).toNat : Nat) = some (((0x11d#16 <<< n).toNat : Nat) : Int) := by decide +kernel
theorem rmul_l3 : ∀ (n q : Nat) (p : BitVec 16), n ≤ 7 → n < q → m_r02_Mul_l3 q (p.toNat : Int) ((n : Int) + 7) = some ((red n p).setWidth 8)
  | _, 0, _, _, h => by omega
  | 0, q + 1, p, _, _ => by
    unfold m_r02_Mul_l3
    rw [if_neg (by omega)]
    simp only [m_r02_Mul_j2, red, BitVec.ofInt_natCast]
    exact congrArg some (BitVec.eq_of_toNat_eq (by simp))
  | n + 1, q + 1, p, hn, hq => by
    have hp := p.isLt
    unfold m_r02_Mul_l3
    rw [if_pos (by omega), show (((n + 1 : Nat) : Int) + 7) = ((n + 8 : Nat) : Int) by omega, ofInt64 _ (by omega), shri_nat _ _ (by omega)]
    simp only [Option.bind_some]
    rw [show (1 : Int) = ((1 : Nat) : Int) from rfl, andi_nat _ _ (Nat.lt_of_le_of_lt (Nat.div_le_self _ _) (by omega)) (by omega), bit_and1]
    have e2 : ck (((n + 8 : Nat) : Int) - 1) = some ((n : Int) + 7) := by rw [ck_of (by omega)]; congr 1; omega
    have e1 : ck (((n + 8 : Nat) : Int) - 8) = some ((n : Nat) : Int) := by rw [ck_of (by omega)]; congr 1; omega
    rw [red, rst]
    by_cases h : p.getLsbD (n + 8) = true
    · rw [if_pos h, if_pos rfl, if_pos h, e1]
      simp only [Option.bind_some]
      have hn7 : n < 7 := by omega
      rw [shl285 n hn7]
      simp only [Option.bind_some]
      rw [show ((1 : Nat) : Int) = (1 : Int) from rfl, e2]
      simp only [Option.bind_some]
      have hl := (0x11d#16 <<< n).isLt
      rw [xori_nat _ _ (by omega) (by omega), ← BitVec.toNat_xor, show n + 8 - 8 = n by omega]
      exact rmul_l3 n q _ (by omega) (by omega)
    · rw [if_neg h, if_neg (by decide), if_neg h, show ((1 : Nat) : Int) = (1 : Int) from rfl, e2]
      simp only [Option.bind_some]
      exact rmul_l3 n q _ (by omega) (by omega)
theorem sh16 (a : BitVec 8) (n : Nat) (hn : n < 8) : a.toNat * 2 ^ n = (a.setWidth 16 <<< n).toNat := by
  have ha := a.isLt
  have h8 : 2 ^ n ≤ 128 := Nat.le_trans (Nat.pow_le_pow_right (by omega) (show n ≤ 7 by omega)) (by decide)
  have h9 : a.toNat * 2 ^ n ≤ 255 * 128 := Nat.mul_le_mul (by omega) h8
  rw [BitVec.toNat_shiftLeft, BitVec.toNat_setWidth, Nat.shiftLeft_eq, Nat.mod_eq_of_lt (show a.toNat < 2 ^ 16 by omega), Nat.mod_eq_of_lt (show a.toNat * 2 ^ n < 2 ^ 16 by omega)]
theorem rmul_l1 (a b : BitVec 8) (r : Option (BitVec 8)) (hr : m_r02_Mul_j0 ((cm a b 8).toNat : Int) = r) (j n q : Nat) (hn : n + j = 8) (hq : j < q) : m_r02_Mul_l1 a b q ((cm a b n).toNat : Int) (n : Int) = r := by
  induction j generalizing n q with
  | zero =>
    obtain ⟨q, rfl⟩ : ∃ q', q = q' + 1 := ⟨q - 1, by omega⟩
    obtain rfl : n = 8 := by omega
    unfold m_r02_Mul_l1
    rw [if_neg (by omega)]
    exact hr
  | succ j ih =>
    obtain ⟨q, rfl⟩ : ∃ q', q = q' + 1 := ⟨q - 1, by omega⟩
    unfold m_r02_Mul_l1
    rw [if_pos (by omega), ofInt64 _ (by omega)]
    have hb : ((b >>> n) &&& 1#8 = 1#8) ↔ b.getLsbD n = true := by rw [and_one8, BitVec.getLsbD_ushiftRight, Nat.add_zero]
    have e2 : ck ((n : Int) + 1) = some ((n + 1 : Nat) : Int) := by rw [ck_of (by omega)]; rfl
    have ih := ih (n + 1) q (by omega) (by omega)
    rw [cm] at ih
    by_cases h : b.getLsbD n = true
    · rw [if_pos (hb.2 h)]
      rw [if_pos h] at ih
      have hsh := sh16 a n (by omega)
      have hlt := (a.setWidth 16 <<< n).isLt
      have hct := (cm a b n).isLt
      rw [shli_nat _ _ (by omega) (by rw [hsh]; omega)]
      rw [Option.bind_some, hsh, xori_nat _ _ (by omega) (by omega), ← BitVec.toNat_xor, e2, Option.bind_some]
      exact ih
    · rw [if_neg (fun e => h (hb.1 e)), e2, Option.bind_some]
      rw [if_neg h, BitVec.xor_zero] at ih
      exact ih
theorem ref_mul (a b : BitVec 8) : m_r02_Mul a b = some (gm a b) := by
  unfold m_r02_Mul
  have h := rmul_l1 a b _ rfl 8 0 forever rfl (by unfold forever; omega)
  rw [← rm_gm a b]
  have h3 := rmul_l3 7 forever (cm a b 8) (by omega) (by unfold forever; omega)
  exact h.trans h3
end Go.Proofs.Ytnbcphofimicdaa
