/-
  Row operations of the program and of the reference, on matrices as functions. Conditions: as each theorem says.
-/
import Derived.Test.YtnbcphofimicdaaQe
namespace Go.Proofs.Ytnbcphofimicdaa
set_option linter.unusedVariables false
set_option linter.unusedSimpArgs false

def ml (n : Nat) (A : Mx) : Nat → BitVec 8 := fun t => A (t / n) (t % n)
theorem ml_cell {n : Nat} (A : Mx) (i : Nat) {s : Nat} (hs : s < n) : ml n A (i * n + s) = A i s := by rw [ml, cell_div hs, cell_mod hs]
theorem tb_ml {m n : Nat} {A B : Mx} (h : ∀ r, r < m → ∀ t, t < n → A r t = B r t) : tb (m * n) (ml n A) = tb (m * n) (ml n B) :=
  tb_ext fun t ht => h _ (div_lt' ht) _ (mod_lt' ht)
theorem ml_inj {n : Nat} {A B : Mx} (h : tb (n * n) (ml n A) = tb (n * n) (ml n B)) : eqm n A B := fun i hi k hk => by
  have := tb_inj h (i * n + k) (cell_lt hi hk)
  rwa [ml_cell A i hk, ml_cell B i hk] at this
theorem ml_of {n : Nat} (F : Nat → BitVec 8) : tb (n * n) F = tb (n * n) (ml n fun i k => F (i * n + k)) := tb_ext fun t ht => by rw [ml, div_mod']
theorem upd_ml {m n i s : Nat} {A B : Mx} {v : BitVec 8} (hs : s < n) (h : ∀ r, r < m → ∀ t, t < n → B r t = if r = i ∧ t = s then v else A r t) : tb (m * n) (st (ml n A) (i * n + s) v) = tb (m * n) (ml n B) :=
  tb_ext fun t ht => by
    rw [ml, h _ (div_lt' ht) _ (mod_lt' ht)]
    unfold st
    by_cases e : t = i * n + s
    · rw [if_pos e]; subst e; rw [if_pos ⟨cell_div hs, cell_mod hs⟩]
    · rw [if_neg e, if_neg (fun h2 => e (by have := div_mod' t n; rw [h2.1, h2.2] at this; exact this.symm))]; rfl
theorem slc_ml {n i : Nat} {A : Mx} (hi : i < n) : slc (tb (n * n) (ml n A)) ((i * n : Nat) : Int) (((i + 1) * n : Nat) : Int) = some (tb n fun t => ml n A (i * n + t)) := by
  have g2 : i * n ≤ (i + 1) * n := Nat.mul_le_mul_right _ (by omega)
  have g3 : (i + 1) * n - i * n = n := by rw [Nat.add_mul]; omega
  rw [slc_tb g2 (row_le hi), g3]
theorem ups_ml {n i s : Nat} {F : Nat → BitVec 8} {v : BitVec 8} (hi : i < n) (hs : s < n) : ups (tb (n * n) F) ((i * n : Nat) : Int) (((i + 1) * n : Nat) : Int) (s : Int) v = some (tb (n * n) (st F (i * n + s) v)) := by
  have g2 : i * n ≤ (i + 1) * n := Nat.mul_le_mul_right _ (by omega)
  have g3 : (i + 1) * n - i * n = n := by rw [Nat.add_mul]; omega
  exact ups_tb g2 (row_le hi) (by omega)

/-! ### the program's -/
def sclS (A : Mx) (k : Nat) (c : BitVec 8) (s : Nat) : Mx := fun r t => if r = k ∧ t < s then gm c (A r t) else A r t
theorem scale_loop {n k : Nat} {A : Mx} {c : BitVec 8} (hn : n ≤ 16) (hk : k < n) (z : List (BitVec 8)) (hz : z.length = n) (d : Nat) : ∀ (s q : Nat), s + d = n → d < q →
    m_gfmatrix_scale_l0 (((k + 1) * n : Nat) : Int) ((k * n : Nat) : Int) c z q (tb (n * n) (ml n (sclS A k c s))) (s : Int) = some (tb (n * n) (ml n (sclR A k c))) := by
  induction d with
  | zero =>
    intro s q hs hq
    obtain ⟨q, rfl⟩ : ∃ q', q = q' + 1 := ⟨q - 1, by omega⟩
    obtain rfl : s = n := by omega
    unfold m_gfmatrix_scale_l0
    rw [if_neg (by omega)]
    refine congrArg some (tb_ml fun r hr t ht => ?_)
    unfold sclS sclR
    by_cases h : r = k
    · rw [if_pos ⟨h, ht⟩, if_pos h]
    · rw [if_neg (fun e => h e.1), if_neg h]
  | succ d ih =>
    intro s q hs hq
    obtain ⟨q, rfl⟩ : ∃ q', q = q' + 1 := ⟨q - 1, by omega⟩
    have hsn : s < n := by omega
    have e0 : sclS A k c s k s = A k s := if_neg (by omega)
    unfold m_gfmatrix_scale_l0
    rw [if_pos (by omega), slc_ml hk, Option.bind_some, idx_tb hsn, Option.bind_some, ml_cell _ _ hsn, e0, gf_mul, Option.bind_some, Option.bind_some, idx_tb hsn, Option.bind_some, ups_ml hk hsn, Option.bind_some, ck_succ (by omega), Option.bind_some]
    rw [upd_ml (B := sclS A k c (s + 1)) hsn (fun r hr t ht => ?_)]
    · exact ih (s + 1) q (by omega) (by omega)
    · unfold sclS
      by_cases h : r = k
      · subst h
        by_cases h2 : t = s
        · subst h2; rw [if_pos ⟨rfl, by omega⟩, if_pos ⟨rfl, rfl⟩, gm_comm]
        · rw [if_neg (c := r = r ∧ t = s) (fun e => h2 e.2)]
          by_cases h3 : t < s
          · rw [if_pos ⟨rfl, by omega⟩, if_pos ⟨rfl, h3⟩]
          · rw [if_neg (fun e => by omega), if_neg (fun e => h3 e.2)]
      · rw [if_neg (fun e => h e.1), if_neg (fun e => h e.1), if_neg (fun e => h e.1)]
theorem scale_ok {n k : Nat} {A : Mx} {c : BitVec 8} (hn : n ≤ 16) (hk : k < n) :
    m_gfmatrix_scale (tb (n * n) (ml n A)) ((k * n : Nat) : Int) (((k + 1) * n : Nat) : Int) c = some (tb (n * n) (ml n (sclR A k c))) := by
  unfold m_gfmatrix_scale
  rw [slc_ml hk, Option.bind_some]
  have := scale_loop (A := A) (c := c) hn hk (tb n fun t => ml n A (k * n + t)) (tb_len _ _) n 0 forever (by omega) (by unfold forever; omega)
  have e : sclS A k c 0 = A := by funext r t; exact if_neg (by omega)
  rw [e] at this
  exact this
def addS (A : Mx) (i k : Nat) (c : BitVec 8) (s : Nat) : Mx := fun r t => if r = i ∧ t < s then A r t ^^^ gm c (A k t) else A r t
theorem addS_step {A : Mx} {i k s : Nat} {c : BitVec 8} (r t : Nat) : addS A i k c (s + 1) r t = if r = i ∧ t = s then A i s ^^^ gm c (A k s) else addS A i k c s r t := by
  unfold addS
  by_cases h : r = i
  · subst h
    by_cases h2 : t = s
    · subst h2; rw [if_pos ⟨rfl, by omega⟩, if_pos ⟨rfl, rfl⟩]
    · rw [if_neg (c := r = r ∧ t = s) (fun e => h2 e.2)]
      by_cases h3 : t < s
      · rw [if_pos ⟨rfl, by omega⟩, if_pos ⟨rfl, h3⟩]
      · rw [if_neg (fun e => by omega), if_neg (fun e => h3 e.2)]
  · rw [if_neg (fun e => h e.1), if_neg (fun e => h e.1), if_neg (fun e => h e.1)]
theorem addS_all {A : Mx} {i k n : Nat} {c : BitVec 8} : tb (n * n) (ml n (addS A i k c n)) = tb (n * n) (ml n (addR A i k c)) := tb_ml fun r hr t ht => by
  unfold addS addR
  by_cases h : r = i
  · rw [if_pos ⟨h, ht⟩, if_pos h]
  · rw [if_neg (fun e => h e.1), if_neg h]
theorem addS_zero (A : Mx) (i k : Nat) (c : BitVec 8) : addS A i k c 0 = A := by funext r t; exact if_neg (by omega)
theorem add_loop {n i k : Nat} {A : Mx} {c : BitVec 8} (hn : n ≤ 16) (hi : i < n) (hk : k < n) (hne : i ≠ k) (z : List (BitVec 8)) (hz : z.length = n) (d : Nat) : ∀ (s q : Nat), s + d = n → d < q →
    m_gfmatrix_add_l0 (((i + 1) * n : Nat) : Int) ((i * n : Nat) : Int) (((k + 1) * n : Nat) : Int) ((k * n : Nat) : Int) c z q (tb (n * n) (ml n (addS A i k c s))) (s : Int) = some (tb (n * n) (ml n (addR A i k c))) := by
  induction d with
  | zero =>
    intro s q hs hq
    obtain ⟨q, rfl⟩ : ∃ q', q = q' + 1 := ⟨q - 1, by omega⟩
    obtain rfl : s = n := by omega
    unfold m_gfmatrix_add_l0
    rw [if_neg (by omega), addS_all]
  | succ d ih =>
    intro s q hs hq
    obtain ⟨q, rfl⟩ : ∃ q', q = q' + 1 := ⟨q - 1, by omega⟩
    have hsn : s < n := by omega
    have e0 : addS A i k c s k s = A k s := if_neg (by omega)
    have e1 : addS A i k c s i s = A i s := if_neg (by omega)
    unfold m_gfmatrix_add_l0
    rw [if_pos (by omega), slc_ml hk, Option.bind_some, idx_tb hsn, Option.bind_some, ml_cell _ _ hsn, e0, slc_ml hi, Option.bind_some, idx_tb hsn, Option.bind_some, ml_cell _ _ hsn, e1, gf_mul, Option.bind_some, Option.bind_some, idx_tb hsn, Option.bind_some, ups_ml hi hsn, Option.bind_some, ck_succ (by omega), Option.bind_some]
    rw [upd_ml (B := addS A i k c (s + 1)) hsn (fun r hr t ht => by rw [addS_step, gm_comm c])]
    exact ih (s + 1) q (by omega) (by omega)
theorem add_ok {n i k : Nat} {A : Mx} {c : BitVec 8} (hn : n ≤ 16) (hi : i < n) (hk : k < n) (hne : i ≠ k) :
    m_gfmatrix_add (tb (n * n) (ml n A)) ((i * n : Nat) : Int) (((i + 1) * n : Nat) : Int) ((k * n : Nat) : Int) (((k + 1) * n : Nat) : Int) c = some (tb (n * n) (ml n (addR A i k c))) := by
  unfold m_gfmatrix_add
  rw [slc_ml hk, Option.bind_some]
  have := add_loop (A := A) (c := c) hn hi hk hne (tb n fun t => ml n A (k * n + t)) (tb_len _ _) n 0 forever (by omega) (by unfold forever; omega)
  rw [addS_zero] at this
  exact this
def swpS (A : Mx) (i k s : Nat) : Mx := fun r t => if t < s then swpR A i k r t else A r t
theorem swap_loop {n i k : Nat} {A : Mx} (hn : n ≤ 16) (hi : i < n) (hk : k < n) (z : List (BitVec 8)) (hz : z.length = n) (d : Nat) : ∀ (s q : Nat), s + d = n → d < q →
    m_gfmatrix_Matrix_swap_l0 (((i * n : Nat) : Int), (((i + 1) * n : Nat) : Int)) (((k * n : Nat) : Int), (((k + 1) * n : Nat) : Int)) z q (tb (n * n) (ml n (swpS A i k s))) (s : Int) = some (tb (n * n) (ml n (swpR A i k))) := by
  induction d with
  | zero =>
    intro s q hs hq
    obtain ⟨q, rfl⟩ : ∃ q', q = q' + 1 := ⟨q - 1, by omega⟩
    obtain rfl : s = n := by omega
    unfold m_gfmatrix_Matrix_swap_l0
    rw [if_neg (by omega)]
    exact congrArg some (tb_ml fun r hr t ht => if_pos ht)
  | succ d ih =>
    intro s q hs hq
    obtain ⟨q, rfl⟩ : ∃ q', q = q' + 1 := ⟨q - 1, by omega⟩
    have hsn : s < n := by omega
    have e0 : ∀ r, swpS A i k s r s = A r s := fun r => if_neg (by omega)
    unfold m_gfmatrix_Matrix_swap_l0
    rw [if_pos (by omega)]
    simp only []
    rw [slc_ml hk, Option.bind_some, idx_tb hsn, Option.bind_some, ml_cell _ _ hsn, e0, slc_ml hi, Option.bind_some, idx_tb hsn, Option.bind_some, ml_cell _ _ hsn, e0, Option.bind_some, idx_tb hsn, Option.bind_some, ups_ml hi hsn, Option.bind_some]
    rw [upd_ml (B := fun r t => if r = i ∧ t = s then A k s else swpS A i k s r t) hsn (fun r hr t ht => rfl)]
    rw [slc_ml hk, Option.bind_some, idx_tb hsn, Option.bind_some, ups_ml hk hsn, Option.bind_some, ck_succ (by omega), Option.bind_some]
    rw [upd_ml (B := swpS A i k (s + 1)) hsn (fun r hr t ht => ?_)]
    · exact ih (s + 1) q (by omega) (by omega)
    · unfold swpS swpR
      by_cases h2 : t = s
      · subst h2
        by_cases h : r = k
        · subst h
          rw [if_pos (by omega), if_pos (c := r = r ∧ t = t) ⟨rfl, rfl⟩]
          by_cases h3 : r = i
          · subst h3; rw [if_pos rfl]
          · rw [if_neg h3, if_pos rfl]
        · rw [if_pos (by omega), if_neg (c := r = k ∧ t = t) (fun e => h e.1)]
          by_cases h3 : r = i
          · rw [if_pos h3, if_pos ⟨h3, rfl⟩]
          · rw [if_neg h3, if_neg h, if_neg (fun e => h3 e.1), if_neg (by omega)]
      · rw [if_neg (c := r = k ∧ t = s) (fun e => h2 e.2), if_neg (c := r = i ∧ t = s) (fun e => h2 e.2)]
        by_cases h3 : t < s
        · rw [if_pos (by omega), if_pos h3]
        · rw [if_neg (by omega), if_neg h3]
theorem swap_ok {n i k : Nat} {A : Mx} {R : Int} (hn : n ≤ 16) (hi : i < n) (hk : k < n) : m_gfmatrix_Matrix_swap (tb (n * n) (ml n A)) R (n : Int) (i : Int) (k : Int) = some (tb (n * n) (ml n (swpR A i k))) := by
  unfold m_gfmatrix_Matrix_swap
  rw [row_ok hn (by omega), Option.bind_some]
  simp only []
  rw [slc_ml hi, Option.bind_some, row_ok hn (by omega), Option.bind_some]
  simp only []
  rw [slc_ml hk, Option.bind_some, Option.bind_some]
  have := swap_loop (A := A) hn hi hk (tb n fun t => ml n A (i * n + t)) (tb_len _ _) n 0 forever (by omega) (by unfold forever; omega)
  have e : swpS A i k 0 = A := by funext r t; exact if_neg (by omega)
  rw [e] at this
  exact this

/-! ### the reference's -/
theorem radd_loop {n i k : Nat} {A : Mx} {c : BitVec 8} (hn : n ≤ 16) (hi : i < n) (hk : k < n) (d : Nat) : ∀ (s q : Nat), s + d = n → d < q →
    m_r03_add_l0 (n : Int) q (tb (n * n) (ml n (addS A i k c s))) (i : Int) (k : Int) c (s : Int) = some (tb (n * n) (ml n (addR A i k c))) := by
  induction d with
  | zero =>
    intro s q hs hq
    obtain ⟨q, rfl⟩ : ∃ q', q = q' + 1 := ⟨q - 1, by omega⟩
    obtain rfl : s = n := by omega
    unfold m_r03_add_l0
    rw [if_neg (by omega), addS_all]
  | succ d ih =>
    intro s q hs hq
    obtain ⟨q, rfl⟩ : ∃ q', q = q' + 1 := ⟨q - 1, by omega⟩
    have hsn : s < n := by omega
    have e0 : addS A i k c s k s = A k s := if_neg (by omega)
    have e1 : addS A i k c s i s = A i s := if_neg (by omega)
    have m1 := mul16 (show i ≤ 16 by omega) hn
    have m2 := mul16 (show k ≤ 16 by omega) hn
    unfold m_r03_add_l0
    rw [if_pos (by omega), ck_mul (a := i) (by omega), Option.bind_some, ck_add (by omega), Option.bind_some, idx_tb (cell_lt hi hsn), Option.bind_some, ml_cell _ _ hsn, e1, ck_mul (a := k) (by omega), Option.bind_some, ck_add (by omega), Option.bind_some, idx_tb (cell_lt hk hsn), Option.bind_some, ml_cell _ _ hsn, e0, ref_mul, Option.bind_some, Option.bind_some, upd_tb (cell_lt hi hsn), Option.bind_some, ck_succ (by omega), Option.bind_some]
    rw [upd_ml (B := addS A i k c (s + 1)) hsn (fun r hr t ht => addS_step r t)]
    exact ih (s + 1) q (by omega) (by omega)
theorem radd_ok {n i k : Nat} {A : Mx} {c : BitVec 8} (hn : n ≤ 16) (hi : i < n) (hk : k < n) : m_r03_add (tb (n * n) (ml n A)) (n : Int) (i : Int) (k : Int) c = some (tb (n * n) (ml n (addR A i k c))) := by
  unfold m_r03_add
  have := radd_loop (A := A) (c := c) hn hi hk n 0 forever (by omega) (by unfold forever; omega)
  rw [addS_zero] at this
  exact this
theorem addR_self (A : Mx) (k : Nat) (c : BitVec 8) : addR A k k (c ^^^ 1#8) = sclR A k c := by
  funext r s
  unfold addR sclR
  by_cases h : r = k
  · subst h; rw [if_pos rfl, if_pos rfl, gm_addL, gm_oneL, BitVec.xor_comm, BitVec.xor_assoc, BitVec.xor_self, BitVec.xor_zero]
  · rw [if_neg h, if_neg h]
end Go.Proofs.Ytnbcphofimicdaa
