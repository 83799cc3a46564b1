/-
  The general part of what stands about gfmatrix (Qd). No conditions beyond what each theorem says.
-/
import Derived.Test.YtnbcphofimicdaaQc
namespace Go.Proofs.Ytnbcphofimicdaa
set_option linter.unusedVariables false
set_option linter.unusedSimpArgs false

theorem idx_none {α : Type} {xs : List α} {i : Nat} (h : i < xs.length) : ∃ z, idx xs (i : Int) = some z := by rw [idx_nat, List.getElem?_eq_getElem h]; exact ⟨_, rfl⟩
theorem pick_loop {R C : Nat} (hR : R ≤ 16) (hC : C ≤ 16) (F : Nat → BitVec 8) (l : List Int) (hl : l.length ≤ 16) (d : Nat) : ∀ (t q : Nat) (xs : List (BitVec 8)), t + d = l.length → d < q → xs.length ≤ 16 * t →
    ∃ r, m_gfmatrix_Pick_l2 (R : Int) (C : Int) (tb (R * C) F) l q xs (t : Int) = some r ∧ m_r03_Pick_l2 (R : Int) (C : Int) (tb (R * C) F) l q xs (t : Int) = some r := by
  induction d with
  | zero =>
    intro t q xs ht hq hx
    obtain ⟨q, rfl⟩ : ∃ q', q = q' + 1 := ⟨q - 1, by omega⟩
    unfold m_gfmatrix_Pick_l2 m_r03_Pick_l2
    rw [if_neg (by omega), if_neg (by omega)]
    exact ⟨_, rfl, rfl⟩
  | succ d ih =>
    intro t q xs ht hq hx
    obtain ⟨q, rfl⟩ : ∃ q', q = q' + 1 := ⟨q - 1, by omega⟩
    obtain ⟨z, hz⟩ := idx_none (xs := l) (i := t) (by omega)
    unfold m_gfmatrix_Pick_l2 m_r03_Pick_l2
    rw [if_pos (by omega), if_pos (by omega), hz, Option.bind_some, Option.bind_some]
    by_cases h0 : z < 0
    · rw [if_pos h0, if_pos h0]; exact ⟨_, rfl, rfl⟩
    · rw [if_neg h0, if_neg h0, Option.bind_some]
      by_cases h1 : (R : Int) ≤ z
      · rw [if_pos h1, if_pos h1]; exact ⟨_, rfl, rfl⟩
      · rw [if_neg h1, if_neg h1]
        obtain ⟨i, rfl⟩ := Int.eq_ofNat_of_zero_le (show 0 ≤ z by omega)
        have hi : i < R := by omega
        have m1 := mul16 (show i ≤ 16 by omega) hC
        have m2 := mul16 (show i + 1 ≤ 16 by omega) hC
        have g1 := row_le (C := C) hi
        have g2 : i * C ≤ (i + 1) * C := Nat.mul_le_mul_right _ (by omega)
        have g3 : (i + 1) * C - i * C = C := by rw [Nat.add_mul]; omega
        rw [row_ok hC (by omega), Option.bind_some]
        unfold m_r03_Pick_j3
        rw [hz, Option.bind_some, ck_mul (by omega), Option.bind_some, Option.bind_some, ck_succ (a := i) (by omega), Option.bind_some, ck_mul (a := i + 1) (by omega), Option.bind_some]
        simp only []
        rw [slc_tb g2 g1, Option.bind_some, Option.bind_some, apd1_of (by rw [tb_len]; omega), Option.bind_some, Option.bind_some, ck_succ (by omega), Option.bind_some, Option.bind_some]
        exact ih (t + 1) q _ (by omega) (by omega) (by rw [List.length_append, tb_len]; omega)
theorem pick_eq (a b : Int) (x : List (BitVec 8)) (l : List Int) : ∃ r, m_gfmatrix_Pick a b x l = some r ∧ m_r03_Pick a b x l = some r := by
  unfold m_gfmatrix_Pick m_r03_Pick
  rw [valid_ok, rvalid_ok, Option.bind_some, Option.bind_some]
  by_cases h : vd a b x
  · rw [if_pos (decide_eq_true h), if_pos (decide_eq_true h), mayHave_ok, size_ok, Option.bind_some, Option.bind_some]
    by_cases h2 : okd (l.length : Int)
    · rw [if_pos (decide_eq_true h2), if_pos (decide_eq_true ⟨h2, h.2.1⟩)]
      obtain ⟨R, C, F, rfl, rfl, r1, r2, c1, c2, rfl⟩ := vd_nat h
      have h3 := h2.2
      unfold m_gfmatrix_Pick_j0 m_r03_Pick_j0
      exact pick_loop r2 c2 F l (by omega) l.length 0 forever [] (by omega) (by unfold forever; omega) (by simp)
    · rw [if_neg (by simpa using h2), if_neg (by simpa using fun e => absurd e h2)]
      exact ⟨_, rfl, rfl⟩
  · rw [if_neg (by simpa using h), if_neg (by simpa using h)]
    exact ⟨_, rfl, rfl⟩
/-- the rows that are picked -/
def piF (C : Nat) (a : Nat → BitVec 8) (rows : Nat → Nat) : Nat → BitVec 8 := fun t => a (rows (t / C) * C + t % C)
theorem pick_ok_loop {R C : Nat} (hR : R ≤ 16) (hC : C ≤ 16) (F : Nat → BitVec 8) (n : Nat) (rows : Nat → Nat) (hn : n ≤ 16) (hr : ∀ t, t < n → rows t < R) (d : Nat) : ∀ (t q : Nat), t + d = n → d < q →
    m_gfmatrix_Pick_l2 (R : Int) (C : Int) (tb (R * C) F) (tb n fun t => ((rows t : Nat) : Int)) q (tb (t * C) (piF C F rows)) (t : Int) = some ((n : Int), (C : Int), tb (n * C) (piF C F rows), 0) := by
  induction d with
  | zero =>
    intro t q ht hq
    obtain ⟨q, rfl⟩ : ∃ q', q = q' + 1 := ⟨q - 1, by omega⟩
    obtain rfl : t = n := by omega
    unfold m_gfmatrix_Pick_l2
    rw [tb_len, if_neg (by omega), m_gfmatrix_Pick_j1, tb_len]
  | succ d ih =>
    intro t q ht hq
    obtain ⟨q, rfl⟩ : ∃ q', q = q' + 1 := ⟨q - 1, by omega⟩
    have hi := hr t (by omega)
    have m1 := mul16 (show t + 1 ≤ 16 by omega) hC
    have g1 := row_le (C := C) hi
    have g2 : rows t * C ≤ (rows t + 1) * C := Nat.mul_le_mul_right _ (by omega)
    have g3 : (rows t + 1) * C - rows t * C = C := by rw [Nat.add_mul]; omega
    unfold m_gfmatrix_Pick_l2
    rw [tb_len, if_pos (by omega), idx_tb (by omega), Option.bind_some, if_neg (by omega), if_neg (by omega), row_ok hC (by omega), Option.bind_some]
    simp only []
    rw [slc_tb g2 g1, Option.bind_some, g3]
    have e : (tb C fun s => F (rows t * C + s)) = tb C fun s => piF C F rows (t * C + s) := tb_ext fun s hs => by rw [piF, cell_div hs, cell_mod hs]
    rw [e, apd_tb2 (by rw [Nat.add_mul] at m1; omega), Option.bind_some, ck_succ (by omega), Option.bind_some, show t * C + C = (t + 1) * C by rw [Nat.add_mul]; omega]
    exact ih (t + 1) q (by omega) (by omega)
theorem pick_ok {R C n : Nat} (hR : dims R) (hC : dims C) (hn : dims n) (F : Nat → BitVec 8) (rows : Nat → Nat) (hr : ∀ t, t < n → rows t < R) :
    m_gfmatrix_Pick (R : Int) (C : Int) (tb (R * C) F) (tb n fun t => ((rows t : Nat) : Int)) = some ((n : Int), (C : Int), tb (n * C) (piF C F rows), 0) := by
  have hn2 := hn.2
  unfold m_gfmatrix_Pick
  rw [valid_ok, Option.bind_some, if_pos (decide_eq_true (nat_vd ⟨hR.1, hR.2, hC.1, hC.2⟩)), tb_len, mayHave_ok, Option.bind_some, if_pos (decide_eq_true (nat_okd hn)), m_gfmatrix_Pick_j0]
  have := pick_ok_loop hR.2 hC.2 F n rows hn.2 hr n 0 forever (by omega) (by unfold forever; omega)
  rw [Nat.zero_mul, tb_zero] at this
  exact this

/-! ### the statements -/
theorem ident_some (a : Int) : ∃ r, m_gfmatrix_Identity a = some r := by
  by_cases h : okd a
  · obtain ⟨n, rfl, hn⟩ := okd_nat h
    exact ⟨_, ident_ok hn⟩
  · exact ⟨_, ident_bad h⟩
theorem vand_some (a b : Int) : ∃ r, m_gfmatrix_Vandermonde a b = some r := by
  by_cases h : okd a ∧ okd b
  · obtain ⟨R, rfl, hR⟩ := okd_nat h.1
    obtain ⟨C, rfl, hC⟩ := okd_nat h.2
    exact ⟨_, vand_ok hR hC⟩
  · exact ⟨_, vand_bad h⟩
end Go.Proofs.Ytnbcphofimicdaa
