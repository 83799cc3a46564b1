/-
  Loops over matrices: what Vandermonde, Mul and Pick compute, in the program and in the reference. Conditions: as each theorem says.
-/
import Derived.Test.YtnbcphofimicdaaQb
namespace Go.Proofs.Ytnbcphofimicdaa
set_option linter.unusedVariables false
set_option linter.unusedSimpArgs false

/-! ### Vandermonde -/
def vaF (C : Nat) : Nat → BitVec 8 := fun t => gpow (BitVec.ofNat 8 (t / C)) (t % C)
theorem vand_l4 {R C i : Nat} (hR : R ≤ 16) (hC : C ≤ 16) (hi : i < R) (F : Nat → BitVec 8) (hF : ∀ k, k < C → F (i * C + k) = gpow (BitVec.ofNat 8 i) k) (E : Int) (z : List (BitVec 8)) (r2 : List (BitVec 8) → Int → Option (Int × Int × List (BitVec 8) × Int)) (ρ : Option (Int × Int × List (BitVec 8) × Int))
    (hr : r2 (tb (R * C) (pre F ((i + 1) * C))) ((i + 1 : Nat) : Int) = ρ) (d : Nat) : ∀ (k q : Nat), k + d = C → d < q → m_gfmatrix_Vandermonde_l4 (C : Int) (E, (C : Int), z) (i : Int) r2 q (tb (R * C) (pre F (i * C + k))) (k : Int) = ρ := by
  induction d with
  | zero =>
    intro k q hk hq
    obtain ⟨q, rfl⟩ : ∃ q', q = q' + 1 := ⟨q - 1, by omega⟩
    obtain rfl : k = C := by omega
    unfold m_gfmatrix_Vandermonde_l4
    rw [if_neg (by omega), m_gfmatrix_Vandermonde_j3, ck_succ (by omega), Option.bind_some, show i * k + k = (i + 1) * k by rw [Nat.add_mul]; omega]
    exact hr
  | succ d ih =>
    intro k q hk hq
    obtain ⟨q, rfl⟩ : ∃ q', q = q' + 1 := ⟨q - 1, by omega⟩
    have hkn : k < C := by omega
    have h1 := row_le (C := C) hi
    have h2 : i * C ≤ (i + 1) * C := Nat.mul_le_mul_right _ (by omega)
    have h3 : (i + 1) * C - i * C = C := by rw [Nat.add_mul]; omega
    unfold m_gfmatrix_Vandermonde_l4
    rw [if_pos (by omega)]
    simp only []
    rw [row_ok hC (by omega), Option.bind_some]
    simp only []
    rw [slc_tb h2 h1, Option.bind_some, gf_pow (by omega) (by omega), Option.bind_some, Option.bind_some, idx_tb (by omega), Option.bind_some, ups_tb h2 h1 (by omega), Option.bind_some, ck_succ (by omega), Option.bind_some, ← hF k hkn, pre_succ]
    exact ih (k + 1) q (by omega) (by omega)
theorem vand_l2 {R C : Nat} (hR : R ≤ 16) (hC : C ≤ 16) (hC0 : 1 ≤ C) (z : List (BitVec 8)) (d : Nat) : ∀ (i q : Nat), i + d = R → d < q → m_gfmatrix_Vandermonde_l2 (R : Int) (C : Int) ((R : Int), (C : Int), z) q (tb (R * C) (pre (vaF C) (i * C))) (i : Int) = some ((R : Int), (C : Int), tb (R * C) (vaF C), 0) := by
  induction d with
  | zero =>
    intro i q hk hq
    obtain ⟨q, rfl⟩ : ∃ q', q = q' + 1 := ⟨q - 1, by omega⟩
    obtain rfl : i = R := by omega
    unfold m_gfmatrix_Vandermonde_l2
    rw [if_neg (by omega), m_gfmatrix_Vandermonde_j1, pre_all]
  | succ d ih =>
    intro i q hk hq
    obtain ⟨q, rfl⟩ : ∃ q', q = q' + 1 := ⟨q - 1, by omega⟩
    unfold m_gfmatrix_Vandermonde_l2
    rw [if_pos (by omega)]
    exact vand_l4 hR hC (by omega) (vaF C) (fun k hk => by rw [vaF, cell_div hk, cell_mod hk]) _ _ _ _ (ih (i + 1) q (by omega) (by omega)) C 0 forever (by omega) (by unfold forever; omega)
theorem vand_ok {R C : Nat} (hR : 1 ≤ R ∧ R ≤ 16) (hC : 1 ≤ C ∧ C ≤ 16) : m_gfmatrix_Vandermonde (R : Int) (C : Int) = some ((R : Int), (C : Int), tb (R * C) (vaF C), 0) := by
  unfold m_gfmatrix_Vandermonde
  rw [mayHave_ok, Option.bind_some, if_pos (decide_eq_true (nat_okd hR)), mayHave_ok, Option.bind_some, if_pos (decide_eq_true (nat_okd hC)), m_gfmatrix_Vandermonde_j0, empty_ok hR.2 hC.2, Option.bind_some]
  have := vand_l2 hR.2 hC.2 hC.1 (tb (R * C) fun _ => 0#8) R 0 forever (by omega) (by unfold forever; omega)
  rw [Nat.zero_mul, pre_zero] at this
  exact this
theorem vand_bad {a b : Int} (h : ¬ (okd a ∧ okd b)) : m_gfmatrix_Vandermonde a b = some bad := by
  unfold m_gfmatrix_Vandermonde
  rw [mayHave_ok, Option.bind_some]
  by_cases ha : okd a
  · rw [if_pos (decide_eq_true ha), mayHave_ok, Option.bind_some, if_neg (by simpa using fun hb => h ⟨ha, hb⟩)]; rfl
  · rw [if_neg (by simpa using ha)]; rfl
theorem rvand_l3 {C i : Nat} (hi : i < 16) (hC : C ≤ 16) (F : Nat → BitVec 8) (hF : ∀ k, k < C → F (i * C + k) = gpow (BitVec.ofNat 8 i) k) (r1 : List (BitVec 8) → Int → Option (Int × Int × List (BitVec 8) × Int)) (ρ : Option (Int × Int × List (BitVec 8) × Int))
    (hr : r1 (tb ((i + 1) * C) F) ((i + 1 : Nat) : Int) = ρ) (d : Nat) : ∀ (k q : Nat), k + d = C → d < q → m_r03_Vandermonde_l3 (C : Int) (i : Int) r1 q (tb (i * C + k) F) (gpow (BitVec.ofNat 8 i) k) (k : Int) = ρ := by
  induction d with
  | zero =>
    intro k q hk hq
    obtain ⟨q, rfl⟩ : ∃ q', q = q' + 1 := ⟨q - 1, by omega⟩
    obtain rfl : k = C := by omega
    unfold m_r03_Vandermonde_l3
    rw [if_neg (by omega), m_r03_Vandermonde_j2, ck_succ (by omega), Option.bind_some, show i * k + k = (i + 1) * k by rw [Nat.add_mul]; omega]
    exact hr
  | succ d ih =>
    intro k q hk hq
    obtain ⟨q, rfl⟩ : ∃ q', q = q' + 1 := ⟨q - 1, by omega⟩
    have h1 := mul16 (show i ≤ 16 by omega) hC
    unfold m_r03_Vandermonde_l3
    rw [if_pos (by omega), apd_tb (by omega) (by omega) (hF k (by omega)), Option.bind_some, ref_mul, Option.bind_some, ck_succ (by omega), Option.bind_some]
    rw [BitVec.ofInt_natCast]
    exact ih (k + 1) q (by omega) (by omega)
theorem rvand_l1 {R C : Nat} (hR : R ≤ 16) (hC : C ≤ 16) (d : Nat) : ∀ (i q : Nat), i + d = R → d < q → m_r03_Vandermonde_l1 (R : Int) (C : Int) q (tb (i * C) (vaF C)) (i : Int) = some ((R : Int), (C : Int), tb (R * C) (vaF C), 0) := by
  induction d with
  | zero =>
    intro i q hk hq
    obtain ⟨q, rfl⟩ : ∃ q', q = q' + 1 := ⟨q - 1, by omega⟩
    obtain rfl : i = R := by omega
    unfold m_r03_Vandermonde_l1
    rw [if_neg (by omega), m_r03_Vandermonde_j0]
  | succ d ih =>
    intro i q hk hq
    obtain ⟨q, rfl⟩ : ∃ q', q = q' + 1 := ⟨q - 1, by omega⟩
    unfold m_r03_Vandermonde_l1
    rw [if_pos (by omega)]
    exact rvand_l3 (by omega) hC (vaF C) (fun k hk => by rw [vaF, cell_div hk, cell_mod hk]) _ _ (ih (i + 1) q (by omega) (by omega)) C 0 forever (by omega) (by unfold forever; omega)
theorem vand_eq (a b : Int) : m_gfmatrix_Vandermonde a b = m_r03_Vandermonde a b := by
  by_cases h : okd a ∧ okd b
  · obtain ⟨R, rfl, hR⟩ := okd_nat h.1
    obtain ⟨C, rfl, hC⟩ := okd_nat h.2
    rw [vand_ok hR hC]
    unfold m_r03_Vandermonde
    rw [size_ok, Option.bind_some, if_pos (decide_eq_true h)]
    have := rvand_l1 hR.2 hC.2 R 0 forever (by omega) (by unfold forever; omega)
    rw [Nat.zero_mul, tb_zero] at this
    exact this.symm
  · rw [vand_bad h]
    unfold m_r03_Vandermonde
    rw [size_ok, Option.bind_some, if_neg (by simpa using fun e => fun e2 => h ⟨e, e2⟩)]; rfl

/-! ### sums -/
def sm : Nat → (Nat → BitVec 8) → BitVec 8
  | 0, _ => 0#8
  | n + 1, f => sm n f ^^^ f n

/-! ### products -/
def muF (n C : Nat) (a b : Nat → BitVec 8) : Nat → BitVec 8 := fun t => sm n fun j => gm (a (t / C * n + j)) (b (j * C + t % C))
section
variable {R n C : Nat} (hR : R ≤ 16) (hn : n ≤ 16) (hC : C ≤ 16) {a b : Nat → BitVec 8}
theorem mul_l6 {i k : Nat} (hR : R ≤ 16) (hn : n ≤ 16) (hC : C ≤ 16) (hi : i < R) (hk : k < C) (za zb zc : Int) (z : List (BitVec 8)) (G : Nat → BitVec 8) (r4 : List (BitVec 8) → Int → Option (Int × Int × List (BitVec 8) × Int)) (ρ : Option (Int × Int × List (BitVec 8) × Int))
    (hr : r4 (tb (R * C) (st G (i * C + k) (sm n fun j => gm (a (i * n + j)) (b (j * C + k))))) ((k + 1 : Nat) : Int) = ρ) (d : Nat) :
    ∀ (j q : Nat), j + d = n → d < q → m_gfmatrix_Mul_l6 za (n : Int) (tb (R * n) a) zb (C : Int) (tb (n * C) b) (zc, (C : Int), z) (i : Int) (k : Int) r4 q (tb (R * C) (st G (i * C + k) (sm j fun j => gm (a (i * n + j)) (b (j * C + k))))) (j : Int) = ρ := by
  induction d with
  | zero =>
    intro j q hj hq
    obtain ⟨q, rfl⟩ : ∃ q', q = q' + 1 := ⟨q - 1, by omega⟩
    obtain rfl : j = n := by omega
    unfold m_gfmatrix_Mul_l6
    rw [if_neg (by omega), m_gfmatrix_Mul_j5, ck_succ (by omega), Option.bind_some]
    exact hr
  | succ d ih =>
    intro j q hj hq
    obtain ⟨q, rfl⟩ : ∃ q', q = q' + 1 := ⟨q - 1, by omega⟩
    have hjn : j < n := by omega
    have h1 := row_le (C := C) hi
    have h2 : i * C ≤ (i + 1) * C := Nat.mul_le_mul_right _ (by omega)
    have h3 : (i + 1) * C - i * C = C := by rw [Nat.add_mul]; omega
    unfold m_gfmatrix_Mul_l6
    rw [if_pos (by omega)]
    simp only []
    rw [row_ok hC (by omega), Option.bind_some]
    simp only []
    rw [slc_tb h2 h1, Option.bind_some, Option.bind_some, idx_tb (by omega), Option.bind_some, at_ok hn (by omega) (by omega) (cell_lt hi hjn), Option.bind_some, at_ok hC (by omega) (by omega) (cell_lt hjn hk), Option.bind_some, gf_mul, Option.bind_some]
    rw [Option.bind_some, idx_tb (by omega), Option.bind_some, ups_tb h2 h1 (by omega), Option.bind_some, ck_succ (by omega), Option.bind_some, st_st, st_same]
    exact ih (j + 1) q (by omega) (by omega)
theorem mul_l4 {i : Nat} (hR : R ≤ 16) (hn : n ≤ 16) (hC : C ≤ 16) (hi : i < R) (za zb zc : Int) (z : List (BitVec 8)) (r2 : List (BitVec 8) → Int → Option (Int × Int × List (BitVec 8) × Int)) (ρ : Option (Int × Int × List (BitVec 8) × Int))
    (hr : r2 (tb (R * C) (pre (muF n C a b) ((i + 1) * C))) ((i + 1 : Nat) : Int) = ρ) (d : Nat) :
    ∀ (k q : Nat), k + d = C → d < q → m_gfmatrix_Mul_l4 za (n : Int) (tb (R * n) a) zb (C : Int) (tb (n * C) b) (zc, (C : Int), z) (i : Int) r2 q (tb (R * C) (pre (muF n C a b) (i * C + k))) (k : Int) = ρ := by
  induction d with
  | zero =>
    intro k q hk hq
    obtain ⟨q, rfl⟩ : ∃ q', q = q' + 1 := ⟨q - 1, by omega⟩
    obtain rfl : k = C := by omega
    unfold m_gfmatrix_Mul_l4
    rw [if_neg (by omega), m_gfmatrix_Mul_j3, ck_succ (by omega), Option.bind_some, show i * k + k = (i + 1) * k by rw [Nat.add_mul]; omega]
    exact hr
  | succ d ih =>
    intro k q hk hq
    obtain ⟨q, rfl⟩ : ∃ q', q = q' + 1 := ⟨q - 1, by omega⟩
    have hkC : k < C := by omega
    unfold m_gfmatrix_Mul_l4
    rw [if_pos (by omega)]
    have hF : (sm n fun j => gm (a (i * n + j)) (b (j * C + k))) = muF n C a b (i * C + k) := by rw [muF, cell_div hkC, cell_mod hkC]
    have := mul_l6 hR hn hC hi hkC za zb zc z (pre (muF n C a b) (i * C + k)) (m_gfmatrix_Mul_l4 za (n : Int) (tb (R * n) a) zb (C : Int) (tb (n * C) b) (zc, (C : Int), z) (i : Int) r2 q) ρ
      (by rw [hF, pre_succ]; exact ih (k + 1) q (by omega) (by omega)) n 0 forever (by omega) (by unfold forever; omega)
    rw [sm, pre_id] at this
    exact this
theorem mul_l2 (hR : R ≤ 16) (hn : n ≤ 16) (hC : C ≤ 16) (zb : Int) (z : List (BitVec 8)) (d : Nat) :
    ∀ (i q : Nat), i + d = R → d < q → m_gfmatrix_Mul_l2 (R : Int) (n : Int) (tb (R * n) a) zb (C : Int) (tb (n * C) b) ((R : Int), (C : Int), z) q (tb (R * C) (pre (muF n C a b) (i * C))) (i : Int) = some ((R : Int), (C : Int), tb (R * C) (muF n C a b), 0) := by
  induction d with
  | zero =>
    intro i q hk hq
    obtain ⟨q, rfl⟩ : ∃ q', q = q' + 1 := ⟨q - 1, by omega⟩
    obtain rfl : i = R := by omega
    unfold m_gfmatrix_Mul_l2
    rw [if_neg (by omega), m_gfmatrix_Mul_j1, pre_all]
  | succ d ih =>
    intro i q hk hq
    obtain ⟨q, rfl⟩ : ∃ q', q = q' + 1 := ⟨q - 1, by omega⟩
    unfold m_gfmatrix_Mul_l2
    rw [if_pos (by omega)]
    exact mul_l4 hR hn hC (by omega) _ _ _ _ _ _ (ih (i + 1) q (by omega) (by omega)) C 0 forever (by omega) (by unfold forever; omega)
end
def dims (R : Nat) : Prop := 1 ≤ R ∧ R ≤ 16
theorem mul_ok {R n C : Nat} (hR : dims R) (hn : dims n) (hC : dims C) (a b : Nat → BitVec 8) : m_gfmatrix_Mul (R : Int) (n : Int) (tb (R * n) a) (n : Int) (C : Int) (tb (n * C) b) = some ((R : Int), (C : Int), tb (R * C) (muF n C a b), 0) := by
  have hR2 := hR.2
  unfold m_gfmatrix_Mul
  rw [valid_ok, Option.bind_some, if_pos (decide_eq_true (nat_vd ⟨hR.1, hR.2, hn.1, hn.2⟩)), valid_ok, Option.bind_some, if_pos (decide_eq_true (nat_vd ⟨hn.1, hn.2, hC.1, hC.2⟩)), if_pos rfl, m_gfmatrix_Mul_j0, empty_ok hR.2 hC.2, Option.bind_some]
  have := mul_l2 hR.2 hn.2 hC.2 (n : Int) (tb (R * C) fun _ => 0#8) (a := a) (b := b) R 0 forever (by omega) (by unfold forever; omega)
  rw [Nat.zero_mul, pre_zero] at this
  exact this
theorem rmul_m7 {R n C i k : Nat} {a b : Nat → BitVec 8} (hR : R ≤ 16) (hn : n ≤ 16) (hC : C ≤ 16) (hi : i < R) (hk : k < C) (l : List (BitVec 8)) (r4 : List (BitVec 8) → Int → Option (Int × Int × List (BitVec 8) × Int)) (ρ : Option (Int × Int × List (BitVec 8) × Int))
    (hr : m_r03_Mul_j6 l (k : Int) r4 (sm n fun j => gm (a (i * n + j)) (b (j * C + k))) = ρ) (d : Nat) :
    ∀ (j q : Nat), j + d = n → d < q → m_r03_Mul_l7 (n : Int) (tb (R * n) a) (C : Int) (tb (n * C) b) (i : Int) l (k : Int) r4 q (sm j fun j => gm (a (i * n + j)) (b (j * C + k))) (j : Int) = ρ := by
  induction d with
  | zero =>
    intro j q hj hq
    obtain ⟨q, rfl⟩ : ∃ q', q = q' + 1 := ⟨q - 1, by omega⟩
    obtain rfl : j = n := by omega
    unfold m_r03_Mul_l7
    rw [if_neg (by omega)]
    exact hr
  | succ d ih =>
    intro j q hj hq
    obtain ⟨q, rfl⟩ : ∃ q', q = q' + 1 := ⟨q - 1, by omega⟩
    have hjn : j < n := by omega
    have h1 := mul16 (show i ≤ 16 by omega) hn
    have h2 := mul16 (show j ≤ 16 by omega) hC
    unfold m_r03_Mul_l7
    rw [if_pos (by omega), ck_mul (by omega), Option.bind_some, ck_add (by omega), Option.bind_some, idx_tb (cell_lt hi hjn), Option.bind_some, ck_mul (by omega), Option.bind_some, ck_add (by omega), Option.bind_some, idx_tb (cell_lt hjn hk), Option.bind_some, ref_mul, Option.bind_some, ck_succ (by omega), Option.bind_some]
    exact ih (j + 1) q (by omega) (by omega)
theorem rmul_m4 {R n C i : Nat} {a b : Nat → BitVec 8} (hR : R ≤ 16) (hn : n ≤ 16) (hC : C ≤ 16) (hi : i < R) (r2 : List (BitVec 8) → Int → Option (Int × Int × List (BitVec 8) × Int)) (ρ : Option (Int × Int × List (BitVec 8) × Int))
    (hr : r2 (tb ((i + 1) * C) (muF n C a b)) ((i + 1 : Nat) : Int) = ρ) (d : Nat) :
    ∀ (k q : Nat), k + d = C → d < q → m_r03_Mul_l4 (n : Int) (tb (R * n) a) (C : Int) (tb (n * C) b) (i : Int) r2 q (tb (i * C + k) (muF n C a b)) (k : Int) = ρ := by
  induction d with
  | zero =>
    intro k q hk hq
    obtain ⟨q, rfl⟩ : ∃ q', q = q' + 1 := ⟨q - 1, by omega⟩
    obtain rfl : k = C := by omega
    unfold m_r03_Mul_l4
    rw [if_neg (by omega), m_r03_Mul_j3, ck_succ (by omega), Option.bind_some, show i * k + k = (i + 1) * k by rw [Nat.add_mul]; omega]
    exact hr
  | succ d ih =>
    intro k q hk hq
    obtain ⟨q, rfl⟩ : ∃ q', q = q' + 1 := ⟨q - 1, by omega⟩
    have hkC : k < C := by omega
    have h1 := mul16 (show i ≤ 16 by omega) hC
    unfold m_r03_Mul_l4
    rw [if_pos (by omega)]
    refine rmul_m7 (a := a) (b := b) hR hn hC hi hkC _ _ _ ?_ n 0 forever (by omega) (by unfold forever; omega)
    have hF : muF n C a b (i * C + k) = (sm n fun j => gm (a (i * n + j)) (b (j * C + k))) := by rw [muF, cell_div hkC, cell_mod hkC]
    rw [m_r03_Mul_j6, apd_tb (by omega) (by omega) hF, Option.bind_some, m_r03_Mul_j5, ck_succ (by omega), Option.bind_some]
    exact ih (k + 1) q (by omega) (by omega)
theorem rmul_m2 {R n C : Nat} {a b : Nat → BitVec 8} (hR : R ≤ 16) (hn : n ≤ 16) (hC : C ≤ 16) (d : Nat) :
    ∀ (i q : Nat), i + d = R → d < q → m_r03_Mul_l2 (R : Int) (n : Int) (tb (R * n) a) (C : Int) (tb (n * C) b) q (tb (i * C) (muF n C a b)) (i : Int) = some ((R : Int), (C : Int), tb (R * C) (muF n C a b), 0) := by
  induction d with
  | zero =>
    intro i q hk hq
    obtain ⟨q, rfl⟩ : ∃ q', q = q' + 1 := ⟨q - 1, by omega⟩
    obtain rfl : i = R := by omega
    unfold m_r03_Mul_l2
    rw [if_neg (by omega), m_r03_Mul_j1]
  | succ d ih =>
    intro i q hk hq
    obtain ⟨q, rfl⟩ : ∃ q', q = q' + 1 := ⟨q - 1, by omega⟩
    unfold m_r03_Mul_l2
    rw [if_pos (by omega)]
    exact rmul_m4 hR hn hC (by omega) _ _ (ih (i + 1) q (by omega) (by omega)) C 0 forever (by omega) (by unfold forever; omega)
theorem mul_bad {a0 a1 b0 b1 : Int} {a b : List (BitVec 8)} (h : ¬ (vd a0 a1 a ∧ vd b0 b1 b ∧ a1 = b0)) : m_gfmatrix_Mul a0 a1 a b0 b1 b = some bad ∧ m_r03_Mul a0 a1 a b0 b1 b = some bad := by
  unfold m_gfmatrix_Mul m_r03_Mul
  rw [valid_ok, valid_ok, rvalid_ok, rvalid_ok]
  simp only [Option.bind_some]
  by_cases h1 : vd a0 a1 a
  · rw [if_pos (decide_eq_true h1), if_pos (decide_eq_true h1)]
    by_cases h2 : vd b0 b1 b
    · rw [if_pos (decide_eq_true h2), if_pos (decide_eq_true h2), if_neg (fun e => h ⟨h1, h2, e⟩), if_neg (fun e => h ⟨h1, h2, e⟩)]
      exact ⟨rfl, rfl⟩
    · rw [if_neg (by simpa using h2), if_neg (by simpa using h2)]
      exact ⟨rfl, rfl⟩
  · rw [if_neg (by simpa using h1), if_neg (by simpa using h1)]
    exact ⟨rfl, rfl⟩
theorem mul_eq (a0 a1 b0 b1 : Int) (a b : List (BitVec 8)) : ∃ r, m_gfmatrix_Mul a0 a1 a b0 b1 b = some r ∧ m_r03_Mul a0 a1 a b0 b1 b = some r := by
  by_cases h : vd a0 a1 a ∧ vd b0 b1 b ∧ a1 = b0
  · obtain ⟨R, n, F, rfl, rfl, r1, r2, n1, n2, rfl⟩ := vd_nat h.1
    obtain ⟨n', C, G, e1, rfl, _, _, c1, c2, rfl⟩ := vd_nat h.2.1
    have e2 : n' = n := by have := h.2.2; omega
    subst e2
    obtain rfl := e1
    refine ⟨_, mul_ok ⟨r1, r2⟩ ⟨n1, n2⟩ ⟨c1, c2⟩ F G, ?_⟩
    unfold m_r03_Mul
    rw [rvalid_ok, Option.bind_some, if_pos (decide_eq_true h.1), rvalid_ok, Option.bind_some, if_pos (decide_eq_true h.2.1), if_pos rfl, m_r03_Mul_j0]
    have := rmul_m2 r2 n2 c2 (a := F) (b := G) R 0 forever (by omega) (by unfold forever; omega)
    rw [Nat.zero_mul, tb_zero] at this
    exact this
  · exact ⟨bad, mul_bad h⟩
end Go.Proofs.Ytnbcphofimicdaa
