/-
  The general part of what stands about gfmatrix (Qj). No conditions beyond what each theorem says.
-/
import Derived.Test.YtnbcphofimicdaaUh
namespace Go.Proofs.Ytnbcphofimicdaa
set_option linter.unusedVariables false
set_option linter.unusedSimpArgs false

/-! ### MulAdd -/
def maS (D S : Nat → BitVec 8) (c : BitVec 8) (s : Nat) : Nat → BitVec 8 := fun t => if t < s then D t ^^^ gm c (S t) else D t
theorem maS_step (D S : Nat → BitVec 8) (c : BitVec 8) (s : Nat) : st (maS D S c s) s (D s ^^^ gm c (S s)) = maS D S c (s + 1) := by
  funext t
  unfold st maS
  by_cases h : t = s
  · subst h; rw [if_pos rfl, if_pos (by omega)]
  · rw [if_neg h]
    by_cases h2 : t < s
    · rw [if_pos h2, if_pos (by omega)]
    · rw [if_neg h2, if_neg (by omega)]
theorem maS_same {D S : Nat → BitVec 8} {c : BitVec 8} {s : Nat} (h : gm c (S s) = 0#8) : maS D S c s = maS D S c (s + 1) := by
  rw [← maS_step, h, BitVec.xor_zero]
  funext t
  unfold st
  by_cases e : t = s
  · subst e; rw [if_pos rfl]; exact if_neg (by omega)
  · rw [if_neg e]
theorem muladd_loop {w : Nat} (hw : w ≤ 1000) (D S : Nat → BitVec 8) (c : BitVec 8) (d : Nat) : ∀ (s q : Nat), s + d = w → d < q →
    m_gf256_MulAdd_l1 (tb w S) c (tE, tL) q (tb w (maS D S c s)) (s : Int) = some (tb w fun t => D t ^^^ gm c (S t), 0) := by
  induction d with
  | zero =>
    intro s q hs hq
    obtain ⟨q, rfl⟩ : ∃ q', q = q' + 1 := ⟨q - 1, by omega⟩
    obtain rfl : s = w := by omega
    unfold m_gf256_MulAdd_l1
    rw [tb_len, if_neg (by omega), m_gf256_MulAdd_j0]
    rw [tb_ext (F := maS D S c s) (G := fun t => D t ^^^ gm c (S t)) fun t ht => if_pos ht]
  | succ d ih =>
    intro s q hs hq
    obtain ⟨q, rfl⟩ : ∃ q', q = q' + 1 := ⟨q - 1, by omega⟩
    have hsw : s < w := by omega
    have ih' := ih (s + 1) q (by omega) (by omega)
    unfold m_gf256_MulAdd_l1
    rw [tb_len, if_pos (by omega), idx_tb hsw, Option.bind_some]
    by_cases h0 : c = 0#8
    · rw [if_pos h0, m_gf256_MulAdd_j2, if_neg (by decide), ck_succ (by omega), Option.bind_some, maS_same (by rw [h0, gm_zeroL])]
      exact ih'
    · rw [if_neg h0, m_gf256_MulAdd_j2]
      by_cases h1 : S s = 0#8
      · rw [if_neg (by simp [h1]), ck_succ (by omega), Option.bind_some, maS_same (by rw [h1, gm_zeroR])]
        exact ih'
      · obtain ⟨t1, t2⟩ := tE_mul h0 h1
        have e0 : maS D S c s s = D s := if_neg (by omega)
        rw [if_pos (by simp [h1]), idx_tb hsw, Option.bind_some]
        simp only []
        rw [tL_idx, Option.bind_some, tL_idx, Option.bind_some, t1, Option.bind_some, t2, Option.bind_some, Option.bind_some, e0, upd_tb hsw, Option.bind_some, ck_succ (by omega), Option.bind_some, maS_step]
        exact ih'
theorem muladd_ok {w : Nat} (hw : w ≤ 1000) (D S : Nat → BitVec 8) (c : BitVec 8) : m_gf256_MulAdd (tb w D) (tb w S) c = some (tb w fun t => D t ^^^ gm c (S t), 0) := by
  unfold m_gf256_MulAdd
  rw [tb_len, tb_len, if_pos rfl, tab_ok, Option.bind_some, apd1_of (by rw [tb_len]; simp; omega), Option.bind_some, List.nil_append]
  have e : maS D S c 0 = D := by funext t; exact if_neg (by omega)
  have := muladd_loop hw D S c w 0 forever (by omega) (by unfold forever; omega)
  rw [e] at this
  exact this
theorem rmuladd_loop {w : Nat} (hw : w ≤ 1000) (D S : Nat → BitVec 8) (c : BitVec 8) (d : Nat) : ∀ (s q : Nat), s + d = w → d < q →
    m_r02_MulAdd_l1 (tb w D) (tb w S) c q (tb s fun t => D t ^^^ gm c (S t)) (s : Int) = some (tb w fun t => D t ^^^ gm c (S t), 0) := by
  induction d with
  | zero =>
    intro s q hs hq
    obtain ⟨q, rfl⟩ : ∃ q', q = q' + 1 := ⟨q - 1, by omega⟩
    obtain rfl : s = w := by omega
    unfold m_r02_MulAdd_l1
    rw [tb_len, if_neg (by omega), m_r02_MulAdd_j0]
  | succ d ih =>
    intro s q hs hq
    obtain ⟨q, rfl⟩ : ∃ q', q = q' + 1 := ⟨q - 1, by omega⟩
    have hsw : s < w := by omega
    unfold m_r02_MulAdd_l1
    rw [tb_len, if_pos (by omega), idx_tb hsw, Option.bind_some, idx_tb hsw, Option.bind_some, ref_mul, Option.bind_some, apd_tb (by omega) (by omega) rfl, Option.bind_some, ck_succ (by omega), Option.bind_some]
    exact ih (s + 1) q (by omega) (by omega)
theorem rmuladd_ok {w : Nat} (hw : w ≤ 1000) (D S : Nat → BitVec 8) (c : BitVec 8) : m_r02_MulAdd (tb w D) (tb w S) c = some (tb w fun t => D t ^^^ gm c (S t), 0) := by
  unfold m_r02_MulAdd
  rw [tb_len, tb_len, if_pos rfl]
  exact rmuladd_loop hw D S c w 0 forever (by omega) (by unfold forever; omega)

/-! ### Apply -/
abbrev LR := List (List (BitVec 8)) × Int
def badL : LR := ([], 1)
section
variable {R C w : Nat} (M B : Mx)
/-- row i so far -/
def apR (M B : Mx) (w i k : Nat) : List (BitVec 8) := tb w fun t => sm k fun j => gm (M i j) (B j t)
theorem apR_succ (M B : Mx) (w i k : Nat) : (tb w fun t => (sm k fun j => gm (M i j) (B j t)) ^^^ gm (M i k) (B k t)) = apR M B w i (k + 1) := rfl
theorem apply_l6 (hR : R ≤ 16) (hC : C ≤ 16) (hw : w ≤ 1000) {i : Nat} (hi : i < R) (za : Int) (G : Nat → List (BitVec 8)) (r4 : List (List (BitVec 8)) → Int → Option LR) (d : Nat) : ∀ (k q : Nat), k + d = C → d < q →
    m_gfmatrix_Apply_l6 za (C : Int) (tb (R * C) (ml C M)) (tb C fun j => tb w (B j)) (i : Int) r4 q (tb R (st G i (apR M B w i k))) (k : Int) = r4 (tb R (st G i (apR M B w i C))) ((i + 1 : Nat) : Int) := by
  induction d with
  | zero =>
    intro k q hk hq
    obtain ⟨q, rfl⟩ : ∃ q', q = q' + 1 := ⟨q - 1, by omega⟩
    obtain rfl : k = C := by omega
    unfold m_gfmatrix_Apply_l6
    rw [tb_len, if_neg (by omega), m_gfmatrix_Apply_j5, ck_succ (by omega), Option.bind_some]
  | succ d ih =>
    intro k q hk hq
    obtain ⟨q, rfl⟩ : ∃ q', q = q' + 1 := ⟨q - 1, by omega⟩
    have hkC : k < C := by omega
    unfold m_gfmatrix_Apply_l6
    rw [tb_len, if_pos (by omega), idx_tb hkC, Option.bind_some, idx_tb hi, Option.bind_some, st_same, at_ok hC (by omega) (by omega) (cell_lt hi hkC), Option.bind_some, ml_cell _ _ hkC]
    rw [apR, muladd_ok hw, Option.bind_some, Option.bind_some]
    simp only []
    rw [upd_tb hi, Option.bind_some, ck_succ (by omega), Option.bind_some, st_st, apR_succ]
    exact ih (k + 1) q (by omega) (by omega)
def apP (M B : Mx) (w C i : Nat) : Nat → List (BitVec 8) := fun t => if t < i then apR M B w t C else []
theorem apP_succ (M B : Mx) (w C i : Nat) : st (apP M B w C i) i (apR M B w i C) = apP M B w C (i + 1) := by
  funext t
  unfold st apP
  by_cases h : t = i
  · subst h; rw [if_pos rfl, if_pos (by omega)]
  · rw [if_neg h]
    by_cases h2 : t < i
    · rw [if_pos h2, if_pos (by omega)]
    · rw [if_neg h2, if_neg (by omega)]
theorem apply_l4 (hR : R ≤ 16) (hC : C ≤ 16) (hC0 : 0 < C) (hw : w ≤ 1000) (za : Int) (zl : List (List (BitVec 8))) (hz : zl.length = R) (d : Nat) : ∀ (i q : Nat), i + d = R → d < q →
    m_gfmatrix_Apply_l4 za (C : Int) (tb (R * C) (ml C M)) (tb C fun j => tb w (B j)) zl q (tb R (apP M B w C i)) (i : Int) = some (tb R fun i => tb w (mm C M B i), 0) := by
  induction d with
  | zero =>
    intro i q hi hq
    obtain ⟨q, rfl⟩ : ∃ q', q = q' + 1 := ⟨q - 1, by omega⟩
    obtain rfl : i = R := by omega
    unfold m_gfmatrix_Apply_l4
    rw [if_neg (by omega), m_gfmatrix_Apply_j3, tb_ext (F := apP M B w C i) (G := fun i => tb w (mm C M B i)) fun t ht => if_pos ht]
  | succ d ih =>
    intro i q hi hq
    obtain ⟨q, rfl⟩ : ∃ q', q = q' + 1 := ⟨q - 1, by omega⟩
    have hiR : i < R := by omega
    have e0 : idx (tb C fun j => tb w (B j)) (0 : Int) = some (tb w (B 0)) := idx_tb (i := 0) hC0
    unfold m_gfmatrix_Apply_l4
    rw [if_pos (by omega), e0, Option.bind_some, tb_len, mks_tb (by omega) (by omega), Option.bind_some, idx_tb hiR, Option.bind_some, upd_tb hiR, Option.bind_some]
    have := apply_l6 M B hR hC hw hiR za (apP M B w C i) (m_gfmatrix_Apply_l4 za (C : Int) (tb (R * C) (ml C M)) (tb C fun j => tb w (B j)) zl q) C 0 forever (by omega) (by unfold forever; omega)
    refine this.trans ?_
    rw [apP_succ]
    exact ih (i + 1) q (by omega) (by omega)
theorem apply_l2 (hC0 : 0 < C) (hC : C ≤ 16) (za zb : Int) (x : List (BitVec 8)) (d : Nat) : ∀ (i q : Nat), i + d = C → d < q →
    m_gfmatrix_Apply_l2 za zb x (tb C fun j => tb w (B j)) q (i : Int) = m_gfmatrix_Apply_j1 za zb x (tb C fun j => tb w (B j)) := by
  induction d with
  | zero =>
    intro i q hi hq
    obtain ⟨q, rfl⟩ : ∃ q', q = q' + 1 := ⟨q - 1, by omega⟩
    unfold m_gfmatrix_Apply_l2
    rw [tb_len, if_neg (by omega)]
  | succ d ih =>
    intro i q hi hq
    obtain ⟨q, rfl⟩ : ∃ q', q = q' + 1 := ⟨q - 1, by omega⟩
    have e0 : idx (tb C fun j => tb w (B j)) (0 : Int) = some (tb w (B 0)) := idx_tb (i := 0) hC0
    unfold m_gfmatrix_Apply_l2
    rw [tb_len, if_pos (by omega), idx_tb (by omega), Option.bind_some, e0, Option.bind_some, tb_len, tb_len, if_pos rfl, ck_succ (by omega), Option.bind_some]
    exact ih (i + 1) q (by omega) (by omega)
theorem apply_ok (hR : dims R) (hC : dims C) (hw : w ≤ 1000) : m_gfmatrix_Apply (R : Int) (C : Int) (tb (R * C) (ml C M)) (tb C fun j => tb w (B j)) = some (tb R fun i => tb w (mm C M B i), 0) := by
  have hR2 := hR.2
  have hC2 := hC.2
  unfold m_gfmatrix_Apply
  rw [valid_ok, Option.bind_some, if_pos (decide_eq_true (nat_vd ⟨hR.1, hR.2, hC.1, hC.2⟩)), tb_len, if_pos rfl, m_gfmatrix_Apply_j0]
  refine (apply_l2 B hC.1 hC.2 _ _ _ C 0 forever (by omega) (by unfold forever; omega)).trans ?_
  unfold m_gfmatrix_Apply_j1
  rw [mks_tb (by omega) (by omega), Option.bind_some]
  have e : (tb R fun _ => ([] : List (BitVec 8))) = tb R (apP M B w C 0) := tb_ext fun t ht => (if_neg (by omega)).symm
  have := apply_l4 M B hR.2 hC.2 hC.1 hw (R : Int) (tb R fun _ => []) (tb_len _ _) R 0 forever (by omega) (by unfold forever; omega)
  rw [← e] at this
  exact this
theorem rapply_l7 (hR : R ≤ 16) (hC : C ≤ 16) (hw : w ≤ 1000) {i : Nat} (hi : i < R) (o : List (List (BitVec 8))) (r4 : List (List (BitVec 8)) → Int → Option LR) (d : Nat) : ∀ (k q : Nat), k + d = C → d < q →
    m_r03_Apply_l7 (C : Int) (tb (R * C) (ml C M)) (tb C fun j => tb w (B j)) o (i : Int) r4 q (apR M B w i k) (k : Int) = m_r03_Apply_j6 o (i : Int) r4 (apR M B w i C) := by
  induction d with
  | zero =>
    intro k q hk hq
    obtain ⟨q, rfl⟩ : ∃ q', q = q' + 1 := ⟨q - 1, by omega⟩
    obtain rfl : k = C := by omega
    unfold m_r03_Apply_l7
    rw [if_neg (by omega)]
  | succ d ih =>
    intro k q hk hq
    obtain ⟨q, rfl⟩ : ∃ q', q = q' + 1 := ⟨q - 1, by omega⟩
    have hkC : k < C := by omega
    have m1 := mul16 (show i ≤ 16 by omega) hC
    unfold m_r03_Apply_l7
    rw [if_pos (by omega), idx_tb hkC, Option.bind_some, ck_mul (by omega), Option.bind_some, ck_add (by omega), Option.bind_some, idx_tb (cell_lt hi hkC), Option.bind_some, ml_cell _ _ hkC]
    rw [apR, rmuladd_ok hw, Option.bind_some]
    simp only []
    rw [ck_succ (by omega), Option.bind_some, apR_succ]
    exact ih (k + 1) q (by omega) (by omega)
theorem rapply_l4 (hR : R ≤ 16) (hC : C ≤ 16) (hC0 : 0 < C) (hw : w ≤ 1000) (d : Nat) : ∀ (i q : Nat), i + d = R → d < q →
    m_r03_Apply_l4 (R : Int) (C : Int) (tb (R * C) (ml C M)) (tb C fun j => tb w (B j)) q (tb i fun i => tb w (mm C M B i)) (i : Int) = some (tb R fun i => tb w (mm C M B i), 0) := by
  induction d with
  | zero =>
    intro i q hi hq
    obtain ⟨q, rfl⟩ : ∃ q', q = q' + 1 := ⟨q - 1, by omega⟩
    obtain rfl : i = R := by omega
    unfold m_r03_Apply_l4
    rw [if_neg (by omega), m_r03_Apply_j3]
  | succ d ih =>
    intro i q hi hq
    obtain ⟨q, rfl⟩ : ∃ q', q = q' + 1 := ⟨q - 1, by omega⟩
    have hiR : i < R := by omega
    have e0 : idx (tb C fun j => tb w (B j)) (0 : Int) = some (tb w (B 0)) := idx_tb (i := 0) hC0
    unfold m_r03_Apply_l4
    rw [if_pos (by omega), e0, Option.bind_some, tb_len, mks_tb (by omega) (by omega), Option.bind_some]
    have := rapply_l7 M B hR hC hw hiR (tb i fun i => tb w (mm C M B i)) (m_r03_Apply_l4 (R : Int) (C : Int) (tb (R * C) (ml C M)) (tb C fun j => tb w (B j)) q) C 0 forever (by omega) (by unfold forever; omega)
    refine this.trans ?_
    unfold m_r03_Apply_j6
    rw [apd_tb (F := fun i => tb w (mm C M B i)) (v := apR M B w i C) (by omega) (by omega) rfl, Option.bind_some, m_r03_Apply_j5, ck_succ (by omega), Option.bind_some]
    exact ih (i + 1) q (by omega) (by omega)
theorem rapply_l2 (hC0 : 0 < C) (hC : C ≤ 16) (za zb : Int) (x : List (BitVec 8)) (d : Nat) : ∀ (i q : Nat), i + d = C → d < q →
    m_r03_Apply_l2 za zb x (tb C fun j => tb w (B j)) q (i : Int) = m_r03_Apply_j1 za zb x (tb C fun j => tb w (B j)) := by
  induction d with
  | zero =>
    intro i q hi hq
    obtain ⟨q, rfl⟩ : ∃ q', q = q' + 1 := ⟨q - 1, by omega⟩
    unfold m_r03_Apply_l2
    rw [tb_len, if_neg (by omega)]
  | succ d ih =>
    intro i q hi hq
    obtain ⟨q, rfl⟩ : ∃ q', q = q' + 1 := ⟨q - 1, by omega⟩
    have e0 : idx (tb C fun j => tb w (B j)) (0 : Int) = some (tb w (B 0)) := idx_tb (i := 0) hC0
    unfold m_r03_Apply_l2
    rw [tb_len, if_pos (by omega), idx_tb (by omega), Option.bind_some, e0, Option.bind_some, tb_len, tb_len, if_pos rfl, ck_succ (by omega), Option.bind_some]
    exact ih (i + 1) q (by omega) (by omega)
theorem rapply_ok (hR : dims R) (hC : dims C) (hw : w ≤ 1000) : m_r03_Apply (R : Int) (C : Int) (tb (R * C) (ml C M)) (tb C fun j => tb w (B j)) = some (tb R fun i => tb w (mm C M B i), 0) := by
  have hR2 := hR.2
  have hC2 := hC.2
  unfold m_r03_Apply
  rw [rvalid_ok, Option.bind_some, if_pos (decide_eq_true (nat_vd ⟨hR.1, hR.2, hC.1, hC.2⟩)), tb_len, if_pos rfl, m_r03_Apply_j0]
  refine (rapply_l2 B hC.1 hC.2 _ _ _ C 0 forever (by omega) (by unfold forever; omega)).trans ?_
  unfold m_r03_Apply_j1
  have := rapply_l4 M B hR.2 hC.2 hC.1 hw R 0 forever (by omega) (by unfold forever; omega)
  rw [tb_zero] at this
  exact this
end
/-- rows of different lengths -/
theorem apply_ne {C : Nat} (hC : C ≤ 16) (za zb : Int) (x : List (BitVec 8)) (l : List (List (BitVec 8))) (hl : l.length = C) (hne : ∃ t, t < C ∧ (l.getD t []).length ≠ (l.getD 0 []).length) (d : Nat) : ∀ (i q : Nat), i + d = C → d < q → (∀ t, t < i → (l.getD t []).length = (l.getD 0 []).length) →
    m_gfmatrix_Apply_l2 za zb x l q (i : Int) = some badL ∧ m_r03_Apply_l2 za zb x l q (i : Int) = some badL := by
  induction d with
  | zero =>
    intro i q hi hq h
    obtain ⟨t, ht, h2⟩ := hne
    exact absurd (h t (by omega)) h2
  | succ d ih =>
    intro i q hi hq h
    obtain ⟨q, rfl⟩ : ∃ q', q = q' + 1 := ⟨q - 1, by omega⟩
    have e0 : idx l (0 : Int) = some (l.getD 0 []) := idx_getD (i := 0) [] (by omega)
    unfold m_gfmatrix_Apply_l2 m_r03_Apply_l2
    rw [if_pos (by omega), if_pos (by omega), idx_getD [] (by omega), Option.bind_some, Option.bind_some, e0, Option.bind_some, Option.bind_some]
    by_cases e : (l.getD i []).length = (l.getD 0 []).length
    · rw [if_pos (by rw [e]), if_pos (by rw [e]), ck_succ (by omega), Option.bind_some, Option.bind_some]
      exact ih (i + 1) q (by omega) (by omega) (fun t ht => by
        by_cases h2 : t = i
        · rw [h2]; exact e
        · exact h t (by omega))
    · rw [if_neg (fun h2 => e (by omega)), if_neg (fun h2 => e (by omega))]
      exact ⟨rfl, rfl⟩
theorem apply_eq (a b : Int) (x : List (BitVec 8)) (l : List (List (BitVec 8))) (h300 : ∀ t, t < l.length → (l.getD t []).length ≤ 300) : ∃ r, m_gfmatrix_Apply a b x l = some r ∧ m_r03_Apply a b x l = some r ∧ r.1.length ≤ 16 := by
  by_cases h : vd a b x ∧ (l.length : Int) = b
  · obtain ⟨hv, hl⟩ := h
    have hv' := hv
    obtain ⟨R, C, F, rfl, rfl, r1, r2, c1, c2, rfl⟩ := vd_nat hv
    have hlC : l.length = C := by omega
    by_cases hall : ∀ t, t < C → (l.getD t []).length = (l.getD 0 []).length
    · have e : l = tb C fun j => tb (l.getD 0 []).length fun t => (l.getD j []).getD t 0#8 := (tb_of [] hlC).trans (tb_ext fun t ht => tb_of 0#8 (hall t ht))
      have hw := h300 0 (by omega)
      generalize (l.getD 0 []).length = w at e hw
      have e2 : l = tb C fun j => tb w ((fun j t => (l.getD j []).getD t 0#8 : Mx) j) := e
      generalize (fun j t => (l.getD j []).getD t 0#8 : Mx) = B at e2
      subst e2
      rw [tb_mat]
      exact ⟨_, apply_ok _ B ⟨r1, r2⟩ ⟨c1, c2⟩ (by omega), rapply_ok _ B ⟨r1, r2⟩ ⟨c1, c2⟩ (by omega), by rw [tb_len]; exact r2⟩
    · have hne : ∃ t, t < C ∧ (l.getD t []).length ≠ (l.getD 0 []).length := Classical.byContradiction fun hc => hall fun t ht => Classical.byContradiction fun h2 => hc ⟨t, ht, h2⟩
      have := apply_ne c2 (R : Int) (C : Int) (tb (R * C) F) l hlC hne C 0 forever (by omega) (by unfold forever; omega) (fun t ht => by omega)
      refine ⟨badL, ?_, ?_, by simp [badL]⟩
      · unfold m_gfmatrix_Apply
        rw [valid_ok, Option.bind_some, if_pos (decide_eq_true hv'), if_pos hl, m_gfmatrix_Apply_j0]
        exact this.1
      · unfold m_r03_Apply
        rw [rvalid_ok, Option.bind_some, if_pos (decide_eq_true hv'), if_pos hl, m_r03_Apply_j0]
        exact this.2
  · refine ⟨badL, ?_, ?_, by simp [badL]⟩
    · unfold m_gfmatrix_Apply
      rw [valid_ok, Option.bind_some]
      by_cases h1 : vd a b x
      · rw [if_pos (decide_eq_true h1), if_neg (fun e => h ⟨h1, e⟩)]; rfl
      · rw [if_neg (by simpa using h1)]; rfl
    · unfold m_r03_Apply
      rw [rvalid_ok, Option.bind_some]
      by_cases h1 : vd a b x
      · rw [if_pos (decide_eq_true h1), if_neg (fun e => h ⟨h1, e⟩)]; rfl
      · rw [if_neg (by simpa using h1)]; rfl

/-! ### the statements -/
theorem samerows_loop (x : List (List (BitVec 8))) (hx : x.length ≤ 1000) (d : Nat) : ∀ (i q : Nat), i + d = x.length → d < q → m_r03_SameRows_l1 x x q (i : Int) = some true := by
  induction d with
  | zero =>
    intro i q hi hq
    obtain ⟨q, rfl⟩ : ∃ q', q = q' + 1 := ⟨q - 1, by omega⟩
    unfold m_r03_SameRows_l1
    rw [if_neg (by omega)]; rfl
  | succ d ih =>
    intro i q hi hq
    obtain ⟨q, rfl⟩ : ∃ q', q = q' + 1 := ⟨q - 1, by omega⟩
    unfold m_r03_SameRows_l1
    rw [if_pos (by omega), idx_getD [] (by omega), Option.bind_some, Option.bind_some, if_pos rfl, ck_succ (by omega), Option.bind_some]
    exact ih (i + 1) q (by omega) (by omega)
theorem samerows_ok (x : List (List (BitVec 8))) (hx : x.length ≤ 1000) : m_r03_SameRows x x = some true := by
  unfold m_r03_SameRows
  rw [if_pos rfl]
  exact samerows_loop x hx x.length 0 forever (by omega) (by unfold forever; omega)
end Go.Proofs.Ytnbcphofimicdaa
