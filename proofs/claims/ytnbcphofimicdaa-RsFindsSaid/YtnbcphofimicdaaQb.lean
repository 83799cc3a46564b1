/-
  Lists as functions on numbers; loops over matrices: what Valid, Identity, Vandermonde, Mul, Pick compute, in the program and in the reference. Conditions: as each theorem says.
-/
import Derived.Test.YtnbcphofimicdaaQt
import Derived.Test.YtnbcphofimicdaaMdc
namespace Go.Proofs.Ytnbcphofimicdaa
set_option linter.unusedVariables false
set_option linter.unusedSimpArgs false

/-! ### lists as functions -/
def tb {α : Type} (n : Nat) (F : Nat → α) : List α := (List.range n).map F
theorem tb_len {α : Type} (n : Nat) (F : Nat → α) : (tb n F).length = n := by simp [tb]
theorem tb_get {α : Type} {n i : Nat} {F : Nat → α} (h : i < n) : (tb n F)[i]? = some (F i) := by simp [tb, h]
theorem tb_ext {α : Type} {n : Nat} {F G : Nat → α} (h : ∀ t, t < n → F t = G t) : tb n F = tb n G := by
  unfold tb; exact List.map_congr_left fun t ht => h t (List.mem_range.1 ht)
theorem tb_of {α : Type} {l : List α} {n : Nat} (d : α) (h : l.length = n) : l = tb n (fun t => l.getD t d) := by
  apply List.ext_getElem?
  intro i
  by_cases hi : i < n
  · rw [tb_get hi, List.getD_eq_getElem?_getD, List.getElem?_eq_getElem (by omega)]; rfl
  · rw [List.getElem?_eq_none (by omega), List.getElem?_eq_none (by rw [tb_len]; omega)]
theorem tb_inj {α : Type} {n : Nat} {F G : Nat → α} (h : tb n F = tb n G) : ∀ t, t < n → F t = G t := fun t ht => by
  have := congrArg (fun l => l[t]?) h
  simp only [tb_get ht] at this
  injection this
theorem tb_zero {α : Type} (F : Nat → α) : tb 0 F = [] := rfl
theorem idx_tb {α : Type} {n i : Nat} {F : Nat → α} (h : i < n) : idx (tb n F) (i : Int) = some (F i) := by rw [idx_nat, tb_get h]
def st {α : Type} (F : Nat → α) (p : Nat) (v : α) : Nat → α := fun t => if t = p then v else F t
theorem st_st {α : Type} (F : Nat → α) (p : Nat) (v w : α) : st (st F p v) p w = st F p w := by
  funext t; unfold st; split <;> rfl
theorem st_same {α : Type} (F : Nat → α) (p : Nat) (v : α) : st F p v p = v := if_pos rfl
theorem st_ne {α : Type} {F : Nat → α} {p t : Nat} {v : α} (h : t ≠ p) : st F p v t = F t := if_neg h
theorem set_tb {α : Type} {n i : Nat} {F : Nat → α} (v : α) : (tb n F).set i v = tb n (st F i v) := by
  apply List.ext_getElem?
  intro j
  rw [List.getElem?_set, tb_len]
  by_cases hj : j < n
  · rw [tb_get hj, tb_get hj]
    unfold st
    by_cases e : i = j
    · subst e; simp [hj]
    · rw [if_neg e, if_neg (fun h => e h.symm)]
  · rw [List.getElem?_eq_none (by rw [tb_len]; omega), List.getElem?_eq_none (by rw [tb_len]; omega)]
    split
    · split
      · omega
      · rfl
    · rfl
theorem upd_tb {α : Type} {n i : Nat} {F : Nat → α} {v : α} (h : i < n) : upd (tb n F) (i : Int) v = some (tb n (st F i v)) := by
  rw [upd_of (by rw [tb_len]; omega), ← set_tb]; rfl
theorem slc_tb {α : Type} {n lo hi : Nat} {F : Nat → α} (h1 : lo ≤ hi) (h2 : hi ≤ n) : slc (tb n F) (lo : Int) (hi : Int) = some (tb (hi - lo) fun t => F (lo + t)) := by
  rw [slc_of (by rw [tb_len]; omega)]
  congr 1
  apply List.ext_getElem?
  intro j
  rw [List.getElem?_take, List.getElem?_drop]
  by_cases hj : j < hi - lo
  · rw [if_pos (by omega), tb_get hj, show (lo : Int).toNat + j = lo + j by omega, tb_get (by omega)]
  · rw [if_neg (by omega), List.getElem?_eq_none (by rw [tb_len]; omega)]
theorem ups_tb {α : Type} {n lo hi i : Nat} {F : Nat → α} {v : α} (h1 : lo ≤ hi) (h2 : hi ≤ n) (h3 : i < hi - lo) : ups (tb n F) (lo : Int) (hi : Int) (i : Int) v = some (tb n (st F (lo + i) v)) := by
  rw [ups_of (by rw [tb_len]; omega), ← set_tb]
  rw [show ((lo : Int) + (i : Int)).toNat = lo + i by omega]
theorem apd_tb {α : Type} {B n : Nat} {F : Nat → α} {v : α} (hB : B ≤ 100) (hn : n ≤ 100000) (hv : F n = v) : apd B (tb n F) [v] = some (tb (n + 1) F) := by
  have hb : ((n + 1) + (n + 1) / 4 + 192) * B ≤ (100001 + 100001 / 4 + 192) * 100 := Nat.mul_le_mul (by omega) hB
  rw [apd_of (by rw [tb_len]; simp only [List.length_singleton]; omega)]
  unfold tb
  rw [List.range_succ, List.map_append, List.map_singleton, hv]
theorem apd_tb2 {n m : Nat} {F : Nat → BitVec 8} (hn : n + m ≤ 100000) : apd 1 (tb n F) (tb m fun t => F (n + t)) = some (tb (n + m) F) := by
  rw [apd1_of (by rw [tb_len, tb_len]; omega)]
  unfold tb
  rw [List.range_add, List.map_append, List.map_map]
  rfl
theorem mks_tb {B n : Nat} {α : Type} {z : α} (hB : B ≤ 100) (hn : n ≤ 100000) : mks B (n : Int) z = some (tb n fun _ => z) := by
  have hb : B * n ≤ 100 * 100000 := Nat.mul_le_mul hB hn
  rw [mks_of (by rw [show (n : Int).toNat = n by omega]; omega)]
  congr 1
  unfold tb
  apply List.ext_getElem?
  intro i
  rw [List.getElem?_replicate, List.getElem?_map]
  by_cases h : i < n
  · simp [h]
  · simp [h]

/-! ### numbers -/
theorem ck_nat {n : Nat} (h : n ≤ 1000000) : ck (n : Int) = some (n : Int) := ck_of (by omega)
theorem ck_mul {a b : Nat} (h : a * b ≤ 1000000) : ck ((a : Int) * (b : Int)) = some ((a * b : Nat) : Int) := by rw [← Int.natCast_mul]; exact ck_nat h
theorem ck_add {a b : Nat} (h : a + b ≤ 1000000) : ck ((a : Int) + (b : Int)) = some ((a + b : Nat) : Int) := by rw [← Int.natCast_add]; exact ck_nat h
theorem ck_succ {a : Nat} (h : a ≤ 999999) : ck ((a : Int) + 1) = some ((a + 1 : Nat) : Int) := ck_add (b := 1) (by omega)
theorem mul16 {a b : Nat} (ha : a ≤ 16) (hb : b ≤ 16) : a * b ≤ 256 := Nat.le_trans (Nat.mul_le_mul ha hb) (by omega)
theorem mul17 {a b : Nat} (ha : a ≤ 17) (hb : b ≤ 16) : a * b ≤ 272 := Nat.le_trans (Nat.mul_le_mul ha hb) (by omega)
theorem row_le {i C R : Nat} (h : i < R) : (i + 1) * C ≤ R * C := Nat.mul_le_mul_right _ (by omega)
theorem cell_lt {i k C R : Nat} (h : i < R) (hk : k < C) : i * C + k < R * C := by
  have := row_le (C := C) h; rw [Nat.add_mul] at this; omega
theorem cell_div {i k C : Nat} (hk : k < C) : (i * C + k) / C = i := by
  rw [Nat.add_comm, Nat.add_mul_div_right _ _ (by omega), Nat.div_eq_of_lt hk, Nat.zero_add]
theorem cell_mod {i k C : Nat} (hk : k < C) : (i * C + k) % C = k := by
  rw [Nat.add_comm, Nat.add_mul_mod_self_right, Nat.mod_eq_of_lt hk]
theorem div_lt' {t R C : Nat} (h : t < R * C) : t / C < R := Nat.div_lt_of_lt_mul (by rw [Nat.mul_comm]; exact h)
theorem mod_lt' {t R C : Nat} (h : t < R * C) : t % C < C := by
  rcases Nat.eq_zero_or_pos C with e | e
  · subst e; exact absurd h (by simp)
  · exact Nat.mod_lt _ e
theorem div_mod' (t C : Nat) : t / C * C + t % C = t := by rw [Nat.mul_comm]; exact Nat.div_add_mod t C

theorem row_ok {R : Int} {C i : Nat} (hC : C ≤ 16) (hi : i < 16) : m_gfmatrix_Matrix_row R (C : Int) (i : Int) = some (((i * C : Nat) : Int), (((i + 1) * C : Nat) : Int)) := by
  have h1 := mul16 (show i ≤ 16 by omega) hC
  have h2 := mul16 (show i + 1 ≤ 16 by omega) hC
  unfold m_gfmatrix_Matrix_row
  rw [ck_mul (by omega), Option.bind_some, ck_succ (by omega), Option.bind_some, ck_mul (by omega), Option.bind_some]
theorem at_ok {R : Int} {n C i k : Nat} {F : Nat → BitVec 8} (hC : C ≤ 16) (hi : i < 16) (hk : k ≤ 16) (h : i * C + k < n) : m_gfmatrix_Matrix_at R (C : Int) (tb n F) (i : Int) (k : Int) = some (F (i * C + k)) := by
  have h1 := mul16 (show i ≤ 16 by omega) hC
  unfold m_gfmatrix_Matrix_at
  rw [ck_mul (by omega), Option.bind_some, ck_add (by omega), Option.bind_some, idx_tb h, Option.bind_some]

/-! ### sizes -/
def okd (z : Int) : Prop := 1 ≤ z ∧ z ≤ 16
instance (z : Int) : Decidable (okd z) := inferInstanceAs (Decidable (_ ∧ _))
def vd (a b : Int) (l : List (BitVec 8)) : Prop := okd a ∧ okd b ∧ (l.length : Int) = a * b
instance (a b : Int) (l : List (BitVec 8)) : Decidable (vd a b l) := inferInstanceAs (Decidable (_ ∧ _))
theorem mayHave_ok (z : Int) : m_gfmatrix_mayHave z = some (decide (okd z)) := by
  unfold m_gfmatrix_mayHave okd
  split
  · rename_i h; simp [h]
  · rename_i h; simp [h]
theorem size_ok (a b : Int) : m_r03_size a b = some (decide (okd a ∧ okd b)) := by
  unfold m_r03_size okd
  split
  · rename_i h
    split
    · rename_i h2
      split
      · rename_i h3; simp [h, h2, h3]
      · rename_i h3; simp [h3]
    · rename_i h2; simp [h2]
  · rename_i h; simp [h]
theorem prod_ck {a b : Int} (ha : okd a) (hb : okd b) : ck (a * b) = some (a * b) := by
  obtain ⟨a, rfl⟩ := Int.eq_ofNat_of_zero_le (show 0 ≤ a by have := ha.1; omega)
  obtain ⟨b, rfl⟩ := Int.eq_ofNat_of_zero_le (show 0 ≤ b by have := hb.1; omega)
  have := mul16 (a := a) (b := b) (by have := ha.2; omega) (by have := hb.2; omega)
  rw [ck_mul (by omega), Int.natCast_mul]
theorem valid_ok (a b : Int) (l : List (BitVec 8)) : m_gfmatrix_Valid a b l = some (decide (vd a b l)) := by
  unfold m_gfmatrix_Valid vd
  rw [mayHave_ok, Option.bind_some]
  by_cases ha : okd a
  · rw [if_pos (decide_eq_true ha), mayHave_ok, Option.bind_some]
    by_cases hb : okd b
    · rw [if_pos (decide_eq_true hb), prod_ck ha hb, Option.bind_some]
      simp only [ha, hb, true_and]; rfl
    · rw [if_neg (by simpa using hb)]; simp [hb]
  · rw [if_neg (by simpa using ha)]; simp [ha]
theorem rvalid_ok (a b : Int) (l : List (BitVec 8)) : m_r03_Valid a b l = some (decide (vd a b l)) := by
  unfold m_r03_Valid vd
  rw [size_ok, Option.bind_some]
  by_cases h : okd a ∧ okd b
  · rw [if_pos (decide_eq_true h), prod_ck h.1 h.2, Option.bind_some]
    simp only [h.1, h.2, true_and]; rfl
  · rw [if_neg (by simpa using h)]
    have : ¬ (okd a ∧ okd b ∧ (l.length : Int) = a * b) := fun e => h ⟨e.1, e.2.1⟩
    simp [this]
/-- a valid matrix in numbers and a function -/
theorem vd_nat {a b : Int} {l : List (BitVec 8)} (h : vd a b l) : ∃ (R C : Nat) (F : Nat → BitVec 8), a = R ∧ b = C ∧ 1 ≤ R ∧ R ≤ 16 ∧ 1 ≤ C ∧ C ≤ 16 ∧ l = tb (R * C) F := by
  obtain ⟨⟨h1, h2⟩, ⟨h3, h4⟩, h5⟩ := h
  obtain ⟨R, rfl⟩ := Int.eq_ofNat_of_zero_le (show 0 ≤ a by omega)
  obtain ⟨C, rfl⟩ := Int.eq_ofNat_of_zero_le (show 0 ≤ b by omega)
  refine ⟨R, C, _, rfl, rfl, by omega, by omega, by omega, by omega, tb_of 0#8 ?_⟩
  exact_mod_cast h5
theorem nat_vd {R C : Nat} {F : Nat → BitVec 8} (h : 1 ≤ R ∧ R ≤ 16 ∧ 1 ≤ C ∧ C ≤ 16) : vd R C (tb (R * C) F) := by
  refine ⟨⟨by omega, by omega⟩, ⟨by omega, by omega⟩, ?_⟩
  rw [tb_len, Int.natCast_mul]
theorem okd_nat {a : Int} (h : okd a) : ∃ R : Nat, a = R ∧ 1 ≤ R ∧ R ≤ 16 := by
  obtain ⟨R, rfl⟩ := Int.eq_ofNat_of_zero_le (show 0 ≤ a by have := h.1; omega)
  exact ⟨R, rfl, by have := h.1; omega, by have := h.2; omega⟩
theorem nat_okd {R : Nat} (h : 1 ≤ R ∧ R ≤ 16) : okd (R : Int) := ⟨by omega, by omega⟩
theorem empty_ok {R C : Nat} (hR : R ≤ 16) (hC : C ≤ 16) : m_gfmatrix_empty (R : Int) (C : Int) = some ((R : Int), (C : Int), tb (R * C) fun _ => 0#8) := by
  have := mul16 hR hC
  unfold m_gfmatrix_empty
  rw [ck_mul (by omega), Option.bind_some, mks_tb (by omega) (by omega), Option.bind_some]
/-- done up to m -/
def pre (F : Nat → BitVec 8) (m : Nat) : Nat → BitVec 8 := fun t => if t < m then F t else 0#8
theorem pre_zero (F : Nat → BitVec 8) : pre F 0 = fun _ => 0#8 := by funext t; simp [pre]
theorem pre_succ (F : Nat → BitVec 8) (m : Nat) : st (pre F m) m (F m) = pre F (m + 1) := by
  funext t
  unfold st pre
  by_cases h : t = m
  · subst h; simp
  · rw [if_neg h]
    by_cases h2 : t < m
    · rw [if_pos h2, if_pos (by omega)]
    · rw [if_neg h2, if_neg (by omega)]
theorem pre_id (F : Nat → BitVec 8) (m : Nat) : st (pre F m) m 0#8 = pre F m := by
  funext t
  unfold st pre
  by_cases h : t = m
  · subst h; simp
  · rw [if_neg h]
theorem pre_all (F : Nat → BitVec 8) (n : Nat) : tb n (pre F n) = tb n F := tb_ext fun t ht => if_pos ht

/-! ### the identity -/
def idF (n : Nat) : Nat → BitVec 8 := fun t => if t / n = t % n then 1#8 else 0#8
/-- the unit rows up to i -/
def idP (n i : Nat) : Nat → BitVec 8 := fun t => if t / n = t % n ∧ t / n < i then 1#8 else 0#8
theorem idP_succ {n i : Nat} (h : i < n) : st (idP n i) (i * n + i) 1#8 = idP n (i + 1) := by
  funext t
  unfold st idP
  by_cases e : t = i * n + i
  · subst e; rw [if_pos rfl, cell_div h, cell_mod h, if_pos (by omega)]
  · rw [if_neg e]
    by_cases h2 : t / n = t % n
    · have : t / n ≠ i := fun e2 => e (by have := div_mod' t n; rw [← h2, e2] at this; exact this.symm)
      by_cases h3 : t / n < i
      · rw [if_pos ⟨h2, h3⟩, if_pos ⟨h2, by omega⟩]
      · rw [if_neg (fun h => h3 h.2), if_neg (fun h => by omega)]
    · rw [if_neg (fun h => h2 h.1), if_neg (fun h => h2 h.1)]
theorem idP_all (n : Nat) : tb (n * n) (idP n n) = tb (n * n) (idF n) := tb_ext fun t ht => by
  have := div_lt' ht
  unfold idP idF
  by_cases h : t / n = t % n
  · rw [if_pos ⟨h, this⟩, if_pos h]
  · rw [if_neg (fun e => h e.1), if_neg h]
theorem idP_zero (n : Nat) : idP n 0 = fun _ => 0#8 := by funext t; simp [idP]
theorem ident_loop {n : Nat} (hn : n ≤ 16) : ∀ (d i q : Nat), i + d = n → d < q → m_gfmatrix_Identity_l1 (n : Int) ((n : Int), (n : Int), tb (n * n) fun _ => 0#8) q (tb (n * n) (idP n i)) (i : Int) = some ((n : Int), (n : Int), tb (n * n) (idF n), 0) := by
  intro d
  induction d with
  | zero =>
    intro i q hi hq
    obtain ⟨q, rfl⟩ : ∃ q', q = q' + 1 := ⟨q - 1, by omega⟩
    obtain rfl : i = n := by omega
    unfold m_gfmatrix_Identity_l1
    rw [if_neg (by omega), m_gfmatrix_Identity_j0, idP_all]
  | succ d ih =>
    intro i q hi hq
    obtain ⟨q, rfl⟩ : ∃ q', q = q' + 1 := ⟨q - 1, by omega⟩
    have hin : i < n := by omega
    have h1 := row_le (C := n) hin
    have h2 : i * n ≤ (i + 1) * n := Nat.mul_le_mul_right _ (by omega)
    have h3 : (i + 1) * n - i * n = n := by rw [Nat.add_mul]; omega
    unfold m_gfmatrix_Identity_l1
    rw [if_pos (by omega), row_ok hn (by omega), Option.bind_some]
    simp only []
    rw [slc_tb h2 h1, Option.bind_some, Option.bind_some, idx_tb (by omega), Option.bind_some, ups_tb h2 h1 (by omega), Option.bind_some, ck_succ (by omega), Option.bind_some, idP_succ hin]
    exact ih (i + 1) q (by omega) (by omega)
theorem rident_loop {n : Nat} (hn : n ≤ 16) : ∀ (d i q : Nat), i + d = n → d < q → m_r03_Identity_l1 (n : Int) q (tb (n * n) (idP n i)) (i : Int) = some ((n : Int), (n : Int), tb (n * n) (idF n), 0) := by
  intro d
  induction d with
  | zero =>
    intro i q hi hq
    obtain ⟨q, rfl⟩ : ∃ q', q = q' + 1 := ⟨q - 1, by omega⟩
    obtain rfl : i = n := by omega
    unfold m_r03_Identity_l1
    rw [if_neg (by omega), m_r03_Identity_j0, idP_all]
  | succ d ih =>
    intro i q hi hq
    obtain ⟨q, rfl⟩ : ∃ q', q = q' + 1 := ⟨q - 1, by omega⟩
    have hin : i < n := by omega
    have h1 := mul16 (show i ≤ 16 by omega) hn
    have h2 := cell_lt hin hin
    unfold m_r03_Identity_l1
    rw [if_pos (by omega), ck_mul (by omega), Option.bind_some, ck_add (by omega), Option.bind_some, idx_tb h2, Option.bind_some, upd_tb h2, Option.bind_some, ck_succ (by omega), Option.bind_some, idP_succ hin]
    exact ih (i + 1) q (by omega) (by omega)
def bad : Int × Int × List (BitVec 8) × Int := (0, 0, [], 1)
theorem ident_ok {n : Nat} (h : 1 ≤ n ∧ n ≤ 16) : m_gfmatrix_Identity (n : Int) = some ((n : Int), (n : Int), tb (n * n) (idF n), 0) := by
  unfold m_gfmatrix_Identity
  rw [mayHave_ok, Option.bind_some, if_pos (decide_eq_true (nat_okd h)), empty_ok h.2 h.2, Option.bind_some]
  have := ident_loop h.2 n 0 forever (by omega) (by unfold forever; omega)
  rw [idP_zero] at this
  exact this
theorem ident_bad {a : Int} (h : ¬ okd a) : m_gfmatrix_Identity a = some bad := by
  unfold m_gfmatrix_Identity
  rw [mayHave_ok, Option.bind_some, if_neg (by simpa using h)]; rfl
theorem rident_ok {n : Nat} (h : 1 ≤ n ∧ n ≤ 16) : m_r03_Identity (n : Int) = some ((n : Int), (n : Int), tb (n * n) (idF n), 0) := by
  have h2 := mul16 h.2 h.2
  unfold m_r03_Identity
  rw [size_ok, Option.bind_some, if_pos (decide_eq_true ⟨nat_okd h, nat_okd h⟩), ck_mul (by omega), Option.bind_some, mks_tb (by omega) (by omega), Option.bind_some]
  have := rident_loop h.2 n 0 forever (by omega) (by unfold forever; omega)
  rw [idP_zero] at this
  exact this
theorem rident_bad {a : Int} (h : ¬ okd a) : m_r03_Identity a = some bad := by
  unfold m_r03_Identity
  rw [size_ok, Option.bind_some, if_neg (by simp [h])]; rfl
theorem ident_eq (a : Int) : m_gfmatrix_Identity a = m_r03_Identity a := by
  by_cases h : okd a
  · obtain ⟨n, rfl, hn⟩ := okd_nat h
    rw [ident_ok hn, rident_ok hn]
  · rw [ident_bad h, rident_bad h]
end Go.Proofs.Ytnbcphofimicdaa
