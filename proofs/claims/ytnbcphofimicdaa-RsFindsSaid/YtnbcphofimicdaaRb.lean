/-
  What Level, equal, Encode and Verify of rs compute, in the program and in the reference. Conditions: as each theorem says.
-/
import Derived.Test.YtnbcphofimicdaaRa
import Derived.Test.YtnbcphofimicdaaMdf
namespace Go.Proofs.Ytnbcphofimicdaa
set_option linter.unusedVariables false
set_option linter.unusedSimpArgs false

structure IsCode (C : Mx) : Prop where
  rs : m_rs_Code = some (6, 4, tb 24 (ml 4 C))
  ref : m_r04_Code = some (6, 4, tb 24 (ml 4 C))
  ok : CodeOk C
theorem code_ex : ∃ C, IsCode C := by
  obtain ⟨C, h1, h2, h3⟩ := code_res
  exact ⟨C, h1, h2, h3⟩
abbrev Bytes := List (BitVec 8)
def bt (l : List Bytes) (j t : Nat) : BitVec 8 := (l.getD j []).getD t 0#8
def lv (l : List Bytes) : Nat := (l.getD 0 []).length
def Lvl (l : List Bytes) (n : Nat) : Prop := l.length = n ∧ ∀ j, j < n → (l.getD j []).length = lv l
instance (l : List Bytes) (n : Nat) : Decidable (Lvl l n) := inferInstanceAs (Decidable (_ ∧ _))
theorem Lvl.tb {l : List Bytes} {n : Nat} (h : Lvl l n) : l = tb n fun j => tb (lv l) (bt l j) := by
  have h1 := tb_of [] h.1
  rw [show (Go.Proofs.Ytnbcphofimicdaa.tb n fun j => Go.Proofs.Ytnbcphofimicdaa.tb (lv l) (bt l j)) = Go.Proofs.Ytnbcphofimicdaa.tb n fun t => l.getD t [] from tb_ext fun j hj => (tb_of 0#8 (h.2 j hj)).symm]
  exact h1
theorem getD_tb {α : Type} {n i : Nat} {F : Nat → α} {d : α} (h : i < n) : (tb n F).getD i d = F i := by rw [List.getD_eq_getElem?_getD, tb_get h]; rfl
theorem bt_tb {n w j t : Nat} {B : Nat → Nat → BitVec 8} (hj : j < n) (ht : t < w) : bt (tb n fun j => tb w (B j)) j t = B j t := by
  unfold bt; rw [getD_tb hj, getD_tb ht]
theorem lv_tb {n w : Nat} {B : Nat → Nat → BitVec 8} (hn : 0 < n) : lv (tb n fun j => tb w (B j)) = w := by unfold lv; rw [getD_tb hn, tb_len]
theorem lvl_tb {n w : Nat} (B : Nat → Nat → BitVec 8) (hn : 0 < n) : Lvl (tb n fun j => tb w (B j)) n := ⟨tb_len _ _, fun j hj => by rw [lv_tb hn, getD_tb hj, tb_len]⟩
theorem ite_decide {α : Type} (p : Prop) [Decidable p] (a b : α) : (if decide p = true then a else b) = if p then a else b := by
  by_cases h : p <;> simp [h]

theorem level_loop (l : List Bytes) (n : Nat) (hl : l.length = n) (hn : n ≤ 1000) (d : Nat) : ∀ (i q : Nat), i + d = n → d < q → (∀ j, j < i → (l.getD j []).length = lv l) → m_r04_Level_l1 l (n : Int) q (i : Int) = some (decide (Lvl l n)) := by
  induction d with
  | zero =>
    intro i q hi hq h
    obtain ⟨q, rfl⟩ : ∃ q', q = q' + 1 := ⟨q - 1, by omega⟩
    unfold m_r04_Level_l1
    rw [if_neg (by omega), m_r04_Level_j0, decide_eq_true]
    exact ⟨hl, fun j hj => h j (by omega)⟩
  | succ d ih =>
    intro i q hi hq h
    obtain ⟨q, rfl⟩ : ∃ q', q = q' + 1 := ⟨q - 1, by omega⟩
    have e0 : idx l (0 : Int) = some (l.getD 0 []) := idx_getD (i := 0) [] (by omega)
    unfold m_r04_Level_l1
    rw [if_pos (by omega), idx_getD [] (by omega), Option.bind_some, e0, Option.bind_some]
    by_cases e : (l.getD i []).length = (l.getD 0 []).length
    · rw [if_pos (by rw [e]), ck_succ (by omega), Option.bind_some]
      exact ih (i + 1) q (by omega) (by omega) (fun j hj => by
        by_cases h2 : j = i
        · rw [h2]; exact e
        · exact h j (by omega))
    · rw [if_neg (fun h2 => e (by omega)), decide_eq_false]
      exact fun hh => e (hh.2 i (by omega))
theorem level_ok (l : List Bytes) (n : Nat) (hn : n ≤ 1000) : m_r04_Level l (n : Int) = some (decide (Lvl l n)) := by
  unfold m_r04_Level
  by_cases h : l.length = n
  · rw [if_pos (by rw [h])]
    exact level_loop l n h hn n 0 forever (by omega) (by unfold forever; omega) (fun j hj => by omega)
  · rw [if_neg (by omega), decide_eq_false (fun hh => h hh.1)]
theorem equal_loop (l : List Bytes) (hn : l.length ≤ 1000) (d : Nat) : ∀ (i q : Nat), i + d = l.length → d < q → (∀ j, j < i → (l.getD j []).length = lv l) → m_rs_equal_l1 l q (i : Int) = some (decide (Lvl l 6)) := by
  induction d with
  | zero =>
    intro i q hi hq h
    obtain ⟨q, rfl⟩ : ∃ q', q = q' + 1 := ⟨q - 1, by omega⟩
    unfold m_rs_equal_l1
    rw [if_neg (by omega), m_rs_equal_j0]
    by_cases h6 : l.length = 6
    · rw [decide_eq_true ⟨h6, fun j hj => h j (by omega)⟩, h6]; rfl
    · rw [decide_eq_false (fun hh => h6 hh.1)]
      congr 1
      exact beq_eq_false_iff_ne.2 (by omega)
  | succ d ih =>
    intro i q hi hq h
    obtain ⟨q, rfl⟩ : ∃ q', q = q' + 1 := ⟨q - 1, by omega⟩
    have e0 : idx l (0 : Int) = some (l.getD 0 []) := idx_getD (i := 0) [] (by omega)
    unfold m_rs_equal_l1
    rw [if_pos (by omega), idx_getD [] (by omega), Option.bind_some, e0, Option.bind_some]
    by_cases e : (l.getD i []).length = (l.getD 0 []).length
    · rw [if_pos (by rw [e]), ck_succ (by omega), Option.bind_some]
      exact ih (i + 1) q (by omega) (by omega) (fun j hj => by
        by_cases h2 : j = i
        · rw [h2]; exact e
        · exact h j (by omega))
    · rw [if_neg (fun h2 => e (by omega)), decide_eq_false]
      exact fun hh => e (hh.2 i (by have := hh.1; omega))
theorem equal_ok (l : List Bytes) (hn : l.length ≤ 1000) : m_rs_equal l = some (decide (Lvl l 6)) := by
  unfold m_rs_equal
  exact equal_loop l hn l.length 0 forever (by omega) (by unfold forever; omega) (fun j hj => by omega)

/-! ### Apply at rows of different lengths -/
theorem apply_bad {R C : Nat} (hR : dims R) (hC : dims C) (M : Mx) (l : List Bytes) (hl : l.length = C) (hne : ¬ Lvl l C) : m_gfmatrix_Apply (R : Int) (C : Int) (tb (R * C) (ml C M)) l = some badL := by
  have hR2 := hR.2
  have hC2 := hC.2
  have hne' : ∃ t, t < C ∧ (l.getD t []).length ≠ (l.getD 0 []).length := by
    apply Classical.byContradiction
    intro h
    exact hne ⟨hl, fun j hj => Classical.byContradiction fun h2 => h ⟨j, hj, h2⟩⟩
  unfold m_gfmatrix_Apply
  rw [valid_ok, Option.bind_some, if_pos (decide_eq_true (nat_vd ⟨hR.1, hR.2, hC.1, hC.2⟩)), if_pos (by rw [hl]), m_gfmatrix_Apply_j0]
  exact (apply_ne hC2 _ _ _ l hl hne' C 0 forever (by omega) (by unfold forever; omega) (fun t ht => by omega)).1

/-! ### Encode -/
section
variable {C : Mx} (hC : IsCode C)
theorem par_pick (hC : IsCode C) : m_gfmatrix_Pick (6 : Int) (4 : Int) (tb 24 (ml 4 C)) ([(4 : Int), (5 : Int)] : List Int) = some (2, 4, tb 8 (ml 4 fun i k => C (i + 4) k), 0) := by
  have := pick_ok (R := 6) (C := 4) (n := 2) ⟨by decide, by decide⟩ ⟨by decide, by decide⟩ ⟨by decide, by decide⟩ (ml 4 C) (fun t => t + 4) (fun t ht => by omega)
  rw [pick_ml] at this
  exact this
theorem encode_ok (hC : IsCode C) {w : Nat} (hw : w ≤ 1000) (B : Mx) : m_rs_Encode (tb 4 fun j => tb w (B j)) = some (tb 2 fun i => tb w (mm 4 C B (i + 4)), 0) := by
  unfold m_rs_Encode
  have := apply_ok (R := 2) (C := 4) (fun i k => C (i + 4) k) B ⟨by decide, by decide⟩ ⟨by decide, by decide⟩ hw
  have e : m_gfmatrix_Apply (2 : Int) (4 : Int) (tb 8 (ml 4 fun i k => C (i + 4) k)) (tb 4 fun j => tb w (B j)) = some (tb 2 fun i => tb w (mm 4 C B (i + 4)), 0) := this
  rw [tb_len, if_pos (by omega), hC.rs, Option.bind_some, par_pick hC, Option.bind_some, e, Option.bind_some]
theorem encode_bad (hC : IsCode C) (l : List Bytes) (h : ¬ Lvl l 4) : m_rs_Encode l = some ([], 1) := by
  unfold m_rs_Encode
  by_cases h4 : l.length = 4
  · have e : m_gfmatrix_Apply (2 : Int) (4 : Int) (tb 8 (ml 4 fun i k => C (i + 4) k)) l = some badL := apply_bad (R := 2) (C := 4) ⟨by decide, by decide⟩ ⟨by decide, by decide⟩ _ l h4 h
    rw [if_pos (by omega), hC.rs, Option.bind_some, par_pick hC, Option.bind_some, e, Option.bind_some]; rfl
  · rw [if_neg (by omega)]
theorem all_ok (hC : IsCode C) {w : Nat} (hw : w ≤ 1000) (B : Mx) : m_r04_all (tb 4 fun j => tb w (B j)) = some (tb 6 fun i => tb w (mm 4 C B i)) := by
  unfold m_r04_all
  have e : m_r03_Apply (6 : Int) (4 : Int) (tb 24 (ml 4 C)) (tb 4 fun j => tb w (B j)) = some (tb 6 fun i => tb w (mm 4 C B i), 0) := rapply_ok (R := 6) (C := 4) C B ⟨by decide, by decide⟩ ⟨by decide, by decide⟩ hw
  rw [hC.ref, Option.bind_some, e, Option.bind_some]
theorem rencode_ok (hC : IsCode C) {w : Nat} (hw : w ≤ 1000) (B : Mx) : m_r04_Encode (tb 4 fun j => tb w (B j)) = some (tb 2 fun i => tb w (mm 4 C B (i + 4)), 0) := by
  unfold m_r04_Encode
  have e : m_r04_Level (tb 4 fun j => tb w (B j)) (4 : Int) = some (decide (Lvl (tb 4 fun j => tb w (B j)) 4)) := level_ok _ 4 (by omega)
  have e2 : slc (tb 6 fun i => tb w (mm 4 C B i)) (4 : Int) ((tb 6 fun i => tb w (mm 4 C B i)).length : Int) = some (tb 2 fun t => tb w (mm 4 C B (4 + t))) := by
    rw [tb_len]; exact slc_tb (n := 6) (lo := 4) (hi := 6) (by omega) (by omega)
  rw [e, Option.bind_some, if_pos (decide_eq_true (lvl_tb B (by omega))), all_ok hC hw B, Option.bind_some, e2, Option.bind_some]
  rw [show (tb 2 fun t => tb w (mm 4 C B (4 + t))) = tb 2 fun i => tb w (mm 4 C B (i + 4)) from tb_ext fun t ht => by rw [Nat.add_comm]]
theorem rencode_bad (l : List Bytes) (h : ¬ Lvl l 4) : m_r04_Encode l = some ([], 1) := by
  unfold m_r04_Encode
  have e : m_r04_Level l (4 : Int) = some (decide (Lvl l 4)) := level_ok _ 4 (by omega)
  rw [e, Option.bind_some, if_neg (by simpa using h)]
theorem encode_eq (l : List Bytes) (hw : ∀ j, j < l.length → (l.getD j []).length ≤ 1000) : ∃ r, m_rs_Encode l = some r ∧ m_r04_Encode l = some r ∧ r.1.length ≤ 2 := by
  obtain ⟨C, hC⟩ := code_ex
  by_cases h : Lvl l 4
  · have hw' : lv l ≤ 1000 := hw 0 (by rw [h.1]; omega)
    have e := h.tb
    generalize lv l = w at e hw'
    generalize bt l = B at e
    subst e
    exact ⟨_, encode_ok hC hw' B, rencode_ok hC hw' B, by rw [tb_len]; omega⟩
  · exact ⟨_, encode_bad hC l h, rencode_bad l h, by simp⟩

/-! ### Verify -/
/-- six rows of one length are a word of the code -/
def Word (C : Mx) (l : List Bytes) : Prop := ∀ i, i < 6 → ∀ t, t < lv l → mm 4 C (bt l) i t = bt l i t
theorem mm_low (hC : IsCode C) (B : Mx) {i : Nat} (hi : i < 4) (t : Nat) : mm 4 C B i t = B i t := by
  have e : mm 4 C B i t = mm 4 I1 B i t := sm_ext fun j hj => by rw [hC.ok.idn i hi j hj]
  rw [e, mm_idL _ _ hi]
theorem word_iff (hC : IsCode C) {w : Nat} (B : Mx) : Word C (tb 6 fun j => tb w (B j)) ↔ ∀ i, i < 2 → tb w (mm 4 C B (i + 4)) = tb w (B (i + 4)) := by
  have hlv : lv (tb 6 fun j => tb w (B j)) = w := lv_tb (by omega)
  have key : ∀ i, i < 6 → ∀ t, t < w → (mm 4 C (bt (tb 6 fun j => tb w (B j))) i t = bt (tb 6 fun j => tb w (B j)) i t ↔ mm 4 C B i t = B i t) := fun i hi t ht => by
    have e : mm 4 C (bt (tb 6 fun j => tb w (B j))) i t = mm 4 C B i t := sm_ext fun j hj => by rw [bt_tb (by omega) ht]
    rw [e, bt_tb hi ht]
  constructor
  · intro h i hi
    exact tb_ext fun t ht => (key (i + 4) (by omega) t ht).1 (h (i + 4) (by omega) t (by rw [hlv]; exact ht))
  · intro h i hi t ht
    rw [hlv] at ht
    rw [key i hi t ht]
    by_cases h4 : i < 4
    · exact mm_low hC B h4 t
    · obtain ⟨k, rfl⟩ : ∃ k, i = k + 4 := ⟨i - 4, by omega⟩
      exact tb_inj (h k (by omega)) t ht
theorem slc4 {n w : Nat} (B : Mx) (hn : 4 ≤ n) : slc (tb n fun j => tb w (B j)) 0 (4 : Int) = some (tb 4 fun j => tb w (B j)) := by
  have := slc_tb (n := n) (lo := 0) (hi := 4) (F := fun j => tb w (B j)) (by omega) hn
  have e : (tb (4 - 0) fun t => tb w (B (0 + t))) = tb 4 fun j => tb w (B j) := tb_ext fun t ht => by rw [Nat.zero_add]
  rw [e] at this; exact this
theorem verify_loop (hC : IsCode C) {w : Nat} (B : Mx) (z : Int) (d : Nat) : ∀ (i q : Nat), i + d = 2 → d < q → (∀ j, j < i → tb w (mm 4 C B (j + 4)) = tb w (B (j + 4))) →
    m_rs_Verify_l1 (tb 6 fun j => tb w (B j)) (tb 2 fun i => tb w (mm 4 C B (i + 4)), z) q (i : Int) = some true ∧ (∀ j, j < 2 → tb w (mm 4 C B (j + 4)) = tb w (B (j + 4))) ∨
    m_rs_Verify_l1 (tb 6 fun j => tb w (B j)) (tb 2 fun i => tb w (mm 4 C B (i + 4)), z) q (i : Int) = some false ∧ ¬ (∀ j, j < 2 → tb w (mm 4 C B (j + 4)) = tb w (B (j + 4))) := by
  induction d with
  | zero =>
    intro i q hi hq h
    obtain ⟨q, rfl⟩ : ∃ q', q = q' + 1 := ⟨q - 1, by omega⟩
    unfold m_rs_Verify_l1
    left
    rw [if_neg (by rw [tb_len]; omega)]
    exact ⟨rfl, fun j hj => h j (by omega)⟩
  | succ d ih =>
    intro i q hi hq h
    obtain ⟨q, rfl⟩ : ∃ q', q = q' + 1 := ⟨q - 1, by omega⟩
    unfold m_rs_Verify_l1
    have e1 : ck ((4 : Int) + (i : Int)) = some ((4 + i : Nat) : Int) := ck_add (a := 4) (by omega)
    rw [if_pos (by rw [tb_len]; omega), idx_tb (by omega), Option.bind_some, e1, Option.bind_some, idx_tb (by omega), Option.bind_some, m_bytes_Equal, Option.bind_some, Nat.add_comm 4 i]
    by_cases e : tb w (mm 4 C B (i + 4)) = tb w (B (i + 4))
    · rw [if_pos (beq_iff_eq.2 e), ck_succ (by omega), Option.bind_some]
      exact ih (i + 1) q (by omega) (by omega) (fun j hj => by
        by_cases h2 : j = i
        · rw [h2]; exact e
        · exact h j (by omega))
    · rw [if_neg (by rw [beq_iff_eq]; exact e)]
      exact .inr ⟨rfl, fun hh => e (hh i (by omega))⟩
theorem verify_ok (hC : IsCode C) (l : List Bytes) (h6 : l.length ≤ 1000) (hw : ∀ j, j < l.length → (l.getD j []).length ≤ 1000) [Decidable (Lvl l 6 ∧ Word C l)] : m_rs_Verify l = some (decide (Lvl l 6 ∧ Word C l)) := by
  unfold m_rs_Verify
  rw [equal_ok l h6, Option.bind_some]
  by_cases h : Lvl l 6
  · rw [if_pos (decide_eq_true h)]
    have hw' : lv l ≤ 1000 := hw 0 (by rw [h.1]; omega)
    have e := h.tb
    revert h
    generalize lv l = w at e hw'
    generalize bt l = B at e
    subst e
    intro h
    rw [slc4 B (by omega), Option.bind_some, encode_ok hC hw' B, Option.bind_some]
    rcases verify_loop hC (w := w) B 0 2 0 forever (by omega) (by unfold forever; omega) (fun j hj => by omega) with ⟨h1, h2⟩ | ⟨h1, h2⟩
    · rw [decide_eq_true ⟨h, (word_iff hC B).2 h2⟩]; exact h1
    · rw [decide_eq_false (fun hh => h2 ((word_iff hC B).1 hh.2))]; exact h1
  · rw [if_neg (by simpa using h), decide_eq_false (fun hh => h hh.1)]
end
/-- rows are compared -/
theorem samerows_dec (x y : List Bytes) (hx : x.length ≤ 1000) : m_r03_SameRows x y = some (decide (x = y)) := by
  have loop : ∀ (d i q : Nat), i + d = x.length → d < q → x.length = y.length → (∀ j, j < i → x.getD j [] = y.getD j []) → m_r03_SameRows_l1 x y q (i : Int) = some (decide (x = y)) := by
    intro d
    induction d with
    | zero =>
      intro i q hi hq hl h
      obtain ⟨q, rfl⟩ : ∃ q', q = q' + 1 := ⟨q - 1, by omega⟩
      unfold m_r03_SameRows_l1
      rw [if_neg (by omega), m_r03_SameRows_j0, decide_eq_true]
      rw [tb_of [] (rfl : x.length = x.length), tb_of [] hl.symm]
      exact tb_ext fun j hj => h j (by omega)
    | succ d ih =>
      intro i q hi hq hl h
      obtain ⟨q, rfl⟩ : ∃ q', q = q' + 1 := ⟨q - 1, by omega⟩
      unfold m_r03_SameRows_l1
      rw [if_pos (by omega), idx_getD [] (by omega), Option.bind_some, idx_getD [] (by omega), Option.bind_some]
      by_cases e : x.getD i [] = y.getD i []
      · rw [if_pos e, ck_succ (by omega), Option.bind_some]
        exact ih (i + 1) q (by omega) (by omega) hl (fun j hj => by
          by_cases h2 : j = i
          · rw [h2]; exact e
          · exact h j (by omega))
      · rw [if_neg e, decide_eq_false (fun hh => e (by rw [hh]))]
  unfold m_r03_SameRows
  by_cases h : x.length = y.length
  · rw [if_pos (by omega)]
    exact loop x.length 0 forever (by omega) (by unfold forever; omega) h (fun j hj => by omega)
  · rw [if_neg (by omega), decide_eq_false (fun hh => h (by rw [hh]))]
theorem rverify_ok {C : Mx} (hC : IsCode C) (l : List Bytes) (hw : ∀ j, j < l.length → (l.getD j []).length ≤ 1000) [Decidable (Lvl l 6 ∧ Word C l)] : m_r04_Verify l = some (decide (Lvl l 6 ∧ Word C l)) := by
  unfold m_r04_Verify
  have e : m_r04_Level l (6 : Int) = some (decide (Lvl l 6)) := level_ok _ 6 (by omega)
  rw [e, Option.bind_some]
  by_cases h : Lvl l 6
  · rw [if_pos (decide_eq_true h)]
    have hw' : lv l ≤ 1000 := hw 0 (by rw [h.1]; omega)
    have e := h.tb
    revert h
    generalize lv l = w at e hw'
    generalize bt l = B at e
    subst e
    intro h
    rw [slc4 B (by omega), Option.bind_some, all_ok hC hw' B, Option.bind_some, samerows_dec _ _ (by rw [tb_len]; omega), Option.bind_some]
    congr 1
    rw [decide_eq_decide]
    constructor
    · intro h2
      refine ⟨h, (word_iff hC B).2 fun i hi => tb_inj h2 (i + 4) (by omega)⟩
    · intro h2
      have h3 := (word_iff hC B).1 h2.2
      refine tb_ext fun i hi => ?_
      by_cases h4 : i < 4
      · exact tb_ext fun t ht => mm_low hC B h4 t
      · obtain ⟨k, rfl⟩ : ∃ k, i = k + 4 := ⟨i - 4, by omega⟩
        exact h3 k (by omega)
  · rw [if_neg (by simpa using h), decide_eq_false (fun hh => h hh.1)]
end Go.Proofs.Ytnbcphofimicdaa
