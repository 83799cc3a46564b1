/-
  The statements RsCodes, RsEncodes and RsLinear. Conditions: the lists' lengths, as each theorem says.
-/
import Derived.Test.YtnbcphofimicdaaRb
import Derived.Test.YtnbcphofimicdaaRw
import Derived.Test.YtnbcphofimicdaaUi
import Derived.Test.YtnbcphofimicdaaMdg0
import Derived.Test.YtnbcphofimicdaaMdg3
import Derived.Test.YtnbcphofimicdaaMdg4
namespace Go.Proofs.Ytnbcphofimicdaa
set_option linter.unusedVariables false
set_option linter.unusedSimpArgs false

/-! ### which rows -/
def sel (h : Nat → Bool) (i : Nat) : List Nat := (List.range i).filter h
theorem sel_zero (h : Nat → Bool) : sel h 0 = [] := rfl
theorem sel_succ (h : Nat → Bool) (i : Nat) : sel h (i + 1) = if h i = true then sel h i ++ [i] else sel h i := by
  unfold sel
  rw [List.range_succ, List.filter_append]
  by_cases e : h i = true
  · rw [if_pos e]; simp [e]
  · rw [if_neg e]; simp [e]
theorem sel_mem {h : Nat → Bool} {i j : Nat} : j ∈ sel h i ↔ j < i ∧ h j = true := by simp [sel]
theorem sel_len (h : Nat → Bool) (i : Nat) : (sel h i).length ≤ i := by
  have := List.length_filter_le h (List.range i)
  simpa [sel] using this
theorem sel_nodup (h : Nat → Bool) (i : Nat) : (sel h i).Nodup := List.nodup_range.filter _
def ilist (s : List Nat) : List Int := s.map fun j => ((j : Nat) : Int)
theorem ilist_tb {s : List Nat} {n : Nat} (h : s.length = n) : ilist s = tb n fun t => ((s.getD t 0 : Nat) : Int) := by
  have e := tb_of 0 h
  unfold ilist
  rw [e]
  unfold tb
  rw [List.map_map]
  refine List.map_congr_left fun t ht => ?_
  simp at ht
  simp [ht]
theorem getD_mem {s : List Nat} {t : Nat} (h : t < s.length) : s.getD t 0 ∈ s := by
  rw [List.getD_eq_getElem?_getD, List.getElem?_eq_getElem h]; exact List.getElem_mem h
theorem getD_inj {s : List Nat} (hn : s.Nodup) {i j : Nat} (hi : i < s.length) (hj : j < s.length) (h : s.getD i 0 = s.getD j 0) : i = j := by
  rw [List.getD_eq_getElem?_getD, List.getElem?_eq_getElem hi, List.getD_eq_getElem?_getD, List.getElem?_eq_getElem hj] at h
  exact (List.getElem_inj hn).1 h

/-! ### any four rows -/
structure Four (p : Nat → Nat) : Prop where
  lt : ∀ i, i < 4 → p i < 6
  inj : ∀ i, i < 4 → ∀ j, j < 4 → p i = p j → i = j
theorem four_of {s : List Nat} (hl : s.length = 4) (hn : s.Nodup) (h6 : ∀ j ∈ s, j < 6) : Four fun t => s.getD t 0 :=
  ⟨fun i hi => h6 _ (getD_mem (by omega)), fun i hi j hj e => getD_inj hn (by omega) (by omega) e⟩
theorem d4 : dims 4 := ⟨by decide, by decide⟩
theorem d6 : dims 6 := ⟨by decide, by decide⟩
theorem pick4 (C : Mx) {p : Nat → Nat} (hp : Four p) : m_gfmatrix_Pick (6 : Int) (4 : Int) (tb 24 (ml 4 C)) (tb 4 fun t => ((p t : Nat) : Int)) = some (4, 4, tb 16 (ml 4 fun i k => C (p i) k), 0) := by
  have := pick_ok (R := 6) (C := 4) (n := 4) d6 d4 d4 (ml 4 C) p hp.lt
  rw [pick_ml] at this
  exact this
theorem inv4 {C : Mx} (hC : IsCode C) {p : Nat → Nat} (hp : Four p) : ∃ Q, m_gfmatrix_Invert (4 : Int) (4 : Int) (tb 16 (ml 4 fun i k => C (p i) k)) = some (4, 4, tb 16 (ml 4 Q), 0) ∧ Inverse 4 (fun i k => C (p i) k) Q := by
  rcases invert_res d4 (fun i k => C (p i) k) with ⟨R, h1, h2⟩ | ⟨_, v, c, hc, hv1, hv⟩
  · exact ⟨R, h1, h2⟩
  · have := hC.ok.mds p hp.lt hp.inj v hv c hc
    rw [hv1] at this; exact absurd this one_ne_zero8

/-! ### RsCodes -/
def but2 (a b : Nat) : Nat → Bool := fun j => !(j == a) && !(j == b)
theorem but2_len : ∀ a, a < 6 → ∀ b, b < 6 → a ≠ b → (sel (but2 a b) 6).length = 4 := by decide
theorem codes_loop (x3 : Int × Int × List (BitVec 8)) (a b : Nat) (d : Nat) : ∀ (i q : Nat), i + d = 6 → d < q → m_law04_RsCodes_l2 x3 (a : Int) (b : Int) q (ilist (sel (but2 a b) i)) (i : Int) = m_law04_RsCodes_j1 x3 (ilist (sel (but2 a b) 6)) := by
  induction d with
  | zero =>
    intro i q hi hq
    obtain ⟨q, rfl⟩ : ∃ q', q = q' + 1 := ⟨q - 1, by omega⟩
    unfold m_law04_RsCodes_l2
    rw [if_neg (by omega), show i = 6 by omega]
  | succ d ih =>
    intro i q hi hq
    obtain ⟨q, rfl⟩ : ∃ q', q = q' + 1 := ⟨q - 1, by omega⟩
    unfold m_law04_RsCodes_l2
    rw [if_pos (by omega)]
    have e := ih (i + 1) q (by omega) (by omega)
    rw [sel_succ] at e
    by_cases h1 : i = a
    · subst h1
      rw [if_neg (by simp [but2])] at e
      rw [if_pos rfl, ck_succ (by omega), Option.bind_some]; exact e
    · rw [if_neg (by omega)]
      by_cases h2 : i = b
      · subst h2
        rw [if_neg (by simp [but2])] at e
        rw [if_pos rfl, ck_succ (by omega), Option.bind_some]; exact e
      · rw [if_pos (by simp [but2, h1, h2])] at e
        have := sel_len (but2 a b) i
        have ea : apd 8 (ilist (sel (but2 a b) i)) [(i : Int)] = some (ilist (sel (but2 a b) i ++ [i])) := by
          rw [apd_of (by simp only [ilist, List.length_map, List.length_cons, List.length_nil]; omega)]; simp [ilist]
        rw [if_neg (by omega), ea, Option.bind_some, ck_succ (by omega), Option.bind_some]; exact e
theorem two_ok {ρ : Type} (z o : Int) : ∃ x y : Nat, x < 6 ∧ y < 6 ∧ x ≠ y ∧ ∀ k : Int → Int → Option ρ,
    (Option.bind (rmi z (6 : Int)) fun x30 => Option.bind (ck (x30 + (6 : Int))) fun x31 => Option.bind (rmi x31 (6 : Int)) fun x32 => Option.bind (ck (x32 + (1 : Int))) fun x34 => Option.bind (rmi o (5 : Int)) fun x35 => Option.bind (ck (x35 + (5 : Int))) fun x36 => Option.bind (rmi x36 (5 : Int)) fun x37 => Option.bind (ck (x34 + x37)) fun x38 => Option.bind (rmi x38 (6 : Int)) fun x39 => k x32 x39) = k (x : Int) (y : Int) := by
  obtain ⟨x, hx, h1⟩ := wrap_ok (ρ := ρ) z d6
  obtain ⟨y, hy, h2⟩ := wrap_ok (ρ := ρ) o (R := 5) ⟨by decide, by decide⟩
  refine ⟨x, (x + 1 + y) % 6, hx, Nat.mod_lt _ (by omega), by omega, fun k => ?_⟩
  refine (h1 _).trans ?_
  rw [ck_succ (by omega), Option.bind_some]
  refine (h2 _).trans ?_
  rw [ck_add (by omega), Option.bind_some, rmi_of (by omega) (by omega), Option.bind_some]
  congr 1
theorem ok_RsCodes (z o : Int) : m_law04_RsCodes z o = some true := by
  obtain ⟨C, hC⟩ := code_ex
  unfold m_law04_RsCodes
  rw [hC.rs, hC.ref, Option.bind_some, Option.bind_some, if_pos rfl, if_pos rfl, if_pos rfl, m_law04_RsCodes_j0]
  obtain ⟨a, b, ha, hb, hab, e⟩ := two_ok (ρ := Bool) z o
  refine (e _).trans ?_
  have h4 := but2_len a ha b hb hab
  have hp := four_of h4 (sel_nodup _ _) (fun j hj => (sel_mem.1 hj).1)
  obtain ⟨Q, h1, h2⟩ := inv4 hC hp
  have e0 := codes_loop (6, 4, tb 24 (ml 4 C)) a b 6 0 forever (by omega) (by unfold forever; omega)
  rw [sel_zero] at e0
  refine Eq.trans e0 ?_
  unfold m_law04_RsCodes_j1
  rw [ilist_tb h4, pick4 C hp, Option.bind_some, h1, Option.bind_some, if_pos rfl, if_pos rfl, awake_ok]; rfl

/-! ### data, full, light -/
theorem list_tb {α : Type} {l : List α} {n : Nat} {F : Nat → α} (d : α) (hl : l.length = n) (h : ∀ t, t < n → l.getD t d = F t) : l = tb n F := by
  rw [tb_of d hl]; exact tb_ext h
def dw (n : Int) : Nat := (andi n 31).toNat
theorem dw_ok (n : Int) : andi n (31 : Int) = (dw n : Int) ∧ dw n ≤ 31 := by
  obtain ⟨m, h1, h2⟩ := andi_mask n 31 (by omega)
  have h3 : andi n (31 : Int) = (m : Int) := h2
  unfold dw
  rw [h3]
  exact ⟨by omega, by omega⟩
def dB (b : Bytes) (k : Nat) : Mx := fun i t => b.getD (i * k + t) 0#8
theorem data_row (b : Bytes) (k i : Nat) : (b.drop (i * k)).take (tb k fun _ => 0#8).length ++ (tb k fun _ => 0#8).drop (b.drop (i * k)).length = tb k (dB b k i) := by
  refine list_tb 0#8 ?_ fun t ht => ?_
  · simp only [List.length_append, List.length_take, List.length_drop, tb_len]; omega
  · rw [List.getD_eq_getElem?_getD, List.getElem?_append, tb_len]
    simp only [List.length_take, List.length_drop, List.getElem?_drop, List.getElem?_take]
    unfold dB
    rw [List.getD_eq_getElem?_getD]
    by_cases h : i * k + t < b.length
    · rw [if_pos (by omega), if_pos (by omega)]
    · rw [if_neg (by omega), tb_get (by omega), List.getElem?_eq_none (by omega)]; rfl
theorem slc_drop {α : Type} {xs : List α} {i : Nat} (h : i ≤ xs.length) : slc xs (i : Int) (xs.length : Int) = some (xs.drop i) := by
  rw [slc_of (by omega)]
  congr 1
  rw [Int.toNat_natCast, Int.toNat_natCast]
  exact List.take_of_length_le (by simp)
theorem data_loop (b : Bytes) (n : Int) (d : Nat) : ∀ (i q : Nat), i + d = 4 → d < q → m_law04_data_l1 b n q (tb i fun j => tb (dw n) (dB b (dw n) j)) (i : Int) = some (tb 4 fun j => tb (dw n) (dB b (dw n) j)) := by
  obtain ⟨hk, hk2⟩ := dw_ok n
  generalize dw n = k at hk hk2
  induction d with
  | zero =>
    intro i q hi hq
    obtain ⟨q, rfl⟩ : ∃ q', q = q' + 1 := ⟨q - 1, by omega⟩
    unfold m_law04_data_l1
    rw [if_neg (by omega), show i = 4 by omega]; rfl
  | succ d ih =>
    intro i q hi hq
    obtain ⟨q, rfl⟩ : ∃ q', q = q' + 1 := ⟨q - 1, by omega⟩
    unfold m_law04_data_l1
    have hm : i * k ≤ 124 := Nat.mul_le_mul (show i ≤ 4 by omega) hk2
    rw [if_pos (by omega), hk, mks_tb (by omega) (by omega), Option.bind_some, ck_mul (by omega), Option.bind_some]
    by_cases h : i * k < b.length
    · rw [if_pos (by omega), Option.bind_some, slc_drop (by omega), Option.bind_some, cpw_of, Option.bind_some, data_row, apd_tb (by omega) (by omega) rfl, Option.bind_some, ck_succ (by omega), Option.bind_some]
      exact ih (i + 1) q (by omega) (by omega)
    · have e : (tb k fun _ => 0#8) = tb k (dB b k i) := tb_ext fun t ht => by
        unfold dB; rw [List.getD_eq_getElem?_getD, List.getElem?_eq_none (by omega)]; rfl
      rw [if_neg (by omega), e, apd_tb (by omega) (by omega) rfl, Option.bind_some, ck_succ (by omega), Option.bind_some]
      exact ih (i + 1) q (by omega) (by omega)
theorem data_ok (b : Bytes) (n : Int) : m_law04_data b n = some (tb 4 fun j => tb (dw n) (dB b (dw n) j)) := data_loop b n 4 0 forever (by omega) (by unfold forever; omega)
theorem tb_join {α : Type} (F : Nat → α) (n m : Nat) : tb n F ++ tb m (fun i => F (i + n)) = tb (n + m) F := by
  unfold tb
  rw [List.range_add, List.map_append, List.map_map]
  congr 1
  exact List.map_congr_left fun t ht => by simp [Nat.add_comm]
theorem six_ok {C : Mx} (hC : IsCode C) {w : Nat} (B : Mx) : apd 24 (tb 4 fun j => tb w (B j)) (tb 2 fun i => tb w (mm 4 C B (i + 4))) = some (tb 6 fun i => tb w (mm 4 C B i)) := by
  have e : (tb 4 fun j => tb w (B j)) = tb 4 fun i => tb w (mm 4 C B i) := tb_ext fun i hi => tb_ext fun t ht => (mm_low hC B hi t).symm
  rw [e, apd_of (by rw [tb_len, tb_len]; omega)]
  exact congrArg some (tb_join (fun i => tb w (mm 4 C B i)) 4 2)
theorem full_ok {C : Mx} (hC : IsCode C) (b : Bytes) (n : Int) : m_law04_full b n = some (tb 6 fun i => tb (dw n) (mm 4 C (dB b (dw n)) i), true) := by
  have hk := (dw_ok n).2
  unfold m_law04_full
  rw [data_ok, Option.bind_some, encode_ok hC (by omega), Option.bind_some, six_ok hC, Option.bind_some, if_pos rfl, tb_len]; rfl
def Light (l : List Bytes) : Prop := (∀ j, j < l.length → (l.getD j []).length ≤ 200) ∧ l.length ≤ 20
theorem light_loop (l : List Bytes) (hl : l.length ≤ 9223372036854775807) (d : Nat) : ∀ (i q : Nat), i + d = l.length → d < q → (∀ j, j < i → (l.getD j []).length ≤ 200) →
    (m_law04_light_l1 l q (i : Int) = some true ∧ Light l) ∨ (m_law04_light_l1 l q (i : Int) = some false ∧ ¬ Light l) := by
  induction d with
  | zero =>
    intro i q hi hq h
    obtain ⟨q, rfl⟩ : ∃ q', q = q' + 1 := ⟨q - 1, by omega⟩
    unfold m_law04_light_l1
    rw [if_neg (by omega), m_law04_light_j0]
    by_cases h2 : l.length ≤ 20
    · left; exact ⟨by rw [decide_eq_true (by omega)], fun j hj => h j (by omega), h2⟩
    · right; exact ⟨by rw [decide_eq_false (by omega)], fun hh => h2 hh.2⟩
  | succ d ih =>
    intro i q hi hq h
    obtain ⟨q, rfl⟩ : ∃ q', q = q' + 1 := ⟨q - 1, by omega⟩
    unfold m_law04_light_l1
    rw [if_pos (by omega), idx_getD [] (by omega), Option.bind_some]
    by_cases e : (l.getD i []).length ≤ 200
    · have e1 : ck ((i : Int) + 1) = some ((i + 1 : Nat) : Int) := ck_of (by omega)
      rw [if_neg (by omega), e1, Option.bind_some]
      exact ih (i + 1) q (by omega) (by omega) (fun j hj => by
        by_cases h2 : j = i
        · rw [h2]; exact e
        · exact h j (by omega))
    · rw [if_pos (by omega)]
      exact .inr ⟨rfl, fun hh => e (hh.1 i (by omega))⟩
theorem light_ok (l : List Bytes) (hl : l.length ≤ 9223372036854775807) : (m_law04_light l = some true ∧ Light l) ∨ (m_law04_light l = some false ∧ ¬ Light l) :=
  light_loop l hl l.length 0 forever (by omega) (by unfold forever; omega) (fun j hj => by omega)

/-! ### RsEncodes -/
theorem enc_same (l : List Bytes) (hw : ∀ j, j < l.length → (l.getD j []).length ≤ 1000) : ∃ r, m_rs_Encode l = some r ∧ m_r04_Encode l = some r ∧ m_r03_SameRows r.1 r.1 = some true := by
  obtain ⟨r, h1, h2, h3⟩ := encode_eq l hw
  exact ⟨r, h1, h2, by rw [samerows_dec _ _ (by omega), decide_eq_true rfl]⟩
theorem rows_tb {n w : Nat} (B : Mx) (hw : w ≤ 1000) : ∀ j, j < (tb n fun j => tb w (B j)).length → ((tb n fun j => tb w (B j)).getD j []).length ≤ 1000 := fun j hj => by
  rw [tb_len] at hj; rw [getD_tb hj, tb_len]; exact hw
theorem ok_RsEncodes (l six : List Bytes) (b : Bytes) (n : Int) (h1 : l.length ≤ 9223372036854775807) (h2 : six.length ≤ 9223372036854775807) : m_law04_RsEncodes l six b n = some true := by
  unfold m_law04_RsEncodes
  rcases light_ok l h1 with ⟨e1, L1⟩ | ⟨e1, _⟩
  · rw [e1, Option.bind_some, if_pos rfl]
    rcases light_ok six h2 with ⟨e2, L2⟩ | ⟨e2, _⟩
    · rw [e2, Option.bind_some, if_pos rfl, m_law04_RsEncodes_j0, data_ok, Option.bind_some]
      obtain ⟨r, a1, a2, a3⟩ := enc_same l fun j hj => by have := L1.1 j hj; omega
      obtain ⟨r', b1, b2, b3⟩ := enc_same (tb 4 fun j => tb (dw n) (dB b (dw n) j)) (rows_tb _ (by have := (dw_ok n).2; omega))
      generalize (tb 4 fun j => tb (dw n) (dB b (dw n) j)) = x at b1 b2 ⊢
      obtain ⟨C, hC⟩ := code_ex
      have hv : m_law04_RsEncodes_j1 six = some true := by
        haveI : Decidable (Lvl six 6 ∧ Word C six) := Classical.propDecidable _
        unfold m_law04_RsEncodes_j1
        rw [verify_ok hC six (by have := L2.2; omega) (fun j hj => by have := L2.1 j hj; omega), rverify_ok hC six (fun j hj => by have := L2.1 j hj; omega), Option.bind_some, Option.bind_some, if_pos rfl, awake_ok]; rfl
      have f : forever = 18446744073709551613 + 1 + 1 + 1 := rfl
      rw [f]
      unfold m_law04_RsEncodes_l2
      have i0 : idx ([l, x] : List (List Bytes)) (0 : Int) = some l := rfl
      have i1 : idx ([l, x] : List (List Bytes)) (1 : Int) = some x := rfl
      have c0 : ck ((0 : Int) + 1) = some 1 := rfl
      have c1 : ck ((1 : Int) + 1) = some 2 := rfl
      rw [if_pos (by simp), i0, Option.bind_some, a1, Option.bind_some, a2, Option.bind_some, if_pos rfl, a3, Option.bind_some, if_pos rfl, c0, Option.bind_some]
      unfold m_law04_RsEncodes_l2
      rw [if_pos (by simp), i1, Option.bind_some, b1, Option.bind_some, b2, Option.bind_some, if_pos rfl, b3, Option.bind_some, if_pos rfl, c1, Option.bind_some]
      unfold m_law04_RsEncodes_l2
      rw [if_neg (by simp)]; exact hv
    · rw [e2, Option.bind_some, if_neg (by simp), awake_ok]; rfl
  · rw [e1, Option.bind_some, if_neg (by simp), awake_ok]; rfl
end Go.Proofs.Ytnbcphofimicdaa
