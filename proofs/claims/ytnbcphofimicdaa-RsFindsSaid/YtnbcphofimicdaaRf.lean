/-
  The statements RsRestores, RsTooFew and RsAnyFour. Conditions: the lists' lengths, as each theorem says.
-/
import Derived.Test.YtnbcphofimicdaaRd
import Derived.Test.YtnbcphofimicdaaMdg1
import Derived.Test.YtnbcphofimicdaaMdg2
import Derived.Test.YtnbcphofimicdaaMdg5
namespace Go.Proofs.Ytnbcphofimicdaa
set_option linter.unusedVariables false
set_option linter.unusedSimpArgs false
theorem rest_same (l : List Bytes) (h : List Bool) (hw : ∀ j, j < l.length → (l.getD j []).length ≤ 1000) : ∃ r, m_rs_Restore l h = some r ∧ m_r04_Restore l h = some r ∧ m_r03_SameRows r.1 r.1 = some true := by
  obtain ⟨r, h1, h2, h3⟩ := restore_eq l h hw
  exact ⟨r, h1, h2, by rw [samerows_dec _ _ (by omega), decide_eq_true rfl]⟩
theorem ok_RsRestores (l : List Bytes) (have_ : List Bool) (b : Bytes) (n : Int) (h1 : l.length ≤ 9223372036854775807) : m_law04_RsRestores l have_ b n = some true := by
  obtain ⟨C, hC⟩ := code_ex
  have hk := (dw_ok n).2
  unfold m_law04_RsRestores
  rcases light_ok l h1 with ⟨e1, L1⟩ | ⟨e1, _⟩
  · rw [e1, Option.bind_some, if_pos rfl]
    by_cases h20 : 20 < have_.length
    · rw [if_pos (by omega), awake_ok]; rfl
    · rw [if_neg (by omega), m_law04_RsRestores_j0, data_ok, Option.bind_some, rencode_ok hC (by omega), Option.bind_some, Option.bind_some, six_ok hC, Option.bind_some]
      obtain ⟨r, a1, a2, a3⟩ := rest_same l have_ fun j hj => by have := L1.1 j hj; omega
      obtain ⟨r', b1, b2, b3⟩ := rest_same (tb 6 fun j => tb (dw n) (mm 4 C (dB b (dw n)) j)) have_ (rows_tb _ (by omega))
      generalize (tb 6 fun j => tb (dw n) (mm 4 C (dB b (dw n)) j)) = x at b1 b2 ⊢
      have hv : m_law04_RsRestores_j1 = some true := by unfold m_law04_RsRestores_j1; rw [awake_ok]; rfl
      have f : forever = 18446744073709551613 + 1 + 1 + 1 := rfl
      rw [f]
      unfold m_law04_RsRestores_l2
      have i0 : idx ([l, x] : List (List Bytes)) (0 : Int) = some l := rfl
      have i1 : idx ([l, x] : List (List Bytes)) (1 : Int) = some x := rfl
      have c0 : ck ((0 : Int) + 1) = some 1 := rfl
      have c1 : ck ((1 : Int) + 1) = some 2 := rfl
      rw [if_pos (by simp), i0, Option.bind_some, a1, Option.bind_some, a2, Option.bind_some, if_pos rfl, a3, Option.bind_some, if_pos rfl, c0, Option.bind_some]
      unfold m_law04_RsRestores_l2
      rw [if_pos (by simp), i1, Option.bind_some, b1, Option.bind_some, b2, Option.bind_some, if_pos rfl, b3, Option.bind_some, if_pos rfl, c1, Option.bind_some]
      unfold m_law04_RsRestores_l2
      rw [if_neg (by simp)]; exact hv
  · rw [e1, Option.bind_some, if_neg (by simp), awake_ok]; rfl

/-! ### RsTooFew -/
theorem sel_congr {h h' : Nat → Bool} : ∀ {i : Nat}, (∀ j, j < i → h j = h' j) → sel h i = sel h' i
  | 0, _ => rfl
  | i + 1, e => by rw [sel_succ, sel_succ, sel_congr (fun j hj => e j (by omega)), e i (by omega)]
def bitm (m : Int) (i : Nat) : Bool := andi (m / 2 ^ i) (1 : Int) == (1 : Int)
def preb (g : Nat → Bool) (i : Nat) : Nat → Bool := fun j => if j < i then g j else false
theorem preb_step (g : Nat → Bool) (i n : Nat) : tb n (st (preb g i) i (g i)) = tb n (preb g (i + 1)) := tb_ext fun t ht => by
  unfold st preb
  by_cases h : t = i
  · subst h; simp
  · rw [if_neg h]
    by_cases h2 : t < i
    · rw [if_pos h2, if_pos (by omega)]
    · rw [if_neg h2, if_neg (by omega)]
theorem few_loop (m : Int) (x3 : List Bytes × Bool) (d : Nat) : ∀ (i q : Nat), i + d = 6 → d < q →
    m_law04_RsTooFew_l1 m x3 (tb 6 fun _ => false) q (tb 6 (preb (bitm m) i)) ((sel (bitm m) i).length : Nat) (i : Int) = m_law04_RsTooFew_j0 x3 (tb 6 (bitm m)) ((sel (bitm m) 6).length : Nat) := by
  induction d with
  | zero =>
    intro i q hi hq
    obtain ⟨q, rfl⟩ : ∃ q', q = q' + 1 := ⟨q - 1, by omega⟩
    obtain rfl : i = 6 := by omega
    unfold m_law04_RsTooFew_l1
    rw [tb_len, if_neg (by omega), show tb 6 (preb (bitm m) 6) = tb 6 (bitm m) from tb_ext fun t ht => if_pos ht]
  | succ d ih =>
    intro i q hi hq
    obtain ⟨q, rfl⟩ : ∃ q', q = q' + 1 := ⟨q - 1, by omega⟩
    have e := ih (i + 1) q (by omega) (by omega)
    have hl := sel_len (bitm m) i
    rw [sel_succ] at e
    have es : shri m ((i : Nat) : Int) = some (m / 2 ^ i) := by
      unfold shri; rw [if_pos (by omega), Int.toNat_natCast]
    unfold m_law04_RsTooFew_l1
    rw [tb_len, if_pos (by omega), ofInt64 i (by omega), es, Option.bind_some, idx_tb (by omega), Option.bind_some, upd_tb (by omega), Option.bind_some]
    have e2 : tb 6 (st (preb (bitm m) i) i (andi (m / 2 ^ i) 1 == 1)) = tb 6 (preb (bitm m) (i + 1)) := preb_step (bitm m) i 6
    rw [e2, idx_tb (by omega), Option.bind_some, show preb (bitm m) (i + 1) i = bitm m i from if_pos (by omega)]
    by_cases h1 : bitm m i = true
    · rw [if_pos h1] at e
      rw [if_pos h1, ck_succ (by omega), Option.bind_some, ck_succ (by omega), Option.bind_some]
      rw [List.length_append] at e
      exact e
    · rw [if_neg h1] at e
      rw [if_neg h1, ck_succ (by omega), Option.bind_some]
      exact e
theorem hb_tb {g : Nat → Bool} : sel (hb (tb 6 g)) 6 = sel g 6 := sel_congr fun j hj => getD_tb hj
theorem same_tb {w : Nat} (B : Mx) {h : Nat → Bool} : Same (tb 6 fun i => tb w (B i)) (sel h 6) := by
  intro j hj
  have h1 := (sel_mem.1 hj).1
  have h2 : (sel h 6).headD 0 < 6 := by
    cases hq : sel h 6 with
    | nil => simp
    | cons a s => have := sel_mem.1 (show a ∈ sel h 6 by rw [hq]; exact List.mem_cons_self ..); simp; omega
  rw [getD_tb h1, getD_tb h2, tb_len, tb_len]
theorem ok_RsTooFew (b : Bytes) (n m : Int) : m_law04_RsTooFew b n m = some true := by
  obtain ⟨C, hC⟩ := code_ex
  have hk := (dw_ok n).2
  unfold m_law04_RsTooFew
  have e6 : mks 1 (6 : Int) false = some (tb 6 fun _ => false) := mks_tb (n := 6) (by omega) (by omega)
  rw [full_ok hC, Option.bind_some, e6, Option.bind_some]
  have e := few_loop m (tb 6 fun i => tb (dw n) (mm 4 C (dB b (dw n)) i), true) 6 0 forever (by omega) (by unfold forever; omega)
  rw [sel_zero, show tb 6 (preb (bitm m) 0) = tb 6 fun _ => false from tb_ext fun t ht => if_neg (by omega)] at e
  refine Eq.trans e ?_
  unfold m_law04_RsTooFew_j0
  by_cases h4 : (sel (bitm m) 6).length < 4
  · have := (restore_few (tb 6 fun i => tb (dw n) (mm 4 C (dB b (dw n)) i)) (tb 6 (bitm m)) (tb_len _ _) (tb_len _ _) (same_tb _) (by rw [hb_tb]; exact h4)).1
    rw [this, Option.bind_some, if_pos rfl, if_pos (by rw [decide_eq_false (by omega)]; rfl), if_neg (by decide), if_pos rfl, if_pos (by simp), awake_ok]; rfl
  · obtain ⟨Q, _, _, h5, _⟩ := restore_ok hC (tb 6 fun i => tb (dw n) (mm 4 C (dB b (dw n)) i)) (tb 6 (bitm m)) (tb_len _ _) (tb_len _ _) (same_tb _) (by rw [hb_tb]; omega) (dw n) (fun j hj => by rw [getD_tb (sel_mem.1 hj).1, tb_len]) (by omega)
    rw [h5, Option.bind_some, if_pos rfl, if_pos (by rw [decide_eq_true (by omega)]; rfl), if_pos rfl, awake_ok]; rfl

/-! ### RsAnyFour -/
theorem verify_word {C : Mx} (hC : IsCode C) (D : Mx) {w : Nat} (hw : w ≤ 1000) : Word C (tb 6 fun i => tb w (mm 4 C D i)) ∧ m_rs_Verify (tb 6 fun i => tb w (mm 4 C D i)) = some true := by
  have h1 : Word C (tb 6 fun i => tb w (mm 4 C D i)) := (word_iff hC (mm 4 C D)).2 fun i hi => tb_ext fun t ht => sm_ext fun j hj => by rw [mm_low hC D hj]
  refine ⟨h1, ?_⟩
  haveI : Decidable (Lvl (tb 6 fun i => tb w (mm 4 C D i)) 6 ∧ Word C (tb 6 fun i => tb w (mm 4 C D i))) := Classical.propDecidable _
  rw [verify_ok hC _ (by rw [tb_len]; omega) (rows_tb _ hw), decide_eq_true ⟨lvl_tb _ (by omega), h1⟩]
theorem true6 : ([true, true, true, true, true, true] : List Bool) = tb 6 fun _ => true := rfl
/-- rows of a word at all but two places give the word -/
theorem any_four {C : Mx} (hC : IsCode C) (D : Mx) {w : Nat} (hw : w ≤ 1000) {x y : Nat} (hx : x < 6) (hy : y < 6) (hxy : x ≠ y) (l : List Bytes) (hl : l.length = 6) (hr : ∀ j, j < 6 → j ≠ x → j ≠ y → l.getD j [] = tb w (mm 4 C D j)) (g : Nat → Bool) (hg : ∀ j, j < 6 → g j = but2 x y j) :
    m_rs_Restore l (tb 6 g) = some (tb 6 fun i => tb w (mm 4 C D i), 0) := by
  have es : sel (hb (tb 6 g)) 6 = sel (but2 x y) 6 := (sel_congr fun j hj => getD_tb hj).trans (sel_congr hg)
  have h4 := but2_len x hx y hy hxy
  have hin : ∀ j ∈ sel (but2 x y) 6, j < 6 ∧ l.getD j [] = tb w (mm 4 C D j) := fun j hj => by
    obtain ⟨h1, h2⟩ := sel_mem.1 hj
    simp [but2] at h2
    exact ⟨h1, hr j h1 h2.1 h2.2⟩
  have hlen : ∀ j ∈ sel (but2 x y) 6, (l.getD j []).length = w := fun j hj => by rw [(hin j hj).2, tb_len]
  have hhead : (sel (but2 x y) 6).headD 0 ∈ sel (but2 x y) 6 := by
    cases hq : sel (but2 x y) 6 with
    | nil => rw [hq] at h4; simp at h4
    | cons a s => exact List.mem_cons_self ..
  obtain ⟨Q, h1, _, h2, _⟩ := restore_ok hC l (tb 6 g) hl (tb_len _ _) (by rw [es]; exact fun j hj => by rw [hlen j hj, hlen _ hhead]) (by rw [es, h4]; omega) w (by rw [es]; exact hlen) hw
  rw [h2]
  rw [es, List.take_of_length_le (by omega)] at h1 ⊢
  rw [rst_word hC h1 (D := D) fun t ht u hu => ?_]
  have hm := getD_mem (s := sel (but2 x y) 6) (t := t) (by omega)
  unfold bt
  rw [(hin _ hm).2, getD_tb hu]
theorem ok_RsAnyFour (b : Bytes) (n z o : Int) (noise : List Bytes) (h1 : noise.length ≤ 9223372036854775807) : m_law04_RsAnyFour b n z o noise = some true := by
  obtain ⟨C, hC⟩ := code_ex
  have hk := (dw_ok n).2
  unfold m_law04_RsAnyFour
  rw [full_ok hC, Option.bind_some, if_pos rfl]
  rcases light_ok noise h1 with ⟨e1, L1⟩ | ⟨e1, _⟩
  · rw [e1, Option.bind_some, if_pos rfl, m_law04_RsAnyFour_j0]
    obtain ⟨x, y, hx, hy, hxy, e⟩ := two_ok (ρ := Bool) z o
    refine (e _).trans ?_
    have ef := any_four hC (dB b (dw n)) (w := dw n) (by omega) hx hy hxy
    have ev := (verify_word hC (dB b (dw n)) (w := dw n) (by omega)).2
    have esr : m_r03_SameRows (tb 6 fun i => tb (dw n) (mm 4 C (dB b (dw n)) i)) (tb 6 fun i => tb (dw n) (mm 4 C (dB b (dw n)) i)) = some true := by rw [samerows_dec _ _ (by rw [tb_len]; omega), decide_eq_true rfl]
    have ea : apd 24 ([] : List Bytes) (tb 6 fun i => tb (dw n) (mm 4 C (dB b (dw n)) i)) = some (tb 6 fun i => tb (dw n) (mm 4 C (dB b (dw n)) i)) := by rw [apd_of (by rw [tb_len]; simp)]; rfl
    generalize mm 4 C (dB b (dw n)) = W at ef ev esr ea
    rw [true6, idx_tb hx, Option.bind_some, upd_tb hx, Option.bind_some, idx_tb hy, Option.bind_some, upd_tb hy, Option.bind_some, ea, Option.bind_some, idx_tb hx, Option.bind_some, upd_tb hx, Option.bind_some, idx_tb hy, Option.bind_some, upd_tb hy, Option.bind_some]
    have hg : ∀ j, j < 6 → st (st (fun _ => true) x false) y false j = but2 x y j := fun j hj => by
      unfold st but2
      by_cases a : j = y <;> by_cases c : j = x <;> simp [a, c]
    by_cases hn : 1 < noise.length
    · rw [if_pos (by omega)]
      have n0 : idx noise (0 : Int) = some (noise.getD 0 []) := idx_getD (i := 0) [] (by omega)
      have n1 : idx noise (1 : Int) = some (noise.getD 1 []) := idx_getD (i := 1) [] (by omega)
      rw [n0, Option.bind_some, n1, Option.bind_some, idx_tb hx, Option.bind_some, upd_tb hx, Option.bind_some, idx_tb hy, Option.bind_some, upd_tb hy, Option.bind_some, ef _ (tb_len _ _) (fun j hj hjx hjy => by rw [getD_tb hj, st_ne hjy, st_ne hjx, st_ne hjy, st_ne hjx]) _ hg, Option.bind_some, if_pos rfl, esr, Option.bind_some, if_pos rfl, ev, Option.bind_some, if_pos rfl, awake_ok]; rfl
    · rw [if_neg (by omega), ef _ (tb_len _ _) (fun j hj hjx hjy => by rw [getD_tb hj, st_ne hjy, st_ne hjx]) _ hg, Option.bind_some, if_pos rfl, esr, Option.bind_some, if_pos rfl, ev, Option.bind_some, if_pos rfl, awake_ok]; rfl
  · rw [e1, Option.bind_some, if_neg (by simp), Option.bind_some, if_neg (by simp), awake_ok]; rfl
end Go.Proofs.Ytnbcphofimicdaa
