/-
  What Restore computes, in the program and in the reference. Conditions: as each theorem says.
-/
import Derived.Test.YtnbcphofimicdaaRc
namespace Go.Proofs.Ytnbcphofimicdaa
set_option linter.unusedVariables false
set_option linter.unusedSimpArgs false
def glist (l : List Bytes) (s : List Nat) : List Bytes := s.map fun j => l.getD j []
theorem glist_tb {l : List Bytes} {s : List Nat} {n : Nat} (h : s.length = n) : glist l s = tb n fun t => l.getD (s.getD t 0) [] := by
  have e := tb_of 0 h
  unfold glist
  rw [e]
  unfold tb
  rw [List.map_map]
  refine List.map_congr_left fun t ht => ?_
  simp at ht
  simp [ht]
theorem ilist_snoc (s : List Nat) (i : Nat) (hs : s.length ≤ 100) : apd 8 (ilist s) [(i : Int)] = some (ilist (s ++ [i])) := by
  rw [apd_of (by simp only [ilist, List.length_map, List.length_cons, List.length_nil]; omega)]; simp [ilist]
theorem glist_snoc (l : List Bytes) (s : List Nat) (i : Nat) (hs : s.length ≤ 100) : apd 24 (glist l s) [l.getD i []] = some (glist l (s ++ [i])) := by
  rw [apd_of (by simp only [glist, List.length_map, List.length_cons, List.length_nil]; omega)]; simp [glist]
def hb (h : List Bool) (j : Nat) : Bool := h.getD j false
/-- the rows of s have one length -/
def Same (l : List Bytes) (s : List Nat) : Prop := ∀ j ∈ s, (l.getD j []).length = (l.getD (s.headD 0) []).length
theorem headD_append {s : List Nat} (x : List Nat) (h : s ≠ []) : (s ++ x).headD 0 = s.headD 0 := by
  cases s with
  | nil => exact absurd rfl h
  | cons a s => rfl
theorem sel_head {h : Nat → Bool} {i : Nat} (hne : sel h i ≠ []) : ∀ k, sel h (i + k) ≠ [] ∧ (sel h (i + k)).headD 0 = (sel h i).headD 0
  | 0 => ⟨hne, rfl⟩
  | k + 1 => by
    obtain ⟨h1, h2⟩ := sel_head hne k
    rw [← Nat.add_assoc, sel_succ]
    split
    · exact ⟨by simp, (headD_append _ h1).trans h2⟩
    · exact ⟨h1, h2⟩
theorem same_mono {l : List Bytes} {h : Nat → Bool} {i : Nat} (k : Nat) (hs : Same l (sel h (i + k))) : Same l (sel h i) := by
  intro j hj
  have hne : sel h i ≠ [] := fun e => by rw [e] at hj; cases hj
  have := hs j (sel_mem.2 ⟨by have := (sel_mem.1 hj).1; omega, (sel_mem.1 hj).2⟩)
  rwa [(sel_head hne k).2] at this

/-! ### the rows that are taken -/
section
variable {C : Mx} (hC : IsCode C)
theorem restore_take (h : Nat → Bool) (i : Nat) : (sel h (i + 1)).take 4 = if h i = true ∧ (sel h i).length < 4 then (sel h i).take 4 ++ [i] else (sel h i).take 4 := by
  rw [sel_succ]
  by_cases e : h i = true
  · rw [if_pos e]
    by_cases e2 : (sel h i).length < 4
    · rw [if_pos ⟨e, e2⟩, List.take_of_length_le (by simp; omega), List.take_of_length_le (by omega)]
    · rw [if_neg (fun hh => e2 hh.2), List.take_append_of_le_length (by omega)]
  · rw [if_neg e, if_neg (fun hh => e hh.1)]
theorem restore_loop (l : List Bytes) (h : List Bool) (hl : l.length = 6) (hh : h.length = 6) (d : Nat) : ∀ (i q : Nat), i + d = 6 → d < q →
    m_rs_restore_l1 l h q (ilist ((sel (hb h) i).take 4)) (glist l ((sel (hb h) i).take 4)) (i : Int) = m_rs_restore_j0 (ilist ((sel (hb h) 6).take 4)) (glist l ((sel (hb h) 6).take 4)) := by
  induction d with
  | zero =>
    intro i q hi hq
    obtain ⟨q, rfl⟩ : ∃ q', q = q' + 1 := ⟨q - 1, by omega⟩
    unfold m_rs_restore_l1
    rw [if_neg (by omega), show i = 6 by omega]
  | succ d ih =>
    intro i q hi hq
    obtain ⟨q, rfl⟩ : ∃ q', q = q' + 1 := ⟨q - 1, by omega⟩
    have e := ih (i + 1) q (by omega) (by omega)
    rw [restore_take] at e
    have hlen : (ilist ((sel (hb h) i).take 4)).length = min 4 (sel (hb h) i).length := by simp [ilist]
    unfold m_rs_restore_l1
    rw [if_pos (by omega), idx_getD false (by omega), Option.bind_some]
    by_cases e1 : hb h i = true
    · rw [if_pos (show h.getD i false = true from e1), hlen]
      by_cases e2 : (sel (hb h) i).length < 4
      · rw [if_pos ⟨e1, e2⟩] at e
        rw [if_pos (by omega), ilist_snoc _ _ (by rw [List.length_take]; omega), Option.bind_some, idx_getD [] (by omega), Option.bind_some, glist_snoc _ _ _ (by rw [List.length_take]; omega), Option.bind_some, ck_succ (by omega), Option.bind_some]
        exact e
      · rw [if_neg (fun hh => e2 hh.2)] at e
        rw [if_neg (by omega), ck_succ (by omega), Option.bind_some]
        exact e
    · rw [if_neg (fun hh => e1 hh.1)] at e
      rw [if_neg (show ¬ h.getD i false = true from e1), ck_succ (by omega), Option.bind_some]
      exact e
/-- what is restored from rows p of l -/
def rsto (C Q : Mx) (l : List Bytes) (p : Nat → Nat) (w : Nat) : List Bytes := tb 6 fun i => tb w (mm 4 C (mm 4 Q fun t => bt l (p t)) i)
theorem glist_level {l : List Bytes} {s : List Nat} {w : Nat} (h4 : s.length = 4) (hw : ∀ j ∈ s, (l.getD j []).length = w) : glist l s = tb 4 fun t => tb w (bt l (s.getD t 0)) := by
  rw [glist_tb h4]
  exact tb_ext fun t ht => tb_of 0#8 (hw _ (getD_mem (by omega)))
theorem restore_end (hC : IsCode C) (l : List Bytes) (s : List Nat) (w : Nat) (hs : s.length = 4) (hn : s.Nodup) (h6 : ∀ j ∈ s, j < 6) (hw : ∀ j ∈ s, (l.getD j []).length = w) (hw2 : w ≤ 1000) :
    ∃ Q, Inverse 4 (fun i k => C (s.getD i 0) k) Q ∧ m_rs_restore_j0 (ilist s) (glist l s) = some (rsto C Q l (fun t => s.getD t 0) w) ∧
      (∀ s' : List Nat, s'.take 4 = s → 4 ≤ s'.length → m_r04_Restore_j1 (ilist s') (glist l s') = some (rsto C Q l (fun t => s.getD t 0) w, 0)) := by
  have hp := four_of hs hn h6
  obtain ⟨Q, h1, h2⟩ := inv4 hC hp
  refine ⟨Q, h2, ?_, ?_⟩
  · unfold m_rs_restore_j0
    have e4 : m_gfmatrix_Mul (6 : Int) (4 : Int) (tb 24 (ml 4 C)) (4 : Int) (4 : Int) (tb 16 (ml 4 Q)) = some (6, 4, tb 24 (ml 4 (mm 4 C Q)), 0) := mul_ml (R := 6) (n := 4) (C := 4) d6 d4 d4 C Q
    have e5 : m_gfmatrix_Apply (6 : Int) (4 : Int) (tb 24 (ml 4 (mm 4 C Q))) (tb 4 fun t => tb w (bt l (s.getD t 0))) = some (tb 6 fun i => tb w (mm 4 (mm 4 C Q) (fun t => bt l (s.getD t 0)) i), 0) := apply_ok (R := 6) (C := 4) (mm 4 C Q) (fun t => bt l (s.getD t 0)) d6 d4 hw2
    rw [hC.rs, Option.bind_some, ilist_tb hs, pick4 C hp, Option.bind_some, h1, Option.bind_some, e4, Option.bind_some, glist_level hs hw, e5, Option.bind_some]
    exact congrArg some (tb_ext fun i hi => tb_ext fun t ht => mm_assoc 4 4 C Q _ i t)
  · intro s' hs' hl'
    unfold m_r04_Restore_j1
    have e1 : slc (ilist s') 0 (4 : Int) = some (ilist s) := by
      rw [slc_of (by simp only [ilist, List.length_map]; omega)]
      simp [ilist, ← hs']
    have e2 : slc (glist l s') 0 (4 : Int) = some (glist l s) := by
      rw [slc_of (by simp only [glist, List.length_map]; omega)]
      simp [glist, ← hs']
    have e5 : m_r03_Apply (4 : Int) (4 : Int) (tb 16 (ml 4 Q)) (tb 4 fun t => tb w (bt l (s.getD t 0))) = some (tb 4 fun i => tb w (mm 4 Q (fun t => bt l (s.getD t 0)) i), 0) := rapply_ok (R := 4) (C := 4) Q (fun t => bt l (s.getD t 0)) d4 d4 hw2
    rw [if_neg (by simp only [ilist, List.length_map]; omega), hC.ref, Option.bind_some, e1, Option.bind_some, ilist_tb hs, eq_of_both (pick_eq _ _ _ _) (pick4 C hp), Option.bind_some, eq_of_both (invert_eq _ _ _) h1, Option.bind_some, e2, Option.bind_some, glist_level hs hw, e5, Option.bind_some, all_ok hC hw2, Option.bind_some]
    rfl
end

/-! ### Restore -/
theorem restore_l2 (l : List Bytes) (h : List Bool) (hl : l.length = 6) (hh : h.length = 6) (d : Nat) : ∀ (i q : Nat), i + d = 6 → d < q → Same l (sel (hb h) i) →
    (Same l (sel (hb h) 6) ∧ m_rs_Restore_l2 l h q (if sel (hb h) i = [] then -1 else ((sel (hb h) i).headD 0 : Nat)) ((sel (hb h) i).length : Nat) (i : Int) = m_rs_Restore_j1 l h ((sel (hb h) 6).length : Nat)) ∨
    (¬ Same l (sel (hb h) 6) ∧ m_rs_Restore_l2 l h q (if sel (hb h) i = [] then -1 else ((sel (hb h) i).headD 0 : Nat)) ((sel (hb h) i).length : Nat) (i : Int) = some ([], 1)) := by
  induction d with
  | zero =>
    intro i q hi hq hs
    obtain ⟨q, rfl⟩ : ∃ q', q = q' + 1 := ⟨q - 1, by omega⟩
    obtain rfl : i = 6 := by omega
    unfold m_rs_Restore_l2
    exact .inl ⟨hs, by rw [if_neg (by omega)]⟩
  | succ d ih =>
    intro i q hi hq hs
    obtain ⟨q, rfl⟩ : ∃ q', q = q' + 1 := ⟨q - 1, by omega⟩
    have e := ih (i + 1) q (by omega) (by omega)
    have hlen := sel_len (hb h) i
    rw [sel_succ] at e
    unfold m_rs_Restore_l2
    rw [if_pos (by omega), idx_getD false (by omega), Option.bind_some]
    by_cases e1 : hb h i = true
    · rw [if_pos e1] at e
      have e1' : h.getD i false = true := e1
      rw [if_pos e1', idx_getD [] (by omega), Option.bind_some]
      by_cases e2 : sel (hb h) i = []
      · rw [e2] at e ⊢
        rw [if_pos rfl, if_pos (by omega), Option.bind_some, if_pos rfl]
        have c1 : ck (((([] : List Nat).length : Nat) : Int) + 1) = some 1 := rfl
        rw [c1, Option.bind_some, ck_succ (by omega), Option.bind_some]
        have := e (by intro j hj; simp at hj; subst hj; rfl)
        rw [List.nil_append, if_neg (by simp)] at this
        exact this
      · have hlt : (sel (hb h) i).headD 0 < 6 := by
          cases hq : sel (hb h) i with
          | nil => exact absurd hq e2
          | cons a s => have := sel_mem.1 (show a ∈ sel (hb h) i by rw [hq]; exact List.mem_cons_self ..); simp; omega
        rw [if_neg e2, if_neg (by omega), Option.bind_some, idx_getD [] (by omega), Option.bind_some]
        by_cases e3 : (l.getD i []).length = (l.getD ((sel (hb h) i).headD 0) []).length
        · rw [if_pos (by omega), ck_succ (by omega), Option.bind_some, ck_succ (by omega), Option.bind_some]
          have := e (by
            intro j hj
            rw [headD_append _ e2]
            rcases List.mem_append.1 hj with hj | hj
            · exact hs j hj
            · simp at hj; subst hj; exact e3)
          rw [if_neg (by simp), headD_append _ e2, List.length_append] at this
          exact this
        · rw [if_neg (by omega)]
          refine .inr ⟨fun h6 => e3 ?_, rfl⟩
          obtain ⟨k, rfl⟩ : ∃ k, d = k := ⟨d, rfl⟩
          have h7 := (sel_head e2 (d + 1)).2
          rw [show i + (d + 1) = 6 by omega] at h7
          rw [← h7]
          exact h6 i (sel_mem.2 ⟨by omega, e1⟩)
    · rw [if_neg e1] at e
      have e1' : ¬ h.getD i false = true := e1
      rw [if_neg e1', ck_succ (by omega), Option.bind_some]
      exact e hs
theorem rrestore_l2 (l : List Bytes) (h : List Bool) (hl : l.length = 6) (hh : h.length = 6) (d : Nat) : ∀ (i q : Nat), i + d = 6 → d < q → Same l (sel (hb h) i) →
    (Same l (sel (hb h) 6) ∧ m_r04_Restore_l2 l h q (ilist (sel (hb h) i)) (glist l (sel (hb h) i)) (i : Int) = m_r04_Restore_j1 (ilist (sel (hb h) 6)) (glist l (sel (hb h) 6))) ∨
    (¬ Same l (sel (hb h) 6) ∧ m_r04_Restore_l2 l h q (ilist (sel (hb h) i)) (glist l (sel (hb h) i)) (i : Int) = some ([], 1)) := by
  induction d with
  | zero =>
    intro i q hi hq hs
    obtain ⟨q, rfl⟩ : ∃ q', q = q' + 1 := ⟨q - 1, by omega⟩
    obtain rfl : i = 6 := by omega
    unfold m_r04_Restore_l2
    exact .inl ⟨hs, by rw [if_neg (by omega)]⟩
  | succ d ih =>
    intro i q hi hq hs
    obtain ⟨q, rfl⟩ : ∃ q', q = q' + 1 := ⟨q - 1, by omega⟩
    have e := ih (i + 1) q (by omega) (by omega)
    have hlen := sel_len (hb h) i
    rw [sel_succ] at e
    unfold m_r04_Restore_l2
    rw [if_pos (by omega), idx_getD false (by omega), Option.bind_some]
    by_cases e1 : hb h i = true
    · rw [if_pos e1] at e
      have e1' : h.getD i false = true := e1
      rw [if_pos e1']
      by_cases e2 : sel (hb h) i = []
      · rw [e2] at e ⊢
        rw [if_neg (by simp [glist])]
        have a1 := ilist_snoc [] i (by simp)
        have a2 := glist_snoc l [] i (by simp)
        rw [a1, Option.bind_some, idx_getD [] (by omega), Option.bind_some, a2, Option.bind_some, ck_succ (by omega), Option.bind_some]
        exact e (by intro j hj; simp at hj; subst hj; rfl)
      · have hpos : 0 < (sel (hb h) i).length := List.length_pos_iff.2 e2
        have e0 : idx (glist l (sel (hb h) i)) (0 : Int) = some (l.getD ((sel (hb h) i).headD 0) []) := by
          cases hq : sel (hb h) i with
          | nil => exact absurd hq e2
          | cons a s => rfl
        rw [if_pos (by simp only [glist, List.length_map]; omega), idx_getD [] (by omega), Option.bind_some, e0, Option.bind_some]
        by_cases e3 : (l.getD i []).length = (l.getD ((sel (hb h) i).headD 0) []).length
        · rw [if_pos (by omega), ilist_snoc _ _ (by omega), Option.bind_some, Option.bind_some, glist_snoc _ _ _ (by omega), Option.bind_some, ck_succ (by omega), Option.bind_some]
          exact e (by
            intro j hj
            rw [headD_append _ e2]
            rcases List.mem_append.1 hj with hj | hj
            · exact hs j hj
            · simp at hj; subst hj; exact e3)
        · rw [if_neg (by omega)]
          refine .inr ⟨fun h6 => e3 ?_, rfl⟩
          have h7 := (sel_head e2 (d + 1)).2
          rw [show i + (d + 1) = 6 by omega] at h7
          rw [← h7]
          exact h6 i (sel_mem.2 ⟨by omega, e1⟩)
    · rw [if_neg e1] at e
      have e1' : ¬ h.getD i false = true := e1
      rw [if_neg e1', ck_succ (by omega), Option.bind_some]
      exact e hs
theorem same_nil (l : List Bytes) : Same l [] := fun j hj => (by cases hj)
/-- Restore, case by case -/
theorem restore_bad (l : List Bytes) (h : List Bool) (hne : ¬ (l.length = 6 ∧ h.length = 6 ∧ Same l (sel (hb h) 6))) : m_rs_Restore l h = some ([], 1) ∧ m_r04_Restore l h = some ([], 1) := by
  by_cases h1 : l.length = 6
  · by_cases h2 : h.length = 6
    · constructor
      · unfold m_rs_Restore
        rw [if_pos (by omega), if_pos (by omega), m_rs_Restore_j0, tka_of (by omega), Option.bind_some, List.take_of_length_le (by omega)]
        rcases restore_l2 l h h1 h2 6 0 forever (by omega) (by unfold forever; omega) (same_nil l) with ⟨h3, _⟩ | ⟨_, h3⟩
        · exact absurd ⟨h1, h2, h3⟩ hne
        · exact h3
      · unfold m_r04_Restore
        rw [if_pos (by omega), if_pos (by omega), m_r04_Restore_j0]
        rcases rrestore_l2 l h h1 h2 6 0 forever (by omega) (by unfold forever; omega) (same_nil l) with ⟨h3, _⟩ | ⟨_, h3⟩
        · exact absurd ⟨h1, h2, h3⟩ hne
        · exact h3
    · constructor
      · unfold m_rs_Restore
        rw [if_pos (by omega), if_neg (by omega)]
      · unfold m_r04_Restore
        rw [if_pos (by omega), if_neg (by omega)]
  · constructor
    · unfold m_rs_Restore
      rw [if_neg (by omega)]
    · unfold m_r04_Restore
      rw [if_neg (by omega)]
theorem restore_few (l : List Bytes) (h : List Bool) (h1 : l.length = 6) (h2 : h.length = 6) (hs : Same l (sel (hb h) 6)) (h4 : (sel (hb h) 6).length < 4) : m_rs_Restore l h = some ([], 11) ∧ m_r04_Restore l h = some ([], 11) := by
  constructor
  · unfold m_rs_Restore
    rw [if_pos (by omega), if_pos (by omega), m_rs_Restore_j0, tka_of (by omega), Option.bind_some, List.take_of_length_le (by omega)]
    rcases restore_l2 l h h1 h2 6 0 forever (by omega) (by unfold forever; omega) (same_nil l) with ⟨_, h3⟩ | ⟨h3, _⟩
    · refine Eq.trans h3 ?_
      unfold m_rs_Restore_j1
      rw [if_pos (by omega)]
    · exact absurd hs h3
  · unfold m_r04_Restore
    rw [if_pos (by omega), if_pos (by omega), m_r04_Restore_j0]
    rcases rrestore_l2 l h h1 h2 6 0 forever (by omega) (by unfold forever; omega) (same_nil l) with ⟨_, h3⟩ | ⟨h3, _⟩
    · refine Eq.trans h3 ?_
      unfold m_r04_Restore_j1
      rw [if_pos (by simp only [ilist, List.length_map]; omega)]
    · exact absurd hs h3
theorem restore_ok {C : Mx} (hC : IsCode C) (l : List Bytes) (h : List Bool) (h1 : l.length = 6) (h2 : h.length = 6) (hs : Same l (sel (hb h) 6)) (h4 : 4 ≤ (sel (hb h) 6).length) (w : Nat) (hw : ∀ j ∈ sel (hb h) 6, (l.getD j []).length = w) (hw2 : w ≤ 1000) :
    ∃ Q, Inverse 4 (fun i k => C (((sel (hb h) 6).take 4).getD i 0) k) Q ∧ m_rs_restore l h = some (rsto C Q l (fun t => ((sel (hb h) 6).take 4).getD t 0) w) ∧ m_rs_Restore l h = some (rsto C Q l (fun t => ((sel (hb h) 6).take 4).getD t 0) w, 0) ∧ m_r04_Restore l h = some (rsto C Q l (fun t => ((sel (hb h) 6).take 4).getD t 0) w, 0) := by
  have hm : ∀ j ∈ (sel (hb h) 6).take 4, j ∈ sel (hb h) 6 := fun j hj => List.mem_of_mem_take hj
  obtain ⟨Q, q1, q2, q3⟩ := restore_end hC l ((sel (hb h) 6).take 4) w (by rw [List.length_take]; omega) ((sel_nodup _ _).sublist (List.take_sublist _ _)) (fun j hj => (sel_mem.1 (hm j hj)).1) (fun j hj => hw j (hm j hj)) hw2
  have r1 : m_rs_restore l h = some (rsto C Q l (fun t => ((sel (hb h) 6).take 4).getD t 0) w) := by
    unfold m_rs_restore
    exact Eq.trans (restore_loop l h h1 h2 6 0 forever (by omega) (by unfold forever; omega)) q2
  refine ⟨Q, q1, r1, ?_, ?_⟩
  · unfold m_rs_Restore
    rw [if_pos (by omega), if_pos (by omega), m_rs_Restore_j0, tka_of (by omega), Option.bind_some, List.take_of_length_le (by omega)]
    rcases restore_l2 l h h1 h2 6 0 forever (by omega) (by unfold forever; omega) (same_nil l) with ⟨_, h3⟩ | ⟨h3, _⟩
    · refine Eq.trans h3 ?_
      unfold m_rs_Restore_j1
      rw [if_neg (by omega), r1, Option.bind_some]
    · exact absurd hs h3
  · unfold m_r04_Restore
    rw [if_pos (by omega), if_pos (by omega), m_r04_Restore_j0]
    rcases rrestore_l2 l h h1 h2 6 0 forever (by omega) (by unfold forever; omega) (same_nil l) with ⟨_, h3⟩ | ⟨h3, _⟩
    · exact Eq.trans h3 (q3 _ rfl h4)
    · exact absurd hs h3
theorem restore_eq (l : List Bytes) (h : List Bool) (hw : ∀ j, j < l.length → (l.getD j []).length ≤ 1000) : ∃ r, m_rs_Restore l h = some r ∧ m_r04_Restore l h = some r ∧ r.1.length ≤ 6 := by
  obtain ⟨C, hC⟩ := code_ex
  by_cases hne : l.length = 6 ∧ h.length = 6 ∧ Same l (sel (hb h) 6)
  · obtain ⟨h1, h2, hs⟩ := hne
    by_cases h4 : (sel (hb h) 6).length < 4
    · obtain ⟨a, b⟩ := restore_few l h h1 h2 hs h4
      exact ⟨_, a, b, by simp⟩
    · have h0 : (sel (hb h) 6).headD 0 < 6 := by
        cases hq : sel (hb h) 6 with
        | nil => simp
        | cons a s => have := sel_mem.1 (show a ∈ sel (hb h) 6 by rw [hq]; exact List.mem_cons_self ..); simp; omega
      obtain ⟨Q, _, _, a, b⟩ := restore_ok hC l h h1 h2 hs (by omega) _ hs (hw _ (by omega))
      exact ⟨_, a, b, by unfold rsto; rw [tb_len]; omega⟩
  · obtain ⟨a, b⟩ := restore_bad l h hne
    exact ⟨_, a, b, by simp⟩
/-- rows of a word of the code give the word -/
theorem rst_word {C : Mx} (hC : IsCode C) {Q : Mx} {p : Nat → Nat} (hQ : Inverse 4 (fun i k => C (p i) k) Q) {l : List Bytes} {w : Nat} {D : Mx} (h : ∀ t, t < 4 → ∀ u, u < w → bt l (p t) u = mm 4 C D (p t) u) : rsto C Q l p w = tb 6 fun i => tb w (mm 4 C D i) := by
  refine tb_ext fun i hi => tb_ext fun u hu => ?_
  have e : ∀ j, j < 4 → mm 4 Q (fun t => bt l (p t)) j u = D j u := fun j hj => by
    have e1 : mm 4 Q (fun t => bt l (p t)) j u = mm 4 Q (mm 4 (fun i k => C (p i) k) D) j u := sm_ext fun t ht => congrArg (gm (Q j t)) (h t ht u hu)
    rw [e1, ← mm_assoc, mm_congL D hQ.1 u hj, mm_idL _ _ hj]
  exact sm_ext fun j hj => by rw [e j hj]
end Go.Proofs.Ytnbcphofimicdaa
