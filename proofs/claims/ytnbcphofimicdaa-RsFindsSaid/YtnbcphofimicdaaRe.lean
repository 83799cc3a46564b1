/-
  Locate, and the statements RsLocates and RsFinds. Conditions: the lists' lengths, as each theorem says.
-/
import Derived.Test.YtnbcphofimicdaaRf
import Derived.Test.YtnbcphofimicdaaMdg6
import Derived.Test.YtnbcphofimicdaaMdg7
namespace Go.Proofs.Ytnbcphofimicdaa
set_option linter.unusedVariables false
set_option linter.unusedSimpArgs false
theorem false6 : List.replicate 6 false = tb 6 fun _ => false := rfl
def but1 (i : Nat) : Nat → Bool := fun j => !(j == i)
theorem but1_len : ∀ i, i < 6 → (sel (but1 i) 6).length = 5 := by decide
theorem intbne (a b : Nat) : ((a : Int) != (b : Int)) = !(a == b) := by
  by_cases h : a = b
  · subst h; simp
  · have h1 : ((a : Int) != (b : Int)) = true := bne_iff_ne.2 (by omega)
    have h2 : (a == b) = false := beq_eq_false_iff_ne.2 h
    rw [h1, h2]; rfl
theorem others_loop (l : List Bytes) (i : Nat) (r1 : Int → Option (Int × Int)) (d : Nat) : ∀ (s q : Nat), s + d = 6 → d < q →
    m_rs_Locate_l4 l (i : Int) r1 q (tb 6 (preb (but1 i) s)) (s : Int) = m_rs_Locate_j3 l (i : Int) r1 (tb 6 (but1 i)) := by
  induction d with
  | zero =>
    intro s q hs hq
    obtain ⟨q, rfl⟩ : ∃ q', q = q' + 1 := ⟨q - 1, by omega⟩
    obtain rfl : s = 6 := by omega
    unfold m_rs_Locate_l4
    rw [if_neg (by omega), show tb 6 (preb (but1 i) 6) = tb 6 (but1 i) from tb_ext fun t ht => if_pos ht]
  | succ d ih =>
    intro s q hs hq
    obtain ⟨q, rfl⟩ : ∃ q', q = q' + 1 := ⟨q - 1, by omega⟩
    unfold m_rs_Locate_l4
    rw [if_pos (by omega), idx_tb (by omega), Option.bind_some, upd_tb (by omega), Option.bind_some, ck_succ (by omega), Option.bind_some, intbne]
    have e2 : tb 6 (st (preb (but1 i) s) s (!(s == i))) = tb 6 (preb (but1 i) (s + 1)) := preb_step (but1 i) s 6
    rw [e2]
    exact ih (s + 1) q (by omega) (by omega)
def dif (a b : List Bytes) : Nat → Bool := fun j => !(a.getD j [] == b.getD j [])
theorem differing_loop (a b : List Bytes) (ha : a.length = 6) (hb_ : b.length = 6) (d : Nat) : ∀ (s q : Nat), s + d = 6 → d < q →
    m_rs_differing_l1 a b q (tb 6 (preb (dif a b) s)) (s : Int) = some (tb 6 (dif a b)) := by
  induction d with
  | zero =>
    intro s q hs hq
    obtain ⟨q, rfl⟩ : ∃ q', q = q' + 1 := ⟨q - 1, by omega⟩
    obtain rfl : s = 6 := by omega
    unfold m_rs_differing_l1
    rw [if_neg (by omega), show tb 6 (preb (dif a b) 6) = tb 6 (dif a b) from tb_ext fun t ht => if_pos ht]; rfl
  | succ d ih =>
    intro s q hs hq
    obtain ⟨q, rfl⟩ : ∃ q', q = q' + 1 := ⟨q - 1, by omega⟩
    unfold m_rs_differing_l1
    rw [if_pos (by omega), idx_getD [] (by omega), Option.bind_some, idx_getD [] (by omega), Option.bind_some, m_bytes_Equal, Option.bind_some, idx_tb (by omega), Option.bind_some, upd_tb (by omega), Option.bind_some, ck_succ (by omega), Option.bind_some]
    have e2 : tb 6 (st (preb (dif a b) s) s (!(a.getD s [] == b.getD s []))) = tb 6 (preb (dif a b) (s + 1)) := preb_step (dif a b) s 6
    rw [e2]
    exact ih (s + 1) q (by omega) (by omega)
theorem differing_ok (a b : List Bytes) (ha : a.length = 6) (hb_ : b.length = 6) : m_rs_differing a b = some (tb 6 (dif a b)) := by
  have e := differing_loop a b ha hb_ 6 0 forever (by omega) (by unfold forever; omega)
  rw [show tb 6 (preb (dif a b) 0) = tb 6 fun _ => false from tb_ext fun t ht => if_neg (by omega)] at e
  unfold m_rs_differing
  rw [false6]; exact e
/-- what is restored without row i fits all other rows -/
def Fit (R l : List Bytes) (i : Nat) : Prop := ∀ j, j < 6 → j ≠ i → R.getD j [] = l.getD j []
theorem dif_one (R l : List Bytes) {i : Nat} (hi : i < 6) : tb 6 (dif R l) = tb 6 (st (fun _ => false) i true) ↔ Fit R l i ∧ R.getD i [] ≠ l.getD i [] := by
  constructor
  · intro h
    have h2 := tb_inj h
    refine ⟨fun j hj hne => ?_, ?_⟩
    · have := h2 j hj
      rw [st_ne hne] at this
      simpa [dif] using this
    · have := h2 i hi
      rw [st_same] at this
      simpa [dif] using this
  · rintro ⟨h1, h2⟩
    refine tb_ext fun j hj => ?_
    by_cases e : j = i
    · subst e; rw [st_same]; simpa [dif] using h2
    · rw [st_ne e]; simpa [dif] using h1 j hj e
theorem fits_loop (l : List Bytes) (hl : l.length = 6) (i : Nat) (R : List Bytes) (hR : R.length = 6) (z : Int) (r1 : Int → Option (Int × Int)) (d : Nat) : ∀ (s q : Nat) (f : Bool), s + d = 6 → d < q → (f = true ↔ ∀ j, j < s → j ≠ i → R.getD j [] = l.getD j []) →
    ∃ f' : Bool, m_r04_Locate_l4 l (i : Int) (R, z) r1 q f (s : Int) = m_r04_Locate_j3 (i : Int) r1 f' ∧ (f' = true ↔ Fit R l i) := by
  induction d with
  | zero =>
    intro s q f hs hq hf
    obtain ⟨q, rfl⟩ : ∃ q', q = q' + 1 := ⟨q - 1, by omega⟩
    obtain rfl : s = 6 := by omega
    unfold m_r04_Locate_l4
    exact ⟨f, by rw [if_neg (by omega)], hf⟩
  | succ d ih =>
    intro s q f hs hq hf
    obtain ⟨q, rfl⟩ : ∃ q', q = q' + 1 := ⟨q - 1, by omega⟩
    have step : ∀ g : Bool, (g = true ↔ f = true ∧ (s = i ∨ R.getD s [] = l.getD s [])) → (g = true ↔ ∀ j, j < s + 1 → j ≠ i → R.getD j [] = l.getD j []) := by
      intro g hg
      rw [hg, hf]
      constructor
      · rintro ⟨h1, h2⟩ j hj hne
        by_cases e : j = s
        · subst e; exact h2.resolve_left hne
        · exact h1 j (by omega) hne
      · intro h
        exact ⟨fun j hj hne => h j (by omega) hne, by
          by_cases e : s = i
          · exact .inl e
          · exact .inr (h s (by omega) e)⟩
    unfold m_r04_Locate_l4
    rw [if_pos (by omega)]
    by_cases hf1 : f = true
    · rw [if_pos hf1]
      by_cases e : s = i
      · rw [if_pos (by omega), ck_succ (by omega), Option.bind_some]
        exact ih (s + 1) q true (by omega) (by omega) (step true (by simp [hf1, e]))
      · rw [if_neg (by omega), idx_getD [] (by show s < R.length; omega), Option.bind_some, idx_getD [] (by omega), Option.bind_some, ck_succ (by omega), Option.bind_some]
        exact ih (s + 1) q _ (by omega) (by omega) (step _ (by simp [hf1, e]))
    · rw [if_neg hf1, ck_succ (by omega), Option.bind_some]
      exact ih (s + 1) q false (by omega) (by omega) (step false (by simp [hf1]))

/-- what is restored of level rows without row i -/
theorem level_restore {C : Mx} (hC : IsCode C) (l : List Bytes) (hl : Lvl l 6) (hw : lv l ≤ 1000) {i : Nat} (hi : i < 6) (g : Nat → Bool) (hg : ∀ j, j < 6 → g j = but1 i j) :
    ∃ (Q : Mx) (p : Nat → Nat), Four p ∧ (∀ t, t < 4 → p t ≠ i) ∧ Inverse 4 (fun i k => C (p i) k) Q ∧ m_rs_restore l (tb 6 g) = some (rsto C Q l p (lv l)) ∧ m_r04_Restore l (tb 6 g) = some (rsto C Q l p (lv l), 0) := by
  have es : sel (hb (tb 6 g)) 6 = sel (but1 i) 6 := (sel_congr fun j hj => getD_tb hj).trans (sel_congr hg)
  have h5 := but1_len i hi
  have hin : ∀ j ∈ sel (but1 i) 6, j < 6 ∧ j ≠ i := fun j hj => by
    obtain ⟨h1, h2⟩ := sel_mem.1 hj
    simp [but1] at h2
    exact ⟨h1, h2⟩
  have hhead : (sel (but1 i) 6).headD 0 ∈ sel (but1 i) 6 := by
    cases hq : sel (but1 i) 6 with
    | nil => rw [hq] at h5; simp at h5
    | cons a s => exact List.mem_cons_self ..
  obtain ⟨Q, h1, h2, _, h3⟩ := restore_ok hC l (tb 6 g) hl.1 (tb_len _ _) (by rw [es]; exact fun j hj => by rw [hl.2 j (hin j hj).1, hl.2 _ (hin _ hhead).1]) (by rw [es, h5]; omega) (lv l) (by rw [es]; exact fun j hj => hl.2 j (hin j hj).1) hw
  have h4 : ((sel (but1 i) 6).take 4).length = 4 := by rw [List.length_take, h5]; rfl
  have hm : ∀ j ∈ (sel (but1 i) 6).take 4, j ∈ sel (but1 i) 6 := fun j hj => List.mem_of_mem_take hj
  rw [es] at h1 h2 h3
  refine ⟨Q, fun t => ((sel (but1 i) 6).take 4).getD t 0, four_of h4 ((sel_nodup _ _).sublist (List.take_sublist _ _)) (fun j hj => (hin j (hm j hj)).1), fun t ht => (hin _ (hm _ (getD_mem (by omega)))).2, h1, h2, h3⟩
theorem rsto_len (C Q : Mx) (l : List Bytes) (p : Nat → Nat) (w : Nat) : (rsto C Q l p w).length = 6 := by unfold rsto; rw [tb_len]
theorem fit_word {C : Mx} (hC : IsCode C) (l : List Bytes) (hl : Lvl l 6) {Q : Mx} {p : Nat → Nat} {i : Nat} (hf : Fit (rsto C Q l p (lv l)) l i) (hi : (rsto C Q l p (lv l)).getD i [] = l.getD i []) : Word C l := by
  have e : l = tb 6 fun j => tb (lv l) (mm 4 C (mm 4 Q fun t => bt l (p t)) j) := by
    refine list_tb [] hl.1 fun j hj => ?_
    have h1 : (rsto C Q l p (lv l)).getD j [] = l.getD j [] := by
      by_cases h : j = i
      · subst h; exact hi
      · exact hf j hj h
    rw [← h1]; unfold rsto; rw [getD_tb hj]
  generalize (mm 4 Q fun t => bt l (p t)) = D at e
  generalize lv l = w at e
  subst e
  exact (word_iff hC (mm 4 C D)).2 fun i hi => tb_ext fun t ht => sm_ext fun j hj => by rw [mm_low hC D hj]
/-- one step of the search, in both programs -/
theorem locate_step {C : Mx} (hC : IsCode C) (l : List Bytes) (hl : Lvl l 6) (hw : lv l ≤ 1000) (hnw : ¬ Word C l) {i q q' : Nat} (hi : i < 6) :
    ∃ R : List Bytes, R.length = 6 ∧ (∃ (Q : Mx) (p : Nat → Nat), Four p ∧ (∀ t, t < 4 → p t ≠ i) ∧ Inverse 4 (fun i k => C (p i) k) Q ∧ R = rsto C Q l p (lv l)) ∧
      ((Fit R l i ∧ m_rs_Locate_l1 l (q + 1) (i : Int) = some ((i : Int), 0) ∧ m_r04_Locate_l1 l (q' + 1) (i : Int) = some ((i : Int), 0)) ∨
       (¬ Fit R l i ∧ m_rs_Locate_l1 l (q + 1) (i : Int) = m_rs_Locate_l1 l q ((i + 1 : Nat) : Int) ∧ m_r04_Locate_l1 l (q' + 1) (i : Int) = m_r04_Locate_l1 l q' ((i + 1 : Nat) : Int))) := by
  obtain ⟨Q, p, p1, p2, p3, a1, _⟩ := level_restore hC l hl hw hi (but1 i) (fun _ _ => rfl)
  obtain ⟨Q', p', p1', p2', p3', a1', b1⟩ := level_restore hC l hl hw hi (st (fun _ => true) i false) (fun j hj => by
    unfold st but1
    by_cases h : j = i <;> simp [h])
  have eg : tb 6 (but1 i) = tb 6 (st (fun _ => true) i false) := tb_ext fun j hj => by
    unfold st but1
    by_cases h : j = i <;> simp [h]
  have eR : rsto C Q' l p' (lv l) = rsto C Q l p (lv l) := by
    rw [← eg] at a1'
    rw [a1] at a1'
    exact (Option.some.inj a1').symm
  rw [eR] at b1
  refine ⟨rsto C Q l p (lv l), rsto_len .., ⟨Q, p, p1, p2, p3, rfl⟩, ?_⟩
  have hfw : Fit (rsto C Q l p (lv l)) l i → (rsto C Q l p (lv l)).getD i [] ≠ l.getD i [] := fun hf e => hnw (fit_word hC l hl hf e)
  have hlen := rsto_len C Q l p (lv l)
  generalize rsto C Q l p (lv l) = R at a1 b1 hfw hlen
  have hl6 : l.length = 6 := hl.1
  have e1 : m_rs_Locate_l1 l (q + 1) (i : Int) = m_rs_Locate_j3 l (i : Int) (m_rs_Locate_l1 l q) (tb 6 (but1 i)) := by
    show (if (i : Int) < (l.length : Int) then m_rs_Locate_l4 l (i : Int) (m_rs_Locate_l1 l q) forever (List.replicate 6 false) (0 : Int) else m_rs_Locate_j0) = _
    have e := others_loop l i (m_rs_Locate_l1 l q) 6 0 forever (by omega) (by unfold forever; omega)
    rw [show tb 6 (preb (but1 i) 0) = tb 6 fun _ => false from tb_ext fun t ht => if_neg (by omega)] at e
    rw [if_pos (by omega), false6]
    exact e
  obtain ⟨f', e2, e3⟩ := fits_loop l hl6 i R hlen 0 (m_r04_Locate_l1 l q') 6 0 forever true (by omega) (by unfold forever; omega) (by simp)
  have e4 : m_r04_Locate_l1 l (q' + 1) (i : Int) = m_r04_Locate_j3 (i : Int) (m_r04_Locate_l1 l q') f' := by
    show (if (i : Int) < (6 : Int) then Option.bind (idx ([true, true, true, true, true, true] : List (Bool)) (i : Int)) fun x28 => Option.bind (upd ([true, true, true, true, true, true] : List (Bool)) (i : Int) false) fun x29 => Option.bind (m_r04_Restore l x29) fun x31 => m_r04_Locate_l4 l (i : Int) x31 (m_r04_Locate_l1 l q') forever true (0 : Int) else m_r04_Locate_j0) = _
    rw [if_pos (by omega), true6, idx_tb hi, Option.bind_some, upd_tb hi, Option.bind_some, b1, Option.bind_some]
    exact e2
  have e5 : m_rs_Locate_j3 l (i : Int) (m_rs_Locate_l1 l q) (tb 6 (but1 i)) = if tb 6 (dif R l) = tb 6 (st (fun _ => false) i true) then some ((i : Int), 0) else m_rs_Locate_j2 (i : Int) (m_rs_Locate_l1 l q) := by
    unfold m_rs_Locate_j3
    rw [false6, idx_tb hi, Option.bind_some, upd_tb hi, Option.bind_some, a1, Option.bind_some, differing_ok R l hlen hl6, Option.bind_some]
  rw [e1, e4, e5]
  by_cases hf : Fit R l i
  · left
    refine ⟨hf, if_pos ((dif_one R l hi).2 ⟨hf, hfw hf⟩), ?_⟩
    unfold m_r04_Locate_j3
    rw [if_pos (e3.2 hf)]
  · right
    refine ⟨hf, ?_, ?_⟩
    · rw [if_neg (fun h => hf ((dif_one R l hi).1 h).1), m_rs_Locate_j2, ck_succ (by omega), Option.bind_some]
    · unfold m_r04_Locate_j3
      rw [if_neg (fun h => hf (e3.1 h)), m_r04_Locate_j2, ck_succ (by omega), Option.bind_some]
theorem locate_loop {C : Mx} (hC : IsCode C) (l : List Bytes) (hl : Lvl l 6) (hw : lv l ≤ 1000) (hnw : ¬ Word C l) (d : Nat) : ∀ (i q q' : Nat), i + d = 6 → d < q → d < q' → ∃ r, m_rs_Locate_l1 l q (i : Int) = some r ∧ m_r04_Locate_l1 l q' (i : Int) = some r := by
  induction d with
  | zero =>
    intro i q q' hi hq hq'
    obtain ⟨q, rfl⟩ : ∃ x, q = x + 1 := ⟨q - 1, by omega⟩
    obtain ⟨q', rfl⟩ : ∃ x, q' = x + 1 := ⟨q' - 1, by omega⟩
    have := hl.1
    unfold m_rs_Locate_l1 m_r04_Locate_l1
    rw [if_neg (by omega), if_neg (by omega)]
    exact ⟨_, rfl, rfl⟩
  | succ d ih =>
    intro i q q' hi hq hq'
    obtain ⟨q, rfl⟩ : ∃ x, q = x + 1 := ⟨q - 1, by omega⟩
    obtain ⟨q', rfl⟩ : ∃ x, q' = x + 1 := ⟨q' - 1, by omega⟩
    obtain ⟨R, _, _, ⟨_, h1, h2⟩ | ⟨_, h1, h2⟩⟩ := locate_step hC l hl hw hnw (i := i) (q := q) (q' := q') (by omega)
    · exact ⟨_, h1, h2⟩
    · rw [h1, h2]; exact ih (i + 1) q q' (by omega) (by omega) (by omega)
theorem locate_eq (l : List Bytes) (hl : l.length ≤ 1000) (hw : ∀ j, j < l.length → (l.getD j []).length ≤ 1000) : ∃ r, m_rs_Locate l = some r ∧ m_r04_Locate l = some r := by
  obtain ⟨C, hC⟩ := code_ex
  unfold m_rs_Locate m_r04_Locate
  have e : m_r04_Level l (6 : Int) = some (decide (Lvl l 6)) := level_ok _ 6 (by omega)
  haveI : Decidable (Lvl l 6 ∧ Word C l) := Classical.propDecidable _
  rw [equal_ok l hl, e, Option.bind_some, Option.bind_some]
  by_cases h : Lvl l 6
  · rw [if_pos (decide_eq_true h), if_pos (decide_eq_true h), verify_ok hC l hl hw, rverify_ok hC l hw, Option.bind_some, Option.bind_some]
    by_cases hwd : Word C l
    · rw [if_pos (decide_eq_true ⟨h, hwd⟩), if_pos (decide_eq_true ⟨h, hwd⟩)]; exact ⟨_, rfl, rfl⟩
    · rw [if_neg (by simp [hwd]), if_neg (by simp [hwd])]
      exact locate_loop hC l h (hw 0 (by rw [h.1]; omega)) hwd 6 0 forever forever (by omega) (by unfold forever; omega) (by unfold forever; omega)
  · rw [if_neg (by simp [h]), if_neg (by simp [h])]; exact ⟨_, rfl, rfl⟩

/-! ### RsLocates -/
theorem wrap_gen {ρ : Type} (z : Int) {R : Nat} (h0 : 0 < R) (hR : R ≤ 1000) : ∃ x : Nat, x < R ∧ ∀ k : Int → Option ρ, (Option.bind (rmi z (R : Int)) fun a => Option.bind (ck (a + (R : Int))) fun b => Option.bind (rmi b (R : Int)) k) = k (x : Int) := by
  have h1 := tmod_range z h0
  have h2 : rmi z (R : Int) = some (z.tmod R) := by rw [rmi, if_neg (by omega)]
  have h3 : 0 ≤ (z.tmod R + R) % R := Int.emod_nonneg _ (by omega)
  have h4 : (z.tmod R + R) % R < R := Int.emod_lt_of_pos _ (by omega)
  refine ⟨((z.tmod R + R) % R).toNat, by omega, fun k => ?_⟩
  rw [h2, Option.bind_some, ck_of (by omega), Option.bind_some, rmi_of (by omega) (by omega), Option.bind_some]
  congr 1; omega
theorem mask_mod (z : Int) : ∃ x : Nat, x < 6 ∧ rmi (andi z (7 : Int)) (6 : Int) = some (x : Int) := by
  obtain ⟨m, h1, h2⟩ := andi_mask z 7 (by omega)
  have h3 : andi z (7 : Int) = (m : Int) := h2
  refine ⟨m % 6, by omega, ?_⟩
  rw [h3, rmi_of (by omega) (by omega)]; rfl
theorem locates_end (l x : List Bytes) (h1 : l.length ≤ 1000) (h2 : ∀ j, j < l.length → (l.getD j []).length ≤ 1000) (h3 : x.length ≤ 1000) (h4 : ∀ j, j < x.length → (x.getD j []).length ≤ 1000) : m_law04_RsLocates_j0 l x = some true := by
  obtain ⟨r, a, b⟩ := locate_eq l h1 h2
  obtain ⟨r', a', b'⟩ := locate_eq x h3 h4
  unfold m_law04_RsLocates_j0
  rw [a, b, a', b', Option.bind_some, Option.bind_some, Option.bind_some, Option.bind_some, if_pos rfl, if_pos rfl, if_pos rfl, if_pos rfl, awake_ok]; rfl
theorem locates_loop (l : List Bytes) (sp : List Int) (h1 : l.length ≤ 1000) (h2 : ∀ j, j < l.length → (l.getD j []).length ≤ 1000) (hsp : sp.length ≤ 9223372036854775807) (d : Nat) : ∀ (i q : Nat) (x : List Bytes), 6 ≤ i + d → i ≤ 7 → d < q → x.length = 6 → (∀ j, j < 6 → (x.getD j []).length ≤ 31) → m_law04_RsLocates_l1 l sp q x (i : Int) = some true := by
  induction d with
  | zero =>
    intro i q x hi hi7 hq hx hr
    obtain ⟨q, rfl⟩ : ∃ q', q = q' + 1 := ⟨q - 1, by omega⟩
    have hend := locates_end l x h1 h2 (by omega) (fun j hj => by have := hr j (by omega); omega)
    unfold m_law04_RsLocates_l1
    rw [ck_succ (by omega), Option.bind_some]
    by_cases e : i + 1 < sp.length
    · rw [if_pos (by omega), if_neg (by omega)]; exact hend
    · rw [if_neg (by omega)]; exact hend
  | succ d ih =>
    intro i q x hi hi7 hq hx hr
    obtain ⟨q, rfl⟩ : ∃ q', q = q' + 1 := ⟨q - 1, by omega⟩
    have hend := locates_end l x h1 h2 (by omega) (fun j hj => by have := hr j (by omega); omega)
    unfold m_law04_RsLocates_l1
    rw [ck_succ (by omega), Option.bind_some]
    by_cases e : i + 1 < sp.length
    · rw [if_pos (by omega)]
      by_cases e6 : i < 6
      · rw [if_pos (by omega), m_law04_RsLocates_j2]
        obtain ⟨k, hk, ek⟩ := mask_mod (sp.getD i 0)
        have hrk := hr k hk
        have e2 : ck ((i : Int) + 2) = some ((i + 2 : Nat) : Int) := ck_of (by omega)
        have next : ∀ v : Bytes, v.length ≤ 31 → ∀ j, j < 6 → ((x.set k v).getD j []).length ≤ 31 := fun v hv j hj => by
          rw [List.getD_eq_getElem?_getD, List.getElem?_set]
          by_cases ej : k = j
          · subst ej; rw [if_pos rfl, if_pos (by omega)]; exact hv
          · rw [if_neg ej, ← List.getD_eq_getElem?_getD]; exact hr j hj
        rw [idx_getD 0 (by omega), Option.bind_some, ek, Option.bind_some, idx_getD [] (by omega), Option.bind_some, apd1_of (by rw [List.length_nil]; omega), Option.bind_some, List.nil_append]
        by_cases e0 : 0 < (x.getD k []).length
        · obtain ⟨t, ht, et⟩ := wrap_gen (ρ := Bool) (sp.getD (i + 1) 0) e0 (by omega)
          rw [if_pos (by omega), ck_succ (by omega), Option.bind_some, idx_getD 0 (by omega), Option.bind_some]
          refine Eq.trans (et _) ?_
          have es : shri (sp.getD i 0) ((3 : Nat) : Int) = some (sp.getD i 0 / 2 ^ (3 : Nat)) := by unfold shri; rw [if_pos (by omega)]; rfl
          rw [idx_getD 0#8 ht, Option.bind_some, Option.bind_some, es, Option.bind_some, Option.bind_some, upd_of (by omega), Option.bind_some, Option.bind_some, upd_of (by omega), Option.bind_some, e2, Option.bind_some]
          exact ih (i + 2) q _ (by omega) (by omega) (by omega) (by simp [hx]) (by rw [Int.toNat_natCast]; exact next _ (by simpa using hrk))
        · rw [if_neg (by omega), Option.bind_some, upd_of (by omega), Option.bind_some, e2, Option.bind_some]
          exact ih (i + 2) q _ (by omega) (by omega) (by omega) (by simp [hx]) (by rw [Int.toNat_natCast]; exact next _ hrk)
      · rw [if_neg (by omega)]; exact hend
    · rw [if_neg (by omega)]; exact hend
theorem ok_RsLocates (l : List Bytes) (b : Bytes) (n : Int) (sp : List Int) (h1 : l.length ≤ 9223372036854775807) (h2 : sp.length ≤ 9223372036854775807) : m_law04_RsLocates l b n sp = some true := by
  obtain ⟨C, hC⟩ := code_ex
  have hk := (dw_ok n).2
  unfold m_law04_RsLocates
  rcases light_ok l h1 with ⟨e1, L1⟩ | ⟨e1, _⟩
  · rw [e1, Option.bind_some, if_pos rfl, data_ok, Option.bind_some, rencode_ok hC (by omega), Option.bind_some, Option.bind_some, six_ok hC, Option.bind_some]
    exact locates_loop l sp (by have := L1.2; omega) (fun j hj => by have := L1.1 j hj; omega) h2 7 0 forever _ (by omega) (by omega) (by unfold forever; omega) (tb_len _ _) (fun j hj => by rw [getD_tb hj, tb_len]; omega)
  · rw [e1, Option.bind_some, if_neg (by simp), awake_ok]; rfl

/-! ### RsFinds -/
/-- words that agree at four places are equal -/
theorem mm_xor_ (n : Nat) (C X Y : Mx) (i t : Nat) : (sm n fun k => gm (C i k) (X k t ^^^ Y k t)) = mm n C X i t ^^^ mm n C Y i t := by
  unfold mm
  rw [← sm_xor]
  exact sm_ext fun j hj => gm_addR _ _ _
theorem word_uniq {C : Mx} (hC : IsCode C) {p : Nat → Nat} (hp : Four p) {A D : Mx} {t : Nat} (h : ∀ i, i < 4 → mm 4 C A (p i) t = mm 4 C D (p i) t) : ∀ i, mm 4 C A i t = mm 4 C D i t := by
  have hv := hC.ok.mds p hp.lt hp.inj (fun k => A k t ^^^ D k t) fun i hi => by
    have e : (sm 4 fun k => gm (C (p i) k) (A k t ^^^ D k t)) = mm 4 C A (p i) t ^^^ mm 4 C D (p i) t := (mm_xor_ 4 C A D (p i) t)
    rw [e, h i hi, xor_nil]
  intro i
  refine sm_ext fun j hj => ?_
  have := hv j hj
  rw [show A j t = D j t from BitVec.xor_eq_zero_iff.1 this]
theorem find_loop {C : Mx} (hC : IsCode C) (D : Mx) {w k : Nat} (hw : w ≤ 1000) (hk : k < 6) (v : Bytes) (hv : v.length = w) (hne : v ≠ tb w (mm 4 C D k)) (hnw : ¬ Word C (tb 6 (st (fun i => tb w (mm 4 C D i)) k v))) (d : Nat) : ∀ (i q : Nat), i + d = k → d < q → m_rs_Locate_l1 (tb 6 (st (fun i => tb w (mm 4 C D i)) k v)) q (i : Int) = some ((k : Int), 0) := by
  have hrow : ∀ j, j < 6 → j ≠ k → (tb 6 (st (fun i => tb w (mm 4 C D i)) k v)).getD j [] = tb w (mm 4 C D j) := fun j hj hjk => by rw [getD_tb hj, st_ne hjk]
  have hrk : (tb 6 (st (fun i => tb w (mm 4 C D i)) k v)).getD k [] = v := by rw [getD_tb hk, st_same]
  have hlens : ∀ j, j < 6 → ((tb 6 (st (fun i => tb w (mm 4 C D i)) k v)).getD j []).length = w := fun j hj => by
    by_cases e : j = k
    · subst e; rw [hrk]; exact hv
    · rw [hrow j hj e, tb_len]
  have hlv : lv (tb 6 (st (fun i => tb w (mm 4 C D i)) k v)) = w := hlens 0 (by omega)
  have hl : Lvl (tb 6 (st (fun i => tb w (mm 4 C D i)) k v)) 6 := ⟨tb_len _ _, fun j hj => by rw [hlens j hj, hlv]⟩
  have hbt : ∀ j, j < 6 → j ≠ k → ∀ t, t < w → bt (tb 6 (st (fun i => tb w (mm 4 C D i)) k v)) j t = mm 4 C D j t := fun j hj hjk t ht => by unfold bt; rw [hrow j hj hjk, getD_tb ht]
  generalize tb 6 (st (fun i => tb w (mm 4 C D i)) k v) = l at hrow hrk hlens hlv hl hbt hnw
  induction d with
  | zero =>
    intro i q hi hq
    obtain ⟨q, rfl⟩ : ∃ x, q = x + 1 := ⟨q - 1, by omega⟩
    obtain rfl : i = k := by omega
    obtain ⟨R, _, ⟨Q, p, p1, p2, p3, rfl⟩, ⟨_, h1, _⟩ | ⟨hf, _⟩⟩ := locate_step hC l hl (by omega) hnw (i := i) (q := q) (q' := 0) hk
    · exact h1
    · refine absurd (fun j hj hji => ?_) hf
      rw [hlv, rst_word hC p3 (D := D) fun t ht u hu => hbt _ (p1.lt t ht) (p2 t ht) u hu, getD_tb hj, hrow j hj hji]
  | succ d ih =>
    intro i q hi hq
    obtain ⟨q, rfl⟩ : ∃ x, q = x + 1 := ⟨q - 1, by omega⟩
    obtain ⟨R, _, ⟨Q, p, p1, p2, p3, rfl⟩, ⟨hf, _⟩ | ⟨_, h1, _⟩⟩ := locate_step hC l hl (by omega) hnw (i := i) (q := q) (q' := 0) (by omega)
    · -- what fits without row i would be the word itself
      exfalso
      have h4 := but2_len i (by omega) k hk (by omega)
      have hp := four_of h4 (sel_nodup _ _) (fun j hj => (sel_mem.1 hj).1)
      have hin : ∀ t, t < 4 → (sel (but2 i k) 6).getD t 0 ≠ i ∧ (sel (but2 i k) 6).getD t 0 ≠ k := fun t ht => by
        have h2 := (sel_mem.1 (getD_mem (s := sel (but2 i k) 6) (t := t) (by omega))).2
        simpa [but2] using h2
      have key : ∀ u, u < w → ∀ j, mm 4 C (mm 4 Q fun t => bt l (p t)) j u = mm 4 C D j u := fun u hu => word_uniq hC hp fun t ht => by
        have h5 := hf _ (hp.lt t ht) (hin t ht).1
        rw [hrow _ (hp.lt t ht) (hin t ht).2] at h5
        unfold rsto at h5
        rw [getD_tb (hp.lt t ht), hlv] at h5
        exact tb_inj h5 u hu
      have h6 := hf k hk (by omega)
      rw [hrk] at h6
      unfold rsto at h6
      rw [getD_tb hk, hlv] at h6
      exact hne (by rw [← h6]; exact tb_ext fun u hu => key u hu k)
    · rw [h1]; exact ih (i + 1) q (by omega) (by omega)
theorem finds_loop (noise : Bytes) (hn : noise.length ≤ 9223372036854775807) (x3 : List Bytes × Bool) (k : Int) {w : Nat} (hw : w ≤ 1000) (d : Nat) : ∀ (i q : Nat) (v : Bytes), i + d = w → d < q → v.length = w → ∃ v' : Bytes, v'.length = w ∧ m_law04_RsFinds_l1 noise x3 k q v (i : Int) = m_law04_RsFinds_j0 x3 k v' := by
  induction d with
  | zero =>
    intro i q v hi hq hv
    obtain ⟨q, rfl⟩ : ∃ x, q = x + 1 := ⟨q - 1, by omega⟩
    unfold m_law04_RsFinds_l1
    exact ⟨v, hv, by rw [if_neg (by omega)]⟩
  | succ d ih =>
    intro i q v hi hq hv
    obtain ⟨q, rfl⟩ : ∃ x, q = x + 1 := ⟨q - 1, by omega⟩
    unfold m_law04_RsFinds_l1
    rw [if_pos (by omega)]
    by_cases e : i < noise.length
    · rw [if_pos (by omega), idx_getD 0#8 (by omega), Option.bind_some, idx_getD 0#8 (by omega), Option.bind_some, Option.bind_some, upd_of (by omega), Option.bind_some, ck_succ (by omega), Option.bind_some]
      exact ih (i + 1) q _ (by omega) (by omega) (by simp [hv])
    · rw [if_neg (by omega)]; exact ⟨v, hv, rfl⟩
theorem ok_RsFinds (b : Bytes) (n z : Int) (noise : Bytes) (hn : noise.length ≤ 9223372036854775807) : m_law04_RsFinds b n z noise = some true := by
  obtain ⟨C, hC⟩ := code_ex
  have hk := (dw_ok n).2
  unfold m_law04_RsFinds
  rw [full_ok hC, Option.bind_some, if_pos rfl]
  obtain ⟨k, hk6, ek⟩ := wrap_ok (ρ := Bool) z d6
  refine Eq.trans (ek _) ?_
  have hvw := verify_word hC (dB b (dw n)) (w := dw n) (by omega)
  generalize hD : dB b (dw n) = D at hvw
  generalize dw n = w at hk hvw
  rw [idx_tb hk6, Option.bind_some, apd1_of (by rw [tb_len]; simp; omega), Option.bind_some, List.nil_append]
  obtain ⟨v, hv, ev⟩ := finds_loop noise hn (tb 6 fun i => tb w (mm 4 C D i), true) (k : Int) (w := w) (by omega) w 0 forever (tb w (mm 4 C D k)) (by omega) (by unfold forever; omega) (tb_len _ _)
  refine Eq.trans ev ?_
  unfold m_law04_RsFinds_j0
  rw [idx_tb hk6, Option.bind_some, Option.bind_some, upd_tb hk6, Option.bind_some]
  have hlens : ∀ j, j < 6 → ((tb 6 (st (fun i => tb w (mm 4 C D i)) k v)).getD j []).length = w := fun j hj => by
    rw [getD_tb hj]; unfold st
    split
    · exact hv
    · rw [tb_len]
  have hlv : lv (tb 6 (st (fun i => tb w (mm 4 C D i)) k v)) = w := hlens 0 (by omega)
  have hl : Lvl (tb 6 (st (fun i => tb w (mm 4 C D i)) k v)) 6 := ⟨tb_len _ _, fun j hj => by rw [hlens j hj, hlv]⟩
  have hb1 : ∀ j, j < (tb 6 (st (fun i => tb w (mm 4 C D i)) k v)).length → ((tb 6 (st (fun i => tb w (mm 4 C D i)) k v)).getD j []).length ≤ 1000 := fun j hj => by rw [tb_len] at hj; rw [hlens j hj]; omega
  by_cases hne : v = tb w (mm 4 C D k)
  · have hst : st (fun i => tb w (mm 4 C D i)) k v = fun i => tb w (mm 4 C D i) := by
      funext j; unfold st
      split
      · rename_i e; rw [e]; exact hne
      · rfl
    have eloc : m_rs_Locate (tb 6 fun i => tb w (mm 4 C D i)) = some (-1, 0) := by
      unfold m_rs_Locate
      rw [equal_ok _ (by rw [tb_len]; omega), decide_eq_true (lvl_tb _ (by omega)), Option.bind_some, if_pos rfl, hvw.2, Option.bind_some, if_pos rfl]
    rw [hst, eloc, Option.bind_some, if_pos hne, if_pos rfl, if_pos rfl, awake_ok]; rfl
  · have hnw : ¬ Word C (tb 6 (st (fun i => tb w (mm 4 C D i)) k v)) := by
      intro hwd
      -- a word that agrees with the other word at all rows but k
      have h5 := but1_len k hk6
      have hp : Four fun t => ((sel (but1 k) 6).take 4).getD t 0 := four_of (by rw [List.length_take, h5]; rfl) ((sel_nodup _ _).sublist (List.take_sublist _ _)) (fun j hj => (sel_mem.1 (List.mem_of_mem_take hj)).1)
      have hin : ∀ t, t < 4 → ((sel (but1 k) 6).take 4).getD t 0 ≠ k := fun t ht => by
        have h2 := (sel_mem.1 (List.mem_of_mem_take (getD_mem (s := (sel (but1 k) 6).take 4) (t := t) (by rw [List.length_take, h5]; omega)))).2
        simpa [but1] using h2
      refine hne (list_tb 0#8 hv fun u hu => ?_)
      have h6 := word_uniq hC hp (A := bt (tb 6 (st (fun i => tb w (mm 4 C D i)) k v))) (D := D) (t := u) (fun t ht => by
        rw [hwd _ (hp.lt t ht) u (by rw [hlv]; exact hu)]
        unfold bt
        rw [getD_tb (hp.lt t ht), st_ne (hin t ht), getD_tb hu]) k
      rw [← h6, hwd k hk6 u (by rw [hlv]; exact hu)]
      unfold bt
      rw [getD_tb hk6, st_same]
    haveI : Decidable (Lvl (tb 6 (st (fun i => tb w (mm 4 C D i)) k v)) 6 ∧ Word C (tb 6 (st (fun i => tb w (mm 4 C D i)) k v))) := Classical.propDecidable _
    have ever : m_rs_Verify (tb 6 (st (fun i => tb w (mm 4 C D i)) k v)) = some false := by rw [verify_ok hC _ (by rw [tb_len]; omega) hb1, decide_eq_false (fun h => hnw h.2)]
    have eloc : m_rs_Locate (tb 6 (st (fun i => tb w (mm 4 C D i)) k v)) = some ((k : Int), 0) := by
      unfold m_rs_Locate
      rw [equal_ok _ (by rw [tb_len]; omega), decide_eq_true hl, Option.bind_some, if_pos rfl, ever, Option.bind_some, if_neg (by simp)]
      exact find_loop hC D (by omega) hk6 v hv hne hnw k 0 forever (by omega) (by unfold forever; omega)
    rw [eloc, Option.bind_some, if_neg hne, if_pos rfl, if_pos rfl, ever, Option.bind_some, if_neg (by simp), awake_ok]; rfl
end Go.Proofs.Ytnbcphofimicdaa
