/-
  The statement EcreadSets. Conditions: the first number is an int.
-/
import Derived.Test.YtcncappgheopgaaMdd
import Derived.KernelRfl
namespace Go.Proofs.Ytcncappgheopgaa
set_option linter.unusedVariables false
set_option linter.unusedSimpArgs false
/-- the sets -/
def sL : List (List Int) := [[], [0], [1], [2], [3], [4], [5], [0, 1], [0, 2], [0, 3], [0, 4], [0, 5], [1, 2], [1, 3], [1, 4], [1, 5], [2, 3], [2, 4], [2, 5], [3, 4], [3, 5], [4, 5]]
theorem sL_len : sL.length = 22 := rfl
def ex (n : Int) : List Int := if 0 ≤ n then sL.getD n.toNat [] else []
theorem ex_in : ∀ i : Fin 22, m_ecread_Exclude (i.val : Int) = some (sL.getD i.val []) := by decide +kernel
/-- the number after j rounds -/
def sj (n : Int) (j : Nat) : Int := wri (n - (j : Int))
theorem sj_succ (n : Int) (j : Nat) : wri (sj n j - 1) = sj n (j + 1) := by
  unfold sj wri; split <;> split <;> split <;> omega
theorem sj_ne {n : Int} (hn : -9223372036854775808 ≤ n ∧ n ≤ 9223372036854775807) (ho : ¬ (0 ≤ n ∧ n < 22)) {j : Nat} (hj : j < 22) : sj n j ≠ 0 := by
  unfold sj wri; split <;> omega
theorem wri_nat {b : Nat} (h : b < 1000) : wri ((b : Int) + 1) = ((b + 1 : Nat) : Int) := by rw [wri_in (by omega) (by omega)]; omega
theorem ex4 {n : Int} (a : Int) (r : Int → Int → Option (List Int)) : ∀ (d b j q : Nat), b + d = 6 → d < q → (∀ i, j ≤ i → i < j + d → sj n i ≠ 0) → m_ecread_Exclude_l4 a r q (sj n j) (b : Int) = r (sj n (j + d)) (wri (a + 1))
  | 0, b, j, q, hb, hq, h => by
    obtain ⟨q, rfl⟩ : ∃ q', q = q' + 1 := ⟨q - 1, by omega⟩
    unfold m_ecread_Exclude_l4; rw [if_neg (by omega)]; rfl
  | d + 1, b, j, q, hb, hq, h => by
    obtain ⟨q, rfl⟩ : ∃ q', q = q' + 1 := ⟨q - 1, by omega⟩
    unfold m_ecread_Exclude_l4
    rw [if_pos (by omega), if_neg (h j (by omega) (by omega)), sj_succ, wri_nat (by omega), ex4 a r d (b + 1) (j + 1) q (by omega) (by omega) (fun i h1 h2 => h i (by omega) (by omega))]
    rw [show j + 1 + d = j + (d + 1) by omega]
theorem ex2_step {n : Int} (h : ∀ i, i < 22 → sj n i ≠ 0) (q : Nat) (a j d : Nat) (ha : a + 1 + d = 6) (hj : j + d ≤ 22) : m_ecread_Exclude_l2 (q + 1) (sj n j) (a : Int) = m_ecread_Exclude_l2 q (sj n (j + d)) ((a + 1 : Nat) : Int) := by
  conv => lhs; unfold m_ecread_Exclude_l2
  rw [if_pos (by omega), wri_nat (by omega), ex4 (n := n) (a : Int) _ d (a + 1) j forever ha (by unfold forever; omega) (fun i h1 h2 => h i (by omega)), wri_nat (by omega)]
theorem ex1 {n : Int} (h : ∀ i, i < 22 → sj n i ≠ 0) : ∀ (d a j q : Nat), a + d = 6 → d < q → j + d = 7 → m_ecread_Exclude_l1 q (sj n j) (a : Int) = m_ecread_Exclude_j0 (sj n 7)
  | 0, a, j, q, ha, hq, hj => by
    obtain ⟨q, rfl⟩ : ∃ q', q = q' + 1 := ⟨q - 1, by omega⟩
    obtain rfl : j = 7 := by omega
    unfold m_ecread_Exclude_l1; rw [if_neg (by omega)]
  | d + 1, a, j, q, ha, hq, hj => by
    obtain ⟨q, rfl⟩ : ∃ q', q = q' + 1 := ⟨q - 1, by omega⟩
    unfold m_ecread_Exclude_l1
    rw [if_pos (by omega), if_neg (h j (by omega)), sj_succ, wri_nat (by omega)]
    exact ex1 h d (a + 1) (j + 1) q (by omega) (by omega) (by omega)
theorem ex_out {n : Int} (hn : -9223372036854775808 ≤ n ∧ n ≤ 9223372036854775807) (ho : ¬ (0 ≤ n ∧ n < 22)) : m_ecread_Exclude n = some [] := by
  have h : ∀ i, i < 22 → sj n i ≠ 0 := fun i hi => sj_ne hn ho hi
  have e0 : sj n 0 = n := by unfold sj; rw [wri_in (by omega) (by omega)]; omega
  have e1 : wri (n - 1) = sj n 1 := by have := sj_succ n 0; rw [e0] at this; exact this
  unfold m_ecread_Exclude
  rw [if_neg (by omega), e1]
  refine Eq.trans (ex1 h 6 0 1 forever (by omega) (by unfold forever; omega) (by omega)) ?_
  unfold m_ecread_Exclude_j0
  have f : forever = 18446744073709551609 + 1 + 1 + 1 + 1 + 1 + 1 + 1 := rfl
  rw [f]
  refine Eq.trans (ex2_step h _ 0 7 5 (by omega) (by omega)) ?_
  refine Eq.trans (ex2_step h _ 1 12 4 (by omega) (by omega)) ?_
  refine Eq.trans (ex2_step h _ 2 16 3 (by omega) (by omega)) ?_
  refine Eq.trans (ex2_step h _ 3 19 2 (by omega) (by omega)) ?_
  refine Eq.trans (ex2_step h _ 4 21 1 (by omega) (by omega)) ?_
  refine Eq.trans (ex2_step h _ 5 22 0 (by omega) (by omega)) ?_
  unfold m_ecread_Exclude_l2; rw [if_neg (by omega)]
theorem ex_ok {n : Int} (hn : -9223372036854775808 ≤ n ∧ n ≤ 9223372036854775807) : m_ecread_Exclude n = some (ex n) := by
  by_cases ho : 0 ≤ n ∧ n < 22
  · have := ex_in ⟨n.toNat, by omega⟩
    rw [show ((⟨n.toNat, by omega⟩ : Fin 22).val : Int) = n by simp; omega] at this
    rw [this]; unfold ex; rw [if_pos ho.1]
  · rw [ex_out hn ho]; unfold ex
    by_cases h0 : 0 ≤ n
    · rw [if_pos h0, List.getD_eq_getElem?_getD, List.getElem?_eq_none (by have := sL_len; omega)]; rfl
    · rw [if_neg h0]
theorem rex_l : ∀ n, m_r18_Exclude n = m_r18_Exclude_j2 n sL := fun n => by kernel_rfl
theorem rex_ok (n : Int) : m_r18_Exclude n = some (ex n) := by
  rw [rex_l]; unfold m_r18_Exclude_j2 ex
  by_cases h0 : n < 0
  · rw [if_pos h0, if_neg (by omega)]
  · have e22 := sL_len
    have hg : ∀ l : List (List Int), l.length = 22 → (if (l.length : Int) ≤ n then some [] else Option.bind (idx l n) fun x109 => some x109) = some (l.getD n.toNat []) := by
      intro l e
      by_cases h1 : n < 22
      · have hl : n.toNat < l.length := by omega
        rw [if_neg (by omega), idx_of (by omega) (List.getElem?_eq_getElem hl), Option.bind_some, List.getD_eq_getElem?_getD, List.getElem?_eq_getElem hl]; rfl
      · rw [if_pos (by omega), List.getD_eq_getElem?_getD, List.getElem?_eq_none (by omega)]; rfl
    rw [if_neg h0, if_pos (show (0 : Int) ≤ n by omega)]
    exact hg sL e22
theorem ex_len (n : Int) : (ex n).length ≤ 2 := by
  unfold ex
  by_cases h : 0 ≤ n
  · rw [if_pos h]
    by_cases h2 : n.toNat < 22
    · have : ∀ i : Fin 22, (sL.getD i.val []).length ≤ 2 := by decide
      exact this ⟨n.toNat, h2⟩
    · rw [List.getD_eq_getElem?_getD, List.getElem?_eq_none (by have := sL_len; omega)]; simp
  · rw [if_neg h]; simp
theorem awake_ok : m_law18_awake = some true := by decide +kernel
theorem cmp_loop (n : Int) (r : Int → Option Bool) (X : List Int) (hX : X.length ≤ 2) : ∀ (d i q : Nat), i + d = X.length → d < q → m_law18_EcreadSets_l3 n X X r q (i : Int) = m_law18_EcreadSets_j2 n r
  | 0, i, q, hi, hq => by
    obtain ⟨q, rfl⟩ : ∃ q', q = q' + 1 := ⟨q - 1, by omega⟩
    unfold m_law18_EcreadSets_l3; rw [if_neg (by omega)]
  | d + 1, i, q, hi, hq => by
    obtain ⟨q, rfl⟩ : ∃ q', q = q' + 1 := ⟨q - 1, by omega⟩
    unfold m_law18_EcreadSets_l3
    rw [if_pos (by omega), idx_nat, List.getElem?_eq_getElem (by omega), Option.bind_some, Option.bind_some, if_pos rfl, ck_of (by omega), Option.bind_some, show ((i : Int) + 1) = ((i + 1 : Nat) : Int) by omega]
    exact cmp_loop n r X hX d (i + 1) q (by omega) (by omega)
/-- the last loop: are the two lists equal? -/
theorem same_loop (a b : Int) (X Y : List Int) (hX : X.length ≤ 2) (hl : X.length = Y.length) : ∀ (d i q : Nat), i + d = X.length → d < q → m_law18_EcreadSets_l5 a b X Y q true (i : Int) = m_law18_EcreadSets_j4 a b (decide (X.drop i = Y.drop i))
  | 0, i, q, hi, hq => by
    obtain ⟨q, rfl⟩ : ∃ q', q = q' + 1 := ⟨q - 1, by omega⟩
    unfold m_law18_EcreadSets_l5; rw [if_neg (by omega), List.drop_eq_nil_of_le (by omega), List.drop_eq_nil_of_le (by omega)]; rfl
  | d + 1, i, q, hi, hq => by
    obtain ⟨q, rfl⟩ : ∃ q', q = q' + 1 := ⟨q - 1, by omega⟩
    have hx : i < X.length := by omega
    have hy : i < Y.length := by omega
    unfold m_law18_EcreadSets_l5
    rw [if_pos (by omega), if_pos rfl, idx_nat, idx_nat, List.getElem?_eq_getElem hx, List.getElem?_eq_getElem hy, Option.bind_some, Option.bind_some, ck_of (by omega), Option.bind_some, show ((i : Int) + 1) = ((i + 1 : Nat) : Int) by omega]
    rw [List.drop_eq_getElem_cons hx, List.drop_eq_getElem_cons hy]
    by_cases h : X[i] = Y[i]
    · rw [beq_iff_eq.2 h, same_loop a b X Y hX hl d (i + 1) q (by omega) (by omega)]
      congr 1; rw [h]; exact decide_eq_decide.2 ⟨fun e => by rw [e], fun e => by injection e⟩
    · rw [beq_eq_false_iff_ne.2 h]
      have hq' : ∃ q', q = q' + 1 := ⟨q - 1, by omega⟩
      obtain ⟨q, rfl⟩ := hq'
      rw [decide_eq_false (by intro hc; injection hc with h1 _; exact h h1)]
      unfold m_law18_EcreadSets_l5
      simp
theorem same_ok (a b : Int) (X Y : List Int) (hX : X.length ≤ 2) : m_law18_EcreadSets_l5 a b X Y forever ((X.length : Int) == (Y.length : Int)) 0 = m_law18_EcreadSets_j4 a b (decide (X = Y)) := by
  by_cases hl : X.length = Y.length
  · rw [beq_iff_eq.2 (show (X.length : Int) = (Y.length : Int) by omega)]
    exact same_loop a b X Y hX hl X.length 0 forever (by omega) (by unfold forever; omega)
  · rw [beq_eq_false_iff_ne.2 (show (X.length : Int) ≠ (Y.length : Int) by omega), decide_eq_false (fun h => hl (by rw [h]))]
    have f : forever = 18446744073709551615 + 1 := rfl
    rw [f]; unfold m_law18_EcreadSets_l5; simp
theorem mod22 (k : Int) : ∃ m : Nat, m < 22 ∧ (Option.bind (rmi k 22) fun x => Option.bind (ck (x + 22)) fun y => rmi y 22) = some (m : Int) := by
  have h1 : rmi k 22 = some (k.tmod 22) := by unfold rmi; rw [if_neg (by omega)]
  have h2 : -22 < k.tmod 22 ∧ k.tmod 22 < 22 := by
    have := Int.tmod_lt_of_pos k (show (0 : Int) < 22 by omega)
    by_cases h0 : 0 ≤ k
    · rw [Int.tmod_eq_emod_of_nonneg h0] at this ⊢; omega
    · obtain ⟨j, rfl⟩ : ∃ j : Int, k = -j := ⟨-k, by omega⟩
      rw [Int.neg_tmod, Int.tmod_eq_emod_of_nonneg (by omega)]; omega
  refine ⟨((k.tmod 22 + 22) % 22).toNat, by omega, ?_⟩
  rw [h1, Option.bind_some, ck_of (by omega), Option.bind_some, rmi_of (by omega) (by omega)]
  congr 1; omega
theorem ex_inj : ∀ i j : Fin 22, sL.getD i.val [] = sL.getD j.val [] → i = j := by decide
theorem ok_EcreadSets (k o : Int) (hk : -9223372036854775808 ≤ k ∧ k ≤ 9223372036854775807) : m_law18_EcreadSets k o = some true := by
  have hk31 : -9223372036854775808 ≤ andi k 31 ∧ andi k 31 ≤ 9223372036854775807 := by
    unfold andi
    have h1 := BitVec.toInt_lt (x := BitVec.ofInt 64 k &&& BitVec.ofInt 64 31)
    have h2 := BitVec.le_toInt (x := BitVec.ofInt 64 k &&& BitVec.ofInt 64 31)
    omega
  have round : ∀ (i : Nat) (n : Int) (q : Nat), ([k, andi k 31] : List Int)[i]? = some n → (-9223372036854775808 ≤ n ∧ n ≤ 9223372036854775807) → m_law18_EcreadSets_l1 k o (q + 1) (i : Int) = m_law18_EcreadSets_l1 k o q ((i + 1 : Nat) : Int) := by
    intro i n q hi hn
    have hi2 : i < 2 := (List.getElem?_eq_some_iff.1 hi).1
    conv => lhs; unfold m_law18_EcreadSets_l1
    rw [if_pos (by simp; omega), idx_nat, hi, Option.bind_some, ex_ok hn, Option.bind_some, rex_ok, Option.bind_some, if_pos rfl]
    refine Eq.trans (cmp_loop (i : Int) _ (ex n) (ex_len n) (ex n).length 0 forever (by omega) (by have := ex_len n; unfold forever; omega)) ?_
    unfold m_law18_EcreadSets_j2
    rw [ck_of (by omega), Option.bind_some, show ((i : Int) + 1) = ((i + 1 : Nat) : Int) by omega]
  unfold m_law18_EcreadSets
  have f : forever = 18446744073709551613 + 1 + 1 + 1 := rfl
  rw [f]
  refine Eq.trans (round 0 k _ rfl hk) (Eq.trans (round 1 _ _ rfl hk31) ?_)
  unfold m_law18_EcreadSets_l1
  rw [if_neg (by simp)]
  obtain ⟨m, hm, em⟩ := mod22 k
  obtain ⟨m', hm', em'⟩ := mod22 o
  have A : ∀ (z : Int) (v : Int) (F : Int → Option Bool), (Option.bind (rmi z 22) fun x => Option.bind (ck (x + 22)) fun y => rmi y 22) = some v → (Option.bind (rmi z 22) fun x => Option.bind (ck (x + 22)) fun y => Option.bind (rmi y 22) F) = F v := by
    intro z v F h
    obtain ⟨x, h1, h2⟩ := bnd h
    obtain ⟨y, h3, h4⟩ := bnd h2
    rw [h1, Option.bind_some, h3, Option.bind_some, h4, Option.bind_some]
  unfold m_law18_EcreadSets_j0
  rw [A k m _ em, ex_ok (by omega), Option.bind_some, A o m' _ em', ex_ok (by omega), Option.bind_some, same_ok _ _ _ _ (ex_len _)]
  unfold m_law18_EcreadSets_j4
  rw [A k m _ em, A o m' _ em']
  have hd : decide (ex (m : Int) = ex (m' : Int)) = ((m : Int) == (m' : Int)) := by
    by_cases h : m = m'
    · subst h; simp
    · have : ex (m : Int) ≠ ex (m' : Int) := by
        unfold ex; rw [if_pos (by omega), if_pos (by omega), Int.toNat_natCast, Int.toNat_natCast]
        intro hc
        have := ex_inj ⟨m, hm⟩ ⟨m', hm'⟩ hc
        exact h (congrArg Fin.val this)
      rw [decide_eq_false this, beq_eq_false_iff_ne.2 (by omega)]
  rw [hd, if_pos rfl, awake_ok]; rfl
end Go.Proofs.Ytcncappgheopgaa
