/- A part of the proof. Conditions: as each theorem says. -/
import Derived.Test.YtcncappgheopgaaGreatMdj
import Derived.KernelRfl
namespace Go.Proofs.YtcncappgheopgaaGreat
set_option linter.unusedVariables false
set_option linter.unusedSimpArgs false
def sL : List (List Int) := [[], [0], [1], [2], [3], [4], [5], [0, 1], [0, 2], [0, 3], [0, 4], [0, 5], [1, 2], [1, 3], [1, 4], [1, 5], [2, 3], [2, 4], [2, 5], [3, 4], [3, 5], [4, 5]]
theorem sL_len : sL.length = 22 := rfl
def ex (n : Int) : List Int := if 0 <= n then sL.getD n.toNat [] else []
theorem ex_in : ∀ i : Fin 22, m_ecread_Exclude (i.val : Int) = some (sL.getD i.val []) := by decide +kernel
def sj (n : Int) (j : Nat) : Int := wri (n - (j : Int))
theorem sj_succ (n : Int) (j : Nat) : wri (sj n j - 1) = sj n (j + 1) := by
 unfold sj wri; split <;> split <;> split <;> omega
theorem sj_ne {n : Int} (hn : -9223372036854775808 <= n /\ n <= 9223372036854775807) (ho : ¬ (0 <= n /\ n < 22)) {j : Nat} (hj : j < 22) : sj n j ≠ 0 := by
 unfold sj wri; split <;> omega
theorem wri_nat {b : Nat} (h : b < 1000) : wri ((b : Int) + 1) = ((b + 1 : Nat) : Int) := by rw [wri_in (by omega) (by omega)]; omega
theorem ex4 {n : Int} (a : Int) (r : Int -> Int -> Option (List Int)) : ∀ (d b j q : Nat), b + d = 6 -> d < q -> (∀ i, j <= i -> i < j + d -> sj n i ≠ 0) -> m_ecread_Exclude_l4 a r q (sj n j) (b : Int) = r (sj n (j + d)) (wri (a + 1))
 | 0, b, j, q, hb, hq, h => by
  obtain ⟨q, rfl⟩ : ∃ q', q = q' + 1 := ⟨q - 1, by omega⟩
  unfold m_ecread_Exclude_l4; rw [if_neg (by omega)]; rfl
 | d + 1, b, j, q, hb, hq, h => by
  obtain ⟨q, rfl⟩ : ∃ q', q = q' + 1 := ⟨q - 1, by omega⟩
  unfold m_ecread_Exclude_l4
  rw [if_pos (by omega), if_neg (h j (by omega) (by omega)), sj_succ, wri_nat (by omega), ex4 a r d (b + 1) (j + 1) q (by omega) (by omega) (fun i h1 h2 => h i (by omega) (by omega))]
  rw [show j + 1 + d = j + (d + 1) by omega]
theorem ex2_step {n : Int} (h : ∀ i, i < 22 -> sj n i ≠ 0) (q a j d : Nat) (ha : a + 1 + d = 6) (hj : j + d <= 22) : m_ecread_Exclude_l2 (q + 1) (sj n j) (a : Int) = m_ecread_Exclude_l2 q (sj n (j + d)) ((a + 1 : Nat) : Int) := by
 conv => lhs; unfold m_ecread_Exclude_l2
 rw [if_pos (by omega), wri_nat (by omega), ex4 (n := n) (a : Int) _ d (a + 1) j forever ha (by unfold forever; omega) (fun i h1 h2 => h i (by omega)), wri_nat (by omega)]
theorem ex1 {n : Int} (h : ∀ i, i < 22 -> sj n i ≠ 0) : ∀ (d a j q : Nat), a + d = 6 -> d < q -> j + d = 7 -> m_ecread_Exclude_l1 q (sj n j) (a : Int) = m_ecread_Exclude_j0 (sj n 7)
 | 0, a, j, q, ha, hq, hj => by
  obtain ⟨q, rfl⟩ : ∃ q', q = q' + 1 := ⟨q - 1, by omega⟩
  obtain rfl : j = 7 := by omega
  unfold m_ecread_Exclude_l1; rw [if_neg (by omega)]
 | d + 1, a, j, q, ha, hq, hj => by
  obtain ⟨q, rfl⟩ : ∃ q', q = q' + 1 := ⟨q - 1, by omega⟩
  unfold m_ecread_Exclude_l1
  rw [if_pos (by omega), if_neg (h j (by omega)), sj_succ, wri_nat (by omega)]
  exact ex1 h d (a + 1) (j + 1) q (by omega) (by omega) (by omega)
theorem ex_out {n : Int} (hn : -9223372036854775808 <= n /\ n <= 9223372036854775807) (ho : ¬ (0 <= n /\ n < 22)) : m_ecread_Exclude n = some [] := by
 have h : ∀ i, i < 22 -> sj n i ≠ 0 := fun i hi => sj_ne hn ho hi
 have e0 : sj n 0 = n := by unfold sj; rw [wri_in (by omega) (by omega)]; omega
 have e1 : wri (n - 1) = sj n 1 := by have := sj_succ n 0; rw [e0] at this; exact this
 unfold m_ecread_Exclude
 rw [if_neg (by omega), e1]
 refine Eq.trans (ex1 h 6 0 1 forever (by omega) (by unfold forever; omega) (by omega)) ?_
 unfold m_ecread_Exclude_j0
 have f : forever = 18446744073709551609 + 1 + 1 + 1 + 1 + 1 + 1 + 1 := rfl
 rw [f]
 refine Eq.trans (ex2_step h _ 0 7 5 (by omega) (by omega)) ?_
 refine Eq.trans (ex2_step h _ 1 12 4 (by omega) (by omega)) ?_
 refine Eq.trans (ex2_step h _ 2 16 3 (by omega) (by omega)) ?_
 refine Eq.trans (ex2_step h _ 3 19 2 (by omega) (by omega)) ?_
 refine Eq.trans (ex2_step h _ 4 21 1 (by omega) (by omega)) ?_
 refine Eq.trans (ex2_step h _ 5 22 0 (by omega) (by omega)) ?_
 unfold m_ecread_Exclude_l2; rw [if_neg (by omega)]
theorem ex_ok {n : Int} (hn : -9223372036854775808 <= n /\ n <= 9223372036854775807) : m_ecread_Exclude n = some (ex n) := by
 by_cases ho : 0 <= n /\ n < 22
 ·have := ex_in ⟨n.toNat, by omega⟩
  rw [show ((⟨n.toNat, by omega⟩ : Fin 22).val : Int) = n by simp; omega] at this
  rw [this]; unfold ex; rw [if_pos ho.1]
 ·rw [ex_out hn ho]; unfold ex
  by_cases h0 : 0 <= n
  ·rw [if_pos h0, List.getD_eq_getElem?_getD, List.getElem?_eq_none (by have := sL_len; omega)]; rfl
  ·rw [if_neg h0]
theorem rex_l : ∀ n, m_r18_Exclude n = m_r18_Exclude_j2 n sL := fun n => by kernel_rfl
theorem rex_ok (n : Int) : m_r18_Exclude n = some (ex n) := by
 rw [rex_l]; unfold m_r18_Exclude_j2 ex
 by_cases h0 : n < 0
 ·rw [if_pos h0, if_neg (by omega)]
 ·have e22 := sL_len
  have hg : ∀ l : List (List Int), l.length = 22 -> (if (l.length : Int) <= n then some [] else (idx l n).bind fun x109 => some x109) = some (l.getD n.toNat []) := by
   intro l e
   by_cases h1 : n < 22
   ·have hl : n.toNat < l.length := by omega
    rw [if_neg (by omega), idx_of (by omega) (List.getElem?_eq_getElem hl), obs, List.getD_eq_getElem?_getD, List.getElem?_eq_getElem hl]; rfl
   ·rw [if_pos (by omega), List.getD_eq_getElem?_getD, List.getElem?_eq_none (by omega)]; rfl
  rw [if_neg h0, if_pos (show (0 : Int) <= n by omega)]
  exact hg sL e22
end Go.Proofs.YtcncappgheopgaaGreat
