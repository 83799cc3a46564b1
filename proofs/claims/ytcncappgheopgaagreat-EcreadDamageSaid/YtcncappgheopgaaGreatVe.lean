/- A part of the proof. Conditions: as each theorem says. -/
import Derived.Test.YtcncappgheopgaaGreatMdj
import Derived.KernelRfl
namespace Go.Proofs.YtcncappgheopgaaGreat
set_option linter.unusedVariables false
set_option linter.unusedSimpArgs false
def sL : List (List Int) := [[], [0], [1], [2], [3], [4], [5], [0, 1], [0, 2], [0, 3], [0, 4], [0, 5], [1, 2], [1, 3], [1, 4], [1, 5], [2, 3], [2, 4], [2, 5], [3, 4], [3, 5], [4, 5]]
theorem sL_len : sL.length = 22 := rfl
def ex (n : Int) : List Int := if 0 <= n then sL.getD n.toNat [] else []
theorem rex_l : ∀ n, m_r18_Exclude n = m_r18_Exclude_j2 n sL := fun n => by kernel_rfl
theorem rex_ok (n : Int) : m_r18_Exclude n = some (ex n) := by
 rw [rex_l]; unfold m_r18_Exclude_j2 ex
 by_cases h0 : n < 0
 ·rw [if_pos h0, if_neg (by omega)]
 ·have e22 := sL_len
  have hg : ∀ l : List (List Int), l.length = 22 -> (if (l.length : Int) <= n then some [] else (idx l n).bind fun x109 => some x109) = some (l.getD n.toNat []) := by
   intro l e
   by_cases h1 : n < 22
   ·have hl : n.toNat < l.length := by omega
    rw [if_neg (by omega), idx_of (by omega) (List.getElem?_eq_getElem hl), obs, List.getD_eq_getElem?_getD, List.getElem?_eq_getElem hl]; rfl
   ·rw [if_pos (by omega), List.getD_eq_getElem?_getD, List.getElem?_eq_none (by omega)]; rfl
  rw [if_neg h0, if_pos (show (0 : Int) <= n by omega)]
  exact hg sL e22
end Go.Proofs.YtcncappgheopgaaGreat
