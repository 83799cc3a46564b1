/-
  The statement LinearClosed. No conditions.
-/
import Derived.Test.YtkcccenekglkoaaLc
import Derived.Test.YtkcccenekglkoaaMdj2
namespace Go.Proofs.Ytkcccenekglkoaa
set_option linter.unusedVariables false
set_option linter.unusedSimpArgs false
def closedL (c : BitVec 32) (a : List (BitVec 8)) (k : Int) : List KO :=
  [⟨0, 1, 0, c, a, [], 0, -1, k, 0⟩, ⟨1, 3, 0, c, [], [], 2, 3, -1, 6⟩, ⟨1, 3, 0, c, [], a, 4, 5, -1, 0⟩]
theorem closed_check (c : BitVec 32) (a : List (BitVec 8)) (ha : a.length ≤ 50) (k : Int) (hv : validK [] (closedL c a k) = true) :
    m_linear_Check (closedL c a k) = some (srch (closedL c a k) 3 0#32 zeroL, 0) := by
  refine check_one (closedL c a k) (by simp [closedL]) (by simp [closedL]) ?_ hv 0 (by simp [closedL])
  intro x hx
  simp only [closedL, List.mem_cons, List.not_mem_nil, or_false] at hx
  rcases hx with rfl | rfl | rfl
  · exact ⟨by show a.length ≤ 1000; omega, by simp⟩
  · exact ⟨by simp, by simp⟩
  · exact ⟨by simp, by show a.length ≤ 1000; omega⟩
theorem closed_no (c : BitVec 32) (a : List (BitVec 8)) : srch (closedL c a 1) 3 0#32 zeroL = false := by
  simp [closedL, srch, anyI, mayI, compI, stepL, befK, endK, dropL, fitsL, zeroL]
theorem closed_yes (c : BitVec 32) (a : List (BitVec 8)) : srch (closedL c a (-1)) 3 0#32 zeroL = true := by
  simp [closedL, srch, anyI, mayI, compI, stepL, befK, endK, dropL, fitsL, zeroL]
theorem ok_LinearClosed (c : BitVec 32) (a : List (BitVec 8)) (d : Bool) : m_law25_LinearClosed c a d = some true := by
  unfold m_law25_LinearClosed
  by_cases h1 : 50 < a.length
  · rw [if_pos (by omega), awake_okL]; rfl
  · rw [if_neg (by omega)]
    have e1 := closed_check c a (by omega) 1 rfl
    have e2 := closed_check c a (by omega) (-1) rfl
    rw [closed_no] at e1
    rw [closed_yes] at e2
    cases d with
    | true =>
      rw [if_pos rfl]
      have i0 : ∀ x y z : KO, idx [x, y, z] (0 : Int) = some x := fun x y z => rfl
      have u0 : ∀ x y z w : KO, upd [x, y, z] (0 : Int) w = some [w, y, z] := fun x y z w => rfl
      rw [i0, Option.bind_some, Option.bind_some, u0, Option.bind_some]
      refine Eq.trans (congrArg (fun o => Option.bind o _) e2) ?_
      rw [Option.bind_some, if_pos rfl, if_pos rfl, awake_okL]; rfl
    | false =>
      rw [if_neg (by simp)]
      refine Eq.trans (congrArg (fun o => Option.bind o _) e1) ?_
      rw [Option.bind_some, if_pos rfl, if_pos rfl, awake_okL]; rfl
end Go.Proofs.Ytkcccenekglkoaa
