/-
  The statement LinearLate. No conditions.
-/
import Derived.Test.YtkcccenekglkoaaLc
import Derived.Test.YtkcccenekglkoaaMdj1
namespace Go.Proofs.Ytkcccenekglkoaa
set_option linter.unusedVariables false
set_option linter.unusedSimpArgs false
theorem late_j1 (x0 x1 x2 : KO) : m_law25_LinearLate_j1 [x0, x1, x2] = Option.bind (m_linear_Check [x0, x1, x2]) fun x55 =>
    Option.bind (m_linear_Check [x0, { x1 with fReturn := 4 }, { x2 with fCall := 3, fReturn := 5, fClient := 1 }]) fun x103 =>
    if x55.1 = true then some false else if x55.2 = 0 then (if x103.1 = true then (if x103.2 = 0 then Option.bind m_law25_awake fun x => some x else some false) else some false) else some false := by
  have i2 : ∀ y : KO, idx [x0, x1, y] (2 : Int) = some y := fun y => rfl
  have i1 : ∀ y : KO, idx [x0, x1, y] (1 : Int) = some x1 := fun y => rfl
  have u2 : ∀ y z : KO, upd [x0, x1, y] (2 : Int) z = some [x0, x1, z] := fun y z => rfl
  have u1 : ∀ y z : KO, upd [x0, x1, y] (1 : Int) z = some [x0, z, y] := fun y z => rfl
  unfold m_law25_LinearLate_j1
  cases m_linear_Check [x0, x1, x2] with
  | none => rfl
  | some v =>
    rw [Option.bind_some, Option.bind_some, i2, Option.bind_some, Option.bind_some, u2, Option.bind_some, i2, Option.bind_some, Option.bind_some, u2, Option.bind_some, i2, Option.bind_some, Option.bind_some, u2, Option.bind_some, i1, Option.bind_some, Option.bind_some, u1, Option.bind_some]
/-- the three operations -/
def lateL (c : BitVec 32) (a b : List (BitVec 8)) (d : Bool) (r1 : Int) (cl c2 r2 : Int) : List KO :=
  [⟨0, 1, 0, c, a, [], 0, 1, -1, 0⟩, ⟨0, if d = true then 2 else 1, 0, c, if d = true then [] else b, [], 2, r1, -1, 0⟩, ⟨cl, 3, 0, c, [], a, c2, r2, -1, 0⟩]
theorem late_check (c : BitVec 32) (a b : List (BitVec 8)) (d : Bool) (ha : a.length ≤ 50) (hb : b.length ≤ 50) (r1 cl c2 r2 : Int) (hv : validK [] (lateL c a b d r1 cl c2 r2) = true) :
    m_linear_Check (lateL c a b d r1 cl c2 r2) = some (srch (lateL c a b d r1 cl c2 r2) 3 0#32 zeroL, 0) := by
  refine check_one (lateL c a b d r1 cl c2 r2) (by simp [lateL]) (by simp [lateL]) ?_ hv 0 (by simp [lateL])
  intro x hx
  simp only [lateL, List.mem_cons, List.not_mem_nil, or_false] at hx
  rcases hx with rfl | rfl | rfl
  · exact ⟨by show a.length ≤ 1000; omega, by simp⟩
  · refine ⟨?_, by simp⟩
    show (if d = true then [] else b).length ≤ 1000
    split
    · simp
    · omega
  · exact ⟨by simp, by show a.length ≤ 1000; omega⟩
theorem late_stale (c : BitVec 32) (a b : List (BitVec 8)) (d : Bool) (h : a ≠ b) : srch (lateL c a b d 3 0 4 5) 3 0#32 zeroL = false := by
  cases d <;> simp [lateL, srch, anyI, mayI, compI, stepL, befK, endK, dropL, fitsL, zeroL, Ne.symm h]
theorem late_early (c : BitVec 32) (a b : List (BitVec 8)) (d : Bool) : srch (lateL c a b d 4 1 3 5) 3 0#32 zeroL = true := by
  cases d <;> simp [lateL, srch, anyI, mayI, compI, stepL, befK, endK, dropL, fitsL, zeroL]
theorem late_main (c : BitVec 32) (a b : List (BitVec 8)) (d : Bool) (ha : a.length ≤ 50) (hb : b.length ≤ 50) (h : a ≠ b) : m_law25_LinearLate_j1 (lateL c a b d 3 0 4 5) = some true := by
  have e1 := late_check c a b d ha hb 3 0 4 5 (by cases d <;> rfl)
  have e2 := late_check c a b d ha hb 4 1 3 5 (by cases d <;> rfl)
  rw [late_stale c a b d h] at e1
  rw [late_early] at e2
  have e3 : m_law25_LinearLate_j1 (lateL c a b d 3 0 4 5) = _ := late_j1 _ _ _
  rw [e3]
  refine Eq.trans (congrArg (fun o => Option.bind o _) e1) ?_
  rw [Option.bind_some]
  refine Eq.trans (congrArg (fun o => Option.bind o _) e2) ?_
  rw [Option.bind_some, if_neg (by simp), if_pos rfl, if_pos rfl, if_pos rfl, awake_okL]; rfl
theorem ok_LinearLate (c : BitVec 32) (a b : List (BitVec 8)) (d : Bool) : m_law25_LinearLate c a b d = some true := by
  unfold m_law25_LinearLate
  by_cases h1 : 50 < a.length
  · rw [if_pos (by omega), awake_okL]; rfl
  · rw [if_neg (by omega)]
    by_cases h2 : 50 < b.length
    · rw [if_pos (by omega), awake_okL]; rfl
    · rw [if_neg (by omega)]
      by_cases h3 : a = b
      · rw [if_pos h3, awake_okL]; rfl
      · rw [if_neg h3]
        have hm := late_main c a b d (by omega) (by omega) h3
        cases d with
        | false => exact hm
        | true =>
          unfold m_law25_LinearLate_j0
          rw [if_pos rfl]
          have i1 : ∀ x y z : KO, idx [x, y, z] (1 : Int) = some y := fun x y z => rfl
          have u1 : ∀ x y z w : KO, upd [x, y, z] (1 : Int) w = some [x, w, z] := fun x y z w => rfl
          rw [i1, Option.bind_some, Option.bind_some, u1, Option.bind_some, i1, Option.bind_some, Option.bind_some, u1, Option.bind_some]
          exact hm
end Go.Proofs.Ytkcccenekglkoaa
