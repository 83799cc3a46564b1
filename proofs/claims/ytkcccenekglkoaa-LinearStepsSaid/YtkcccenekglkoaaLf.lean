/-
 The statement LinearSteps. No conditions.
-/
import Derived.Test.YtkcccenekglkoaaLc
import Derived.Test.YtkcccenekglkoaaLr
import Derived.Test.YtkcccenekglkoaaMdj0
namespace Go.Proofs.Ytkcccenekglkoaa
set_option linter.unusedVariables false
set_option linter.unusedSimpArgs false
abbrev LR := Sneedlestoreref25_State
def fO (y : RO) : KO := ⟨y.fClient, y.fKind, y.fKey, y.fCookie, y.fData, y.fGot, y.fCall, y.fReturn, y.fClosed, y.fResult⟩
def statesL (s : LR) (y : RO) : List LR := [s, ⟨false, 0#32, []⟩, ⟨true, y.fCookie, y.fGot⟩, ⟨true, y.fCookie + 1#32, []⟩]
theorem steps_l6 (s : LR) (hs : s.fData.length <= 1000) (i : Int) (y : RO) (hy : smallK (fO y)) (r4 : Int -> Option Bool) : ∀ (B A : List LR) (q : Nat), statesL s y = A ++ B -> B.length < q ->
  m_law25_LinearSteps_l6 s.fHas s.fCookie s.fData i y r4 q (A.length : Int) = m_law25_LinearSteps_j5 i r4 := by
 intro B
 induction B with
 | nil =>
  intro A q hr hq
  obtain ⟨q, rfl⟩ : ∃ q', q = q' + 1 := ⟨q - 1, by simp at hq; omega⟩
  unfold m_law25_LinearSteps_l6
  have hl : (statesL s y).length = A.length := by rw [hr]; simp
  refine if_neg fun h => ?_
  have h2 : (A.length : Int) < ((statesL s y).length : Int) := h
  omega
 | cons t B ih =>
  intro A q hr hq
  obtain ⟨q, rfl⟩ : ∃ q', q = q' + 1 := ⟨q - 1, by simp at hq; omega⟩
  have hlen : A.length < (statesL s y).length := by rw [hr]; simp
  have hi : idx (statesL s y) (A.length : Int) = some t := by rw [idx_nat, hr]; simp
  have e := ih (A ++ [t]) q (by rw [hr]; simp) (by simp at hq; omega)
  rw [List.length_append, List.length_singleton] at e
  have hA : A.length < 4 := hlen
  have ht : lenL (t.fHas, t.fCookie, t.fData) := by
   have : t ∈ statesL s y := by rw [hr]; simp
   simp only [statesL, List.mem_cons, List.not_mem_nil, or_false] at this
   rcases this with rfl | rfl | rfl | rfl
   ·exact hs
   ·exact Nat.zero_le _
   ·exact hy.2
   ·exact Nat.zero_le _
  have hst := step_okL (t.fHas, t.fCookie, t.fData) (fO y) ht hy
  have hrs := rstep_ok (t.fHas, t.fCookie, t.fData) (fO y)
  generalize stepL (t.fHas, t.fCookie, t.fData) (fO y) = o at hst hrs
  unfold m_law25_LinearSteps_l6
  refine Eq.trans (if_pos (show (A.length : Int) < ((statesL s y).length : Int) by omega)) ?_
  refine Eq.trans (congrArg (fun o => Option.bind o _) hi) ?_
  rw [obs]
  unfold m_law25_state m_law25_op
  rw [obs, obs]
  refine Eq.trans (congrArg (fun o => Option.bind o _) hst) ?_
  rw [obs]
  unfold m_law25_LinearSteps_j7
  refine Eq.trans (congrArg (fun o => Option.bind o _) hrs) ?_
  rw [obs, if_pos rfl, if_pos rfl]
  unfold m_law25_op m_linear_Drops m_r25_Drops
  have fin : Option.bind (ck ((A.length : Int) + 1)) (fun x => m_law25_LinearSteps_l6 s.fHas s.fCookie s.fData i y r4 q x) = m_law25_LinearSteps_j5 i r4 := by
   rw [ckK (by omega), obs]; exact e
  split
  ·rw [if_pos rfl, if_pos rfl, obs, obs, obs, if_pos rfl]; exact fin
  ·rw [obs, obs, obs, if_pos rfl]; exact fin
theorem steps_l4 (s : LR) (hs : s.fData.length <= 1000) (l : List RO) (hl : l.length <= 1000) (hsm : ∀ y ∈ l, smallK (fO y)) : ∀ (B A : List RO) (q : Nat), l = A ++ B -> B.length < q ->
  m_law25_LinearSteps_l4 s.fHas s.fCookie s.fData l q (A.length : Int) = some true := by
 intro B
 induction B with
 | nil =>
  intro A q hr hq
  obtain ⟨q, rfl⟩ : ∃ q', q = q' + 1 := ⟨q - 1, by simp at hq; omega⟩
  unfold m_law25_LinearSteps_l4 m_law25_LinearSteps_j3
  rw [if_neg (by rw [hr]; simp), awake_okL]; rfl
 | cons y B ih =>
  intro A q hr hq
  obtain ⟨q, rfl⟩ : ∃ q', q = q' + 1 := ⟨q - 1, by simp at hq; omega⟩
  have hlen : A.length < l.length := by rw [hr]; simp
  have hi : idx l (A.length : Int) = some y := by rw [idx_nat, hr]; simp
  have e := ih (A ++ [y]) q (by rw [hr]; simp) (by simp at hq; omega)
  rw [List.length_append, List.length_singleton] at e
  unfold m_law25_LinearSteps_l4
  rw [if_pos (by omega), hi, obs]
  refine Eq.trans (steps_l6 s hs (A.length : Int) y (hsm y (by rw [hr]; simp)) _ (statesL s y) [] forever rfl (by unfold forever statesL; simp)) ?_
  unfold m_law25_LinearSteps_j5
  rw [ckK (by omega), obs]; exact e
theorem steps_l2 (s : LR) (x : RO) (l : List RO) (hl : l.length <= 900) : ∀ (B A : List RO) (q : Nat), l = A ++ B -> B.length < q ->
  m_law25_LinearSteps_l2 s.fHas s.fCookie s.fData l q (x :: A) (A.length : Int) = m_law25_LinearSteps_j1 s.fHas s.fCookie s.fData (x :: l) := by
 intro B
 induction B with
 | nil =>
  intro A q hr hq
  obtain ⟨q, rfl⟩ : ∃ q', q = q' + 1 := ⟨q - 1, by simp at hq; omega⟩
  unfold m_law25_LinearSteps_l2
  rw [if_neg (by rw [hr]; simp)]
  rw [List.append_nil] at hr; rw [hr]
 | cons y B ih =>
  intro A q hr hq
  obtain ⟨q, rfl⟩ : ∃ q', q = q' + 1 := ⟨q - 1, by simp at hq; omega⟩
  have hlen : A.length < l.length := by rw [hr]; simp
  have hi : idx l (A.length : Int) = some y := by rw [idx_nat, hr]; simp
  have e := ih (A ++ [y]) q (by rw [hr]; simp) (by simp at hq; omega)
  rw [List.length_append, List.length_singleton] at e
  unfold m_law25_LinearSteps_l2
  rw [if_pos (by omega), hi, obs, apd_of (by simp; omega), obs, ckK (by omega), obs]
  exact e
theorem ok_LinearSteps (s0 : Bool) (s1 : BitVec 32) (s2 : List (BitVec 8)) (x0 x1 : Int) (x2 : BitVec 64) (x3 : BitVec 32) (x4 x5 : List (BitVec 8)) (x6 x7 x8 x9 : Int) (l : List LA) :
  m_law25_LinearSteps s0 s1 s2 x0 x1 x2 x3 x4 x5 x6 x7 x8 x9 l = some true := by
 unfold m_law25_LinearSteps
 by_cases h1 : 300 < s2.length
 ·rw [if_pos (by omega), awake_okL]; rfl
 ·rw [if_neg (by omega)]
  by_cases h2 : 300 < x4.length
  ·rw [if_pos (by omega), awake_okL]; rfl
  ·rw [if_neg (by omega)]
   by_cases h3 : 300 < x5.length
   ·rw [if_pos (by omega), awake_okL]; rfl
   ·rw [if_neg (by omega)]
    unfold m_law25_LinearSteps_j0
    obtain ⟨h, e, g1, g2, g3⟩ := random_ok l [] (by simp)
    rw [e, obs]
    have hs : (Sneedlestoreref25_State.mk s0 s1 s2).fData.length <= 1000 := by show s2.length <= 1000; omega
    refine Eq.trans (steps_l2 ⟨s0, s1, s2⟩ ⟨x0, x1, x2, x3, x4, x5, x6, x7, x8, x9⟩ (h.map tO) (by simp; omega) (h.map tO) [] forever rfl (by unfold forever; simp; omega)) ?_
    unfold m_law25_LinearSteps_j1
    refine steps_l4 ⟨s0, s1, s2⟩ hs _ (by simp; omega) (fun y hy => ?_) _ [] forever rfl (by unfold forever; simp; omega)
    rcases List.mem_cons.1 hy with rfl | hy
    ·exact ⟨by show x4.length <= 1000; omega, by show x5.length <= 1000; omega⟩
    ·obtain ⟨x, hx, rfl⟩ := List.mem_map.1 hy
     have := g3 x hx
     exact ⟨by show x.fData.length <= 1000; omega, by show x.fGot.length <= 1000; omega⟩
end Go.Proofs.Ytkcccenekglkoaa
