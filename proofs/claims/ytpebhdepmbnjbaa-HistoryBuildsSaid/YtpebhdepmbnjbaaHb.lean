/-
  The statement HistoryBuilds. Conditions: the list's length.
-/
import Derived.Test.YtpebhdepmbnjbaaHm
import Derived.Test.YtpebhdepmbnjbaaMde0
namespace Go.Proofs.Ytpebhdepmbnjbaa
set_option linter.unusedVariables false
set_option linter.unusedSimpArgs false
theorem both_ok (es : List RE) (hd : ∀ e ∈ es, e.fData.length ≤ 1000) (hl : es.length ≤ 900) : ∃ r, m_history_Build (es.map gE) = some r ∧ m_r24_Build es = some (r.1.map tO, r.2) ∧ r.1.length ≤ 900 := by
  obtain ⟨r, a, b, c, _⟩ := build_ok es hd hl (fun _ _ => True) trivial (fun _ _ _ _ _ _ _ _ => trivial)
  exact ⟨r, a, b, c⟩
theorem builds_round (raw w v : List RE) (i : Nat) (x : List RE) (q : Nat) (hx : ([raw, w, v] : List (List RE))[i]? = some x) (hd : ∀ e ∈ x, e.fData.length ≤ 1000) (hl : x.length ≤ 900) :
    m_law24_HistoryBuilds_l1 raw w v (q + 1) (i : Int) = m_law24_HistoryBuilds_l1 raw w v q ((i + 1 : Nat) : Int) := by
  obtain ⟨r, a, b, c⟩ := both_ok x hd hl
  have hi : i < 3 := (List.getElem?_eq_some_iff.1 hx).1
  conv => lhs; unfold m_law24_HistoryBuilds_l1
  rw [if_pos (show (i : Int) < (([raw, w, v] : List (List RE)).length : Int) by simp; omega), idx_nat, hx, Option.bind_some, given_ok x (by omega), Option.bind_some, a, Option.bind_some, b, Option.bind_some, if_pos rfl, told_ok _ (by omega), Option.bind_some, same_ok _ (by simp; omega), Option.bind_some, if_pos rfl, ck_nat (by omega), Option.bind_some]
theorem ok_HistoryBuilds (raw : List RE) (h : raw.length ≤ 9223372036854775807) : m_law24_HistoryBuilds raw = some true := by
  unfold m_law24_HistoryBuilds
  rcases light_ok raw h with ⟨e1, s1, s2⟩ | e1
  · obtain ⟨w, e2, w1, w2, w3⟩ := made_ok raw (by omega)
    rw [e1, Option.bind_some, if_pos rfl, e2, Option.bind_some, Option.bind_some, apd_of (by omega), Option.bind_some]
    have f : forever = 18446744073709551612 + 1 + 1 + 1 + 1 := rfl
    rw [f]
    have a := builds_round raw w (w ++ raw) 0 raw (18446744073709551612 + 1 + 1 + 1) rfl (fun e he => by have := s2 e he; omega) (by omega)
    have b := builds_round raw w (w ++ raw) 1 w (18446744073709551612 + 1 + 1) rfl (fun e he => by have := w3 e he; omega) (by omega)
    have c := builds_round raw w (w ++ raw) 2 (w ++ raw) (18446744073709551612 + 1) rfl (fun e he => by
      rcases List.mem_append.1 he with h1 | h1
      · have := w3 e h1; omega
      · have := s2 e h1; omega) (by simp; omega)
    refine Eq.trans a (Eq.trans b (Eq.trans c ?_))
    unfold m_law24_HistoryBuilds_l1
    rw [if_neg (by simp)]
    unfold m_law24_HistoryBuilds_j0
    rw [awake_ok]; rfl
  · rw [e1, Option.bind_some, if_neg (by simp), awake_ok]; rfl
end Go.Proofs.Ytpebhdepmbnjbaa
