/-
  The statement HistoryOrder. Conditions: the list's length.
-/
import Derived.Test.YtpebhdepmbnjbaaHv
import Derived.Test.YtpebhdepmbnjbaaMde1
namespace Go.Proofs.Ytpebhdepmbnjbaa
set_option linter.unusedVariables false
set_option linter.unusedSimpArgs false
theorem bef_pos {x y : HO} (h : endO x < y.fCall) : m_history_Before x.fClient x.fKind x.fKey x.fCookie x.fData x.fGot x.fCall x.fReturn x.fClosed x.fResult y.fClient y.fKind y.fKey y.fCookie y.fData y.fGot y.fCall y.fReturn y.fClosed y.fResult = some true := by rw [before_ok, decide_eq_true h]
theorem bef_neg {x y : HO} (h : ¬ endO x < y.fCall) : m_history_Before x.fClient x.fKind x.fKey x.fCookie x.fData x.fGot x.fCall x.fReturn x.fClosed x.fResult y.fClient y.fKind y.fKey y.fCookie y.fData y.fGot y.fCall y.fReturn y.fClosed y.fResult = some false := by rw [before_ok, decide_eq_false h]
theorem Each.lt {n : Nat} {x : HO} (h : Each n x) (hn : n ≤ 1000) : x.fCall < endO x := by
  cases ho : opn x with
  | false => exact (h.fin ho).1
  | true =>
    have h2 := opn_iff.1 ho
    have := h.2.1
    unfold endO
    rw [if_pos h2.1, if_pos h2.2]; omega
section
variable {es : List RE} {n : Nat} (hn : n ≤ 900) (r : List HO × Int) (h : Inv es n r.1) (hl : r.1.length ≤ 900)
include hn h hl
/-- the order carries over -/
theorem trans_loop (i j : Nat) (x y : HO) (hx : r.1[i]? = some x) (hy : r.1[j]? = some y) (k : Int → Option Bool) : ∀ (d t q : Nat), t + d = r.1.length → d < q → m_law24_HistoryOrder_l8 r x j y k q (t : Int) = m_law24_HistoryOrder_j4 j k := by
  intro d
  induction d with
  | zero =>
    intro t q ht hq
    obtain ⟨q, rfl⟩ : ∃ q', q = q' + 1 := ⟨q - 1, by omega⟩
    unfold m_law24_HistoryOrder_l8; rw [if_neg (by omega)]
  | succ d ih =>
    intro t q ht hq
    obtain ⟨q, rfl⟩ : ∃ q', q = q' + 1 := ⟨q - 1, by omega⟩
    have hz : r.1[t]? = some r.1[t] := List.getElem?_eq_getElem (by omega)
    have ly := (h.each j y hy).lt (by omega)
    have e := ih (t + 1) q (by omega) (by omega)
    unfold m_law24_HistoryOrder_l8
    rw [if_pos (by omega), idx_nat, hz, Option.bind_some, ck_nat (by omega), Option.bind_some]
    by_cases h1 : endO x < y.fCall
    · rw [bef_pos h1, Option.bind_some, if_pos rfl]
      by_cases h2 : endO y < r.1[t].fCall
      · rw [bef_pos h2, Option.bind_some, if_pos rfl, bef_pos (by omega), Option.bind_some, if_pos rfl]; exact e
      · rw [bef_neg h2, Option.bind_some, if_neg (by simp)]; exact e
    · rw [bef_neg h1, Option.bind_some, if_neg (by simp)]; exact e
omit hl in
/-- a kill between the calls ends the first -/
theorem kill_loop (hne : n = es.length) (i j : Nat) (x y : HO) (hx : r.1[i]? = some x) (hy : r.1[j]? = some y) (k : Int → Option Bool) : ∀ (d t q : Nat), (t : Int) + d = y.fCall → d < q → x.fCall ≤ t → m_law24_HistoryOrder_l7 (es.map gE) r x j y k q (t : Int) = m_law24_HistoryOrder_j6 r x j y k := by
  have cy := (h.each j y hy)
  have cy2 := cy.2.1
  intro d
  induction d with
  | zero =>
    intro t q ht hq hc
    obtain ⟨q, rfl⟩ : ∃ q', q = q' + 1 := ⟨q - 1, by omega⟩
    unfold m_law24_HistoryOrder_l7; rw [if_neg (by omega)]
  | succ d ih =>
    intro t q ht hq hc
    obtain ⟨q, rfl⟩ : ∃ q', q = q' + 1 := ⟨q - 1, by omega⟩
    have htn : t < n := by omega
    have hz : es[t]? = some es[t] := List.getElem?_eq_getElem (by omega)
    have e := ih (t + 1) q (by omega) (by omega) (by omega)
    unfold m_law24_HistoryOrder_l7
    rw [if_pos (by omega), idx_nat, List.getElem?_map, hz, Option.map_some, Option.bind_some, ck_nat (by omega), Option.bind_some]
    by_cases h3 : es[t].fKind = 3
    · have := h.kil i x hx t _ htn hz h3 hc
      rw [if_pos (show (gE es[t]).fKind = 3 from h3), bef_pos (by omega), Option.bind_some, if_pos rfl]; exact e
    · rw [if_neg (show ¬ (gE es[t]).fKind = 3 from h3)]; exact e
theorem pair_ok (hne : n = es.length) (i j : Nat) (x y : HO) (hx : r.1[i]? = some x) (hy : r.1[j]? = some y) (k : Int → Option Bool) : m_law24_HistoryOrder_j5 (es.map gE) r x j y k = m_law24_HistoryOrder_j4 j k := by
  have cx := (h.each i x hx)
  have cy := (h.each j y hy)
  have e6 : m_law24_HistoryOrder_j6 r x j y k = m_law24_HistoryOrder_j4 j k := trans_loop hn r h hl i j x y hx hy k r.1.length 0 forever (by omega) (by unfold forever; omega)
  unfold m_law24_HistoryOrder_j5
  have c0 := cx.1
  have c1 := cx.2.1
  have c2 := cy.2.1
  have ec : x.fCall = (x.fCall.toNat : Int) := by omega
  by_cases h1 : x.fCall ≤ y.fCall
  · rw [← e6]
    have e := kill_loop hn r h hne i j x y hx hy k (y.fCall - x.fCall).toNat x.fCall.toNat forever (by omega) (by unfold forever; omega) (by omega)
    rw [← ec] at e; exact e
  · have f : forever = 18446744073709551615 + 1 := rfl
    rw [f]; unfold m_law24_HistoryOrder_l7; rw [if_neg (by omega)]; exact e6
theorem row_loop (hne : n = es.length) (i : Nat) (x : HO) (hx : r.1[i]? = some x) (k : Int → Option Bool) : ∀ (d j q : Nat), j + d = r.1.length → d < q → m_law24_HistoryOrder_l3 (es.map gE) r i x k q (j : Int) = m_law24_HistoryOrder_j2 i k := by
  have lx := (h.each i x hx).lt (by omega)
  intro d
  induction d with
  | zero =>
    intro j q hj hq
    obtain ⟨q, rfl⟩ : ∃ q', q = q' + 1 := ⟨q - 1, by omega⟩
    unfold m_law24_HistoryOrder_l3; rw [if_neg (by omega)]
  | succ d ih =>
    intro j q hj hq
    obtain ⟨q, rfl⟩ : ∃ q', q = q' + 1 := ⟨q - 1, by omega⟩
    have hy : r.1[j]? = some r.1[j] := List.getElem?_eq_getElem (by omega)
    generalize hyy : r.1[j] = y at hy
    have ly := (h.each j y hy).lt (by omega)
    have e := ih (j + 1) q (by omega) (by omega)
    have p : m_law24_HistoryOrder_j5 (es.map gE) r x j y (m_law24_HistoryOrder_l3 (es.map gE) r i x k q) = m_law24_HistoryOrder_j2 i k := by
      rw [pair_ok hn r h hl hne i j x y hx hy]
      unfold m_law24_HistoryOrder_j4
      rw [ck_nat (by omega), Option.bind_some]; exact e
    have hc : (i : Int) < (j : Int) → x.fClient = y.fClient → endO x < y.fCall := fun a b => (h.cli i j x y (by omega) hx hy b).2
    unfold m_law24_HistoryOrder_l3
    rw [if_pos (by omega), idx_nat, hy, Option.bind_some]
    by_cases h1 : endO x < y.fCall
    · rw [bef_pos h1, Option.bind_some, if_pos rfl, bef_neg (x := y) (y := x) (by omega), Option.bind_some, if_neg (by simp), Option.bind_some, if_pos rfl, p, ite_self, ite_self]
    · rw [bef_neg h1, Option.bind_some, if_neg (by simp), p]
      by_cases h2 : (i : Int) < (j : Int)
      · rw [if_pos h2, if_neg (fun h3 => h1 (hc h2 h3))]
      · rw [if_neg h2]
theorem order_loop (hne : n = es.length) : ∀ (d i q : Nat), i + d = r.1.length → d < q → m_law24_HistoryOrder_l1 (es.map gE) r q (i : Int) = some true := by
  intro d
  induction d with
  | zero =>
    intro i q hi hq
    obtain ⟨q, rfl⟩ : ∃ q', q = q' + 1 := ⟨q - 1, by omega⟩
    unfold m_law24_HistoryOrder_l1; rw [if_neg (by omega)]
    unfold m_law24_HistoryOrder_j0; rw [awake_ok]; rfl
  | succ d ih =>
    intro i q hi hq
    obtain ⟨q, rfl⟩ : ∃ q', q = q' + 1 := ⟨q - 1, by omega⟩
    have hx : r.1[i]? = some r.1[i] := List.getElem?_eq_getElem (by omega)
    generalize hxx : r.1[i] = x at hx
    have lx := (h.each i x hx).lt (by omega)
    unfold m_law24_HistoryOrder_l1
    rw [if_pos (by omega), idx_nat, hx, Option.bind_some, bef_neg (by omega), Option.bind_some, if_neg (by simp)]
    refine Eq.trans (row_loop hn r h hl hne i x hx _ r.1.length 0 forever (by omega) (by unfold forever; omega)) ?_
    unfold m_law24_HistoryOrder_j2
    rw [ck_nat (by omega), Option.bind_some]
    exact ih (i + 1) q (by omega) (by omega)
end
theorem ok_HistoryOrder (raw : List RE) (h : raw.length ≤ 9223372036854775807) : m_law24_HistoryOrder raw = some true := by
  unfold m_law24_HistoryOrder
  rcases light_ok raw h with ⟨e1, s1, s2⟩ | e1
  · obtain ⟨w, e2, w1, w2, w3⟩ := made_ok raw (by omega)
    obtain ⟨r, e3, r1, r2, rc⟩ := made_build w w2 (fun e he => by have := w3 e he; omega) (by omega)
    rw [e1, Option.bind_some, if_pos rfl, e2, Option.bind_some, given_ok w (by omega), Option.bind_some, e3, Option.bind_some, if_pos r2]
    exact order_loop (by omega) r rc.inv r1 rfl r.1.length 0 forever (by omega) (by unfold forever; omega)
  · rw [e1, Option.bind_some, if_neg (by simp), awake_ok]; rfl
end Go.Proofs.Ytpebhdepmbnjbaa
