/-
  The statement HistoryParts. Conditions: the list's length.
-/
import Derived.Test.YtpebhdepmbnjbaaHi
import Derived.Test.YtpebhdepmbnjbaaKp
import Derived.Test.YtpebhdepmbnjbaaMde3
namespace Go.Proofs.Ytpebhdepmbnjbaa
set_option linter.unusedVariables false
set_option linter.unusedSimpArgs false
theorem small_step {n : Nat} {e : RE} {ops o : List HO} (hd : e.fData.length ≤ 1000) (h : ∀ x ∈ ops, smallK x) (hs : Step (n : Int) (gE e) ops (some o)) : ∀ x ∈ o, smallK x := by
  cases hs with
  | call k1 o1 o2 hn =>
    intro x hx
    rcases List.mem_append.1 hx with hx | hx
    · exact h x hx
    · rw [List.mem_singleton.1 hx]
      refine ⟨?_, by show ([] : List (BitVec 8)).length ≤ 1000; simp⟩
      show (if (gE e).fOp = 1 then (gE e).fData else []).length ≤ 1000
      split
      · exact hd
      · simp
  | ret j x0 k2 hx0 hc0 ho0 =>
    intro x hx
    rcases List.mem_or_eq_of_mem_set hx with hx | rfl
    · exact h x hx
    · have h0 := h x0 (List.mem_of_getElem? hx0)
      refine ⟨h0.1, ?_⟩
      show (if x0.fKind = 3 ∧ (gE e).fResult = 0 then (gE e).fData else x0.fGot).length ≤ 1000
      split
      · exact hd
      · exact h0.2
  | kill k3 =>
    intro x hx
    obtain ⟨y, hy, rfl⟩ := List.mem_map.1 hx
    have h0 := h y hy
    unfold clO; split
    · exact h0
    · exact h0
theorem made_small (es : List RE) (hw : WF es) (hd : ∀ e ∈ es, e.fData.length ≤ 1000) (hl : es.length ≤ 900) : ∃ r, m_history_Build (es.map gE) = some r ∧ r.1.length ≤ es.length ∧ r.2 = 0 ∧ Inv es es.length r.1 ∧ ∀ x ∈ r.1, smallK x := by
  obtain ⟨r, a, _, c, d⟩ := build_ok es hd hl (fun n ops => Cnt es n ops ∧ ∀ x ∈ ops, smallK x) ⟨⟨inv_nil es, rfl, rfl⟩, fun x hx => by simp at hx⟩
    (fun n e ops o he h1 h hs => ⟨cnt_step he h1 h.1 hs, small_step (hd e (List.mem_of_getElem? he)) h.2 hs⟩)
  rcases d with ⟨d1, _, d2⟩ | ⟨_, n, e, ops, he, h1, hp, hs⟩
  · refine ⟨r, a, ?_, d1, d2.1.inv, d2.2⟩
    rw [d2.1.calls, List.take_length]; exact List.countP_le_length
  · exact absurd hs (inv_good hw he hp.1.inv)
theorem inv_eachK {es : List RE} {n : Nat} {ops : List HO} (h : Inv es n ops) : ∀ x ∈ ops, eachK x = true := by
  intro x hx
  obtain ⟨j, hj⟩ := List.mem_iff_getElem?.1 hx
  obtain ⟨c0, c1, c2, c3, c4⟩ := h.each j x hj
  unfold eachK
  rw [decide_eq_true c2, decide_eq_true c3, decide_eq_true c0]
  rcases c4 with c4 | c4 | c4
  · have c4 := opn_iff.1 c4
    rw [decide_eq_true c4.1, decide_eq_true c4.2]; rfl
  · rw [decide_eq_true c4.2.1, decide_eq_true c4.1]; simp
  · rw [decide_eq_true c4.1, decide_eq_true c4.2.1]; simp
theorem inv_pairK {es : List RE} {n : Nat} {ops : List HO} (h : Inv es n ops) : ops.Pairwise pairK := by
  rw [List.pairwise_iff_getElem]
  intro i j hi hj hij
  have a := List.getElem?_eq_getElem hi
  have b := List.getElem?_eq_getElem hj
  exact ⟨h.inc i j _ _ hij a b, fun hc => (h.cli i j _ _ hij a b hc).2⟩
theorem only_valid {es : List RE} {n : Nat} {ops : List HO} (h : Inv es n ops) (hl : ops.length ≤ 900) (k : BitVec 64) : m_history_Valid (onlyK ops k) = some true := by
  have hle : (onlyK ops k).length ≤ ops.length := List.length_filter_le _ _
  rw [validK_ok _ (by omega)]
  congr 1
  exact validK_of _ [] (fun x hx => inv_eachK h x (List.mem_filter.1 hx).1) ((inv_pairK h).filter _)

/-! ### the sum of the parts -/
theorem sum_add (f : BitVec 64 → Nat) (a : BitVec 64) : ∀ ks : List (BitVec 64), (ks.map fun k => f k + if a = k then 1 else 0).sum = (ks.map f).sum + ks.count a := by
  intro ks
  induction ks with
  | nil => rfl
  | cons k ks ih =>
    rw [List.map_cons, List.map_cons, List.sum_cons, List.sum_cons, ih, List.count_cons]
    by_cases h : a = k
    · subst h; simp; omega
    · rw [if_neg h, if_neg (by simpa using fun e => h e.symm)]; omega
theorem parts_sum (ks : List (BitVec 64)) (hn : ks.Nodup) : ∀ h : List KO, (∀ x ∈ h, x.fKey ∈ ks) → (ks.map fun k => (onlyK h k).length).sum = h.length := by
  intro h
  induction h with
  | nil =>
    intro _
    have : ∀ l : List (BitVec 64), (l.map fun k => (onlyK [] k).length).sum = 0 := by
      intro l
      induction l with
      | nil => rfl
      | cons k l ih => rw [List.map_cons, List.sum_cons, ih]; rfl
    exact this ks
  | cons x h ih =>
    intro hk
    have e : (fun k => (onlyK (x :: h) k).length) = fun k => (onlyK h k).length + if x.fKey = k then 1 else 0 := by
      funext k
      unfold onlyK
      by_cases hc : x.fKey = k
      · rw [List.filter_cons_of_pos (by simpa using hc), if_pos hc]; rfl
      · rw [List.filter_cons_of_neg (by simpa using hc), if_neg hc]; rfl
    rw [e, sum_add, ih (fun y hy => hk y (List.mem_cons_of_mem _ hy)), List.length_cons, hn.count, if_pos (hk x (List.mem_cons_self ..))]

/-! ### the walk over the keys -/
theorem parts_l4 (r : List KO × Int) (i : Int) (k : BitVec 64) (l : List KO) (r1 : Int → Int → Option Bool) (hl : l.length ≤ 1000) (hk : ∀ x ∈ l, x.fKey = k) : ∀ (B A : List KO) (q m : Nat), l = A ++ B → B.length < q → m + B.length ≤ 100000 →
    m_law24_HistoryParts_l4 r i k l r1 q (m : Int) (A.length : Int) = m_law24_HistoryParts_j3 r i k r1 ((m + B.length : Nat) : Int) := by
  intro B
  induction B with
  | nil =>
    intro A q m hr hq hm
    obtain ⟨q, rfl⟩ : ∃ q', q = q' + 1 := ⟨q - 1, by simp at hq; omega⟩
    unfold m_law24_HistoryParts_l4
    rw [if_neg (by rw [hr]; simp)]; rfl
  | cons x B ih =>
    intro A q m hr hq hm
    obtain ⟨q, rfl⟩ : ∃ q', q = q' + 1 := ⟨q - 1, by simp at hq; omega⟩
    have hlen : A.length + (B.length + 1) = l.length := by rw [hr]; simp
    have hi : idx l (A.length : Int) = some x := by rw [idx_nat, hr]; simp
    rw [List.length_cons] at hm
    have e := ih (A ++ [x]) q (m + 1) (by rw [hr]; simp) (by simp at hq; omega) (by omega)
    rw [List.length_append, List.length_singleton] at e
    unfold m_law24_HistoryParts_l4
    rw [if_pos (by omega), hi, Option.bind_some, if_pos (hk x (by rw [hr]; simp)), ckK (by omega), Option.bind_some, ckK (by omega), Option.bind_some, e, List.length_cons]
    congr 2; omega
theorem parts_l1 {es : List RE} {n : Nat} (r : List KO × Int) (h : Inv es n r.1) (hl : r.1.length ≤ 900) (hs : ∀ x ∈ r.1, smallK x) (ks : List (BitVec 64)) (hks : ks.length ≤ 1000) : ∀ (B A : List (BitVec 64)) (q m : Nat), ks = A ++ B → B.length < q →
    m + (B.map fun k => (onlyK r.1 k).length).sum ≤ 10000 → m_law24_HistoryParts_l1 r ks q (m : Int) (A.length : Int) = m_law24_HistoryParts_j0 r r.1 ((m + (B.map fun k => (onlyK r.1 k).length).sum : Nat) : Int) := by
  intro B
  induction B with
  | nil =>
    intro A q m hr hq hm
    obtain ⟨q, rfl⟩ : ∃ q', q = q' + 1 := ⟨q - 1, by simp at hq; omega⟩
    unfold m_law24_HistoryParts_l1
    rw [if_neg (by rw [hr]; simp)]; rfl
  | cons k B ih =>
    intro A q m hr hq hm
    obtain ⟨q, rfl⟩ : ∃ q', q = q' + 1 := ⟨q - 1, by simp at hq; omega⟩
    have hlen : A.length + (B.length + 1) = ks.length := by rw [hr]; simp
    have hi : idx ks (A.length : Int) = some k := by rw [idx_nat, hr]; simp
    have hle : (onlyK r.1 k).length ≤ r.1.length := List.length_filter_le _ _
    rw [List.map_cons, List.sum_cons] at hm ⊢
    have e := ih (A ++ [k]) q (m + (onlyK r.1 k).length) (by rw [hr]; simp) (by simp at hq; omega) (by omega)
    rw [List.length_append, List.length_singleton] at e
    unfold m_law24_HistoryParts_l1
    rw [if_pos (by omega), hi, Option.bind_some, only_ok _ k (by omega) hs, Option.bind_some]
    refine Eq.trans (parts_l4 r (A.length : Int) k (onlyK r.1 k) _ (by omega) (fun x hx => of_decide_eq_true (List.mem_filter.1 hx).2) (onlyK r.1 k) [] forever m rfl (by unfold forever; omega) (by omega)) ?_
    unfold m_law24_HistoryParts_j3
    rw [only_ok _ k (by omega) hs, Option.bind_some, only_valid h hl k, Option.bind_some, if_pos rfl]
    unfold m_law24_HistoryParts_j2
    rw [ckK (by omega), Option.bind_some, e]
    congr 2; omega
theorem ok_HistoryParts (raw : List RE) (h : raw.length ≤ 9223372036854775807) : m_law24_HistoryParts raw = some true := by
  unfold m_law24_HistoryParts
  rcases light_ok raw h with ⟨e1, s1, s2⟩ | e1
  · obtain ⟨w, e2, w1, w2, w3⟩ := made_ok raw (by omega)
    obtain ⟨r, e3, r1, r2, rc, rs⟩ := made_small w w2 (fun e he => by have := w3 e he; omega) (by omega)
    obtain ⟨ks, e4, hD, hkl⟩ := keys_ok r.1 (by omega)
    have hsum := parts_sum ks hD.nodup r.1 (fun x hx => (hD.2 _).2 (List.mem_map_of_mem hx))
    rw [e1, Option.bind_some, if_pos rfl, e2, Option.bind_some, given_ok w (by omega), Option.bind_some, e3, Option.bind_some, e4, Option.bind_some]
    refine Eq.trans (parts_l1 r rc (by omega) rs ks (by omega) ks [] forever 0 rfl (by unfold forever; omega) (by omega)) ?_
    unfold m_law24_HistoryParts_j0
    rw [if_pos r2, hsum, if_pos (by omega), awake_ok]; rfl
  · rw [e1, Option.bind_some, if_neg (by simp), awake_ok]; rfl
end Go.Proofs.Ytpebhdepmbnjbaa
