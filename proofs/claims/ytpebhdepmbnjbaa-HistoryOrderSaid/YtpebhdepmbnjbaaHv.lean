/-
  The statement HistoryValid. Conditions: the list's length.
-/
import Derived.Test.YtpebhdepmbnjbaaHi
import Derived.Test.YtpebhdepmbnjbaaMde2
namespace Go.Proofs.Ytpebhdepmbnjbaa
set_option linter.unusedVariables false
set_option linter.unusedSimpArgs false
theorem end_ok (x : HO) : m_history_End x.fClient x.fKind x.fKey x.fCookie x.fData x.fGot x.fCall x.fReturn x.fClosed x.fResult = some (endO x) := by
  unfold m_history_End endO
  by_cases h : x.fReturn = -1
  · rw [if_pos h, if_pos h]
    by_cases h2 : x.fClosed = -1
    · rw [if_pos h2, if_pos h2]
    · rw [if_neg h2, if_neg h2]
  · rw [if_neg h, if_neg h]
theorem before_ok (x y : HO) : m_history_Before x.fClient x.fKind x.fKey x.fCookie x.fData x.fGot x.fCall x.fReturn x.fClosed x.fResult y.fClient y.fKind y.fKey y.fCookie y.fData y.fGot y.fCall y.fReturn y.fClosed y.fResult = some (decide (endO x < y.fCall)) := by
  unfold m_history_Before; rw [end_ok, Option.bind_some]
/-- earlier ones of the same client -/
theorem valid_in {es : List RE} {n : Nat} {ops : List HO} (h : Inv es n ops) (hl : ops.length ≤ 900) (i : Nat) (x : HO) (hx : ops[i]? = some x) (r : Int → Option Bool) :
    ∀ (d j q : Nat), j + d = i → d < q → m_history_Valid_l5 i x (ops.take i) r q (j : Int) = m_history_Valid_j2 i r := by
  have hi := (List.getElem?_eq_some_iff.1 hx).1
  intro d
  induction d with
  | zero =>
    intro j q hj hq
    obtain ⟨q, rfl⟩ : ∃ q', q = q' + 1 := ⟨q - 1, by omega⟩
    unfold m_history_Valid_l5
    rw [if_neg (by rw [List.length_take]; omega)]
  | succ d ih =>
    intro j q hj hq
    obtain ⟨q, rfl⟩ : ∃ q', q = q' + 1 := ⟨q - 1, by omega⟩
    have hy : ops[j]? = some ops[j] := List.getElem?_eq_getElem (by omega)
    unfold m_history_Valid_l5
    rw [if_pos (by rw [List.length_take]; omega), idx_nat, List.getElem?_take, if_pos (by omega), hy, Option.bind_some, ck_nat (by omega), Option.bind_some, before_ok, Option.bind_some]
    have e := ih (j + 1) q (by omega) (by omega)
    by_cases hc : ops[j].fClient = x.fClient
    · rw [if_pos hc, if_pos (decide_eq_true (h.cli j i _ x (by omega) hy hx hc).2)]; exact e
    · rw [if_neg hc]; exact e
theorem valid_loop {es : List RE} {n : Nat} {ops : List HO} (h : Inv es n ops) (hl : ops.length ≤ 900) :
    ∀ (d i q : Nat), i + d = ops.length → d < q → m_history_Valid_l1 ops q (i : Int) = some true := by
  intro d
  induction d with
  | zero =>
    intro i q hi hq
    obtain ⟨q, rfl⟩ : ∃ q', q = q' + 1 := ⟨q - 1, by omega⟩
    unfold m_history_Valid_l1; rw [if_neg (by omega)]; rfl
  | succ d ih =>
    intro i q hi hq
    obtain ⟨q, rfl⟩ : ∃ q', q = q' + 1 := ⟨q - 1, by omega⟩
    have hx : ops[i]? = some ops[i] := List.getElem?_eq_getElem (by omega)
    generalize hxx : ops[i] = x at hx
    obtain ⟨c0, c1, c2, c3, c4⟩ := h.each i x hx
    have e4 : m_history_Valid_j4 ops i x (m_history_Valid_l1 ops q) = some true := by
      unfold m_history_Valid_j4
      rw [slc_of (by omega), Option.bind_some, Int.toNat_natCast, show ((0 : Int).toNat) = 0 from rfl, List.drop_zero, Nat.sub_zero]
      refine Eq.trans (valid_in h hl i x hx _ i 0 forever (by omega) (by unfold forever; omega)) ?_
      unfold m_history_Valid_j2
      rw [ck_nat (by omega), Option.bind_some]
      exact ih (i + 1) q (by omega) (by omega)
    have e3 : m_history_Valid_j3 ops i x (m_history_Valid_l1 ops q) = some true := by
      unfold m_history_Valid_j3
      rcases c4 with c4 | c4 | c4
      · have c4 := opn_iff.1 c4
        rw [if_pos c4.1, if_pos c4.2]; exact e4
      · rw [if_neg (by omega), if_neg (by omega), if_pos c4.1, if_pos c4.1]; exact e4
      · rw [if_pos c4.1, if_neg (by omega), if_neg (by omega)]; exact e4
    unfold m_history_Valid_l1
    rw [if_pos (by omega), idx_nat, hx, Option.bind_some, known_ok, Option.bind_some, if_pos (by simp; omega), if_neg (by omega)]
    by_cases hi0 : 0 < i
    · have hp : ops[i - 1]? = some ops[i - 1] := List.getElem?_eq_getElem (by omega)
      have := h.inc (i - 1) i _ x (by omega) hp hx
      rw [if_pos (by omega), show ((i : Int) - 1) = ((i - 1 : Nat) : Int) by omega, ck_of (by omega), Option.bind_some, idx_nat, hp, Option.bind_some, if_neg (by omega)]
      exact e3
    · rw [if_neg (by omega)]; exact e3
theorem valid_ok {es : List RE} {n : Nat} {ops : List HO} (h : Inv es n ops) (hl : ops.length ≤ 900) : m_history_Valid ops = some true :=
  valid_loop h hl ops.length 0 forever (by omega) (by unfold forever; omega)

theorem rets_loop (r : List HO × Int) (m : Int) (hl : r.1.length ≤ 900) : ∀ (B A : List HO) (k : Int) (q : Nat), r.1 = A ++ B → B.length < q → (B.length : Int) ≤ k + 10000 → k ≤ 10000 →
    m_law24_HistoryValid_l3 r m q k (A.length : Int) = m_law24_HistoryValid_j2 r m (k - cR B) := by
  intro B
  induction B with
  | nil =>
    intro A k q hr hq k0 k1
    obtain ⟨q, rfl⟩ : ∃ q', q = q' + 1 := ⟨q - 1, by simp at hq; omega⟩
    unfold m_law24_HistoryValid_l3; rw [if_neg (by rw [hr]; simp)]; simp [cR]
  | cons x B ih =>
    intro A k q hr hq k0 k1
    obtain ⟨q, rfl⟩ : ∃ q', q = q' + 1 := ⟨q - 1, by simp at hq; omega⟩
    have hlen : A.length < r.1.length := by rw [hr]; simp
    rw [List.length_cons] at k0 hq
    unfold m_law24_HistoryValid_l3
    rw [if_pos (by omega), show idx r.1 (A.length : Int) = some x by rw [hr, idx_mid], Option.bind_some, ck_nat (by omega), Option.bind_some, snoc_len A x]
    by_cases h : 0 ≤ x.fReturn
    · rw [if_pos h, ck_of (by omega), Option.bind_some, Option.bind_some, ih (A ++ [x]) (k - 1) q (by rw [hr]; simp) (by omega) (by omega) (by omega)]
      have : cR (x :: B) = cR B + 1 := by unfold cR; rw [List.countP_cons, if_pos (decide_eq_true h)]
      rw [this]; congr 1; omega
    · rw [if_neg h, ih (A ++ [x]) k q (by rw [hr]; simp) (by omega) (by omega) (by omega)]
      have : cR (x :: B) = cR B := by unfold cR; rw [List.countP_cons, if_neg (by simpa using h)]; rfl
      rw [this]
theorem cK_cons (k : Int) (e : RE) (l : List RE) : cK k (e :: l) = cK k l + if e.fKind = k then 1 else 0 := by
  unfold cK; rw [List.countP_cons]; simp
theorem cnt_loop (es : List RE) (r : List HO × Int) (hl : es.length ≤ 900) : ∀ (B A : List RE) (a b : Nat) (q : Nat), es = A ++ B → B.length < q → a + B.length ≤ 10000 → b + B.length ≤ 10000 →
    m_law24_HistoryValid_l1 (es.map gE) r q (a : Int) (b : Int) (A.length : Int) = m_law24_HistoryValid_j0 r ((a + cK 1 B : Nat) : Int) ((b + cK 2 B : Nat) : Int) := by
  intro B
  induction B with
  | nil =>
    intro A a b q hr hq a0 b0
    obtain ⟨q, rfl⟩ : ∃ q', q = q' + 1 := ⟨q - 1, by simp at hq; omega⟩
    unfold m_law24_HistoryValid_l1; rw [if_neg (by rw [hr]; simp)]; rfl
  | cons x B ih =>
    intro A a b q hr hq a0 b0
    obtain ⟨q, rfl⟩ : ∃ q', q = q' + 1 := ⟨q - 1, by simp at hq; omega⟩
    have hlen : A.length < es.length := by rw [hr]; simp
    rw [List.length_cons] at a0 b0 hq
    have hi : idx (es.map gE) (A.length : Int) = some (gE x) := by rw [idx_nat, List.getElem?_map, hr]; simp
    unfold m_law24_HistoryValid_l1
    rw [if_pos (by simp; omega), hi, Option.bind_some, ck_nat (by omega), ck_nat (n := b) (by omega), ck_nat (n := A.length) (by omega), snoc_len A x]
    rw [cK_cons, cK_cons]
    have e := fun a b h1 h2 => ih (A ++ [x]) a b q (by rw [hr]; simp) (by omega) h1 h2
    by_cases k1 : x.fKind = 1
    · rw [if_pos (show (gE x).fKind = 1 from k1), if_pos k1, Option.bind_some, Option.bind_some, if_neg (show ¬ (gE x).fKind = 2 by show ¬ x.fKind = 2; omega), if_neg (show ¬ x.fKind = 2 by omega), Option.bind_some]
      rw [e (a + 1) b (by omega) (by omega)]; congr 2 <;> omega
    · rw [if_neg (show ¬ (gE x).fKind = 1 from k1), if_neg k1, Option.bind_some]
      by_cases k2 : x.fKind = 2
      · rw [if_pos (show (gE x).fKind = 2 from k2), if_pos k2, Option.bind_some, Option.bind_some]
        rw [e a (b + 1) (by omega) (by omega)]; congr 2 <;> omega
      · rw [if_neg (show ¬ (gE x).fKind = 2 from k2), if_neg k2, Option.bind_some]
        rw [e a b (by omega) (by omega)]; congr 2 <;> omega
theorem ok_HistoryValid (raw : List RE) (h : raw.length ≤ 9223372036854775807) : m_law24_HistoryValid raw = some true := by
  unfold m_law24_HistoryValid
  rcases light_ok raw h with ⟨e1, s1, s2⟩ | e1
  · obtain ⟨w, e2, w1, w2, w3⟩ := made_ok raw (by omega)
    obtain ⟨r, e3, r1, r2, rc⟩ := made_build w w2 (fun e he => by have := w3 e he; omega) (by omega)
    rw [e1, Option.bind_some, if_pos rfl, e2, Option.bind_some, given_ok w (by omega), Option.bind_some, e3, Option.bind_some]
    have e4 := cnt_loop w r (by omega) w [] 0 0 forever rfl (by unfold forever; omega) (by omega) (by omega)
    have tk : w.take w.length = w := List.take_length
    have c1 := rc.calls
    have c2 := rc.rets
    rw [tk] at c1 c2
    have hb : cK 2 w ≤ w.length := List.countP_le_length
    refine Eq.trans e4 ?_
    rw [Nat.zero_add, Nat.zero_add, ← c1, ← c2]
    unfold m_law24_HistoryValid_j0
    refine Eq.trans (rets_loop r _ r1 r.1 [] _ forever rfl (by unfold forever; omega) (by omega) (by omega)) ?_
    unfold m_law24_HistoryValid_j2
    rw [if_pos r2, valid_ok rc.inv r1, Option.bind_some, if_pos rfl, if_pos rfl, if_pos (by omega), awake_ok]; rfl
  · rw [e1, Option.bind_some, if_neg (by simp), awake_ok]; rfl
end Go.Proofs.Ytpebhdepmbnjbaa
