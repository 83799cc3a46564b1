/-
  The histories: what the package's Build and the reference's Build make of events, round by round. Conditions: the lists' lengths, as each theorem says.
-/
import Derived.Test.YtpebhdepmbnjbaaMdd
namespace Go.Proofs.Ytpebhdepmbnjbaa
set_option linter.unusedVariables false
set_option linter.unusedSimpArgs false
abbrev RE := Sneedlestoreref24_Event
abbrev RO := Sneedlestoreref24_Op
abbrev HV := Shistory_Event
abbrev HO := Shistory_Op
def gE (e : RE) : HV := ⟨e.fKind, e.fClient, e.fOp, e.fKey, e.fCookie, e.fData, e.fResult⟩
def tO (x : HO) : RO := ⟨x.fClient, x.fKind, x.fKey, x.fCookie, x.fData, x.fGot, x.fCall, x.fReturn, x.fClosed, x.fResult⟩

theorem idx_mid {α : Type} (A : List α) (x : α) (B : List α) : idx (A ++ x :: B) (A.length : Int) = some x := by
  rw [idx_nat]; simp
theorem upd_mid {α : Type} (A : List α) (x y : α) (B : List α) : upd (A ++ x :: B) (A.length : Int) y = some (A ++ y :: B) := by
  rw [upd_of (by simp), Int.toNat_natCast]; simp
theorem ck_nat {n : Nat} (h : n < 9223372036854775807) : ck ((n : Int) + 1) = some ((n + 1 : Nat) : Int) := ck_of (by omega)
theorem mid_len {α : Type} (A : List α) (x : α) (B : List α) : ((A.length : Int) < ((A ++ x :: B).length : Int)) := by simp; omega
theorem end_len {α : Type} (A : List α) : ¬ ((A.length : Int) < ((A ++ []).length : Int)) := by simp
theorem snoc_cons {α : Type} (A : List α) (x : α) (B : List α) : A ++ x :: B = (A ++ [x]) ++ B := by simp
theorem snoc_len {α : Type} (A : List α) (x : α) : (A.length + 1 : Nat) = (A ++ [x]).length := by simp

def small (es : List RE) : Prop := es.length ≤ 60 ∧ ∀ e ∈ es, e.fData.length ≤ 200

/-! ### light -/
theorem light_loop (raw : List RE) (hl : raw.length ≤ 9223372036854775807) : ∀ (B A : List RE) (q : Nat), raw = A ++ B → (∀ e ∈ A, e.fData.length ≤ 200) → B.length < q →
    ((m_law24_light_l1 raw q (A.length : Int) = some true ∧ small raw) ∨ (m_law24_light_l1 raw q (A.length : Int) = some false)) := by
  intro B
  induction B with
  | nil =>
    intro A q hr hA hq
    obtain ⟨q, rfl⟩ : ∃ q', q = q' + 1 := ⟨q - 1, by simp at hq; omega⟩
    have e : m_law24_light_l1 raw (q + 1) (A.length : Int) = some (decide ((raw.length : Int) ≤ 60)) := by
      unfold m_law24_light_l1; rw [if_neg (by rw [hr]; simp)]; rfl
    rw [e]
    by_cases h : raw.length ≤ 60
    · left; rw [decide_eq_true (by omega)]; exact ⟨rfl, h, by rw [hr]; simpa using hA⟩
    · right; rw [decide_eq_false (by omega)]
  | cons x B ih =>
    intro A q hr hA hq
    obtain ⟨q, rfl⟩ : ∃ q', q = q' + 1 := ⟨q - 1, by simp at hq; omega⟩
    have hlen : A.length < raw.length := by rw [hr]; simp
    unfold m_law24_light_l1
    rw [if_pos (by omega), show idx raw (A.length : Int) = some x by rw [hr, idx_mid], Option.bind_some]
    by_cases h : 200 < x.fData.length
    · rw [if_pos (by omega)]; right; rfl
    · rw [if_neg (by omega), ck_nat (by omega), Option.bind_some, snoc_len A x]
      refine ih (A ++ [x]) q (by rw [hr]; simp) ?_ (by simp at hq; omega)
      intro e he
      rcases List.mem_append.1 he with h1 | h1
      · exact hA e h1
      · simp at h1; subst h1; omega
theorem light_ok (raw : List RE) (hl : raw.length ≤ 9223372036854775807) : (m_law24_light raw = some true ∧ small raw) ∨ m_law24_light raw = some false :=
  light_loop raw hl raw [] forever rfl (by simp) (by unfold forever; omega)

/-! ### given, told -/
theorem given_loop (es : List RE) (hl : es.length ≤ 1000) : ∀ (B A : List RE) (q : Nat), es = A ++ B → B.length < q → m_law24_given_l1 es q (A.map gE) (A.length : Int) = some (es.map gE) := by
  intro B
  induction B with
  | nil =>
    intro A q hr hq
    obtain ⟨q, rfl⟩ : ∃ q', q = q' + 1 := ⟨q - 1, by simp at hq; omega⟩
    unfold m_law24_given_l1; rw [if_neg (by rw [hr]; simp), hr]; simp [m_law24_given_j0]
  | cons x B ih =>
    intro A q hr hq
    obtain ⟨q, rfl⟩ : ∃ q', q = q' + 1 := ⟨q - 1, by simp at hq; omega⟩
    have hlen : A.length < es.length := by rw [hr]; simp
    unfold m_law24_given_l1
    rw [if_pos (by omega), show idx es (A.length : Int) = some x by rw [hr, idx_mid], Option.bind_some, apd_of (by simp; omega), Option.bind_some, ck_nat (by omega), Option.bind_some, snoc_len A x]
    have := ih (A ++ [x]) q (by rw [hr]; simp) (by simp at hq; omega)
    rw [List.map_append] at this
    exact this
theorem given_ok (es : List RE) (hl : es.length ≤ 1000) : m_law24_given es = some (es.map gE) := given_loop es hl es [] forever rfl (by unfold forever; omega)
theorem told_loop (es : List HO) (hl : es.length ≤ 1000) : ∀ (B A : List HO) (q : Nat), es = A ++ B → B.length < q → m_law24_told_l1 es q (A.map tO) (A.length : Int) = some (es.map tO) := by
  intro B
  induction B with
  | nil =>
    intro A q hr hq
    obtain ⟨q, rfl⟩ : ∃ q', q = q' + 1 := ⟨q - 1, by simp at hq; omega⟩
    unfold m_law24_told_l1; rw [if_neg (by rw [hr]; simp), hr]; simp [m_law24_told_j0]
  | cons x B ih =>
    intro A q hr hq
    obtain ⟨q, rfl⟩ : ∃ q', q = q' + 1 := ⟨q - 1, by simp at hq; omega⟩
    have hlen : A.length < es.length := by rw [hr]; simp
    unfold m_law24_told_l1
    rw [if_pos (by omega), show idx es (A.length : Int) = some x by rw [hr, idx_mid], Option.bind_some, apd_of (by simp; omega), Option.bind_some, ck_nat (by omega), Option.bind_some, snoc_len A x]
    have := ih (A ++ [x]) q (by rw [hr]; simp) (by simp at hq; omega)
    rw [List.map_append] at this
    exact this
theorem told_ok (es : List HO) (hl : es.length ≤ 1000) : m_law24_told es = some (es.map tO) := told_loop es hl es [] forever rfl (by unfold forever; omega)

/-! ### Same -/
theorem sameop_refl (x : RO) : m_r24_SameOp x.fClient x.fKind x.fKey x.fCookie x.fData x.fGot x.fCall x.fReturn x.fClosed x.fResult x.fClient x.fKind x.fKey x.fCookie x.fData x.fGot x.fCall x.fReturn x.fClosed x.fResult = some true := by
  unfold m_r24_SameOp; simp
theorem same_loop (es : List RO) (hl : es.length ≤ 1000) : ∀ (B A : List RO) (q : Nat), es = A ++ B → B.length < q → m_r24_Same_l1 es es q (A.length : Int) = some true := by
  intro B
  induction B with
  | nil =>
    intro A q hr hq
    obtain ⟨q, rfl⟩ : ∃ q', q = q' + 1 := ⟨q - 1, by simp at hq; omega⟩
    unfold m_r24_Same_l1; rw [if_neg (by rw [hr]; simp)]; rfl
  | cons x B ih =>
    intro A q hr hq
    obtain ⟨q, rfl⟩ : ∃ q', q = q' + 1 := ⟨q - 1, by simp at hq; omega⟩
    have hlen : A.length < es.length := by rw [hr]; simp
    unfold m_r24_Same_l1
    rw [if_pos (by omega), show idx es (A.length : Int) = some x by rw [hr, idx_mid], Option.bind_some, Option.bind_some, sameop_refl, Option.bind_some, if_pos rfl, ck_nat (by omega), Option.bind_some, snoc_len A x]
    exact ih (A ++ [x]) q (by rw [hr]; simp) (by simp at hq; omega)
theorem same_ok (es : List RO) (hl : es.length ≤ 1000) : m_r24_Same es es = some true := by
  unfold m_r24_Same; rw [if_pos rfl]; exact same_loop es hl es [] forever rfl (by unfold forever; omega)

/-! ### the last open operation of a client -/
def opn (x : HO) : Bool := decide (x.fReturn = -1) && decide (x.fClosed = -1)
theorem opn_iff {x : HO} : opn x = true ↔ x.fReturn = -1 ∧ x.fClosed = -1 := by unfold opn; simp
theorem open_ok (x : HO) : m_history_Op_open x.fClient x.fKind x.fKey x.fCookie x.fData x.fGot x.fCall x.fReturn x.fClosed x.fResult = some (opn x) := by
  unfold m_history_Op_open opn
  by_cases h : x.fReturn = -1
  · rw [if_pos h, decide_eq_true h, Bool.true_and]; rfl
  · rw [if_neg h, decide_eq_false h, Bool.false_and]
def lst (ops : List HO) (c : Int) : Nat → Int
  | 0 => -1
  | k + 1 => match ops[k]? with
    | some x => if x.fClient = c ∧ opn x = true then (k : Int) else lst ops c k
    | none => -1
theorem lst_cases (ops : List HO) (c : Int) : ∀ k, k ≤ ops.length → (lst ops c k = -1 ∧ ∀ (j : Nat) x, j < k → ops[j]? = some x → ¬ (x.fClient = c ∧ opn x = true)) ∨ (∃ (j : Nat) (x : HO), lst ops c k = (j : Int) ∧ j < k ∧ ops[j]? = some x ∧ x.fClient = c ∧ opn x = true)
  | 0, _ => Or.inl ⟨rfl, fun j x hj => by omega⟩
  | k + 1, hk => by
    have h1 : ops[k]? = some ops[k] := List.getElem?_eq_getElem (by omega)
    have e : lst ops c (k + 1) = if ops[k].fClient = c ∧ opn ops[k] = true then (k : Int) else lst ops c k := by
      rw [lst, h1]
    rw [e]
    by_cases h : ops[k].fClient = c ∧ opn ops[k] = true
    · rw [if_pos h]; exact Or.inr ⟨k, ops[k], rfl, by omega, h1, h.1, h.2⟩
    · rw [if_neg h]
      rcases lst_cases ops c k (by omega) with ⟨h2, h3⟩ | ⟨j, x, h2, h3, h4⟩
      · refine Or.inl ⟨h2, fun j x hj hx => ?_⟩
        rcases Nat.lt_succ_iff_lt_or_eq.1 hj with h5 | h5
        · exact h3 j x h5 hx
        · subst h5; rw [h1] at hx; injection hx with hx; subst hx; exact h
      · exact Or.inr ⟨j, x, h2, by omega, h4⟩
theorem last_loop (ops : List HO) (c : Int) (hl : ops.length ≤ 1000) : ∀ (k q : Nat), k ≤ ops.length → k < q → m_history_last_l0 ops c q ((k : Int) - 1) = some (lst ops c k) := by
  intro k
  induction k with
  | zero =>
    intro q _ hq
    obtain ⟨q, rfl⟩ : ∃ q', q = q' + 1 := ⟨q - 1, by omega⟩
    unfold m_history_last_l0; rw [if_neg (by omega)]; rfl
  | succ k ih =>
    intro q hk hq
    obtain ⟨q, rfl⟩ : ∃ q', q = q' + 1 := ⟨q - 1, by omega⟩
    have h1 : ops[k]? = some ops[k] := List.getElem?_eq_getElem (by omega)
    have e : lst ops c (k + 1) = if ops[k].fClient = c ∧ opn ops[k] = true then (k : Int) else lst ops c k := by
      rw [lst, h1]
    have ei : ((k + 1 : Nat) : Int) - 1 = (k : Int) := by omega
    have ec : ck ((k : Int) - 1) = some ((k : Int) - 1) := ck_of (by omega)
    rw [e, ei]
    unfold m_history_last_l0
    rw [if_pos (by omega), idx_nat, h1, Option.bind_some, Option.bind_some]
    by_cases h2 : ops[k].fClient = c
    · rw [if_pos h2, Option.bind_some, open_ok, Option.bind_some]
      by_cases h3 : opn ops[k] = true
      · rw [if_pos h3, if_pos ⟨h2, h3⟩, Option.bind_some]
      · rw [if_neg h3, if_neg (fun h => h3 h.2), ec, Option.bind_some]; exact ih q (by omega) (by omega)
    · rw [if_neg h2, if_neg (fun h => h2 h.1), ec, Option.bind_some]; exact ih q (by omega) (by omega)
theorem last_ok (ops : List HO) (c : Int) (hl : ops.length ≤ 1000) : m_history_last ops c = some (lst ops c ops.length) := by
  unfold m_history_last; rw [ck_of (by omega), Option.bind_some]; exact last_loop ops c hl _ _ (Nat.le_refl _) (by unfold forever; omega)
/-- of each client the last operation alone may be open -/
def One (ops : List HO) : Prop := ∀ (i j : Nat) x y, i < j → ops[i]? = some x → ops[j]? = some y → x.fClient = y.fClient → opn x = false
theorem ropen_loop (ops : List HO) (c : Int) (hl : ops.length ≤ 1000) (h1 : One ops) : ∀ (k q : Nat), k ≤ ops.length → k < q → m_r24_open_l1 (ops.map tO) c q ((k : Int) - 1) = some (lst ops c k) := by
  intro k
  induction k with
  | zero =>
    intro q _ hq
    obtain ⟨q, rfl⟩ : ∃ q', q = q' + 1 := ⟨q - 1, by omega⟩
    unfold m_r24_open_l1; rw [if_neg (by omega)]; rfl
  | succ k ih =>
    intro q hk hq
    obtain ⟨q, rfl⟩ : ∃ q', q = q' + 1 := ⟨q - 1, by omega⟩
    have hx : ops[k]? = some ops[k] := List.getElem?_eq_getElem (by omega)
    have e : lst ops c (k + 1) = if ops[k].fClient = c ∧ opn ops[k] = true then (k : Int) else lst ops c k := by
      rw [lst, hx]
    have ei : ((k + 1 : Nat) : Int) - 1 = (k : Int) := by omega
    have ec : ck ((k : Int) - 1) = some ((k : Int) - 1) := ck_of (by omega)
    have hm : (ops.map tO)[k]? = some (tO ops[k]) := by rw [List.getElem?_map, hx]; rfl
    rw [e, ei]
    unfold m_r24_open_l1
    rw [if_pos (by omega), idx_nat, hm, Option.bind_some]
    by_cases h2 : ops[k].fClient = c
    · have hn : opn ops[k] ≠ true → lst ops c k = -1 := by
        intro h3
        rcases lst_cases ops c k (by omega) with ⟨h4, _⟩ | ⟨j, x, _, h4, h5, h6, h7⟩
        · exact h4
        · have := h1 j k x _ h4 h5 hx (by rw [h6, h2]); rw [this] at h7; cases h7
      rw [if_pos (show (tO ops[k]).fClient = c from h2), Option.bind_some]
      by_cases h3 : ops[k].fReturn = -1
      · rw [if_pos (show (tO ops[k]).fReturn = -1 from h3), Option.bind_some]
        by_cases h4 : ops[k].fClosed = -1
        · rw [if_pos (show (tO ops[k]).fClosed = -1 from h4), if_pos ⟨h2, opn_iff.2 ⟨h3, h4⟩⟩]
        · rw [if_neg (show ¬ (tO ops[k]).fClosed = -1 from h4), if_neg (fun h => h4 (opn_iff.1 h.2).2), hn (fun h => h4 (opn_iff.1 h).2)]
      · rw [if_neg (show ¬ (tO ops[k]).fReturn = -1 from h3), if_neg (fun h => h3 (opn_iff.1 h.2).1), hn (fun h => h3 (opn_iff.1 h).1)]
    · rw [if_neg (show ¬ (tO ops[k]).fClient = c from h2), if_neg (fun h => h2 h.1), ec, Option.bind_some]; exact ih q (by omega) (by omega)
theorem ropen_ok (ops : List HO) (c : Int) (hl : ops.length ≤ 1000) (h1 : One ops) : m_r24_open (ops.map tO) c = some (lst ops c ops.length) := by
  unfold m_r24_open; rw [List.length_map, ck_of (by omega), Option.bind_some]; exact ropen_loop ops c hl h1 _ _ (Nat.le_refl _) (by unfold forever; omega)
end Go.Proofs.Ytpebhdepmbnjbaa
