/-
 The histories: rounds of Build, the package's and the reference's; what an operation keeps. Printed by a program of ours from the texts for law24. Conditions: as each theorem says.
-/
import Derived.Test.YtkcccenekglkoaaMdb
import Derived.Test.YtkcccenekglkoaaMdd
namespace Go.Proofs.Ytkcccenekglkoaa
set_option linter.unusedVariables false
set_option linter.unusedSimpArgs false
abbrev RE := Sneedlestoreref24_Event
abbrev RO := Sneedlestoreref24_Op
abbrev HV := Shistory_Event
abbrev HO := Shistory_Op
def gE (e : RE) : HV := ⟨e.fKind, e.fClient, e.fOp, e.fKey, e.fCookie, e.fData, e.fResult⟩
def tO (x : HO) : RO := ⟨x.fClient, x.fKind, x.fKey, x.fCookie, x.fData, x.fGot, x.fCall, x.fReturn, x.fClosed, x.fResult⟩
theorem idx_mid {α : Type} (A : List α) (x : α) (B : List α) : idx (A ++ x :: B) (A.length : Int) = some x := by
 rw [idx_nat]; simp
theorem upd_mid {α : Type} (A : List α) (x y : α) (B : List α) : upd (A ++ x :: B) (A.length : Int) y = some (A ++ y :: B) := by
 rw [upd_of (by simp), Int.toNat_natCast]; simp
theorem ck_nat {n : Nat} (h : n < 9223372036854775807) : ck ((n : Int) + 1) = some ((n + 1 : Nat) : Int) := ck_of (by omega)
theorem snoc_cons {α : Type} (A : List α) (x : α) (B : List α) : A ++ x :: B = (A ++ [x]) ++ B := by simp
theorem snoc_len {α : Type} (A : List α) (x : α) : (A.length + 1 : Nat) = (A ++ [x]).length := by simp
def opn (x : HO) : Bool := decide (x.fReturn = -1) && decide (x.fClosed = -1)
theorem opn_iff {x : HO} : opn x = true ↔ x.fReturn = -1 /\ x.fClosed = -1 := by unfold opn; simp
theorem open_ok (x : HO) : m_history_Op_open x.fClient x.fKind x.fKey x.fCookie x.fData x.fGot x.fCall x.fReturn x.fClosed x.fResult = some (opn x) := by
 unfold m_history_Op_open opn
 by_cases h : x.fReturn = -1
 ·rw [if_pos h, decide_eq_true h, Bool.true_and]; rfl
 ·rw [if_neg h, decide_eq_false h, Bool.false_and]
def lst (ops : List HO) (c : Int) : Nat -> Int
 | 0 => -1
 | k + 1 => match ops[k]? with
  | some x => if x.fClient = c /\ opn x = true then (k : Int) else lst ops c k
  | none => -1
theorem lst_cases (ops : List HO) (c : Int) : ∀ k, k <= ops.length -> (lst ops c k = -1 /\ ∀ (j : Nat) x, j < k -> ops[j]? = some x -> ¬ (x.fClient = c /\ opn x = true)) ∨ (∃ (j : Nat) (x : HO), lst ops c k = (j : Int) /\ j < k /\ ops[j]? = some x /\ x.fClient = c /\ opn x = true)
 | 0, _ => Or.inl ⟨rfl, fun j x hj => by omega⟩
 | k + 1, hk => by
  have h1 : ops[k]? = some ops[k] := List.getElem?_eq_getElem (by omega)
  have e : lst ops c (k + 1) = if ops[k].fClient = c /\ opn ops[k] = true then (k : Int) else lst ops c k := by
   rw [lst, h1]
  rw [e]
  by_cases h : ops[k].fClient = c /\ opn ops[k] = true
  ·rw [if_pos h]; exact Or.inr ⟨k, ops[k], rfl, by omega, h1, h.1, h.2⟩
  ·rw [if_neg h]
   rcases lst_cases ops c k (by omega) with ⟨h2, h3⟩ | ⟨j, x, h2, h3, h4⟩
   ·refine Or.inl ⟨h2, fun j x hj hx => ?_⟩
    rcases Nat.lt_succ_iff_lt_or_eq.1 hj with h5 | h5
    ·exact h3 j x h5 hx
    ·subst h5; rw [h1] at hx; injection hx with hx; subst hx; exact h
   ·exact Or.inr ⟨j, x, h2, by omega, h4⟩
theorem last_loop (ops : List HO) (c : Int) (hl : ops.length <= 1000) : ∀ (k q : Nat), k <= ops.length -> k < q -> m_history_last_l0 ops c q ((k : Int) - 1) = some (lst ops c k) := by
 intro k
 induction k with
 | zero =>
  intro q _ hq
  obtain ⟨q, rfl⟩ : ∃ q', q = q' + 1 := ⟨q - 1, by omega⟩
  unfold m_history_last_l0; rw [if_neg (by omega)]; rfl
 | succ k ih =>
  intro q hk hq
  obtain ⟨q, rfl⟩ : ∃ q', q = q' + 1 := ⟨q - 1, by omega⟩
  have h1 : ops[k]? = some ops[k] := List.getElem?_eq_getElem (by omega)
  have e : lst ops c (k + 1) = if ops[k].fClient = c /\ opn ops[k] = true then (k : Int) else lst ops c k := by
   rw [lst, h1]
  have ei : ((k + 1 : Nat) : Int) - 1 = (k : Int) := by omega
  have ec : ck ((k : Int) - 1) = some ((k : Int) - 1) := ck_of (by omega)
  rw [e, ei]
  unfold m_history_last_l0
  rw [if_pos (by omega), idx_nat, h1, obs, obs]
  by_cases h2 : ops[k].fClient = c
  ·rw [if_pos h2, obs, open_ok, obs]
   by_cases h3 : opn ops[k] = true
   ·rw [if_pos h3, if_pos ⟨h2, h3⟩, obs]
   ·rw [if_neg h3, if_neg (fun h => h3 h.2), ec, obs]; exact ih q (by omega) (by omega)
  ·rw [if_neg h2, if_neg (fun h => h2 h.1), ec, obs]; exact ih q (by omega) (by omega)
theorem last_ok (ops : List HO) (c : Int) (hl : ops.length <= 1000) : m_history_last ops c = some (lst ops c ops.length) := by
 unfold m_history_last; rw [ck_of (by omega), obs]; exact last_loop ops c hl _ _ (Nat.le_refl _) (by unfold forever; omega)
def One (ops : List HO) : Prop := ∀ (i j : Nat) x y, i < j -> ops[i]? = some x -> ops[j]? = some y -> x.fClient = y.fClient -> opn x = false
theorem ropen_loop (ops : List HO) (c : Int) (hl : ops.length <= 1000) (h1 : One ops) : ∀ (k q : Nat), k <= ops.length -> k < q -> m_r24_open_l1 (ops.map tO) c q ((k : Int) - 1) = some (lst ops c k) := by
 intro k
 induction k with
 | zero =>
  intro q _ hq
  obtain ⟨q, rfl⟩ : ∃ q', q = q' + 1 := ⟨q - 1, by omega⟩
  unfold m_r24_open_l1; rw [if_neg (by omega)]; rfl
 | succ k ih =>
  intro q hk hq
  obtain ⟨q, rfl⟩ : ∃ q', q = q' + 1 := ⟨q - 1, by omega⟩
  have hx : ops[k]? = some ops[k] := List.getElem?_eq_getElem (by omega)
  have e : lst ops c (k + 1) = if ops[k].fClient = c /\ opn ops[k] = true then (k : Int) else lst ops c k := by
   rw [lst, hx]
  have ei : ((k + 1 : Nat) : Int) - 1 = (k : Int) := by omega
  have ec : ck ((k : Int) - 1) = some ((k : Int) - 1) := ck_of (by omega)
  have hm : (ops.map tO)[k]? = some (tO ops[k]) := by rw [List.getElem?_map, hx]; rfl
  rw [e, ei]
  unfold m_r24_open_l1
  rw [if_pos (by omega), idx_nat, hm, obs]
  by_cases h2 : ops[k].fClient = c
  ·have hn : opn ops[k] ≠ true -> lst ops c k = -1 := by
    intro h3
    rcases lst_cases ops c k (by omega) with ⟨h4, _⟩ | ⟨j, x, _, h4, h5, h6, h7⟩
    ·exact h4
    ·have := h1 j k x _ h4 h5 hx (by rw [h6, h2]); rw [this] at h7; cases h7
   rw [if_pos (show (tO ops[k]).fClient = c from h2), obs]
   by_cases h3 : ops[k].fReturn = -1
   ·rw [if_pos (show (tO ops[k]).fReturn = -1 from h3), obs]
    by_cases h4 : ops[k].fClosed = -1
    ·rw [if_pos (show (tO ops[k]).fClosed = -1 from h4), if_pos ⟨h2, opn_iff.2 ⟨h3, h4⟩⟩]
    ·rw [if_neg (show ¬ (tO ops[k]).fClosed = -1 from h4), if_neg (fun h => h4 (opn_iff.1 h.2).2), hn (fun h => h4 (opn_iff.1 h).2)]
   ·rw [if_neg (show ¬ (tO ops[k]).fReturn = -1 from h3), if_neg (fun h => h3 (opn_iff.1 h.2).1), hn (fun h => h3 (opn_iff.1 h).1)]
  ·rw [if_neg (show ¬ (tO ops[k]).fClient = c from h2), if_neg (fun h => h2 h.1), ec, obs]; exact ih q (by omega) (by omega)
theorem ropen_ok (ops : List HO) (c : Int) (hl : ops.length <= 1000) (h1 : One ops) : m_r24_open (ops.map tO) c = some (lst ops c ops.length) := by
 unfold m_r24_open; rw [List.length_map, ck_of (by omega), obs]; exact ropen_loop ops c hl h1 _ _ (Nat.le_refl _) (by unfold forever; omega)
def newO (i : Int) (e : HV) : HO := ⟨e.fClient, e.fOp, e.fKey, e.fCookie, if e.fOp = 1 then e.fData else [], [], i, -1, -1, 0⟩
def retO (i : Int) (e : HV) (x : HO) : HO := { x with fReturn := i, fResult := e.fResult, fGot := if x.fKind = 3 /\ e.fResult = 0 then e.fData else x.fGot }
def clO (i : Int) (x : HO) : HO := if opn x = true then { x with fClosed := i } else x
theorem cl_loop (i : Int) (r : List HO -> Int -> Option (List HO × Int)) (x20 : List HO) (hl : x20.length <= 1000) : ∀ (B A : List HO) (q : Nat), x20.length = A.length + B.length -> B.length < q ->
  m_history_Build_l5 x20 i r q (A ++ B) (A.length : Int) = m_history_Build_j2 i r (A ++ B.map (clO i)) := by
 intro B
 induction B with
 | nil =>
  intro A q hr hq
  obtain ⟨q, rfl⟩ : ∃ q', q = q' + 1 := ⟨q - 1, by simp at hq; omega⟩
  unfold m_history_Build_l5; rw [if_neg (by rw [hr]; simp)]; rfl
 | cons x B ih =>
  intro A q hr hq
  obtain ⟨q, rfl⟩ : ∃ q', q = q' + 1 := ⟨q - 1, by simp at hq; omega⟩
  have hr' := hr
  rw [List.length_cons] at hr'
  unfold m_history_Build_l5
  rw [if_pos (by omega), idx_mid, obs, open_ok, obs, obs, obs, ck_nat (by omega)]
  by_cases h : opn x = true
  ·rw [if_pos h, upd_mid, obs, obs, snoc_len A x, snoc_cons A _ B, show (A ++ [x]).length = (A ++ [({ x with fClosed := i } : HO)]).length by simp, ih _ q (by simp; omega) (by simp at hq; omega)]
   rw [List.map_cons, show clO i x = { x with fClosed := i } from if_pos h]
   simp
  ·rw [if_neg h, obs, snoc_len A x, snoc_cons A _ B, ih _ q (by simp; omega) (by simp at hq; omega)]
   rw [List.map_cons, show clO i x = x from if_neg h]
   simp
theorem rcl_loop (i : Int) (r : List RO -> Int -> Option (List RO × Int)) : ∀ (B A : List HO) (q : Nat), A.length + B.length <= 1000 -> B.length < q ->
  m_r24_Build_l5 i r q (A.map tO ++ B.map tO) (A.length : Int) = m_r24_Build_j2 i r ((A ++ B.map (clO i)).map tO) := by
 intro B
 induction B with
 | nil =>
  intro A q hr hq
  obtain ⟨q, rfl⟩ : ∃ q', q = q' + 1 := ⟨q - 1, by simp at hq; omega⟩
  unfold m_r24_Build_l5; rw [if_neg (by simp)]; simp
 | cons x B ih =>
  intro A q hr hq
  obtain ⟨q, rfl⟩ : ∃ q', q = q' + 1 := ⟨q - 1, by simp at hq; omega⟩
  have hr' := hr
  rw [List.length_cons] at hr'
  have el : (A.length : Int) = ((A.map tO).length : Int) := by simp
  unfold m_r24_Build_l5
  rw [List.map_cons, if_pos (by simp; omega), el, idx_mid, obs, obs, obs, obs, ck_nat (by simp; omega)]
  by_cases h : opn x = true
  ·have h2 := opn_iff.1 h
   rw [if_pos (show (tO x).fReturn = -1 from h2.1), if_pos (show (tO x).fClosed = -1 from h2.2), upd_mid, obs, obs]
   have e := ih (A ++ [({ x with fClosed := i } : HO)]) q (by simp; omega) (by simp at hq; omega)
   rw [List.map_append, show (A ++ [({ x with fClosed := i } : HO)]).length = (A.map tO).length + 1 by simp] at e
   rw [snoc_cons (A.map tO) _ (B.map tO)]
   refine Eq.trans e ?_
   rw [List.map_cons (f := clO i), show clO i x = { x with fClosed := i } from if_pos h]
   simp
  ·have e := ih (A ++ [x]) q (by simp; omega) (by simp at hq; omega)
   rw [List.map_append, show (A ++ [x]).length = (A.map tO).length + 1 by simp] at e
   have e2 : m_r24_Build_l5 i r q (A.map tO ++ tO x :: B.map tO) (((A.map tO).length + 1 : Nat) : Int) = m_r24_Build_j2 i r (List.map tO (A ++ clO i x :: List.map (clO i) B)) := by
    rw [snoc_cons (A.map tO) _ (B.map tO)]
    refine Eq.trans e ?_
    rw [show clO i x = x from if_neg h]
    simp
   by_cases h3 : x.fReturn = -1
   ·rw [if_pos (show (tO x).fReturn = -1 from h3), if_neg (show ¬ (tO x).fClosed = -1 from fun h4 => h (opn_iff.2 ⟨h3, h4⟩)), obs]
    exact e2
   ·rw [if_neg (show ¬ (tO x).fReturn = -1 from h3), obs]
    exact e2
inductive Step (i : Int) (e : HV) (ops : List HO) : Option (List HO) -> Prop
 | call : e.fKind = 1 -> 1 <= e.fOp -> e.fOp <= 3 -> (∀ (j : Nat) x, ops[j]? = some x -> ¬ (x.fClient = e.fClient /\ opn x = true)) -> Step i e ops (some (ops ++ [newO i e]))
 | ret (j : Nat) (x : HO) : e.fKind = 2 -> ops[j]? = some x -> x.fClient = e.fClient -> opn x = true -> Step i e ops (some (ops.set j (retO i e x)))
 | kill : e.fKind = 3 -> Step i e ops (some (ops.map (clO i)))
 | bad : e.fKind ≠ 3 -> (e.fKind = 1 -> 1 <= e.fOp -> e.fOp <= 3 -> ∃ (j : Nat) (x : HO), ops[j]? = some x /\ x.fClient = e.fClient /\ opn x = true) -> (e.fKind = 2 -> ∀ (j : Nat) x, ops[j]? = some x -> ¬ (x.fClient = e.fClient /\ opn x = true)) -> Step i e ops none
theorem known_ok (k : Int) : m_history_known k = some (decide (1 <= k) && decide (k <= 3)) := by
 unfold m_history_known
 by_cases h : 1 <= k
 ·rw [if_pos h, decide_eq_true h, Bool.true_and]
 ·rw [if_neg h, decide_eq_false h, Bool.false_and]
theorem clone_ok (x : List (BitVec 8)) (h : x.length <= 1000) : m_bytes_Clone x = some x := by
 unfold m_bytes_Clone; rw [apd1_of (by simp; omega), obs]; rfl
theorem set_self {α : Type} {xs : List α} {j : Nat} {x : α} (h : xs[j]? = some x) (y : α) : (xs.set j y)[j]? = some y := by
 rw [List.getElem?_set_self (List.getElem?_eq_some_iff.1 h).1]
theorem step_ok (es : List RE) (n : Nat) (e : RE) (ops : List HO) (he : es[n]? = some e) (hd : e.fData.length <= 1000) (hs : es.length <= 1000) (hl : ops.length <= 900) (h1 : One ops) :
  ∃ o, Step (n : Int) (gE e) ops o /\
   (∀ q, m_history_Build_l1 (es.map gE) (q + 1) ops (n : Int) = match o with
    | some o' => m_history_Build_l1 (es.map gE) q o' ((n + 1 : Nat) : Int)
    | none => some ([], 3)) /\
   (∀ q, m_r24_Build_l1 es (q + 1) (ops.map tO) (n : Int) = match o with
    | some o' => m_r24_Build_l1 es q (o'.map tO) ((n + 1 : Nat) : Int)
    | none => some ([], 3)) := by
 have hn : n < es.length := (List.getElem?_eq_some_iff.1 he).1
 have hg : (es.map gE)[n]? = some (gE e) := by rw [List.getElem?_map, he]; rfl
 have hck : ck ((n : Int) + 1) = some ((n + 1 : Nat) : Int) := ck_nat (by omega)
 have H : ∀ q, m_history_Build_l1 (es.map gE) (q + 1) ops (n : Int) = (if (gE e).fKind = (1 : Int) then
    Option.bind (m_history_known (gE e).fOp) fun x50 =>
    if x50 = true then
     m_history_Build_j3 ops n (gE e) (lst ops e.fClient ops.length) (m_history_Build_l1 (es.map gE) q) (decide (lst ops e.fClient ops.length < 0))
    else
     m_history_Build_j3 ops n (gE e) (lst ops e.fClient ops.length) (m_history_Build_l1 (es.map gE) q) false
   else
    m_history_Build_j3 ops n (gE e) (lst ops e.fClient ops.length) (m_history_Build_l1 (es.map gE) q) false) := by
  intro q
  rw [m_history_Build_l1, if_pos (by simp; omega), idx_nat, hg, obs, last_ok _ _ (by omega), obs]; rfl
 have R : ∀ q, m_r24_Build_l1 es (q + 1) (ops.map tO) (n : Int) = (if e.fKind = (1 : Int) then
    if (1 : Int) <= e.fOp then
     if e.fOp <= (3 : Int) then
      m_r24_Build_j3 (ops.map tO) n e (lst ops e.fClient ops.length) (m_r24_Build_l1 es q) (decide (lst ops e.fClient ops.length < (0 : Int)))
     else
      m_r24_Build_j3 (ops.map tO) n e (lst ops e.fClient ops.length) (m_r24_Build_l1 es q) false
    else
     m_r24_Build_j3 (ops.map tO) n e (lst ops e.fClient ops.length) (m_r24_Build_l1 es q) false
   else
    m_r24_Build_j3 (ops.map tO) n e (lst ops e.fClient ops.length) (m_r24_Build_l1 es q) false) := by
  intro q
  rw [m_r24_Build_l1, if_pos (by omega), idx_nat, he, obs, ropen_ok _ _ (by omega) h1, obs]
 have hj2 : ∀ (q : Nat) x, m_history_Build_j2 (n : Int) (m_history_Build_l1 (es.map gE) q) x = m_history_Build_l1 (es.map gE) q x ((n + 1 : Nat) : Int) := by
  intro q x; unfold m_history_Build_j2; rw [hck, obs]
 have rj2 : ∀ (q : Nat) x, m_r24_Build_j2 (n : Int) (m_r24_Build_l1 es q) x = m_r24_Build_l1 es q x ((n + 1 : Nat) : Int) := by
  intro q x; unfold m_r24_Build_j2; rw [hck, obs]
 have hfin : ∀ q k, m_history_Build_j4 ops n (gE e) k (m_history_Build_l1 (es.map gE) q) false = if e.fKind = 3 then m_history_Build_l1 (es.map gE) q (ops.map (clO n)) ((n + 1 : Nat) : Int) else some ([], 3) := by
  intro q k
  unfold m_history_Build_j4
  rw [if_neg (by simp), show (gE e).fKind = e.fKind from rfl, <- hj2]
  have := cl_loop n (m_history_Build_l1 (es.map gE) q) ops (by omega) ops [] forever (by simp) (by unfold forever; omega)
  simp only [List.nil_append, List.length_nil] at this
  rw [show m_history_Build_l5 ops n (m_history_Build_l1 (es.map gE) q) forever ops 0 = _ from this]
 have rfin : ∀ q k, m_r24_Build_j4 (ops.map tO) n e k (m_r24_Build_l1 es q) false = if e.fKind = 3 then m_r24_Build_l1 es q ((ops.map (clO n)).map tO) ((n + 1 : Nat) : Int) else some ([], 3) := by
  intro q k
  unfold m_r24_Build_j4
  rw [if_neg (by simp), <- rj2]
  have := rcl_loop n (m_r24_Build_l1 es q) ops [] forever (by simp; omega) (by unfold forever; omega)
  simp only [List.nil_append, List.length_nil, List.map_nil] at this
  rw [show m_r24_Build_l5 n (m_r24_Build_l1 es q) forever (ops.map tO) 0 = _ from this]
 have lc := lst_cases ops e.fClient ops.length (Nat.le_refl _)
 by_cases k1 : e.fKind = 1
 ·have hbad : ∀ q k, m_history_Build_j3 ops n (gE e) k (m_history_Build_l1 (es.map gE) q) false = some ([], 3) := by
   intro q k; unfold m_history_Build_j3; rw [if_neg (by simp), if_neg (show ¬ (gE e).fKind = 2 by show ¬ e.fKind = 2; omega), hfin, if_neg (by omega)]
  have rbad : ∀ q k, m_r24_Build_j3 (ops.map tO) n e k (m_r24_Build_l1 es q) false = some ([], 3) := by
   intro q k; unfold m_r24_Build_j3; rw [if_neg (by simp), if_neg (by omega), rfin, if_neg (by omega)]
  by_cases ho : 1 <= e.fOp /\ e.fOp <= 3
  ·rcases lc with ⟨l1, l2⟩ | ⟨j, x, l1, l2, l3, l4, l5⟩
   ·refine ⟨some (ops ++ [newO n (gE e)]), .call k1 ho.1 ho.2 (fun j x hx => l2 j x (List.getElem?_eq_some_iff.1 hx).1 hx), fun q => ?_, fun q => ?_⟩
    ·rw [H, if_pos (show (gE e).fKind = 1 from k1), known_ok, obs, if_pos (by simp; exact ho), l1, decide_eq_true (by omega)]
     unfold m_history_Build_j3
     rw [if_pos rfl]
     show _ = m_history_Build_l1 (es.map gE) q (ops ++ [newO n (gE e)]) ((n + 1 : Nat) : Int)
     rw [<- hj2]
     by_cases h4 : e.fOp = 1
     ·rw [if_pos (show (gE e).fOp = 1 from h4), show (gE e).fData = e.fData from rfl, clone_ok _ hd, obs, apd_of (by simp; omega), obs]
      unfold newO; rw [if_pos (show (gE e).fOp = 1 from h4)]; rfl
     ·rw [if_neg (show ¬ (gE e).fOp = 1 from h4), apd_of (by simp; omega), obs]
      unfold newO; rw [if_neg (show ¬ (gE e).fOp = 1 from h4)]
    ·rw [R, if_pos k1, if_pos ho.1, if_pos ho.2, l1, decide_eq_true (by omega)]
     unfold m_r24_Build_j3
     rw [if_pos rfl]
     show _ = m_r24_Build_l1 es q ((ops ++ [newO n (gE e)]).map tO) ((n + 1 : Nat) : Int)
     rw [<- rj2, List.map_append]
     by_cases h4 : e.fOp = 1
     ·rw [if_pos h4, apd1_of (by simp; omega), obs, apd_of (by simp; omega), obs]
      unfold newO; rw [if_pos (show (gE e).fOp = 1 from h4)]; rfl
     ·rw [if_neg h4, apd_of (by simp; omega), obs]
      unfold newO; rw [if_neg (show ¬ (gE e).fOp = 1 from h4)]; rfl
   ·refine ⟨none, .bad (by show e.fKind ≠ 3; omega) (fun _ _ _ => ⟨j, x, l3, l4, l5⟩) (fun h => absurd (show e.fKind = 2 from h) (by omega)), fun q => ?_, fun q => ?_⟩
    ·rw [H, if_pos (show (gE e).fKind = 1 from k1), known_ok, obs, l1, decide_eq_false (show ¬ ((j : Int) < 0) by omega), hbad]; exact ite_self _
    ·rw [R, if_pos k1, l1, decide_eq_false (show ¬ ((j : Int) < 0) by omega), rbad]; rw [ite_self, ite_self]
  ·refine ⟨none, .bad (by show e.fKind ≠ 3; omega) (fun _ a b => absurd ⟨a, b⟩ ho) (fun h => absurd (show e.fKind = 2 from h) (by omega)), fun q => ?_, fun q => ?_⟩
   ·rw [H, if_pos (show (gE e).fKind = 1 from k1), known_ok, obs, if_neg (by simp; intro a; exact Int.not_le.1 fun b => ho ⟨a, b⟩), hbad]
   ·rw [R, if_pos k1]
    by_cases h5 : 1 <= e.fOp
    ·rw [if_pos h5, if_neg (fun h6 => ho ⟨h5, h6⟩), rbad]
    ·rw [if_neg h5, rbad]
 ·by_cases k2 : e.fKind = 2
  ·rcases lc with ⟨l1, l2⟩ | ⟨j, x, l1, l2, l3, l4, l5⟩
   ·refine ⟨none, .bad (by show e.fKind ≠ 3; omega) (fun h => absurd h k1) (fun _ j x hx => l2 j x (List.getElem?_eq_some_iff.1 hx).1 hx), fun q => ?_, fun q => ?_⟩
    ·rw [H, if_neg (show ¬ (gE e).fKind = 1 from k1)]
     unfold m_history_Build_j3
     rw [if_neg (by simp), if_pos (show (gE e).fKind = 2 from k2), l1, show decide ((0 : Int) <= -1) = false from rfl, hfin, if_neg (by omega)]
    ·rw [R, if_neg k1]
     unfold m_r24_Build_j3
     rw [if_neg (by simp), if_pos k2, l1, show decide ((0 : Int) <= -1) = false from rfl, rfin, if_neg (by omega)]
   ·refine ⟨some (ops.set j (retO n (gE e) x)), .ret j x k2 l3 l4 l5, fun q => ?_, fun q => ?_⟩
    ·rw [H, if_neg (show ¬ (gE e).fKind = 1 from k1)]
     unfold m_history_Build_j3
     rw [if_neg (by simp), if_pos (show (gE e).fKind = 2 from k2), l1, decide_eq_true (by omega)]
     unfold m_history_Build_j4
     have u : ∀ (zs : List HO) y z, zs[j]? = some z -> upd zs (j : Int) y = some (zs.set j y) := fun zs y z hz => upd_of ⟨by omega, by rw [Int.toNat_natCast]; exact (List.getElem?_eq_some_iff.1 hz).1⟩
     rw [if_pos rfl, idx_nat, l3, obs, obs, u _ _ _ l3, obs, idx_nat, set_self l3, obs, obs, u _ _ _ (set_self l3 _), obs, List.set_set, idx_nat, set_self l3, obs]
     show _ = m_history_Build_l1 (es.map gE) q (ops.set j (retO n (gE e) x)) ((n + 1 : Nat) : Int)
     rw [<- hj2]
     unfold retO
     by_cases h3 : x.fKind = 3
     ·by_cases h4 : e.fResult = 0
      ·rw [if_pos h3, if_pos (show (gE e).fResult = 0 from h4), show (gE e).fData = e.fData from rfl, clone_ok _ hd, obs, obs, obs, u _ _ _ (set_self l3 _), obs, List.set_set, if_pos ⟨h3, show (gE e).fResult = 0 from h4⟩]
      ·rw [if_pos h3, if_neg (show ¬ (gE e).fResult = 0 from h4), if_neg (fun h => h4 h.2)]
     ·rw [if_neg h3, if_neg (fun h => h3 h.1)]
    ·rw [R, if_neg k1]
     unfold m_r24_Build_j3
     rw [if_neg (by simp), if_pos k2, l1, decide_eq_true (by omega)]
     unfold m_r24_Build_j4
     have l3' : (ops.map tO)[j]? = some (tO x) := by rw [List.getElem?_map, l3]; rfl
     have u : ∀ (zs : List RO) y z, zs[j]? = some z -> upd zs (j : Int) y = some (zs.set j y) := fun zs y z hz => upd_of ⟨by omega, by rw [Int.toNat_natCast]; exact (List.getElem?_eq_some_iff.1 hz).1⟩
     rw [if_pos rfl, idx_nat, l3', obs, obs, u _ _ _ l3', obs, idx_nat, set_self l3', obs, obs, u _ _ _ (set_self l3' _), obs, List.set_set, idx_nat, set_self l3', obs]
     show _ = m_r24_Build_l1 es q ((ops.set j (retO n (gE e) x)).map tO) ((n + 1 : Nat) : Int)
     rw [<- rj2, List.map_set]
     unfold retO
     by_cases h3 : x.fKind = 3
     ·by_cases h4 : e.fResult = 0
      ·rw [if_pos (show (tO x).fKind = 3 from h3), if_pos h4, apd1_of (by simp; omega), obs, obs, obs, u _ _ _ (set_self l3' _), obs, List.set_set, if_pos ⟨h3, show (gE e).fResult = 0 from h4⟩]
       rfl
      ·rw [if_pos (show (tO x).fKind = 3 from h3), if_neg h4, if_neg (fun h => h4 h.2)]; rfl
     ·rw [if_neg (show ¬ (tO x).fKind = 3 from h3), if_neg (fun h => h3 h.1)]; rfl
  ·have a1 : ∀ q, m_history_Build_l1 (es.map gE) (q + 1) ops (n : Int) = if e.fKind = 3 then m_history_Build_l1 (es.map gE) q (ops.map (clO n)) ((n + 1 : Nat) : Int) else some ([], 3) := by
    intro q
    rw [H, if_neg (show ¬ (gE e).fKind = 1 from k1)]
    unfold m_history_Build_j3
    rw [if_neg (by simp), if_neg (show ¬ (gE e).fKind = 2 from k2), hfin]
   have a2 : ∀ q, m_r24_Build_l1 es (q + 1) (ops.map tO) (n : Int) = if e.fKind = 3 then m_r24_Build_l1 es q ((ops.map (clO n)).map tO) ((n + 1 : Nat) : Int) else some ([], 3) := by
    intro q
    rw [R, if_neg k1]
    unfold m_r24_Build_j3
    rw [if_neg (by simp), if_neg k2, rfin]
   by_cases k3 : e.fKind = 3
   ·exact ⟨_, .kill k3, fun q => by rw [a1, if_pos k3], fun q => by rw [a2, if_pos k3]⟩
   ·exact ⟨none, .bad k3 (fun h => absurd h k1) (fun h => absurd h k2), fun q => by rw [a1, if_neg k3], fun q => by rw [a2, if_neg k3]⟩
theorem app_some {ops : List HO} {a : HO} {j : Nat} {x : HO} (h : (ops ++ [a])[j]? = some x) : ops[j]? = some x ∨ (j = ops.length /\ x = a) := by
 rw [List.getElem?_append] at h
 split at h
 ·exact Or.inl h
 ·rename_i h1
  have h2 : j - ops.length = 0 := by
   have := (List.getElem?_eq_some_iff.1 h).1; simp at this; omega
  rw [h2] at h
  injection h with h
  exact Or.inr ⟨by omega, h.symm⟩
theorem set_some {ops : List HO} {a : HO} {i j : Nat} {x : HO} (h : (ops.set i a)[j]? = some x) : (j ≠ i /\ ops[j]? = some x) ∨ (j = i /\ x = a) := by
 by_cases e : j = i
 ·subst e
  have h1 := (List.getElem?_eq_some_iff.1 h).1
  rw [List.length_set] at h1
  rw [List.getElem?_set_self h1] at h
  injection h with h; exact Or.inr ⟨rfl, h.symm⟩
 ·rw [List.getElem?_set_ne (fun h => e h.symm)] at h; exact Or.inl ⟨e, h⟩
theorem map_some {ops : List HO} {f : HO -> HO} {j : Nat} {x : HO} (h : (ops.map f)[j]? = some x) : ∃ y, ops[j]? = some y /\ x = f y := by
 rw [List.getElem?_map] at h
 cases e : ops[j]? with
 | none => rw [e] at h; cases h
 | some y => rw [e] at h; injection h with h; exact ⟨y, rfl, h.symm⟩
theorem opn_ret (n : Nat) (e : HV) (x : HO) : opn (retO n e x) = false := by
 cases h : opn (retO n e x) with
 | false => rfl
 | true => have := (opn_iff.1 h).1; have h2 : (retO n e x).fReturn = (n : Int) := rfl; omega
theorem opn_cl (n : Nat) (x : HO) : opn (clO n x) = false := by
 unfold clO
 by_cases h : opn x = true
 ·rw [if_pos h]
  cases h2 : opn { x with fClosed := (n : Int) } with
  | false => rfl
  | true => have h3 : (n : Int) = -1 := (opn_iff.1 h2).2; omega
 ·rw [if_neg h]; simpa using h
theorem one_step {n : Nat} {e : HV} {ops o : List HO} (h1 : One ops) (hs : Step n e ops (some o)) : One o /\ o.length <= ops.length + 1 := by
 cases hs with
 | call k1 o1 o2 hn =>
  refine ⟨fun i j x y hij hx hy hc => ?_, by simp⟩
  rcases app_some hy with hy | ⟨rfl, rfl⟩
  ·rcases app_some hx with hx | ⟨rfl, rfl⟩
   ·exact h1 i j x y hij hx hy hc
   ·have := (List.getElem?_eq_some_iff.1 hy).1; omega
  ·rcases app_some hx with hx | ⟨rfl, rfl⟩
   ·have := hn i x hx
    cases h : opn x with
    | false => rfl
    | true => exact absurd ⟨hc, h⟩ this
   ·omega
 | ret j0 x0 k2 hx0 hc0 ho0 =>
  refine ⟨fun i j x y hij hx hy hc => ?_, by simp⟩
  rcases set_some hx with ⟨_, hx'⟩ | ⟨rfl, rfl⟩
  ·rcases set_some hy with ⟨_, hy'⟩ | ⟨rfl, rfl⟩
   ·exact h1 i j x y hij hx' hy' hc
   ·exact h1 i _ x x0 hij hx' hx0 hc
  ·exact opn_ret _ _ _
 | kill k3 =>
  refine ⟨fun i j x y hij hx hy hc => ?_, by simp⟩
  obtain ⟨x', _, rfl⟩ := map_some hx
  exact opn_cl _ _
def endO (x : HO) : Int := if x.fReturn = -1 then (if x.fClosed = -1 then 9223372036854775807 else x.fClosed) else x.fReturn
def Upd (n : Int) (x y : HO) : Prop := y.fClient = x.fClient /\ y.fCall = x.fCall /\ y.fKind = x.fKind /\ (y = x ∨ (opn x = true /\ ((y.fClosed = -1 /\ y.fReturn = n) ∨ (y.fReturn = -1 /\ y.fClosed = n))))
theorem upd_refl (n : Int) (x : HO) : Upd n x x := ⟨rfl, rfl, rfl, Or.inl rfl⟩
theorem upd_ret (n : Int) (e : HV) {x : HO} (h : opn x = true) : Upd n x (retO n e x) := ⟨rfl, rfl, rfl, Or.inr ⟨h, Or.inl ⟨(opn_iff.1 h).2, rfl⟩⟩⟩
theorem upd_cl (n : Int) (x : HO) : Upd n x (clO n x) := by
 unfold clO
 by_cases h : opn x = true
 ·rw [if_pos h]; exact ⟨rfl, rfl, rfl, Or.inr ⟨h, Or.inr ⟨(opn_iff.1 h).1, rfl⟩⟩⟩
 ·rw [if_neg h]; exact upd_refl n x
theorem Upd.shut {n : Nat} {x y : HO} (h : Upd n x y) (hx : opn x = false) : y = x := by
 rcases h.2.2.2 with h1 | ⟨h1, _⟩
 ·exact h1
 ·rw [hx] at h1; cases h1
def Each (n : Nat) (x : HO) : Prop := 0 <= x.fCall /\ x.fCall < n /\ 1 <= x.fKind /\ x.fKind <= 3 /\ (opn x = true ∨ (x.fClosed = -1 /\ x.fCall < x.fReturn /\ x.fReturn < n) ∨ (x.fReturn = -1 /\ x.fCall < x.fClosed /\ x.fClosed < n))
theorem Each.fin {n : Nat} {x : HO} (h : Each n x) (ho : opn x = false) : x.fCall < endO x /\ endO x < n := by
 obtain ⟨h0, h1, _, _, h2⟩ := h
 unfold endO
 rcases h2 with h2 | h2 | h2
 ·rw [ho] at h2; cases h2
 ·rw [if_neg (by omega)]; omega
 ·rw [if_pos h2.1, if_neg (by omega)]; omega
theorem Upd.each {n : Nat} {x y : HO} (h : Upd n x y) (hx : Each n x) : Each (n + 1) y := by
 obtain ⟨h0, h1, h2, h3, h4⟩ := hx
 obtain ⟨u1, u2, u3, u4⟩ := h
 refine ⟨by omega, by omega, by omega, by omega, ?_⟩
 rcases u4 with rfl | ⟨_, u5⟩
 ·rcases h4 with h4 | h4 | h4
  ·exact Or.inl h4
  ·exact Or.inr (Or.inl (by omega))
  ·exact Or.inr (Or.inr (by omega))
 ·exact Or.inr (by omega)
end Go.Proofs.Ytkcccenekglkoaa
