/-
  The histories: a round of Build, the package's and the reference's side by side. Conditions: as each theorem says.
-/
import Derived.Test.YtpebhdepmbnjbaaHa
namespace Go.Proofs.Ytpebhdepmbnjbaa
set_option linter.unusedVariables false
set_option linter.unusedSimpArgs false
def newO (i : Int) (e : HV) : HO := ⟨e.fClient, e.fOp, e.fKey, e.fCookie, if e.fOp = 1 then e.fData else [], [], i, -1, -1, 0⟩
def retO (i : Int) (e : HV) (x : HO) : HO := { x with fReturn := i, fResult := e.fResult, fGot := if x.fKind = 3 ∧ e.fResult = 0 then e.fData else x.fGot }
def clO (i : Int) (x : HO) : HO := if opn x = true then { x with fClosed := i } else x

theorem cl_loop (i : Int) (r : List HO → Int → Option (List HO × Int)) (x20 : List HO) (hl : x20.length ≤ 1000) : ∀ (B A : List HO) (q : Nat), x20.length = A.length + B.length → B.length < q →
    m_history_Build_l5 x20 i r q (A ++ B) (A.length : Int) = m_history_Build_j2 i r (A ++ B.map (clO i)) := by
  intro B
  induction B with
  | nil =>
    intro A q hr hq
    obtain ⟨q, rfl⟩ : ∃ q', q = q' + 1 := ⟨q - 1, by simp at hq; omega⟩
    unfold m_history_Build_l5; rw [if_neg (by rw [hr]; simp)]; rfl
  | cons x B ih =>
    intro A q hr hq
    obtain ⟨q, rfl⟩ : ∃ q', q = q' + 1 := ⟨q - 1, by simp at hq; omega⟩
    have hr' := hr
    rw [List.length_cons] at hr'
    unfold m_history_Build_l5
    rw [if_pos (by omega), idx_mid, Option.bind_some, open_ok, Option.bind_some, Option.bind_some, Option.bind_some, ck_nat (by omega)]
    by_cases h : opn x = true
    · rw [if_pos h, upd_mid, Option.bind_some, Option.bind_some, snoc_len A x, snoc_cons A _ B, show (A ++ [x]).length = (A ++ [({ x with fClosed := i } : HO)]).length by simp, ih _ q (by simp; omega) (by simp at hq; omega)]
      rw [List.map_cons, show clO i x = { x with fClosed := i } from if_pos h]
      simp
    · rw [if_neg h, Option.bind_some, snoc_len A x, snoc_cons A _ B, ih _ q (by simp; omega) (by simp at hq; omega)]
      rw [List.map_cons, show clO i x = x from if_neg h]
      simp
theorem rcl_loop (i : Int) (r : List RO → Int → Option (List RO × Int)) : ∀ (B A : List HO) (q : Nat), A.length + B.length ≤ 1000 → B.length < q →
    m_r24_Build_l5 i r q (A.map tO ++ B.map tO) (A.length : Int) = m_r24_Build_j2 i r ((A ++ B.map (clO i)).map tO) := by
  intro B
  induction B with
  | nil =>
    intro A q hr hq
    obtain ⟨q, rfl⟩ : ∃ q', q = q' + 1 := ⟨q - 1, by simp at hq; omega⟩
    unfold m_r24_Build_l5; rw [if_neg (by simp)]; simp
  | cons x B ih =>
    intro A q hr hq
    obtain ⟨q, rfl⟩ : ∃ q', q = q' + 1 := ⟨q - 1, by simp at hq; omega⟩
    have hr' := hr
    rw [List.length_cons] at hr'
    have el : (A.length : Int) = ((A.map tO).length : Int) := by simp
    unfold m_r24_Build_l5
    rw [List.map_cons, if_pos (by simp; omega), el, idx_mid, Option.bind_some, Option.bind_some, Option.bind_some, Option.bind_some, ck_nat (by simp; omega)]
    by_cases h : opn x = true
    · have h2 := opn_iff.1 h
      rw [if_pos (show (tO x).fReturn = -1 from h2.1), if_pos (show (tO x).fClosed = -1 from h2.2), upd_mid, Option.bind_some, Option.bind_some]
      have e := ih (A ++ [({ x with fClosed := i } : HO)]) q (by simp; omega) (by simp at hq; omega)
      rw [List.map_append, show (A ++ [({ x with fClosed := i } : HO)]).length = (A.map tO).length + 1 by simp] at e
      rw [snoc_cons (A.map tO) _ (B.map tO)]
      refine Eq.trans e ?_
      rw [List.map_cons (f := clO i), show clO i x = { x with fClosed := i } from if_pos h]
      simp
    · have e := ih (A ++ [x]) q (by simp; omega) (by simp at hq; omega)
      rw [List.map_append, show (A ++ [x]).length = (A.map tO).length + 1 by simp] at e
      have e2 : m_r24_Build_l5 i r q (A.map tO ++ tO x :: B.map tO) (((A.map tO).length + 1 : Nat) : Int) = m_r24_Build_j2 i r (List.map tO (A ++ clO i x :: List.map (clO i) B)) := by
        rw [snoc_cons (A.map tO) _ (B.map tO)]
        refine Eq.trans e ?_
        rw [show clO i x = x from if_neg h]
        simp
      by_cases h3 : x.fReturn = -1
      · rw [if_pos (show (tO x).fReturn = -1 from h3), if_neg (show ¬ (tO x).fClosed = -1 from fun h4 => h (opn_iff.2 ⟨h3, h4⟩)), Option.bind_some]
        exact e2
      · rw [if_neg (show ¬ (tO x).fReturn = -1 from h3), Option.bind_some]
        exact e2

/-- what a round makes of the operations; none: an error -/
inductive Step (i : Int) (e : HV) (ops : List HO) : Option (List HO) → Prop
  | call : e.fKind = 1 → 1 ≤ e.fOp → e.fOp ≤ 3 → (∀ (j : Nat) x, ops[j]? = some x → ¬ (x.fClient = e.fClient ∧ opn x = true)) → Step i e ops (some (ops ++ [newO i e]))
  | ret (j : Nat) (x : HO) : e.fKind = 2 → ops[j]? = some x → x.fClient = e.fClient → opn x = true → Step i e ops (some (ops.set j (retO i e x)))
  | kill : e.fKind = 3 → Step i e ops (some (ops.map (clO i)))
  | bad : e.fKind ≠ 3 → (e.fKind = 1 → 1 ≤ e.fOp → e.fOp ≤ 3 → ∃ (j : Nat) (x : HO), ops[j]? = some x ∧ x.fClient = e.fClient ∧ opn x = true) → (e.fKind = 2 → ∀ (j : Nat) x, ops[j]? = some x → ¬ (x.fClient = e.fClient ∧ opn x = true)) → Step i e ops none

theorem known_ok (k : Int) : m_history_known k = some (decide (1 ≤ k) && decide (k ≤ 3)) := by
  unfold m_history_known
  by_cases h : 1 ≤ k
  · rw [if_pos h, decide_eq_true h, Bool.true_and]
  · rw [if_neg h, decide_eq_false h, Bool.false_and]
theorem clone_ok (x : List (BitVec 8)) (h : x.length ≤ 1000) : m_bytes_Clone x = some x := by
  unfold m_bytes_Clone; rw [apd1_of (by simp; omega), Option.bind_some]; rfl
theorem set_self {α : Type} {xs : List α} {j : Nat} {x : α} (h : xs[j]? = some x) (y : α) : (xs.set j y)[j]? = some y := by
  rw [List.getElem?_set_self (List.getElem?_eq_some_iff.1 h).1]

/-- a round of the two -/
theorem step_ok (es : List RE) (n : Nat) (e : RE) (ops : List HO) (he : es[n]? = some e) (hd : e.fData.length ≤ 1000) (hs : es.length ≤ 1000) (hl : ops.length ≤ 900) (h1 : One ops) :
    ∃ o, Step (n : Int) (gE e) ops o ∧
      (∀ q, m_history_Build_l1 (es.map gE) (q + 1) ops (n : Int) = match o with
        | some o' => m_history_Build_l1 (es.map gE) q o' ((n + 1 : Nat) : Int)
        | none => some ([], 3)) ∧
      (∀ q, m_r24_Build_l1 es (q + 1) (ops.map tO) (n : Int) = match o with
        | some o' => m_r24_Build_l1 es q (o'.map tO) ((n + 1 : Nat) : Int)
        | none => some ([], 3)) := by
  have hn : n < es.length := (List.getElem?_eq_some_iff.1 he).1
  have hg : (es.map gE)[n]? = some (gE e) := by rw [List.getElem?_map, he]; rfl
  have hck : ck ((n : Int) + 1) = some ((n + 1 : Nat) : Int) := ck_nat (by omega)
  have H : ∀ q, m_history_Build_l1 (es.map gE) (q + 1) ops (n : Int) = (if (gE e).fKind = (1 : Int) then
        Option.bind (m_history_known (gE e).fOp) fun x50 =>
        if x50 = true then
          m_history_Build_j3 ops n (gE e) (lst ops e.fClient ops.length) (m_history_Build_l1 (es.map gE) q) (decide (lst ops e.fClient ops.length < 0))
        else
          m_history_Build_j3 ops n (gE e) (lst ops e.fClient ops.length) (m_history_Build_l1 (es.map gE) q) false
      else
        m_history_Build_j3 ops n (gE e) (lst ops e.fClient ops.length) (m_history_Build_l1 (es.map gE) q) false) := by
    intro q
    rw [m_history_Build_l1, if_pos (by simp; omega), idx_nat, hg, Option.bind_some, last_ok _ _ (by omega), Option.bind_some]; rfl
  have R : ∀ q, m_r24_Build_l1 es (q + 1) (ops.map tO) (n : Int) = (if e.fKind = (1 : Int) then
        if (1 : Int) ≤ e.fOp then
          if e.fOp ≤ (3 : Int) then
            m_r24_Build_j3 (ops.map tO) n e (lst ops e.fClient ops.length) (m_r24_Build_l1 es q) (decide (lst ops e.fClient ops.length < (0 : Int)))
          else
            m_r24_Build_j3 (ops.map tO) n e (lst ops e.fClient ops.length) (m_r24_Build_l1 es q) false
        else
          m_r24_Build_j3 (ops.map tO) n e (lst ops e.fClient ops.length) (m_r24_Build_l1 es q) false
      else
        m_r24_Build_j3 (ops.map tO) n e (lst ops e.fClient ops.length) (m_r24_Build_l1 es q) false) := by
    intro q
    rw [m_r24_Build_l1, if_pos (by omega), idx_nat, he, Option.bind_some, ropen_ok _ _ (by omega) h1, Option.bind_some]
  have hj2 : ∀ (q : Nat) x, m_history_Build_j2 (n : Int) (m_history_Build_l1 (es.map gE) q) x = m_history_Build_l1 (es.map gE) q x ((n + 1 : Nat) : Int) := by
    intro q x; unfold m_history_Build_j2; rw [hck, Option.bind_some]
  have rj2 : ∀ (q : Nat) x, m_r24_Build_j2 (n : Int) (m_r24_Build_l1 es q) x = m_r24_Build_l1 es q x ((n + 1 : Nat) : Int) := by
    intro q x; unfold m_r24_Build_j2; rw [hck, Option.bind_some]
  -- nothing is called, nothing returns: a kill or an error
  have hfin : ∀ q k, m_history_Build_j4 ops n (gE e) k (m_history_Build_l1 (es.map gE) q) false = if e.fKind = 3 then m_history_Build_l1 (es.map gE) q (ops.map (clO n)) ((n + 1 : Nat) : Int) else some ([], 3) := by
    intro q k
    unfold m_history_Build_j4
    rw [if_neg (by simp), show (gE e).fKind = e.fKind from rfl, ← hj2]
    have := cl_loop n (m_history_Build_l1 (es.map gE) q) ops (by omega) ops [] forever (by simp) (by unfold forever; omega)
    simp only [List.nil_append, List.length_nil] at this
    rw [show m_history_Build_l5 ops n (m_history_Build_l1 (es.map gE) q) forever ops 0 = _ from this]
  have rfin : ∀ q k, m_r24_Build_j4 (ops.map tO) n e k (m_r24_Build_l1 es q) false = if e.fKind = 3 then m_r24_Build_l1 es q ((ops.map (clO n)).map tO) ((n + 1 : Nat) : Int) else some ([], 3) := by
    intro q k
    unfold m_r24_Build_j4
    rw [if_neg (by simp), ← rj2]
    have := rcl_loop n (m_r24_Build_l1 es q) ops [] forever (by simp; omega) (by unfold forever; omega)
    simp only [List.nil_append, List.length_nil, List.map_nil] at this
    rw [show m_r24_Build_l5 n (m_r24_Build_l1 es q) forever (ops.map tO) 0 = _ from this]
  have lc := lst_cases ops e.fClient ops.length (Nat.le_refl _)
  by_cases k1 : e.fKind = 1
  · have hbad : ∀ q k, m_history_Build_j3 ops n (gE e) k (m_history_Build_l1 (es.map gE) q) false = some ([], 3) := by
      intro q k; unfold m_history_Build_j3; rw [if_neg (by simp), if_neg (show ¬ (gE e).fKind = 2 by show ¬ e.fKind = 2; omega), hfin, if_neg (by omega)]
    have rbad : ∀ q k, m_r24_Build_j3 (ops.map tO) n e k (m_r24_Build_l1 es q) false = some ([], 3) := by
      intro q k; unfold m_r24_Build_j3; rw [if_neg (by simp), if_neg (by omega), rfin, if_neg (by omega)]
    by_cases ho : 1 ≤ e.fOp ∧ e.fOp ≤ 3
    · rcases lc with ⟨l1, l2⟩ | ⟨j, x, l1, l2, l3, l4, l5⟩
      · refine ⟨some (ops ++ [newO n (gE e)]), .call k1 ho.1 ho.2 (fun j x hx => l2 j x (List.getElem?_eq_some_iff.1 hx).1 hx), fun q => ?_, fun q => ?_⟩
        · rw [H, if_pos (show (gE e).fKind = 1 from k1), known_ok, Option.bind_some, if_pos (by simp; exact ho), l1, decide_eq_true (by omega)]
          unfold m_history_Build_j3
          rw [if_pos rfl]
          show _ = m_history_Build_l1 (es.map gE) q (ops ++ [newO n (gE e)]) ((n + 1 : Nat) : Int)
          rw [← hj2]
          by_cases h4 : e.fOp = 1
          · rw [if_pos (show (gE e).fOp = 1 from h4), show (gE e).fData = e.fData from rfl, clone_ok _ hd, Option.bind_some, apd_of (by simp; omega), Option.bind_some]
            unfold newO; rw [if_pos (show (gE e).fOp = 1 from h4)]; rfl
          · rw [if_neg (show ¬ (gE e).fOp = 1 from h4), apd_of (by simp; omega), Option.bind_some]
            unfold newO; rw [if_neg (show ¬ (gE e).fOp = 1 from h4)]
        · rw [R, if_pos k1, if_pos ho.1, if_pos ho.2, l1, decide_eq_true (by omega)]
          unfold m_r24_Build_j3
          rw [if_pos rfl]
          show _ = m_r24_Build_l1 es q ((ops ++ [newO n (gE e)]).map tO) ((n + 1 : Nat) : Int)
          rw [← rj2, List.map_append]
          by_cases h4 : e.fOp = 1
          · rw [if_pos h4, apd1_of (by simp; omega), Option.bind_some, apd_of (by simp; omega), Option.bind_some]
            unfold newO; rw [if_pos (show (gE e).fOp = 1 from h4)]; rfl
          · rw [if_neg h4, apd_of (by simp; omega), Option.bind_some]
            unfold newO; rw [if_neg (show ¬ (gE e).fOp = 1 from h4)]; rfl
      · refine ⟨none, .bad (by show e.fKind ≠ 3; omega) (fun _ _ _ => ⟨j, x, l3, l4, l5⟩) (fun h => absurd (show e.fKind = 2 from h) (by omega)), fun q => ?_, fun q => ?_⟩
        · rw [H, if_pos (show (gE e).fKind = 1 from k1), known_ok, Option.bind_some, l1, decide_eq_false (show ¬ ((j : Int) < 0) by omega), hbad]; exact ite_self _
        · rw [R, if_pos k1, l1, decide_eq_false (show ¬ ((j : Int) < 0) by omega), rbad]; rw [ite_self, ite_self]
    · refine ⟨none, .bad (by show e.fKind ≠ 3; omega) (fun _ a b => absurd ⟨a, b⟩ ho) (fun h => absurd (show e.fKind = 2 from h) (by omega)), fun q => ?_, fun q => ?_⟩
      · rw [H, if_pos (show (gE e).fKind = 1 from k1), known_ok, Option.bind_some, if_neg (by simp; intro a; exact Int.not_le.1 fun b => ho ⟨a, b⟩), hbad]
      · rw [R, if_pos k1]
        by_cases h5 : 1 ≤ e.fOp
        · rw [if_pos h5, if_neg (fun h6 => ho ⟨h5, h6⟩), rbad]
        · rw [if_neg h5, rbad]
  · by_cases k2 : e.fKind = 2
    · rcases lc with ⟨l1, l2⟩ | ⟨j, x, l1, l2, l3, l4, l5⟩
      · refine ⟨none, .bad (by show e.fKind ≠ 3; omega) (fun h => absurd h k1) (fun _ j x hx => l2 j x (List.getElem?_eq_some_iff.1 hx).1 hx), fun q => ?_, fun q => ?_⟩
        · rw [H, if_neg (show ¬ (gE e).fKind = 1 from k1)]
          unfold m_history_Build_j3
          rw [if_neg (by simp), if_pos (show (gE e).fKind = 2 from k2), l1, show decide ((0 : Int) ≤ -1) = false from rfl, hfin, if_neg (by omega)]
        · rw [R, if_neg k1]
          unfold m_r24_Build_j3
          rw [if_neg (by simp), if_pos k2, l1, show decide ((0 : Int) ≤ -1) = false from rfl, rfin, if_neg (by omega)]
      · refine ⟨some (ops.set j (retO n (gE e) x)), .ret j x k2 l3 l4 l5, fun q => ?_, fun q => ?_⟩
        · rw [H, if_neg (show ¬ (gE e).fKind = 1 from k1)]
          unfold m_history_Build_j3
          rw [if_neg (by simp), if_pos (show (gE e).fKind = 2 from k2), l1, decide_eq_true (by omega)]
          unfold m_history_Build_j4
          have u : ∀ (zs : List HO) y z, zs[j]? = some z → upd zs (j : Int) y = some (zs.set j y) := fun zs y z hz => upd_of ⟨by omega, by rw [Int.toNat_natCast]; exact (List.getElem?_eq_some_iff.1 hz).1⟩
          rw [if_pos rfl, idx_nat, l3, Option.bind_some, Option.bind_some, u _ _ _ l3, Option.bind_some, idx_nat, set_self l3, Option.bind_some, Option.bind_some, u _ _ _ (set_self l3 _), Option.bind_some, List.set_set, idx_nat, set_self l3, Option.bind_some]
          show _ = m_history_Build_l1 (es.map gE) q (ops.set j (retO n (gE e) x)) ((n + 1 : Nat) : Int)
          rw [← hj2]
          unfold retO
          by_cases h3 : x.fKind = 3
          · by_cases h4 : e.fResult = 0
            · rw [if_pos h3, if_pos (show (gE e).fResult = 0 from h4), show (gE e).fData = e.fData from rfl, clone_ok _ hd, Option.bind_some, Option.bind_some, Option.bind_some, u _ _ _ (set_self l3 _), Option.bind_some, List.set_set, if_pos ⟨h3, show (gE e).fResult = 0 from h4⟩]
            · rw [if_pos h3, if_neg (show ¬ (gE e).fResult = 0 from h4), if_neg (fun h => h4 h.2)]
          · rw [if_neg h3, if_neg (fun h => h3 h.1)]
        · rw [R, if_neg k1]
          unfold m_r24_Build_j3
          rw [if_neg (by simp), if_pos k2, l1, decide_eq_true (by omega)]
          unfold m_r24_Build_j4
          have l3' : (ops.map tO)[j]? = some (tO x) := by rw [List.getElem?_map, l3]; rfl
          have u : ∀ (zs : List RO) y z, zs[j]? = some z → upd zs (j : Int) y = some (zs.set j y) := fun zs y z hz => upd_of ⟨by omega, by rw [Int.toNat_natCast]; exact (List.getElem?_eq_some_iff.1 hz).1⟩
          rw [if_pos rfl, idx_nat, l3', Option.bind_some, Option.bind_some, u _ _ _ l3', Option.bind_some, idx_nat, set_self l3', Option.bind_some, Option.bind_some, u _ _ _ (set_self l3' _), Option.bind_some, List.set_set, idx_nat, set_self l3', Option.bind_some]
          show _ = m_r24_Build_l1 es q ((ops.set j (retO n (gE e) x)).map tO) ((n + 1 : Nat) : Int)
          rw [← rj2, List.map_set]
          unfold retO
          by_cases h3 : x.fKind = 3
          · by_cases h4 : e.fResult = 0
            · rw [if_pos (show (tO x).fKind = 3 from h3), if_pos h4, apd1_of (by simp; omega), Option.bind_some, Option.bind_some, Option.bind_some, u _ _ _ (set_self l3' _), Option.bind_some, List.set_set, if_pos ⟨h3, show (gE e).fResult = 0 from h4⟩]
              rfl
            · rw [if_pos (show (tO x).fKind = 3 from h3), if_neg h4, if_neg (fun h => h4 h.2)]; rfl
          · rw [if_neg (show ¬ (tO x).fKind = 3 from h3), if_neg (fun h => h3 h.1)]; rfl
    · have a1 : ∀ q, m_history_Build_l1 (es.map gE) (q + 1) ops (n : Int) = if e.fKind = 3 then m_history_Build_l1 (es.map gE) q (ops.map (clO n)) ((n + 1 : Nat) : Int) else some ([], 3) := by
        intro q
        rw [H, if_neg (show ¬ (gE e).fKind = 1 from k1)]
        unfold m_history_Build_j3
        rw [if_neg (by simp), if_neg (show ¬ (gE e).fKind = 2 from k2), hfin]
      have a2 : ∀ q, m_r24_Build_l1 es (q + 1) (ops.map tO) (n : Int) = if e.fKind = 3 then m_r24_Build_l1 es q ((ops.map (clO n)).map tO) ((n + 1 : Nat) : Int) else some ([], 3) := by
        intro q
        rw [R, if_neg k1]
        unfold m_r24_Build_j3
        rw [if_neg (by simp), if_neg k2, rfin]
      by_cases k3 : e.fKind = 3
      · exact ⟨_, .kill k3, fun q => by rw [a1, if_pos k3], fun q => by rw [a2, if_pos k3]⟩
      · exact ⟨none, .bad k3 (fun h => absurd h k1) (fun h => absurd h k2), fun q => by rw [a1, if_neg k3], fun q => by rw [a2, if_neg k3]⟩
end Go.Proofs.Ytpebhdepmbnjbaa
