/-
  The histories: what Build's operations keep, for events that the statements make. Conditions: as each theorem says.
-/
import Derived.Test.YtpebhdepmbnjbaaHm
namespace Go.Proofs.Ytpebhdepmbnjbaa
set_option linter.unusedVariables false
set_option linter.unusedSimpArgs false
def endO (x : HO) : Int := if x.fReturn = -1 then (if x.fClosed = -1 then 9223372036854775807 else x.fClosed) else x.fReturn
/-- an operation is the same, or it was open and ends at n -/
def Upd (n : Int) (x y : HO) : Prop := y.fClient = x.fClient ∧ y.fCall = x.fCall ∧ y.fKind = x.fKind ∧ (y = x ∨ (opn x = true ∧ ((y.fClosed = -1 ∧ y.fReturn = n) ∨ (y.fReturn = -1 ∧ y.fClosed = n))))
theorem upd_refl (n : Int) (x : HO) : Upd n x x := ⟨rfl, rfl, rfl, Or.inl rfl⟩
theorem upd_ret (n : Int) (e : HV) {x : HO} (h : opn x = true) : Upd n x (retO n e x) := ⟨rfl, rfl, rfl, Or.inr ⟨h, Or.inl ⟨(opn_iff.1 h).2, rfl⟩⟩⟩
theorem upd_cl (n : Int) (x : HO) : Upd n x (clO n x) := by
  unfold clO
  by_cases h : opn x = true
  · rw [if_pos h]; exact ⟨rfl, rfl, rfl, Or.inr ⟨h, Or.inr ⟨(opn_iff.1 h).1, rfl⟩⟩⟩
  · rw [if_neg h]; exact upd_refl n x
theorem Upd.shut {n : Nat} {x y : HO} (h : Upd n x y) (hx : opn x = false) : y = x := by
  rcases h.2.2.2 with h1 | ⟨h1, _⟩
  · exact h1
  · rw [hx] at h1; cases h1
def Each (n : Nat) (x : HO) : Prop := 0 ≤ x.fCall ∧ x.fCall < n ∧ 1 ≤ x.fKind ∧ x.fKind ≤ 3 ∧ (opn x = true ∨ (x.fClosed = -1 ∧ x.fCall < x.fReturn ∧ x.fReturn < n) ∨ (x.fReturn = -1 ∧ x.fCall < x.fClosed ∧ x.fClosed < n))
theorem Each.fin {n : Nat} {x : HO} (h : Each n x) (ho : opn x = false) : x.fCall < endO x ∧ endO x < n := by
  obtain ⟨h0, h1, _, _, h2⟩ := h
  unfold endO
  rcases h2 with h2 | h2 | h2
  · rw [ho] at h2; cases h2
  · rw [if_neg (by omega)]; omega
  · rw [if_pos h2.1, if_neg (by omega)]; omega
theorem opn_end {n : Nat} {y : HO} (h : (y.fClosed = -1 ∧ y.fReturn = n) ∨ (y.fReturn = -1 ∧ y.fClosed = n)) : opn y = false ∧ endO y = n := by
  constructor
  · cases h2 : opn y with
    | false => rfl
    | true => have := opn_iff.1 h2; omega
  · unfold endO
    rcases h with ⟨h1, h2⟩ | ⟨h1, h2⟩
    · rw [if_neg (by omega)]; exact h2
    · rw [if_pos h1, if_neg (by omega)]; exact h2
theorem Upd.each {n : Nat} {x y : HO} (h : Upd n x y) (hx : Each n x) : Each (n + 1) y := by
  obtain ⟨h0, h1, h2, h3, h4⟩ := hx
  obtain ⟨u1, u2, u3, u4⟩ := h
  refine ⟨by omega, by omega, by omega, by omega, ?_⟩
  rcases u4 with rfl | ⟨_, u5⟩
  · rcases h4 with h4 | h4 | h4
    · exact Or.inl h4
    · exact Or.inr (Or.inl (by omega))
    · exact Or.inr (Or.inr (by omega))
  · exact Or.inr (by omega)

/-- what the operations keep -/
structure Inv (es : List RE) (n : Nat) (ops : List HO) : Prop where
  each : ∀ (j : Nat) x, ops[j]? = some x → Each n x
  inc : ∀ (i j : Nat) x y, i < j → ops[i]? = some x → ops[j]? = some y → x.fCall < y.fCall
  cli : ∀ (i j : Nat) x y, i < j → ops[i]? = some x → ops[j]? = some y → x.fClient = y.fClient → opn x = false ∧ endO x < y.fCall
  kil : ∀ (j : Nat) x, ops[j]? = some x → ∀ (k : Nat) e, k < n → es[k]? = some e → e.fKind = 3 → x.fCall ≤ k → opn x = false ∧ endO x ≤ k
  lnk : ∀ c, (∃ (j : Nat) (x : HO), ops[j]? = some x ∧ x.fClient = c ∧ opn x = true) ↔ bz (es.take n).reverse c = true
theorem inv_nil (es : List RE) : Inv es 0 [] := ⟨fun j x h => by simp at h, fun i j x y _ h => by simp at h, fun i j x y _ h => by simp at h, fun j x h => by simp at h, fun c => by simp [bz]⟩
theorem take_rev {es : List RE} {n : Nat} {e : RE} (h : es[n]? = some e) : (es.take (n + 1)).reverse = e :: (es.take n).reverse := by
  rw [List.take_add_one, h]; simp
/-- the rounds that change operations in their places -/
theorem inv_upd {es : List RE} {n : Nat} {e : RE} {ops o : List HO} (he : es[n]? = some e) (h : Inv es n ops)
    (hu : ∀ (j : Nat) y, o[j]? = some y → ∃ x, ops[j]? = some x ∧ Upd n x y) (hk : e.fKind = 3 → ∀ (j : Nat) y, o[j]? = some y → opn y = false)
    (hl : ∀ c, (∃ (j : Nat) (x : HO), o[j]? = some x ∧ x.fClient = c ∧ opn x = true) ↔ bz (e :: (es.take n).reverse) c = true) : Inv es (n + 1) o := by
  refine ⟨fun j y hy => ?_, fun i j x y hij hx hy => ?_, fun i j x y hij hx hy hc => ?_, fun j y hy k z hk' hz hz3 hkc => ?_, fun c => by rw [take_rev he]; exact hl c⟩
  · obtain ⟨x, hx, u⟩ := hu j y hy; exact u.each (h.each j x hx)
  · obtain ⟨x', hx', u⟩ := hu i x hx; obtain ⟨y', hy', v⟩ := hu j y hy
    have := h.inc i j x' y' hij hx' hy'
    rw [u.2.1, v.2.1]; exact this
  · obtain ⟨x', hx', u⟩ := hu i x hx; obtain ⟨y', hy', v⟩ := hu j y hy
    have := h.cli i j x' y' hij hx' hy' (by rw [← u.1, ← v.1, hc])
    rw [u.shut this.1, v.2.1]; exact this
  · obtain ⟨x, hx, u⟩ := hu j y hy
    by_cases h2 : k < n
    · have := h.kil j x hx k z h2 hz hz3 (by rw [← u.2.1]; exact hkc)
      rw [u.shut this.1]; exact this
    · obtain rfl : k = n := by omega
      rw [he] at hz; injection hz with hz; subst hz
      have h3 := hk hz3 j y hy
      have := (u.each (h.each j x hx)).fin h3
      exact ⟨h3, by omega⟩
theorem inv_step {es : List RE} {n : Nat} {e : RE} {ops o : List HO} (he : es[n]? = some e) (h1 : One ops) (h : Inv es n ops) (hs : Step (n : Int) (gE e) ops (some o)) : Inv es (n + 1) o := by
  cases hs with
  | call k1 o1 o2 hn =>
    have k1' : e.fKind = 1 := k1
    have hopn : opn (newO n (gE e)) = true := rfl
    refine ⟨fun j y hy => ?_, fun i j x y hij hx hy => ?_, fun i j x y hij hx hy hc => ?_, fun j y hy k z hk' hz hz3 hkc => ?_, fun c => ?_⟩
    · rcases app_some hy with hy | ⟨rfl, rfl⟩
      · exact (upd_refl n y).each (h.each j y hy)
      · exact ⟨by show (0 : Int) ≤ n; omega, by show (n : Int) < (n + 1 : Nat); omega, o1, o2, Or.inl rfl⟩
    · rcases app_some hy with hy | ⟨rfl, rfl⟩
      · rcases app_some hx with hx | ⟨rfl, rfl⟩
        · exact h.inc i j x y hij hx hy
        · have := (List.getElem?_eq_some_iff.1 hy).1; omega
      · rcases app_some hx with hx | ⟨rfl, rfl⟩
        · exact (h.each i x hx).2.1
        · omega
    · rcases app_some hy with hy | ⟨rfl, rfl⟩
      · rcases app_some hx with hx | ⟨rfl, rfl⟩
        · exact h.cli i j x y hij hx hy hc
        · have := (List.getElem?_eq_some_iff.1 hy).1; omega
      · rcases app_some hx with hx | ⟨rfl, rfl⟩
        · have h3 : opn x = false := by
            cases h4 : opn x with
            | false => rfl
            | true => exact absurd ⟨hc, h4⟩ (hn i x hx)
          exact ⟨h3, ((h.each i x hx).fin h3).2⟩
        · omega
    · have hkn : k < n := by
        rcases Nat.lt_succ_iff_lt_or_eq.1 hk' with h2 | rfl
        · exact h2
        · rw [he] at hz; injection hz with hz; subst hz; omega
      rcases app_some hy with hy | ⟨rfl, rfl⟩
      · exact h.kil j y hy k z hkn hz hz3 hkc
      · have : (n : Int) ≤ k := hkc
        omega
    · rw [take_rev he]
      unfold bz
      rw [if_neg (by omega)]
      by_cases h2 : e.fClient = c
      · rw [if_pos h2]
        refine ⟨fun _ => by simpa using k1', fun _ => ⟨ops.length, newO n (gE e), by simp, h2, hopn⟩⟩
      · rw [if_neg h2, ← h.lnk c]
        constructor
        · rintro ⟨j, x, hx, a, b⟩
          rcases app_some hx with hx | ⟨rfl, rfl⟩
          · exact ⟨j, x, hx, a, b⟩
          · exact absurd a h2
        · rintro ⟨j, x, hx, a, b⟩
          exact ⟨j, x, by rw [List.getElem?_append_left (List.getElem?_eq_some_iff.1 hx).1]; exact hx, a, b⟩
  | ret j0 x0 k2 hx0 hc0 ho0 =>
    have k2' : e.fKind = 2 := k2
    refine inv_upd he h (fun j y hy => ?_) (fun h3 => by omega) (fun c => ?_)
    · rcases set_some hy with ⟨_, hy⟩ | ⟨rfl, rfl⟩
      · exact ⟨y, hy, upd_refl _ y⟩
      · exact ⟨x0, hx0, upd_ret _ _ ho0⟩
    · unfold bz
      rw [if_neg (by omega)]
      by_cases h2 : e.fClient = c
      · rw [if_pos h2]
        refine ⟨?_, fun h3 => by simp at h3; omega⟩
        rintro ⟨j, x, hx, a, b⟩
        exfalso
        rcases set_some hx with ⟨h4, hx'⟩ | ⟨rfl, rfl⟩
        · have hcc : x.fClient = x0.fClient := by rw [a, hc0]; exact h2.symm
          rcases Nat.lt_or_gt_of_ne h4 with h5 | h5
          · have := h1 j j0 x x0 h5 hx' hx0 hcc; rw [b] at this; cases this
          · have := h1 j0 j x0 x h5 hx0 hx' hcc.symm; rw [ho0] at this; cases this
        · rw [opn_ret] at b; cases b
      · rw [if_neg h2, ← h.lnk c]
        constructor
        · rintro ⟨j, x, hx, a, b⟩
          rcases set_some hx with ⟨h4, hx'⟩ | ⟨rfl, rfl⟩
          · exact ⟨j, x, hx', a, b⟩
          · rw [opn_ret] at b; cases b
        · rintro ⟨j, x, hx, a, b⟩
          refine ⟨j, x, ?_, a, b⟩
          rw [List.getElem?_set_ne]
          · exact hx
          · rintro rfl
            rw [hx0] at hx; injection hx with hx; subst hx
            exact h2 (hc0.symm.trans a)
  | kill k3 =>
    have k3' : e.fKind = 3 := k3
    refine inv_upd he h (fun j y hy => ?_) (fun _ j y hy => ?_) (fun c => ?_)
    · obtain ⟨x, hx, rfl⟩ := map_some hy
      exact ⟨x, hx, upd_cl _ x⟩
    · obtain ⟨x, hx, rfl⟩ := map_some hy
      exact opn_cl _ _
    · unfold bz
      rw [if_pos k3']
      refine ⟨?_, fun h3 => by cases h3⟩
      rintro ⟨j, x, hx, a, b⟩
      obtain ⟨x', hx', rfl⟩ := map_some hx
      rw [opn_cl] at b; cases b
/-- the made events make no error -/
theorem inv_good {es : List RE} {n : Nat} {e : RE} {ops : List HO} (hw : WF es) (he : es[n]? = some e) (h : Inv es n ops) : ¬ Step (n : Int) (gE e) ops none := by
  intro hs
  cases hs with
  | bad k3 h1 h2 =>
    rcases hw n e he with a | ⟨a, b⟩ | ⟨a, b, c, d⟩
    · exact k3 a
    · obtain ⟨j, x, h4⟩ := (h.lnk e.fClient).2 b
      exact h2 a j x h4.1 h4.2
    · have := (h.lnk e.fClient).1 (h1 a b c)
      rw [d] at this; cases this
/-! ### how many are called, how many return -/
def cK (k : Int) (l : List RE) : Nat := l.countP fun e => decide (e.fKind = k)
def cR (l : List HO) : Nat := l.countP fun x => decide (0 ≤ x.fReturn)
structure Cnt (es : List RE) (n : Nat) (ops : List HO) : Prop where
  inv : Inv es n ops
  calls : ops.length = cK 1 (es.take n)
  rets : cR ops = cK 2 (es.take n)
theorem cK_succ {es : List RE} {n : Nat} {e : RE} (h : es[n]? = some e) (k : Int) : cK k (es.take (n + 1)) = cK k (es.take n) + if e.fKind = k then 1 else 0 := by
  unfold cK; rw [List.take_add_one, h]; simp [List.countP_append, List.countP_cons]
theorem cR_set {ops : List HO} {j : Nat} {x y : HO} (hx : ops[j]? = some x) (h1 : x.fReturn = -1) (h2 : 0 ≤ y.fReturn) : cR (ops.set j y) = cR ops + 1 := by
  have hj := (List.getElem?_eq_some_iff.1 hx).1
  have e : ops = ops.take j ++ x :: ops.drop (j + 1) := by
    have : ops[j] = x := (List.getElem?_eq_some_iff.1 hx).2
    rw [← this, ← List.drop_eq_getElem_cons hj, List.take_append_drop]
  unfold cR
  rw [List.set_eq_take_append_cons_drop, if_pos hj]
  conv => rhs; rw [e]
  rw [List.countP_append, List.countP_append, List.countP_cons, List.countP_cons, if_pos (decide_eq_true h2), if_neg (by simp; omega)]
  omega
theorem cR_cl (n : Nat) (ops : List HO) : cR (ops.map (clO n)) = cR ops := by
  unfold cR
  rw [List.countP_map]
  congr 1
  funext x
  show decide (0 ≤ (clO n x).fReturn) = decide (0 ≤ x.fReturn)
  unfold clO; split <;> rfl
theorem cnt_step {es : List RE} {n : Nat} {e : RE} {ops o : List HO} (he : es[n]? = some e) (h1 : One ops) (h : Cnt es n ops) (hs : Step (n : Int) (gE e) ops (some o)) : Cnt es (n + 1) o := by
  refine ⟨inv_step he h1 h.inv hs, ?_, ?_⟩
  · rw [cK_succ he, ← h.calls]
    cases hs with
    | call k1 o1 o2 hn => rw [if_pos (show e.fKind = 1 from k1)]; simp
    | ret j0 x0 k2 hx0 hc0 ho0 => rw [if_neg (show ¬ e.fKind = 1 by have : e.fKind = 2 := k2; omega)]; simp
    | kill k3 => rw [if_neg (show ¬ e.fKind = 1 by have : e.fKind = 3 := k3; omega)]; simp
  · rw [cK_succ he, ← h.rets]
    cases hs with
    | call k1 o1 o2 hn => rw [if_neg (show ¬ e.fKind = 2 by have : e.fKind = 1 := k1; omega)]; unfold cR; rw [List.countP_append]; rfl
    | ret j0 x0 k2 hx0 hc0 ho0 => rw [if_pos (show e.fKind = 2 from k2)]; exact cR_set hx0 (opn_iff.1 ho0).1 (by show (0 : Int) ≤ n; omega)
    | kill k3 => rw [if_neg (show ¬ e.fKind = 2 by have : e.fKind = 3 := k3; omega)]; exact cR_cl n ops
theorem made_build (es : List RE) (hw : WF es) (hd : ∀ e ∈ es, e.fData.length ≤ 1000) (hl : es.length ≤ 900) : ∃ r, m_history_Build (es.map gE) = some r ∧ r.1.length ≤ 900 ∧ r.2 = 0 ∧ Cnt es es.length r.1 := by
  obtain ⟨r, a, _, c, d⟩ := build_ok es hd hl (Cnt es) ⟨inv_nil es, rfl, rfl⟩ (fun n e ops o he h1 h hs => cnt_step he h1 h hs)
  rcases d with ⟨d1, _, d2⟩ | ⟨_, n, e, ops, he, h1, hp, hs⟩
  · exact ⟨r, a, c, d1, d2⟩
  · exact absurd hs (inv_good hw he hp.inv)
end Go.Proofs.Ytpebhdepmbnjbaa
