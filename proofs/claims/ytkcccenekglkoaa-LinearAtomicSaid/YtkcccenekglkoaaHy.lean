/-
 The histories that Build makes of any events are valid; the package's and the reference's. Conditions: the lengths, as each theorem says.
-/
import Derived.Test.YtkcccenekglkoaaHx
import Derived.Test.YtkcccenekglkoaaKp
namespace Go.Proofs.Ytkcccenekglkoaa
set_option linter.unusedVariables false
set_option linter.unusedSimpArgs false
structure InvA (n : Nat) (ops : List HO) : Prop where
 each : ∀ (j : Nat) x, ops[j]? = some x -> Each n x
 inc : ∀ (i j : Nat) x y, i < j -> ops[i]? = some x -> ops[j]? = some y -> x.fCall < y.fCall
 cli : ∀ (i j : Nat) x y, i < j -> ops[i]? = some x -> ops[j]? = some y -> x.fClient = y.fClient -> opn x = false /\ endO x < y.fCall
theorem invA_nil : InvA 0 [] := ⟨fun j x h => by simp at h, fun i j x y _ h => by simp at h, fun i j x y _ h => by simp at h⟩
theorem invA_upd {n : Nat} {ops o : List HO} (h : InvA n ops) (hu : ∀ (j : Nat) y, o[j]? = some y -> ∃ x, ops[j]? = some x /\ Upd n x y) : InvA (n + 1) o := by
 refine ⟨fun j y hy => ?_, fun i j x y hij hx hy => ?_, fun i j x y hij hx hy hc => ?_⟩
 ·obtain ⟨x, hx, u⟩ := hu j y hy; exact u.each (h.each j x hx)
 ·obtain ⟨x', hx', u⟩ := hu i x hx; obtain ⟨y', hy', v⟩ := hu j y hy
  have := h.inc i j x' y' hij hx' hy'
  rw [u.2.1, v.2.1]; exact this
 ·obtain ⟨x', hx', u⟩ := hu i x hx; obtain ⟨y', hy', v⟩ := hu j y hy
  have := h.cli i j x' y' hij hx' hy' (by rw [<- u.1, <- v.1, hc])
  rw [u.shut this.1, v.2.1]; exact this
theorem invA_step {n : Nat} {e : HV} {ops o : List HO} (h : InvA n ops) (hs : Step (n : Int) e ops (some o)) : InvA (n + 1) o := by
 cases hs with
 | call k1 o1 o2 hn =>
  have hopn : opn (newO n e) = true := rfl
  refine ⟨fun j y hy => ?_, fun i j x y hij hx hy => ?_, fun i j x y hij hx hy hc => ?_⟩
  ·rcases app_some hy with hy | ⟨rfl, rfl⟩
   ·exact (upd_refl n y).each (h.each j y hy)
   ·exact ⟨by show (0 : Int) <= n; omega, by show (n : Int) < (n + 1 : Nat); omega, o1, o2, Or.inl rfl⟩
  ·rcases app_some hy with hy | ⟨rfl, rfl⟩
   ·rcases app_some hx with hx | ⟨rfl, rfl⟩
    ·exact h.inc i j x y hij hx hy
    ·have := (List.getElem?_eq_some_iff.1 hy).1; omega
   ·rcases app_some hx with hx | ⟨rfl, rfl⟩
    ·exact (h.each i x hx).2.1
    ·omega
  ·rcases app_some hy with hy | ⟨rfl, rfl⟩
   ·rcases app_some hx with hx | ⟨rfl, rfl⟩
    ·exact h.cli i j x y hij hx hy hc
    ·have := (List.getElem?_eq_some_iff.1 hy).1; omega
   ·rcases app_some hx with hx | ⟨rfl, rfl⟩
    ·have h3 : opn x = false := by
      cases h4 : opn x with
      | false => rfl
      | true => exact absurd ⟨hc, h4⟩ (hn i x hx)
     exact ⟨h3, ((h.each i x hx).fin h3).2⟩
    ·omega
 | ret j0 x0 k2 hx0 hc0 ho0 =>
  refine invA_upd h fun j y hy => ?_
  rcases set_some hy with ⟨_, hy⟩ | ⟨rfl, rfl⟩
  ·exact ⟨y, hy, upd_refl _ y⟩
  ·exact ⟨x0, hx0, upd_ret _ _ ho0⟩
 | kill k3 =>
  refine invA_upd h fun j y hy => ?_
  obtain ⟨x, hx, rfl⟩ := map_some hy
  exact ⟨x, hx, upd_cl _ x⟩
theorem invA_eachK {n : Nat} {ops : List HO} (h : InvA n ops) : ∀ x ∈ ops, eachK x = true := by
 intro x hx
 obtain ⟨j, hj⟩ := List.mem_iff_getElem?.1 hx
 obtain ⟨c0, c1, c2, c3, c4⟩ := h.each j x hj
 unfold eachK
 rw [decide_eq_true c2, decide_eq_true c3, decide_eq_true c0]
 rcases c4 with c4 | c4 | c4
 ·have c4 := opn_iff.1 c4
  rw [decide_eq_true c4.1, decide_eq_true c4.2]; rfl
 ·rw [decide_eq_true c4.2.1, decide_eq_true c4.1]; simp
 ·rw [decide_eq_true c4.1, decide_eq_true c4.2.1]; simp
theorem invA_pairK {n : Nat} {ops : List HO} (h : InvA n ops) : ops.Pairwise pairK := by
 rw [List.pairwise_iff_getElem]
 intro i j hi hj hij
 have a := List.getElem?_eq_getElem hi
 have b := List.getElem?_eq_getElem hj
 exact ⟨h.inc i j _ _ hij a b, fun hc => (h.cli i j _ _ hij a b hc).2⟩
theorem invA_valid {n : Nat} {ops : List HO} (h : InvA n ops) : validK [] ops = true := validK_of ops [] (invA_eachK h) (invA_pairK h)
theorem small_stepA {b n : Nat} {e : HV} {ops o : List HO} (hd : e.fData.length <= b) (h : ∀ x ∈ ops, x.fData.length <= b /\ x.fGot.length <= b) (hs : Step (n : Int) e ops (some o)) : ∀ x ∈ o, x.fData.length <= b /\ x.fGot.length <= b := by
 cases hs with
 | call k1 o1 o2 hn =>
  intro x hx
  rcases List.mem_append.1 hx with hx | hx
  ·exact h x hx
  ·rw [List.mem_singleton.1 hx]
   refine ⟨?_, by show ([] : List (BitVec 8)).length <= b; simp⟩
   show (if e.fOp = 1 then e.fData else []).length <= b
   split
   ·exact hd
   ·simp
 | ret j x0 k2 hx0 hc0 ho0 =>
  intro x hx
  rcases List.mem_or_eq_of_mem_set hx with hx | rfl
  ·exact h x hx
  ·have h0 := h x0 (List.mem_of_getElem? hx0)
   refine ⟨h0.1, ?_⟩
   show (if x0.fKind = 3 /\ e.fResult = 0 then e.fData else x0.fGot).length <= b
   split
   ·exact hd
   ·exact h0.2
 | kill k3 =>
  intro x hx
  obtain ⟨y, hy, rfl⟩ := List.mem_map.1 hx
  have h0 := h y hy
  unfold clO; split
  ·exact h0
  ·exact h0
theorem build_loopA (es : List RE) (hd : ∀ e ∈ es, e.fData.length <= 1000) (hl : es.length <= 900) (P : Nat -> List HO -> Prop)
  (hP : ∀ n e ops o, es[n]? = some e -> One ops -> P n ops -> Step (n : Int) (gE e) ops (some o) -> P (n + 1) o) :
  ∀ (d n q : Nat) (ops : List HO), n + d = es.length -> d < q -> One ops -> ops.length <= n -> P n ops ->
   ∃ r, m_history_Build_l1 (es.map gE) q ops (n : Int) = some r /\ m_r24_Build_l1 es q (ops.map tO) (n : Int) = some (r.1.map tO, r.2) /\
    ((r.2 = 0 /\ r.1.length <= es.length /\ P es.length r.1) ∨ (r.2 = 3 /\ r.1 = [] /\ ∃ n e ops, es[n]? = some e /\ One ops /\ P n ops /\ Step (n : Int) (gE e) ops none)) := by
 intro d
 induction d with
 | zero =>
  intro n q ops hn hq h1 ho hp
  obtain ⟨q, rfl⟩ : ∃ q', q = q' + 1 := ⟨q - 1, by omega⟩
  refine ⟨(ops, 0), ?_, ?_, Or.inl ⟨rfl, by simp; omega, ?_⟩⟩
  ·unfold m_history_Build_l1; rw [if_neg (by simp; omega)]; rfl
  ·unfold m_r24_Build_l1; rw [if_neg (by omega)]; rfl
  ·rw [<- hn]; exact hp
 | succ d ih =>
  intro n q ops hn hq h1 ho hp
  obtain ⟨q, rfl⟩ : ∃ q', q = q' + 1 := ⟨q - 1, by omega⟩
  have he : es[n]? = some es[n] := List.getElem?_eq_getElem (by omega)
  obtain ⟨o, s, a, b⟩ := step_ok es n es[n] ops he (hd _ (List.getElem_mem _)) (by omega) (by omega) h1
  cases o with
  | none => exact ⟨([], 3), a q, b q, Or.inr ⟨rfl, rfl, n, _, ops, he, h1, hp, s⟩⟩
  | some o =>
   have h2 := one_step h1 s
   rw [a q, b q]
   exact ih (n + 1) q o (by omega) (by omega) h2.1 (by omega) (hP n _ ops o he h1 hp s)
theorem build_okA (es : List RE) (hd : ∀ e ∈ es, e.fData.length <= 1000) (hl : es.length <= 900) (P : Nat -> List HO -> Prop) (h0 : P 0 [])
  (hP : ∀ n e ops o, es[n]? = some e -> One ops -> P n ops -> Step (n : Int) (gE e) ops (some o) -> P (n + 1) o) :
  ∃ r, m_history_Build (es.map gE) = some r /\ m_r24_Build es = some (r.1.map tO, r.2) /\
   ((r.2 = 0 /\ r.1.length <= es.length /\ P es.length r.1) ∨ (r.2 = 3 /\ r.1 = [] /\ ∃ n e ops, es[n]? = some e /\ One ops /\ P n ops /\ Step (n : Int) (gE e) ops none)) :=
 build_loopA es hd hl P hP es.length 0 forever [] (by omega) (by unfold forever; omega) (fun i j x y _ h => by simp at h) (by simp) h0
end Go.Proofs.Ytkcccenekglkoaa
