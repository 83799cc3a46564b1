/-
 The histories' helpers as plain functions: Valid, Only, Keys. Conditions: the lists' lengths, as each theorem says.
-/
import Derived.Test.YtkcccenekglkoaaSo
import Derived.Test.YtkcccenekglkoaaMdy
namespace Go.Proofs.Ytkcccenekglkoaa
set_option linter.unusedVariables false
set_option linter.unusedSimpArgs false
abbrev KO := Shistory_Op
theorem ckK {n : Nat} (h : n < 9223372036854775807) : ck ((n : Int) + 1) = some ((n + 1 : Nat) : Int) := ck_of (by omega)
def endK (x : KO) : Int := if x.fReturn = -1 then (if x.fClosed = -1 then 9223372036854775807 else x.fClosed) else x.fReturn
theorem endK_ok (x : KO) : m_history_End x.fClient x.fKind x.fKey x.fCookie x.fData x.fGot x.fCall x.fReturn x.fClosed x.fResult = some (endK x) := by
 unfold m_history_End endK
 by_cases h : x.fReturn = -1
 ·rw [if_pos h, if_pos h]
  by_cases h2 : x.fClosed = -1
  ·rw [if_pos h2, if_pos h2]
  ·rw [if_neg h2, if_neg h2]
 ·rw [if_neg h, if_neg h]
def befK (x y : KO) : Bool := decide (endK x < y.fCall)
theorem befK_ok (x y : KO) : m_history_Before x.fClient x.fKind x.fKey x.fCookie x.fData x.fGot x.fCall x.fReturn x.fClosed x.fResult y.fClient y.fKind y.fKey y.fCookie y.fData y.fGot y.fCall y.fReturn y.fClosed y.fResult = some (befK x y) := by
 unfold m_history_Before; rw [endK_ok, obs]; rfl
theorem knownK_ok (k : Int) : m_history_known k = some (decide (1 <= k) && decide (k <= 3)) := by
 unfold m_history_known
 by_cases h : 1 <= k
 ·rw [if_pos h, decide_eq_true h, Bool.true_and]
 ·rw [if_neg h, decide_eq_false h, Bool.false_and]
def eachK (x : KO) : Bool := decide (1 <= x.fKind) && decide (x.fKind <= 3) && decide (0 <= x.fCall) && (decide (x.fReturn = -1) || (decide (x.fCall < x.fReturn) && decide (x.fClosed = -1))) && (decide (x.fClosed = -1) || decide (x.fCall < x.fClosed))
def prevK (pre : List KO) (x : KO) : Bool := match pre.getLast? with
 | some p => decide (p.fCall < x.fCall)
 | none => true
def cliK (x y : KO) : Bool := !decide (y.fClient = x.fClient) || befK y x
def validK : List KO -> List KO -> Bool
 | _, [] => true
 | pre, x :: l => eachK x && (prevK pre x && (pre.all (cliK x) && validK (pre ++ [x]) l))
theorem validK_in (pre : List KO) (i : Nat) (x : KO) (r : Int -> Option Bool) (hl : pre.length <= 1000) : ∀ (B A : List KO) (q : Nat), pre = A ++ B -> B.length < q ->
  m_history_Valid_l5 (i : Int) x pre r q (A.length : Int) = if B.all (cliK x) = true then m_history_Valid_j2 (i : Int) r else some false := by
 intro B
 induction B with
 | nil =>
  intro A q hr hq
  obtain ⟨q, rfl⟩ : ∃ q', q = q' + 1 := ⟨q - 1, by simp at hq; omega⟩
  unfold m_history_Valid_l5
  rw [if_neg (by rw [hr]; simp), List.all_nil, if_pos rfl]
 | cons y B ih =>
  intro A q hr hq
  obtain ⟨q, rfl⟩ : ∃ q', q = q' + 1 := ⟨q - 1, by simp at hq; omega⟩
  have hlen : A.length < pre.length := by rw [hr]; simp
  have hi : idx pre (A.length : Int) = some y := by rw [idx_nat, hr]; simp
  have e := ih (A ++ [y]) q (by rw [hr]; simp) (by simp at hq; omega)
  rw [List.length_append, List.length_singleton] at e
  unfold m_history_Valid_l5
  rw [if_pos (by omega), hi, obs, ckK (by omega), obs, befK_ok, obs]
  by_cases hc : y.fClient = x.fClient
  ·rw [if_pos hc]
   by_cases hb : befK y x = true
   ·rw [if_pos hb, e, List.all_cons, show cliK x y = true by unfold cliK; simp [hb], Bool.true_and]
   ·rw [if_neg hb, List.all_cons, show cliK x y = false by unfold cliK; simp [hb, hc], Bool.false_and, if_neg (by simp)]
  ·rw [if_neg hc, e, List.all_cons, show cliK x y = true by unfold cliK; simp [hc], Bool.true_and]
theorem validK_loop (ops : List KO) (hl : ops.length <= 1000) : ∀ (B A : List KO) (q : Nat), ops = A ++ B -> B.length < q ->
  m_history_Valid_l1 ops q (A.length : Int) = some (validK A B) := by
 intro B
 induction B with
 | nil =>
  intro A q hr hq
  obtain ⟨q, rfl⟩ : ∃ q', q = q' + 1 := ⟨q - 1, by simp at hq; omega⟩
  unfold m_history_Valid_l1; rw [if_neg (by rw [hr]; simp)]; rfl
 | cons x B ih =>
  intro A q hr hq
  obtain ⟨q, rfl⟩ : ∃ q', q = q' + 1 := ⟨q - 1, by simp at hq; omega⟩
  have hlen : A.length < ops.length := by rw [hr]; simp
  have hi : idx ops (A.length : Int) = some x := by rw [idx_nat, hr]; simp
  have e := ih (A ++ [x]) q (by rw [hr]; simp) (by simp at hq; omega)
  rw [List.length_append, List.length_singleton] at e
  have e4 : m_history_Valid_j4 ops (A.length : Int) x (m_history_Valid_l1 ops q) = some (A.all (cliK x) && validK (A ++ [x]) B) := by
   unfold m_history_Valid_j4
   have hs : slc ops 0 (A.length : Int) = some A := by
    rw [slc_of ⟨by omega, by omega, by omega⟩]; simp [hr]
   rw [hs, obs]
   refine Eq.trans (validK_in A A.length x _ (by omega) A [] forever rfl (by unfold forever; omega)) ?_
   unfold m_history_Valid_j2
   rw [ckK (by omega), obs, e]
   cases A.all (cliK x) <;> rfl
  have e3 : m_history_Valid_j3 ops (A.length : Int) x (m_history_Valid_l1 ops q) = some (((decide (x.fReturn = -1) || (decide (x.fCall < x.fReturn) && decide (x.fClosed = -1))) && (decide (x.fClosed = -1) || decide (x.fCall < x.fClosed))) && (A.all (cliK x) && validK (A ++ [x]) B)) := by
   unfold m_history_Valid_j3
   rw [e4]
   by_cases c1 : x.fReturn = -1
   ·rw [if_pos c1, decide_eq_true c1, Bool.true_or, Bool.true_and]
    by_cases c2 : x.fClosed = -1
    ·rw [if_pos c2, decide_eq_true c2, Bool.true_or, Bool.true_and]
    ·rw [if_neg c2, decide_eq_false c2, Bool.false_or]
     by_cases c3 : x.fClosed <= x.fCall
     ·rw [if_pos c3, decide_eq_false (by omega), Bool.false_and]
     ·rw [if_neg c3, decide_eq_true (by omega), Bool.true_and]
   ·rw [if_neg c1, decide_eq_false c1, Bool.false_or]
    by_cases c3 : x.fReturn <= x.fCall
    ·rw [if_pos c3, show decide (x.fCall < x.fReturn) = false from decide_eq_false (by omega), Bool.false_and, Bool.false_and, Bool.false_and]
    ·rw [if_neg c3, show decide (x.fCall < x.fReturn) = true from decide_eq_true (by omega), Bool.true_and]
     by_cases c2 : x.fClosed = -1
     ·rw [if_pos c2, if_pos c2, decide_eq_true c2, Bool.true_or, Bool.true_and, Bool.true_and]
     ·rw [if_neg c2, decide_eq_false c2, Bool.false_and, Bool.false_and]
  unfold m_history_Valid_l1
  rw [if_pos (by omega), hi, obs, knownK_ok, obs, e3]
  show _ = some (eachK x && (prevK A x && (A.all (cliK x) && validK (A ++ [x]) B)))
  unfold eachK
  by_cases k1 : (decide (1 <= x.fKind) && decide (x.fKind <= 3)) = true
  ·rw [if_pos k1, k1, Bool.true_and]
   by_cases k2 : x.fCall < 0
   ·rw [if_pos k2, show decide (0 <= x.fCall) = false from decide_eq_false (by omega)]; simp
   ·rw [if_neg k2, show decide (0 <= x.fCall) = true from decide_eq_true (by omega), Bool.true_and]
    rcases List.eq_nil_or_concat A with rfl | ⟨A', p, hA⟩
    ·rw [if_neg (by simp)]; rfl
    ·rw [List.concat_eq_append] at hA
     subst hA
     have hp : prevK (A' ++ [p]) x = decide (p.fCall < x.fCall) := by unfold prevK; simp
     have hip : idx ops (A'.length : Int) = some p := by rw [idx_nat, hr]; simp
     have hA1 : A'.length + 1 < ops.length := by simpa using hlen
     rw [if_pos (by simp), show ((A' ++ [p]).length : Int) - 1 = (A'.length : Int) by simp, ck_of (by omega), obs, hip, obs, hp]
     by_cases k3 : x.fCall <= p.fCall
     ·rw [if_pos k3, show decide (p.fCall < x.fCall) = false from decide_eq_false (by omega)]; simp
     ·rw [if_neg k3, show decide (p.fCall < x.fCall) = true from decide_eq_true (by omega), Bool.true_and]
  ·rw [if_neg k1]
   have : (decide (1 <= x.fKind) && decide (x.fKind <= 3)) = false := by simpa using k1
   rw [this]; rfl
theorem validK_ok (ops : List KO) (hl : ops.length <= 1000) : m_history_Valid ops = some (validK [] ops) :=
 validK_loop ops hl ops [] forever rfl (by unfold forever; omega)
def pairK (x y : KO) : Prop := x.fCall < y.fCall /\ (x.fClient = y.fClient -> endK x < y.fCall)
theorem validK_of : ∀ (B A : List KO), (∀ x ∈ B, eachK x = true) -> (A ++ B).Pairwise pairK -> validK A B = true := by
 intro B
 induction B with
 | nil => intro A _ _; rfl
 | cons x B ih =>
  intro A h1 h2
  have h3 := List.pairwise_append.1 h2
  show (eachK x && (prevK A x && (A.all (cliK x) && validK (A ++ [x]) B))) = true
  rw [h1 x (List.mem_cons_self ..), ih (A ++ [x]) (fun y hy => h1 y (List.mem_cons_of_mem _ hy)) (by rw [List.append_assoc]; exact h2), Bool.and_true, Bool.true_and]
  have e1 : prevK A x = true := by
   unfold prevK
   cases hg : A.getLast? with
   | none => rfl
   | some p => exact decide_eq_true (h3.2.2 p (List.mem_of_getLast? hg) x (List.mem_cons_self ..)).1
  have e2 : A.all (cliK x) = true := by
   rw [List.all_eq_true]
   intro y hy
   have := h3.2.2 y hy x (List.mem_cons_self ..)
   unfold cliK befK
   by_cases hc : y.fClient = x.fClient
   ·rw [decide_eq_true hc, decide_eq_true (this.2 hc)]; rfl
   ·rw [decide_eq_false hc]; rfl
  rw [e1, e2]; rfl
theorem cloneK (x : List (BitVec 8)) (h : x.length <= 1000) : m_bytes_Clone x = some x := by
 unfold m_bytes_Clone; rw [apd1_of (by simp; omega), obs]; rfl
def smallK (x : KO) : Prop := x.fData.length <= 1000 /\ x.fGot.length <= 1000
def onlyK (h : List KO) (k : BitVec 64) : List KO := h.filter fun x => decide (x.fKey = k)
theorem only_l3 (ys : List KO) (hl : ys.length <= 1000) (hs : ∀ x ∈ ys, smallK x) : ∀ (B A : List KO) (q : Nat), ys = A ++ B -> B.length < q -> m_history_Only_l3 ys q ys (A.length : Int) = some ys := by
 intro B
 induction B with
 | nil =>
  intro A q hr hq
  obtain ⟨q, rfl⟩ : ∃ q', q = q' + 1 := ⟨q - 1, by simp at hq; omega⟩
  unfold m_history_Only_l3; rw [if_neg (by rw [hr]; simp)]; rfl
 | cons x B ih =>
  intro A q hr hq
  obtain ⟨q, rfl⟩ : ∃ q', q = q' + 1 := ⟨q - 1, by simp at hq; omega⟩
  have hlen : A.length < ys.length := by rw [hr]; simp
  have hx := hs x (by rw [hr]; simp)
  have hg : ys[A.length]? = some x := by rw [hr]; simp
  have hi : idx ys (A.length : Int) = some x := by rw [idx_nat, hg]
  have hu : ∀ y : KO, y = x -> upd ys (A.length : Int) y = some ys := by
   intro y e; subst e
   rw [upd_of ⟨by omega, by omega⟩, Int.toNat_natCast]
   congr 1
   apply List.ext_getElem?
   intro i
   rw [List.getElem?_set]
   split
   ·rename_i e; subst e; first | exact hg.symm | rw [if_pos hlen, hg]
   ·rfl
  have e := ih (A ++ [x]) q (by rw [hr]; simp) (by simp at hq; omega)
  rw [List.length_append, List.length_singleton] at e
  unfold m_history_Only_l3
  rw [if_pos (by omega), hi, obs, cloneK _ hx.1, obs, cloneK _ hx.2, obs, obs, obs, hu _ rfl, obs, hi, obs, obs, hu _ rfl, obs, ckK (by omega), obs]
  exact e
theorem only_l1 (h : List KO) (k : BitVec 64) (hl : h.length <= 1000) (hs : ∀ x ∈ h, smallK x) : ∀ (B A : List KO) (q : Nat), h = A ++ B -> B.length < q ->
  m_history_Only_l1 h k q (onlyK A k) (A.length : Int) = some (onlyK h k) := by
 intro B
 induction B with
 | nil =>
  intro A q hr hq
  obtain ⟨q, rfl⟩ : ∃ q', q = q' + 1 := ⟨q - 1, by simp at hq; omega⟩
  unfold m_history_Only_l1; rw [if_neg (by rw [hr]; simp)]
  rw [List.append_nil] at hr
  subst hr
  unfold m_history_Only_j0
  have hle : (onlyK h k).length <= h.length := List.length_filter_le _ _
  exact only_l3 (onlyK h k) (by omega) (fun x hx => hs x (List.mem_filter.1 hx).1) (onlyK h k) [] forever rfl (by unfold forever; omega)
 | cons x B ih =>
  intro A q hr hq
  obtain ⟨q, rfl⟩ : ∃ q', q = q' + 1 := ⟨q - 1, by simp at hq; omega⟩
  have hlen : A.length < h.length := by rw [hr]; simp
  have hi : idx h (A.length : Int) = some x := by rw [idx_nat, hr]; simp
  have e := ih (A ++ [x]) q (by rw [hr]; simp) (by simp at hq; omega)
  rw [List.length_append, List.length_singleton] at e
  have hle : (onlyK A k).length <= A.length := List.length_filter_le _ _
  unfold m_history_Only_l1
  rw [if_pos (by omega), hi, obs, ckK (by omega)]
  by_cases hk : x.fKey = k
  ·have e2 : onlyK (A ++ [x]) k = onlyK A k ++ [x] := by unfold onlyK; rw [List.filter_append]; simp [hk]
   rw [if_pos hk, apd_of (by simp; omega), obs, obs, <- e2]; exact e
  ·have e2 : onlyK (A ++ [x]) k = onlyK A k := by unfold onlyK; rw [List.filter_append]; simp [hk]
   rw [if_neg hk, obs, <- e2]; exact e
theorem only_ok (h : List KO) (k : BitVec 64) (hl : h.length <= 1000) (hs : ∀ x ∈ h, smallK x) : m_history_Only h k = some (onlyK h k) :=
 only_l1 h k hl hs h [] forever rfl (by unfold forever; omega)
theorem slc_all {α : Type} (xs : List α) : slc xs 0 (xs.length : Int) = some xs := by
 rw [slc_of ⟨by omega, by omega, by omega⟩]; simp
def Dis (l E : List (BitVec 64)) : Prop := E.Pairwise (fun x y => x < y) /\ ∀ v, v ∈ E ↔ v ∈ l
theorem Dis.snoc {l E : List (BitVec 64)} (h : Dis l E) {v : BitVec 64} (hv : ∀ u ∈ l, u < v) : Dis (l ++ [v]) (E ++ [v]) := by
 refine ⟨List.pairwise_append.2 ⟨h.1, List.pairwise_singleton _ _, fun a ha b hb => ?_⟩, fun u => ?_⟩
 ·rw [List.mem_singleton.1 hb]; exact hv a ((h.2 a).1 ha)
 ·rw [List.mem_append, List.mem_append, h.2 u]
theorem Dis.same {l E : List (BitVec 64)} (h : Dis l E) {v : BitVec 64} (hv : v ∈ l) : Dis (l ++ [v]) E := by
 refine ⟨h.1, fun u => ?_⟩
 rw [List.mem_append, h.2 u, List.mem_singleton]
 constructor
 ·exact Or.inl
 ·rintro (h1 | rfl)
  ·exact h1
  ·exact hv
theorem sorted_lt {ys : List (BitVec 64)} (hs : ys.Pairwise (fun x y => x <= y)) {p : Nat} (h0 : 0 < p) (hp : p < ys.length) (hne : ys[p - 1]'(by omega) ≠ ys[p]) : ∀ u ∈ ys.take p, u < ys[p] := by
 intro u hu
 obtain ⟨i, hi, rfl⟩ := List.mem_iff_getElem.1 hu
 rw [List.length_take] at hi
 rw [List.getElem_take]
 rw [List.pairwise_iff_getElem] at hs
 have h1 : ys[i] <= ys[p - 1] := by
  by_cases e : i = p - 1
  ·subst e; exact BitVec.le_refl _
  ·exact hs i (p - 1) (by omega) (by omega) (by omega)
 have h2 : ys[p - 1] <= ys[p] := hs (p - 1) p (by omega) (by omega) (by omega)
 have h3 : (ys[p - 1]).toNat ≠ (ys[p]).toNat := fun e => hne (BitVec.eq_of_toNat_eq e)
 rw [BitVec.le_def] at h1 h2
 rw [BitVec.lt_def]; omega
theorem take_succ {ys : List (BitVec 64)} {p : Nat} (hp : p < ys.length) : ys.take (p + 1) = ys.take p ++ [ys[p]] := by
 rw [List.take_add_one, List.getElem?_eq_getElem hp]; rfl
theorem keys_j5 (E l : List (BitVec 64)) : m_history_Keys_j5 (E ++ l) (E.length : Int) = some E := by
 unfold m_history_Keys_j5
 have e : (clr (E ++ l) (E.length : Int) 0#64).take E.length = E := by unfold clr; simp
 rw [slc_of ⟨by omega, by simp; omega, by simp⟩, obs, slc_of ⟨by omega, by omega, by unfold clr; simp⟩, obs]
 rw [Int.toNat_zero, List.drop_zero, Nat.sub_zero, Int.toNat_natCast, e, slc_all, obs]
theorem keys_l6 (ys : List (BitVec 64)) (hl : ys.length < 50) (hs : ys.Pairwise (fun x y => x <= y)) (k0 : Nat) : ∀ (d p q : Nat) (E : List (BitVec 64)), p + d = ys.length -> d < q -> k0 < p -> E.length < p -> Dis (ys.take p) E ->
  ∃ R, m_history_Keys_l6 ys (k0 : Int) q (E ++ ys.drop E.length) (E.length : Int) ((p - k0 : Nat) : Int) = some R /\ Dis ys R /\ R.length <= ys.length := by
 intro d
 induction d with
 | zero =>
  intro p q E hp hq hk hE hD
  obtain ⟨q, rfl⟩ : ∃ q', q = q' + 1 := ⟨q - 1, by omega⟩
  have hlen : (E ++ ys.drop E.length).length = ys.length := by simp; omega
  unfold m_history_Keys_l6
  rw [slc_of ⟨by omega, by omega, by omega⟩, obs, if_neg (by simp; omega), keys_j5]
  exact ⟨E, rfl, by rw [List.take_of_length_le (by omega)] at hD; exact hD, by omega⟩
 | succ d ih =>
  intro p q E hp hq hk hE hD
  obtain ⟨q, rfl⟩ : ∃ q', q = q' + 1 := ⟨q - 1, by omega⟩
  have hlen : (E ++ ys.drop E.length).length = ys.length := by simp; omega
  have hpl : p < ys.length := by omega
  have get : ∀ i, E.length <= i -> (E ++ ys.drop E.length)[i]? = ys[i]? := by
   intro i hi
   rw [List.getElem?_append_right hi, List.getElem?_drop]; congr 1; omega
  have sl : slc (E ++ ys.drop E.length) (k0 : Int) (ys.length : Int) = some ((E ++ ys.drop E.length).drop k0) := by
   rw [slc_of ⟨by omega, by omega, by omega⟩]; congr 1; rw [Int.toNat_natCast, Int.toNat_natCast, List.take_of_length_le (by simp; omega)]
  have i1 : idx ((E ++ ys.drop E.length).drop k0) ((p - k0 : Nat) : Int) = some ys[p] := by
   rw [idx_nat, List.getElem?_drop, get _ (by omega), show k0 + (p - k0) = p by omega, List.getElem?_eq_getElem hpl]
  have i2 : idx ((E ++ ys.drop E.length).drop k0) ((p - k0 - 1 : Nat) : Int) = some (ys[p - 1]'(by omega)) := by
   rw [idx_nat, List.getElem?_drop, get _ (by omega), show k0 + (p - k0 - 1) = p - 1 by omega, List.getElem?_eq_getElem (by omega)]
  unfold m_history_Keys_l6
  rw [sl, obs, if_pos (by simp only [List.length_drop, hlen]; omega), obs, i1, obs, show ((p - k0 : Nat) : Int) - 1 = ((p - k0 - 1 : Nat) : Int) by omega, ck_of (by omega), obs, obs, i2, obs]
  by_cases hc : ys[p] = ys[p - 1]
  ·rw [if_pos hc, ckK (by omega), obs, show p - k0 + 1 = (p + 1) - k0 by omega]
   refine ih (p + 1) q E (by omega) (by omega) (by omega) (by omega) ?_
   rw [take_succ hpl]
   exact hD.same (by rw [hc]; exact List.mem_iff_getElem.2 ⟨p - 1, by simp; omega, by rw [List.getElem_take]⟩)
  ·have hE2 : E.length < ys.length := by omega
   have hu : upd (E ++ ys.drop E.length) (E.length : Int) ys[p] = some ((E ++ [ys[p]]) ++ ys.drop (E ++ [ys[p]]).length) := by
    rw [upd_of ⟨by omega, by omega⟩, Int.toNat_natCast, List.set_append_right _ _ (Nat.le_refl _), Nat.sub_self]
    rw [List.drop_eq_getElem_cons hE2, List.set_cons_zero]; simp
   have hx : ∃ a, idx (E ++ ys.drop E.length) (E.length : Int) = some a := ⟨ys[E.length], by rw [idx_nat, get _ (Nat.le_refl _), List.getElem?_eq_getElem hE2]⟩
   obtain ⟨a, ha⟩ := hx
   rw [if_neg hc, obs, i1, obs, ha, obs, hu, obs, ckK (by omega), obs, ckK (by omega), obs, show p - k0 + 1 = (p + 1) - k0 by omega]
   have := ih (p + 1) q (E ++ [ys[p]]) (by omega) (by omega) (by omega) (by simp; omega) (by rw [take_succ hpl]; exact hD.snoc (sorted_lt hs (by omega) hpl (fun e => hc e.symm)))
   rw [show (E ++ [ys[p]]).length = E.length + 1 by simp] at this
   rw [show (E ++ [ys[p]]).length = E.length + 1 by simp]
   exact this
theorem keys_l3 (ys : List (BitVec 64)) (hl : ys.length < 50) (hs : ys.Pairwise (fun x y => x <= y)) : ∀ (d p q : Nat), p + d = ys.length -> d < q -> 0 < p -> Dis (ys.take p) (ys.take p) ->
  ∃ R, m_history_Keys_l3 ys q (p : Int) = some R /\ Dis ys R /\ R.length <= ys.length := by
 intro d
 induction d with
 | zero =>
  intro p q hp hq h0 hD
  obtain ⟨q, rfl⟩ : ∃ q', q = q' + 1 := ⟨q - 1, by omega⟩
  unfold m_history_Keys_l3
  rw [if_neg (by omega)]
  unfold m_history_Keys_j2
  rw [slc_all, obs]
  exact ⟨ys, rfl, by rw [List.take_of_length_le (by omega)] at hD; exact hD, Nat.le_refl _⟩
 | succ d ih =>
  intro p q hp hq h0 hD
  obtain ⟨q, rfl⟩ : ∃ q', q = q' + 1 := ⟨q - 1, by omega⟩
  have hpl : p < ys.length := by omega
  unfold m_history_Keys_l3
  rw [if_pos (by omega), idx_nat, List.getElem?_eq_getElem hpl, obs, show (p : Int) - 1 = ((p - 1 : Nat) : Int) by omega, ck_of (by omega), obs, idx_nat, List.getElem?_eq_getElem (by omega), obs]
  by_cases hc : ys[p] = ys[p - 1]
  ·rw [if_pos hc, slc_of ⟨by omega, by omega, by omega⟩, obs]
   have := keys_l6 ys hl hs p d (p + 1) forever (ys.take p) (by omega) (by unfold forever; omega) (by omega) (by simp; omega) (by rw [take_succ hpl]; exact hD.same (by rw [hc]; exact List.mem_iff_getElem.2 ⟨p - 1, by simp; omega, by rw [List.getElem_take]⟩))
   rw [show (ys.take p).length = p by simp; omega, List.take_append_drop, show p + 1 - p = 1 by omega] at this
   exact this
  ·rw [if_neg hc]
   unfold m_history_Keys_j4
   rw [ckK (by omega), obs]
   refine ih (p + 1) q (by omega) (by omega) (by omega) ?_
   rw [take_succ hpl]
   exact hD.snoc (sorted_lt hs h0 hpl (fun e => hc e.symm))
theorem keys_j0 (l : List (BitVec 64)) (hl : l.length < 50) : ∃ R, m_history_Keys_j0 l = some R /\ Dis l R /\ R.length <= l.length := by
 obtain ⟨ys, e, hp, hs⟩ := sort_ok l hl
 have hly : ys.length = l.length := hp.length_eq
 have fin : ∀ R, Dis ys R -> Dis l R := fun R h => ⟨h.1, fun v => by rw [h.2 v]; exact hp.mem_iff⟩
 unfold m_history_Keys_j0
 rw [e, obs]
 by_cases h2 : ys.length < 2
 ·rw [if_pos (by omega), slc_all, obs]
  refine ⟨ys, rfl, fin ys ⟨?_, fun v => Iff.rfl⟩, by omega⟩
  rw [List.pairwise_iff_getElem]; intro i j _ _ _; omega
 ·rw [if_neg (by omega)]
  obtain ⟨R, eR, hR, hRl⟩ := keys_l3 ys (by omega) hs (ys.length - 1) 1 forever (by omega) (by unfold forever; omega) (by omega) ⟨by rw [List.pairwise_iff_getElem]; intro i j h1 h3 _; simp at h3; omega, fun v => Iff.rfl⟩
  exact ⟨R, eR, fin R hR, by omega⟩
theorem keys_l1 (h : List KO) (hl : h.length < 50) : ∀ (B A : List KO) (q : Nat), h = A ++ B -> B.length < q -> ∃ R, m_history_Keys_l1 h q (A.map (·.fKey)) (A.length : Int) = some R /\ Dis (h.map (·.fKey)) R /\ R.length <= h.length := by
 intro B
 induction B with
 | nil =>
  intro A q hr hq
  obtain ⟨q, rfl⟩ : ∃ q', q = q' + 1 := ⟨q - 1, by simp at hq; omega⟩
  unfold m_history_Keys_l1; rw [if_neg (by rw [hr]; simp)]
  rw [List.append_nil] at hr; subst hr
  obtain ⟨R, e, hR, hRl⟩ := keys_j0 (h.map (·.fKey)) (by simpa using hl)
  exact ⟨R, e, hR, by simpa using hRl⟩
 | cons x B ih =>
  intro A q hr hq
  obtain ⟨q, rfl⟩ : ∃ q', q = q' + 1 := ⟨q - 1, by simp at hq; omega⟩
  have hlen : A.length < h.length := by rw [hr]; simp
  have hi : idx h (A.length : Int) = some x := by rw [idx_nat, hr]; simp
  have e := ih (A ++ [x]) q (by rw [hr]; simp) (by simp at hq; omega)
  rw [List.length_append, List.length_singleton, List.map_append] at e
  unfold m_history_Keys_l1
  rw [if_pos (by omega), hi, obs, apd_of (by simp; omega), obs, ckK (by omega), obs]
  exact e
theorem keys_ok (h : List KO) (hl : h.length < 50) : ∃ R, m_history_Keys h = some R /\ Dis (h.map (·.fKey)) R /\ R.length <= h.length :=
 keys_l1 h hl h [] forever rfl (by unfold forever; omega)
end Go.Proofs.Ytkcccenekglkoaa
