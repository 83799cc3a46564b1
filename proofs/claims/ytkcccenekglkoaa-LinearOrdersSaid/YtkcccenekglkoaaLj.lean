/-
 The statement LinearOrders. Conditions: the number of places.
-/
import Derived.Test.YtkcccenekglkoaaLc
import Derived.Test.YtkcccenekglkoaaLi
import Derived.Test.YtkcccenekglkoaaLr
import Derived.Test.YtkcccenekglkoaaMdj3
namespace Go.Proofs.Ytkcccenekglkoaa
set_option linter.unusedVariables false
set_option linter.unusedSimpArgs false
def oK (y : RO) : KO := ⟨y.fClient, y.fKind, y.fKey, y.fCookie, y.fData, y.fGot, y.fCall, y.fReturn, y.fClosed, y.fResult⟩
theorem rbefR_ok (x y : RO) : m_r24_Before x.fClient x.fKind x.fKey x.fCookie x.fData x.fGot x.fCall x.fReturn x.fClosed x.fResult y.fClient y.fKind y.fKey y.fCookie y.fData y.fGot y.fCall y.fReturn y.fClosed y.fResult = some (befK (oK x) (oK y)) := rbef_ok (oK x) (oK y)
theorem rvalid_in (raw : List RO) (i : Nat) (x : RO) (r : Int -> Option Bool) (hi : i < raw.length) (hl : raw.length <= 1000) : ∀ (B A : List RO) (q : Nat), raw.take i = A ++ B -> B.length < q ->
  m_r24_Valid_l5 raw (i : Int) x r q (A.length : Int) = if (B.map oK).all (cliK (oK x)) = true then m_r24_Valid_j2 (i : Int) r else some false := by
 intro B
 induction B with
 | nil =>
  intro A q hr hq
  obtain ⟨q, rfl⟩ : ∃ q', q = q' + 1 := ⟨q - 1, by simp at hq; omega⟩
  have hA : A.length = i := by have := congrArg List.length hr; simp at this; omega
  unfold m_r24_Valid_l5
  rw [if_neg (by omega), List.map_nil, List.all_nil, if_pos rfl]
 | cons y B ih =>
  intro A q hr hq
  obtain ⟨q, rfl⟩ : ∃ q', q = q' + 1 := ⟨q - 1, by simp at hq; omega⟩
  have hA : A.length + (B.length + 1) = i := by have := congrArg List.length hr; simp at this; omega
  have hg : raw[A.length]? = some y := by
   have : (raw.take i)[A.length]? = some y := by rw [hr]; simp
   rwa [List.getElem?_take, if_pos (by omega)] at this
  have e := ih (A ++ [y]) q (by rw [hr]; simp) (by simp at hq; omega)
  rw [List.length_append, List.length_singleton] at e
  unfold m_r24_Valid_l5
  rw [if_pos (by omega), idx_nat, hg, obs, obs, rbefR_ok, obs, ckK (by omega), obs, List.map_cons, List.all_cons]
  by_cases hc : y.fClient = x.fClient
  ·rw [if_pos hc]
   by_cases hb : befK (oK y) (oK x) = true
   ·rw [if_pos hb, e, show cliK (oK x) (oK y) = true by unfold cliK; simp [hb], Bool.true_and]
   ·rw [if_neg hb, show cliK (oK x) (oK y) = false by unfold cliK; simp [hb]; exact hc, Bool.false_and, if_neg (by simp)]
  ·rw [if_neg hc, e, show cliK (oK x) (oK y) = true by unfold cliK; simp; exact Or.inl hc, Bool.true_and]
theorem rvalid_loop (raw : List RO) (hl : raw.length <= 1000) : ∀ (B A : List RO) (q : Nat), raw = A ++ B -> B.length < q ->
  m_r24_Valid_l1 raw q (A.length : Int) = some (validK (A.map oK) (B.map oK)) := by
 intro B
 induction B with
 | nil =>
  intro A q hr hq
  obtain ⟨q, rfl⟩ : ∃ q', q = q' + 1 := ⟨q - 1, by simp at hq; omega⟩
  unfold m_r24_Valid_l1; rw [if_neg (by rw [hr]; simp)]; rfl
 | cons x B ih =>
  intro A q hr hq
  obtain ⟨q, rfl⟩ : ∃ q', q = q' + 1 := ⟨q - 1, by simp at hq; omega⟩
  have hlen : A.length < raw.length := by rw [hr]; simp
  have hi : idx raw (A.length : Int) = some x := by rw [idx_nat, hr]; simp
  have e := ih (A ++ [x]) q (by rw [hr]; simp) (by simp at hq; omega)
  rw [List.length_append, List.length_singleton, List.map_append] at e
  have e4 : m_r24_Valid_j4 raw (A.length : Int) x (m_r24_Valid_l1 raw q) = some ((A.map oK).all (cliK (oK x)) && validK (A.map oK ++ [oK x]) (B.map oK)) := by
   unfold m_r24_Valid_j4
   refine Eq.trans (rvalid_in raw A.length x _ hlen hl A [] forever (by rw [hr]; simp) (by unfold forever; omega)) ?_
   unfold m_r24_Valid_j2
   rw [ckK (by omega), obs, e]
   cases (A.map oK).all (cliK (oK x)) <;> rfl
  have e3 : m_r24_Valid_j3 raw (A.length : Int) x (m_r24_Valid_l1 raw q) = some (((decide (x.fReturn = -1) || (decide (x.fCall < x.fReturn) && decide (x.fClosed = -1))) && (decide (x.fClosed = -1) || decide (x.fCall < x.fClosed))) && ((A.map oK).all (cliK (oK x)) && validK (A.map oK ++ [oK x]) (B.map oK))) := by
   unfold m_r24_Valid_j3
   rw [e4]
   by_cases c1 : x.fReturn = -1
   ·rw [if_pos c1, decide_eq_true c1, Bool.true_or, Bool.true_and]
    by_cases c2 : x.fClosed = -1
    ·rw [if_pos c2, decide_eq_true c2, Bool.true_or, Bool.true_and, if_pos c1]
    ·rw [if_neg c2, decide_eq_false c2, Bool.false_or]
     by_cases c3 : x.fClosed <= x.fCall
     ·rw [if_pos c3, decide_eq_false (by omega), Bool.false_and]
     ·rw [if_neg c3, decide_eq_true (by omega), Bool.true_and, if_pos c1]
   ·rw [if_neg c1, decide_eq_false c1, Bool.false_or]
    by_cases c3 : x.fReturn <= x.fCall
    ·rw [if_pos c3, show decide (x.fCall < x.fReturn) = false from decide_eq_false (by omega), Bool.false_and, Bool.false_and, Bool.false_and]
    ·rw [if_neg c3, show decide (x.fCall < x.fReturn) = true from decide_eq_true (by omega), Bool.true_and]
     by_cases c2 : x.fClosed = -1
     ·rw [if_pos c2, if_neg c1, if_pos c2, decide_eq_true c2, Bool.true_or, Bool.true_and, Bool.true_and]
     ·rw [if_neg c2, decide_eq_false c2, Bool.false_and, Bool.false_and]
      by_cases c4 : x.fClosed <= x.fCall
      ·rw [if_pos c4]
      ·rw [if_neg c4, if_neg c1, if_neg c2]
  unfold m_r24_Valid_l1
  rw [if_pos (by omega), hi, obs, e3]
  show _ = some (eachK (oK x) && (prevK (A.map oK) (oK x) && ((A.map oK).all (cliK (oK x)) && validK (A.map oK ++ [oK x]) (B.map oK))))
  unfold eachK
  show _ = some ((decide (1 <= x.fKind) && decide (x.fKind <= 3) && decide (0 <= x.fCall) && (decide (x.fReturn = -1) || (decide (x.fCall < x.fReturn) && decide (x.fClosed = -1))) && (decide (x.fClosed = -1) || decide (x.fCall < x.fClosed))) && (prevK (A.map oK) (oK x) && ((A.map oK).all (cliK (oK x)) && validK (A.map oK ++ [oK x]) (B.map oK))))
  generalize (decide (x.fReturn = -1) || (decide (x.fCall < x.fReturn) && decide (x.fClosed = -1))) = u1
  generalize (decide (x.fClosed = -1) || decide (x.fCall < x.fClosed)) = u2
  generalize ((A.map oK).all (cliK (oK x)) && validK (A.map oK ++ [oK x]) (B.map oK)) = u3
  by_cases c1 : x.fCall < 0
  ·rw [if_pos c1, show decide (0 <= x.fCall) = false from decide_eq_false (by omega)]; simp
  ·rw [if_neg c1, show decide (0 <= x.fCall) = true from decide_eq_true (by omega), Bool.and_true]
   by_cases c2 : x.fKind < 1
   ·rw [if_pos c2, show decide (1 <= x.fKind) = false from decide_eq_false (by omega)]; simp
   ·rw [if_neg c2, show decide (1 <= x.fKind) = true from decide_eq_true (by omega), Bool.true_and]
    by_cases c3 : 3 < x.fKind
    ·rw [if_pos c3, show decide (x.fKind <= 3) = false from decide_eq_false (by omega)]; simp
    ·rw [if_neg c3, show decide (x.fKind <= 3) = true from decide_eq_true (by omega), Bool.true_and]
     rcases List.eq_nil_or_concat A with rfl | ⟨A', p, hA⟩
     ·rw [if_neg (by simp)]; rfl
     ·rw [List.concat_eq_append] at hA
      subst hA
      have hp : prevK ((A' ++ [p]).map oK) (oK x) = decide (p.fCall < x.fCall) := by unfold prevK; simp; rfl
      have hip : idx raw (A'.length : Int) = some p := by rw [idx_nat, hr]; simp
      have hA1 : A'.length + 1 < raw.length := by simpa using hlen
      rw [if_pos (by simp), show ((A' ++ [p]).length : Int) - 1 = (A'.length : Int) by simp, ck_of (by omega), obs, hip, obs, hp]
      by_cases k3 : x.fCall <= p.fCall
      ·rw [if_pos k3, show decide (p.fCall < x.fCall) = false from decide_eq_false (by omega)]; simp
      ·rw [if_neg k3, show decide (p.fCall < x.fCall) = true from decide_eq_true (by omega), Bool.true_and]
theorem rvalid_ok (raw : List RO) (hl : raw.length <= 1000) : m_r24_Valid raw = some (validK [] (raw.map oK)) :=
 rvalid_loop raw hl raw [] forever rfl (by unfold forever; omega)
theorem ops_loop (l : List RO) (hl : l.length <= 1000) : ∀ (B A : List RO) (q : Nat), l = A ++ B -> B.length < q -> m_law25_ops_l1 l q (A.map oK) (A.length : Int) = some (l.map oK) := by
 intro B
 induction B with
 | nil =>
  intro A q hr hq
  obtain ⟨q, rfl⟩ : ∃ q', q = q' + 1 := ⟨q - 1, by simp at hq; omega⟩
  unfold m_law25_ops_l1 m_law25_ops_j0
  rw [if_neg (by rw [hr]; simp)]
  rw [List.append_nil] at hr; rw [hr]
 | cons y B ih =>
  intro A q hr hq
  obtain ⟨q, rfl⟩ : ∃ q', q = q' + 1 := ⟨q - 1, by simp at hq; omega⟩
  have hlen : A.length < l.length := by rw [hr]; simp
  have hi : idx l (A.length : Int) = some y := by rw [idx_nat, hr]; simp
  have e := ih (A ++ [y]) q (by rw [hr]; simp) (by simp at hq; omega)
  rw [List.length_append, List.length_singleton, List.map_append] at e
  unfold m_law25_ops_l1 m_law25_op
  rw [if_pos (by omega), hi, obs, obs, apd_of (by simp; omega), obs, ckK (by omega), obs]
  exact e
theorem ops_ok (l : List RO) (hl : l.length <= 1000) : m_law25_ops l = some (l.map oK) := ops_loop l hl l [] forever rfl (by unfold forever; omega)
theorem oK_tO (h : List KO) : (h.map tO).map oK = h := by rw [List.map_map]; exact List.map_id _
def plcL (A : List Nat) (k : Nat) : Int := if k ∈ A then ((A.idxOf k + 1 : Nat) : Int) else 0
def plL (n : Nat) (A : List Nat) : List Int := (List.range n).map (plcL A)
theorem plL_get {n k : Nat} (A : List Nat) (h : k < n) : (plL n A)[k]? = some (plcL A k) := by simp [plL, h]
theorem plL_set (n : Nat) (A : List Nat) (i : Nat) (hi : i ∉ A) : (plL n A).set i ((A.length + 1 : Nat) : Int) = plL n (A ++ [i]) := by
 apply List.ext_getElem?
 intro k
 rw [List.getElem?_set]
 by_cases hk : k < n
 ·rw [plL_get _ hk, plL_get _ hk]
  by_cases e : i = k
  ·subst e
   rw [if_pos rfl, if_pos (by simp [plL, hk])]
   unfold plcL
   rw [if_pos (by simp), List.idxOf_append, if_neg hi]; simp
  ·rw [if_neg e]
   unfold plcL
   by_cases hm : k ∈ A
   ·rw [if_pos hm, if_pos (by simp [hm]), List.idxOf_append, if_pos hm]
   ·rw [if_neg hm, if_neg (by simp [hm]; exact fun h => e h.symm)]
 ·have h1 : (plL n A)[k]? = none := List.getElem?_eq_none (by simp [plL]; omega)
  have h2 : (plL n (A ++ [i]))[k]? = none := List.getElem?_eq_none (by simp [plL]; omega)
  rw [h1, h2]
  split
  ·rw [if_neg (by simp [plL]; omega)]
  ·rfl
theorem lin_order {h : List KO} (hn : h.length <= 31) : ∀ {o : List Nat} {P : BitVec 32} {s : LS}, Lin h P s o -> o.Pairwise fun a b => a ≠ b /\ ∀ x y, h[a]? = some x -> h[b]? = some y -> befK y x = false := by
 intro o
 induction o with
 | nil => intro P s _; exact List.Pairwise.nil
 | cons i o ih =>
  intro P s hl
  cases hl with
  | @step _ _ t _ x _ hx ht hm hl =>
   have hi : i < 32 := by have := (List.getElem?_eq_some_iff.1 hx).1; omega
   refine List.pairwise_cons.2 ⟨fun j hj => ?_, ih hl⟩
   obtain ⟨h1, y, hy, h2⟩ := lin_later hn hl j hj
   rw [bit_set _ hi, Bool.or_eq_false_iff, decide_eq_false_iff_not] at h1
   refine ⟨fun e => h1.2 e.symm, fun x' y' hx' hy' => ?_⟩
   rw [hy] at hy'; injection hy' with hy'; subst hy'
   exact h2 i x' hx' (by rw [bit_set _ hi]; simp)
theorem lin_cover {h : List KO} (hn : h.length <= 31) : ∀ {o : List Nat} {P : BitVec 32} {s : LS}, Lin h P s o -> ∀ (k : Nat) x, h[k]? = some x -> P.getLsbD k = true ∨ k ∈ o ∨ dropL x = true := by
 intro o
 induction o with
 | nil =>
  intro P s hl k x hx
  cases hl with
  | done c => exact (c k x hx).imp id Or.inr
 | cons i o ih =>
  intro P s hl k x hx
  cases hl with
  | @step _ _ t _ x' _ hx' ht hm hl =>
   have hi : i < 32 := by have := (List.getElem?_eq_some_iff.1 hx').1; omega
   rcases ih hl k x hx with h1 | h1 | h1
   ·rw [bit_set _ hi, Bool.or_eq_true, decide_eq_true_iff] at h1
    rcases h1 with h1 | h1
    ·exact Or.inl h1
    ·exact Or.inr (Or.inl (by rw [h1]; exact List.mem_cons_self ..))
   ·exact Or.inr (Or.inl (List.mem_cons_of_mem _ h1))
   ·exact Or.inr (Or.inr h1)
theorem legal_l7 (h : List KO) (hn : h.length <= 20) (o : List Nat) (hno : ∀ a b x y, a ∈ o -> b ∈ o -> h[a]? = some x -> h[b]? = some y -> befK x y = true -> ¬ plcL o b < plcL o a) (a : Nat) (x : KO) (hx : h[a]? = some x) (r4 : Int -> Option Bool) :
  ∀ (d b q : Nat), b + d = h.length -> d < q -> m_r25_Legal_l7 (h.map tO) (plL h.length o) (a : Int) r4 q (b : Int) = m_r25_Legal_j5 (a : Int) r4 := by
 have ha : a < h.length := (List.getElem?_eq_some_iff.1 hx).1
 intro d
 induction d with
 | zero =>
  intro b q hb hq
  obtain ⟨q, rfl⟩ : ∃ q', q = q' + 1 := ⟨q - 1, by omega⟩
  unfold m_r25_Legal_l7
  rw [if_neg (by simp; omega)]
 | succ d ih =>
  intro b q hb hq
  obtain ⟨q, rfl⟩ : ∃ q', q = q' + 1 := ⟨q - 1, by omega⟩
  have hbl : b < h.length := by omega
  have hy : h[b]? = some h[b] := List.getElem?_eq_getElem hbl
  generalize h[b] = y at hy
  have e := ih (b + 1) q (by omega) (by omega)
  unfold m_r25_Legal_l7
  rw [if_pos (by simp; omega), idx_nat, plL_get _ ha, obs, ckK (by omega)]
  have pos : ∀ k, 0 < plcL o k -> k ∈ o := fun k hk => by
   unfold plcL at hk
   by_cases hm : k ∈ o
   ·exact hm
   ·rw [if_neg hm] at hk; omega
  by_cases c1 : 0 < plcL o a
  ·rw [if_pos c1, idx_nat, plL_get _ hbl, obs]
   by_cases c2 : 0 < plcL o b
   ·rw [if_pos c2, idxT h hx, obs, idxT h hy, obs, rbef_ok, obs]
    by_cases c3 : befK x y = true
    ·rw [if_pos c3, obs, obs, if_neg (hno a b x y (pos a c1) (pos b c2) hx hy c3), obs]; exact e
    ·rw [if_neg c3, obs]; exact e
   ·rw [if_neg c2, obs]; exact e
  ·rw [if_neg c1, obs]; exact e
theorem legal_l4 (h : List KO) (hn : h.length <= 20) (o : List Nat) (hno : ∀ a b x y, a ∈ o -> b ∈ o -> h[a]? = some x -> h[b]? = some y -> befK x y = true -> ¬ plcL o b < plcL o a) (hco : ∀ (k : Nat) x, h[k]? = some x -> k ∈ o ∨ dropL x = true) :
  ∀ (d a q : Nat), a + d = h.length -> d < q -> m_r25_Legal_l4 (h.map tO) (plL h.length o) q (a : Int) = some true := by
 intro d
 induction d with
 | zero =>
  intro a q ha hq
  obtain ⟨q, rfl⟩ : ∃ q', q = q' + 1 := ⟨q - 1, by omega⟩
  unfold m_r25_Legal_l4
  rw [if_neg (by simp; omega)]; rfl
 | succ d ih =>
  intro a q ha hq
  obtain ⟨q, rfl⟩ : ∃ q', q = q' + 1 := ⟨q - 1, by omega⟩
  have hal : a < h.length := by omega
  have hx : h[a]? = some h[a] := List.getElem?_eq_getElem hal
  generalize h[a] = x at hx
  have e := ih (a + 1) q (by omega) (by omega)
  have j6 : m_r25_Legal_j6 (h.map tO) (plL h.length o) (a : Int) (m_r25_Legal_l4 (h.map tO) (plL h.length o) q) = some true := by
   unfold m_r25_Legal_j6
   refine Eq.trans (legal_l7 h hn o hno a x hx _ h.length 0 forever (by omega) (by unfold forever; omega)) ?_
   unfold m_r25_Legal_j5
   rw [ckK (by omega), obs]; exact e
  unfold m_r25_Legal_l4
  rw [if_pos (by simp; omega), idx_nat, plL_get _ hal, obs]
  by_cases c1 : plcL o a = 0
  ·have hna : a ∉ o := fun hm => by unfold plcL at c1; rw [if_pos hm] at c1; omega
   rw [if_pos c1, idxT h hx, obs, rdrop_ok, obs, if_pos ((hco a x hx).resolve_left hna)]; exact j6
  ·rw [if_neg c1]; exact j6
theorem legal_l1 (h : List KO) (hn : h.length <= 20) (o : List Nat) (hno : ∀ a b x y, a ∈ o -> b ∈ o -> h[a]? = some x -> h[b]? = some y -> befK x y = true -> ¬ plcL o b < plcL o a) (hco : ∀ (k : Nat) x, h[k]? = some x -> k ∈ o ∨ dropL x = true) (hnd : o.Nodup) (hol : o.length <= 100) :
  ∀ (B A : List Nat) (q : Nat) (P : BitVec 32) (s : LS), o = A ++ B -> B.length < q -> Lin h P s B -> m_r25_Legal_l1 (h.map tO) (ofN o) q s.1 s.2.1 s.2.2 (plL h.length A) (A.length : Int) = some true := by
 intro B
 induction B with
 | nil =>
  intro A q P s hr hq hl
  obtain ⟨q, rfl⟩ : ∃ q', q = q' + 1 := ⟨q - 1, by simp at hq; omega⟩
  unfold m_r25_Legal_l1
  rw [if_neg (by rw [hr]; simp [ofN])]
  rw [List.append_nil] at hr; subst hr
  unfold m_r25_Legal_j0
  exact legal_l4 h hn o hno hco h.length 0 forever (by omega) (by unfold forever; omega)
 | cons i B ih =>
  intro A q P s hr hq hl
  obtain ⟨q, rfl⟩ : ∃ q', q = q' + 1 := ⟨q - 1, by simp at hq; omega⟩
  have hlen : A.length < o.length := by rw [hr]; simp
  cases hl with
  | @step _ _ t _ x _ hx ht hm hl =>
   have hil : i < h.length := (List.getElem?_eq_some_iff.1 hx).1
   have hiA : i ∉ A := by
    intro hmem
    rw [hr] at hnd
    exact (List.nodup_append.1 hnd).2.2 i hmem i (List.mem_cons_self ..) rfl
   have hi : idx (ofN o) (A.length : Int) = some (i : Int) := by rw [idx_nat, hr]; simp [ofN]
   have e := ih (A ++ [i]) q _ t (by rw [hr]; simp) (by simp at hq; omega) hl
   rw [List.length_append, List.length_singleton] at e
   unfold m_r25_Legal_l1
   rw [if_pos (by simp [ofN]; omega), hi, obs, if_neg (by omega), if_neg (by simp; omega), idx_nat, plL_get _ hil, obs, if_neg (by unfold plcL; rw [if_neg hiA]; omega)]
   unfold m_r25_Legal_j2
   rw [ckK (by omega), obs, idx_nat, plL_get _ hil, obs, upd_of ⟨by omega, by simp [plL]; omega⟩, obs, Int.toNat_natCast, plL_set _ _ _ hiA, idxT h hx, obs, rstepT_ok, obs, ht, if_pos (by simp [outL]), obs]
   exact e
theorem legal_ok (h : List KO) (hn : h.length <= 20) (hv : validK [] h = true) (s : LS) (o : List Nat) (hl : Lin h 0#32 s o) : m_r25_Legal (h.map tO) s.1 s.2.1 s.2.2 (ofN o) = some true := by
 have hnd : o.Nodup := (lin_order (by omega) hl).imp fun h => h.1
 have hol := Nat.le_trans (lin_len h (by omega) o _ _ hl) (unp_le _ _)
 unfold m_r25_Legal
 rw [rvalid_ok _ (by simp; omega), oK_tO, hv, obs, if_pos rfl, mks_of (by simp; omega), obs]
 have e0 : List.replicate ((h.map tO).length : Int).toNat (0 : Int) = plL h.length [] := by
  apply List.ext_getElem?
  intro k
  by_cases hk : k < h.length
  ·rw [plL_get _ hk, List.getElem?_replicate]; simp [hk, plcL]
  ·rw [List.getElem?_eq_none (by simp; omega), List.getElem?_eq_none (by simp [plL]; omega)]
 rw [e0]
 refine legal_l1 h hn o (fun a b x y ha hb hx hy hbf => ?_) (fun k x hx => ?_) hnd (by omega) o [] forever 0#32 s rfl (by unfold forever; omega) hl
 ·unfold plcL
  rw [if_pos ha, if_pos hb]
  intro hlt
  have hp := lin_order (by omega) hl
  rw [List.pairwise_iff_getElem] at hp
  have hia := List.idxOf_lt_length_iff.2 ha
  have hib := List.idxOf_lt_length_iff.2 hb
  have := (hp (o.idxOf b) (o.idxOf a) hib hia (by omega)).2 y x (by rw [List.getElem_idxOf hib]; exact hy) (by rw [List.getElem_idxOf hia]; exact hx)
  rw [hbf] at this; cases this
 ·rcases lin_cover (by omega) hl k x hx with h1 | h1
  ·simp at h1
  ·exact h1
theorem order_ok (h : List KO) (hl : h.length <= 12) (hs : ∀ x ∈ h, smallK x) (hv : validK [] h = true) (s : LS) (hls : lenL s) :
  ∃ (o : List Nat) (b : Bool), m_linear_Order h s.1 s.2.1 s.2.2 = some (ofN o, b, 0) /\ (b = true -> Lin h 0#32 s o) /\ (b = false -> o = [] /\ ∀ o', ¬ Lin h 0#32 s o') := by
 obtain ⟨o, b, e, h1, h2⟩ := find_ok h (by omega) hs s hls
 unfold m_linear_Order
 rw [validK_ok h (by omega), hv, obs, if_pos rfl, if_neg (by omega), e, obs]
 cases b with
 | true =>
  obtain ⟨o', rfl, hl'⟩ := h1 rfl
  rw [if_pos rfl, slc_all, obs]
  exact ⟨o', true, rfl, fun _ => hl', fun h => (by cases h)⟩
 | false =>
  rw [if_neg (by simp)]
  exact ⟨[], false, rfl, fun h => (by cases h), fun _ => ⟨rfl, (h2 rfl).2⟩⟩
abbrev LRo := Sneedlestoreref25_State
def statesO : List LRo := [⟨false, 0#32, []⟩, ⟨true, 1#32, [1#8]⟩]
theorem orders_l5 (h : List KO) (hl : h.length <= 12) (hs : ∀ x ∈ h, smallK x) (hv : validK [] h = true) (hp : h.Pairwise pairK) (hc : ∀ x ∈ h, x.fCall <= endK x) : ∀ (B A : List LRo) (q : Nat), statesO = A ++ B -> B.length < q ->
  m_law25_LinearOrders_l5 q (h.map tO) (A.length : Int) = some true := by
 intro B
 induction B with
 | nil =>
  intro A q hr hq
  obtain ⟨q, rfl⟩ : ∃ q', q = q' + 1 := ⟨q - 1, by simp at hq; omega⟩
  unfold m_law25_LinearOrders_l5
  have hl2 : statesO.length = A.length := by rw [hr]; simp
  refine Eq.trans (if_neg fun h => ?_) ?_
  ·have h2 : (A.length : Int) < (statesO.length : Int) := h
   omega
  ·unfold m_law25_LinearOrders_j4; rw [awake_okL]; rfl
 | cons t B ih =>
  intro A q hr hq
  obtain ⟨q, rfl⟩ : ∃ q', q = q' + 1 := ⟨q - 1, by simp at hq; omega⟩
  have hlen : A.length < statesO.length := by rw [hr]; simp
  have hi : idx statesO (A.length : Int) = some t := by rw [idx_nat, hr]; simp
  have e := ih (A ++ [t]) q (by rw [hr]; simp) (by simp at hq; omega)
  rw [List.length_append, List.length_singleton] at e
  have hA : A.length < 2 := hlen
  have hlt : lenL (t.fHas, t.fCookie, t.fData) := by
   have : t ∈ statesO := by rw [hr]; simp
   simp only [statesO, List.mem_cons, List.not_mem_nil, or_false] at this
   rcases this with rfl | rfl
   ·exact Nat.zero_le _
   ·show ([1#8] : List (BitVec 8)).length <= 1000; simp
  obtain ⟨o, b, eo, h1, h2⟩ := order_ok h hl hs hv (t.fHas, t.fCookie, t.fData) hlt
  obtain ⟨b', eh, hb'⟩ := has_ok h (by omega) hs hp hc (t.fHas, t.fCookie, t.fData) hlt
  have hbb : b = b' := by
   rw [Bool.eq_iff_iff, hb']
   cases b with
   | true => exact ⟨fun _ => ⟨o, h1 rfl⟩, fun _ => rfl⟩
   | false => exact ⟨fun h => (by cases h), fun ⟨o', ho'⟩ => absurd ho' ((h2 rfl).2 o')⟩
  subst hbb
  unfold m_law25_LinearOrders_l5
  refine Eq.trans (if_pos (show (A.length : Int) < (statesO.length : Int) by omega)) ?_
  refine Eq.trans (congrArg (fun o => Option.bind o _) hi) ?_
  rw [obs, ops_ok _ (by simp; omega), obs, oK_tO]
  unfold m_law25_state
  rw [obs]
  refine Eq.trans (congrArg (fun o => Option.bind o _) eo) ?_
  rw [obs, if_pos rfl]
  refine Eq.trans (congrArg (fun o => Option.bind o _) eh) ?_
  rw [obs, if_pos rfl, ckK (by omega)]
  cases b with
  | true =>
   rw [if_pos rfl]
   refine Eq.trans (congrArg (fun o => Option.bind o _) (legal_ok h (by omega) hv (t.fHas, t.fCookie, t.fData) o (h1 rfl))) ?_
   rw [obs, if_pos rfl, if_pos rfl, obs]; exact e
  | false =>
   rw [(h2 rfl).1]
   rw [if_neg (by simp), if_neg (by simp), if_neg (by simp [ofN]), obs]; exact e
theorem orders_j3 (l : List LA) (places : List (BitVec 8)) (hpl : places.length <= 140737488351232) : m_law25_LinearOrders_j3 l places = some true := by
 obtain ⟨h, e, g1, g2, ⟨g4, g5⟩, g3⟩ := random_ok l places hpl
 unfold m_law25_LinearOrders_j3
 rw [e, obs]
 exact orders_l5 h (by omega) (fun x hx => by have := g3 x hx; exact ⟨by omega, by omega⟩) g2 g4 g5 statesO [] forever rfl (by unfold forever statesO; simp)
theorem orders_j1 (raw : List RO) (hr : raw.length <= 30) (hsm : ∀ y ∈ raw, y.fData.length <= 100 /\ y.fGot.length <= 100) (l : List LA) (places : List (BitVec 8)) (hpl : places.length <= 140737488351232) (s0 : Bool) (s1 : BitVec 32) (s2 : List (BitVec 8)) (h2 : s2.length <= 100) :
  m_law25_LinearOrders_j1 raw l places s0 s1 s2 (raw.length : Int) = some true := by
 have hs : ∀ x ∈ raw.map oK, smallK x := by
  intro x hx
  obtain ⟨y, hy, rfl⟩ := List.mem_map.1 hx
  have := hsm y hy
  exact ⟨by show y.fData.length <= 1000; omega, by show y.fGot.length <= 1000; omega⟩
 have hls : lenL (s0, s1, s2) := by show s2.length <= 1000; omega
 have j3 := orders_j3 l places hpl
 unfold m_law25_LinearOrders_j1 m_law25_state
 rw [ops_ok _ (by omega), obs, obs, rvalid_ok _ (by omega)]
 by_cases hv : validK [] (raw.map oK) = true
 ·by_cases h12 : raw.length <= 12
  ·obtain ⟨o, b, eo, _, _⟩ := order_ok (raw.map oK) (by simpa using h12) hs hv (s0, s1, s2) hls
   refine Eq.trans (congrArg (fun o => Option.bind o _) eo) ?_
   rw [obs, obs, if_pos hv, if_neg (by omega)]; exact j3
  ·have eo : m_linear_Order (raw.map oK) s0 s1 s2 = some ([], false, 9) := by
    unfold m_linear_Order
    rw [validK_ok _ (by simp; omega), hv, obs, if_pos rfl, if_pos (by simp; omega)]
   refine Eq.trans (congrArg (fun o => Option.bind o _) eo) ?_
   rw [obs, obs, if_pos hv, if_pos (by omega), if_pos rfl, if_neg (by simp), if_neg (by simp)]; exact j3
 ·have hv' : validK [] (raw.map oK) = false := by simpa using hv
  have eo : m_linear_Order (raw.map oK) s0 s1 s2 = some ([], false, 1) := by
   unfold m_linear_Order
   rw [validK_ok _ (by simp; omega), hv', obs, if_neg (by simp)]
  refine Eq.trans (congrArg (fun o => Option.bind o _) eo) ?_
  rw [obs, obs, if_neg hv, if_pos rfl, if_neg (by simp), if_neg (by simp)]; exact j3
theorem orders_l2 (raw : List RO) (hr : raw.length <= 30) (l : List LA) (places : List (BitVec 8)) (hpl : places.length <= 140737488351232) (s0 : Bool) (s1 : BitVec 32) (s2 : List (BitVec 8)) (h2 : s2.length <= 100) : ∀ (B A : List RO) (q : Nat), raw = A ++ B -> B.length < q -> (∀ y ∈ A, y.fData.length <= 100 /\ y.fGot.length <= 100) ->
  m_law25_LinearOrders_l2 raw l places s0 s1 s2 q (A.length : Int) (A.length : Int) = some true := by
 intro B
 induction B with
 | nil =>
  intro A q hA hq hs
  obtain ⟨q, rfl⟩ : ∃ q', q = q' + 1 := ⟨q - 1, by simp at hq; omega⟩
  unfold m_law25_LinearOrders_l2
  rw [if_neg (by rw [hA]; simp)]
  rw [List.append_nil] at hA; subst hA
  exact orders_j1 raw hr hs l places hpl s0 s1 s2 h2
 | cons y B ih =>
  intro A q hA hq hs
  obtain ⟨q, rfl⟩ : ∃ q', q = q' + 1 := ⟨q - 1, by simp at hq; omega⟩
  have hlen : A.length < raw.length := by rw [hA]; simp
  have hi : idx raw (A.length : Int) = some y := by rw [idx_nat, hA]; simp
  unfold m_law25_LinearOrders_l2
  rw [if_pos (by omega), hi, obs]
  by_cases c1 : 100 < y.fData.length
  ·rw [if_pos (by omega), awake_okL]; rfl
  ·rw [if_neg (by omega), obs]
   by_cases c2 : 100 < y.fGot.length
   ·rw [if_pos (by omega), awake_okL]; rfl
   ·rw [if_neg (by omega), ckK (by omega), obs, obs]
    have e := ih (A ++ [y]) q (by rw [hA]; simp) (by simp at hq; omega) (fun z hz => by
     rcases List.mem_append.1 hz with hz | hz
     ·exact hs z hz
     ·rw [List.mem_singleton.1 hz]; exact ⟨by omega, by omega⟩)
    rw [List.length_append, List.length_singleton] at e
    exact e
theorem ok_LinearOrders (raw : List RO) (l : List LA) (places : List (BitVec 8)) (s0 : Bool) (s1 : BitVec 32) (s2 : List (BitVec 8)) (hpl : places.length <= 140737488351232) : m_law25_LinearOrders raw l places s0 s1 s2 = some true := by
 unfold m_law25_LinearOrders
 by_cases h1 : 30 < raw.length
 ·rw [if_pos (by omega), awake_okL]; rfl
 ·rw [if_neg (by omega)]
  by_cases h2 : 100 < s2.length
  ·rw [if_pos (by omega), awake_okL]; rfl
  ·rw [if_neg (by omega)]
   unfold m_law25_LinearOrders_j0
   exact orders_l2 raw (by omega) l places hpl s0 s1 s2 (by omega) raw [] forever rfl (by unfold forever; omega) (by simp)
end Go.Proofs.Ytkcccenekglkoaa
