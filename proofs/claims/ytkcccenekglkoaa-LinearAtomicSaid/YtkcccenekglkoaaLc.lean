/-
 Check, in terms of linearizations; the chapter's examples; LinearLate, LinearClosed. Conditions: as each theorem says.
-/
import Derived.Test.YtkcccenekglkoaaLb
import Derived.Test.YtkcccenekglkoaaMdi
namespace Go.Proofs.Ytkcccenekglkoaa
set_option linter.unusedVariables false
set_option linter.unusedSimpArgs false
def compI (p : BitVec 32) : List KO -> Nat -> Bool
 | [], _ => true
 | x :: l, i => (p.getLsbD i || dropL x) && compI p l (i + 1)
def mayI (x : KO) (i : Nat) (p : BitVec 32) : List KO -> Nat -> Bool
 | [], _ => true
 | y :: l, j => (if p.getLsbD j = true then !befK x y else (decide (j = i) || dropL y || !befK y x)) && mayI x i p l (j + 1)
def anyI (f : KO -> Nat -> Bool) : List KO -> Nat -> Bool
 | [], _ => false
 | x :: l, i => f x i || anyI f l (i + 1)
def srch (h : List KO) : Nat -> BitVec 32 -> LS -> Bool
 | 0, p, s => compI p h 0
 | n + 1, p, s => compI p h 0 || anyI (fun x i => mayI x i p h 0 && !p.getLsbD i && (match stepL s x with | some t => srch h n (p ||| 1#32 <<< i) t | none => false)) h 0
theorem compI_iff (p : BitVec 32) : ∀ (l : List KO) (i : Nat), compI p l i = true ↔ ∀ (j : Nat) x, l[j]? = some x -> p.getLsbD (i + j) = true ∨ dropL x = true := by
 intro l
 induction l with
 | nil => intro i; simp [compI]
 | cons y l ih =>
  intro i
  unfold compI
  rw [Bool.and_eq_true, Bool.or_eq_true, ih]
  constructor
  ·rintro ⟨h1, h2⟩ j x hx
   cases j with
   | zero => simp at hx; subst hx; exact h1
   | succ j => have := h2 j x (by simpa using hx); rwa [Nat.add_right_comm i 1 j, Nat.add_assoc] at this
  ·intro h1
   refine ⟨h1 0 y rfl, fun j x hx => ?_⟩
   have := h1 (j + 1) x (by simpa using hx)
   rwa [Nat.add_right_comm i 1 j, Nat.add_assoc]
theorem mayI_iff (x : KO) (i : Nat) (p : BitVec 32) : ∀ (l : List KO) (k : Nat), mayI x i p l k = true ↔ ∀ (j : Nat) y, l[j]? = some y -> (p.getLsbD (k + j) = true -> befK x y = false) /\ (p.getLsbD (k + j) = false -> k + j ≠ i -> dropL y = false -> befK y x = false) := by
 intro l
 induction l with
 | nil => intro k; simp [mayI]
 | cons z l ih =>
  intro k
  have e : (if p.getLsbD k = true then !befK x z else (decide (k = i) || dropL z || !befK z x)) = true ↔ (p.getLsbD k = true -> befK x z = false) /\ (p.getLsbD k = false -> k ≠ i -> dropL z = false -> befK z x = false) := by
   cases hp : p.getLsbD k
   ·simp
    by_cases hk : k = i
    ·simp [hk]
    ·cases dropL z <;> simp [hk]
   ·simp
  unfold mayI
  rw [Bool.and_eq_true, e, ih]
  constructor
  ·rintro ⟨h1, h2⟩ j y hy
   cases j with
   | zero => simp at hy; subst hy; exact h1
   | succ j => have := h2 j y (by simpa using hy); rwa [Nat.add_right_comm k 1 j, Nat.add_assoc] at this
  ·intro h1
   refine ⟨h1 0 z rfl, fun j y hy => ?_⟩
   have := h1 (j + 1) y (by simpa using hy)
   rwa [Nat.add_right_comm k 1 j, Nat.add_assoc]
theorem anyI_iff (f : KO -> Nat -> Bool) : ∀ (l : List KO) (k : Nat), anyI f l k = true ↔ ∃ (j : Nat) (x : KO), l[j]? = some x /\ f x (k + j) = true := by
 intro l
 induction l with
 | nil => intro k; simp [anyI]
 | cons z l ih =>
  intro k
  unfold anyI
  rw [Bool.or_eq_true, ih]
  constructor
  ·rintro (h1 | ⟨j, x, h1, h2⟩)
   ·exact ⟨0, z, rfl, h1⟩
   ·exact ⟨j + 1, x, by simpa using h1, by rwa [Nat.add_right_comm k 1 j, Nat.add_assoc] at h2⟩
  ·rintro ⟨j, x, h1, h2⟩
   cases j with
   | zero => simp at h1; subst h1; exact Or.inl h2
   | succ j => exact Or.inr ⟨j, x, by simpa using h1, by rwa [Nat.add_right_comm k 1 j, Nat.add_assoc]⟩
theorem compI_ok (h : List KO) (p : BitVec 32) : compI p h 0 = true ↔ Comp h p := by rw [compI_iff]; simp only [Nat.zero_add]; rfl
theorem mayI_ok (h : List KO) (p : BitVec 32) (i : Nat) (x : KO) : (mayI x i p h 0 && !p.getLsbD i) = true ↔ May h p i x := by
 rw [Bool.and_eq_true, mayI_iff]; simp only [Nat.zero_add]; unfold May
 rw [Bool.not_eq_true']
theorem srch_lin (h : List KO) : ∀ (n : Nat) (p : BitVec 32) (s : LS), srch h n p s = true -> ∃ o, Lin h p s o := by
 intro n
 induction n with
 | zero => intro p s hs; exact ⟨[], Lin.done ((compI_ok h p).1 hs)⟩
 | succ n ih =>
  intro p s hs
  unfold srch at hs
  rw [Bool.or_eq_true] at hs
  rcases hs with hs | hs
  ·exact ⟨[], Lin.done ((compI_ok h p).1 hs)⟩
  ·obtain ⟨j, x, hx, hf⟩ := (anyI_iff _ h 0).1 hs
   rw [Nat.zero_add, Bool.and_eq_true] at hf
   cases ht : stepL s x with
   | none => rw [ht] at hf; cases hf.2
   | some t =>
    rw [ht] at hf
    obtain ⟨o, ho⟩ := ih _ _ hf.2
    exact ⟨j :: o, Lin.step hx ht ((mayI_ok h p j x).1 hf.1) ho⟩
theorem lin_srch (h : List KO) : ∀ (o : List Nat) (n : Nat) (p : BitVec 32) (s : LS), Lin h p s o -> o.length <= n -> srch h n p s = true := by
 intro o
 induction o with
 | nil =>
  intro n p s hl _
  cases hl with
  | done c =>
   cases n with
   | zero => exact (compI_ok h p).2 c
   | succ n => unfold srch; rw [(compI_ok h p).2 c]; rfl
 | cons i o ih =>
  intro n p s hl hn
  cases hl with
  | step hx ht hm hl =>
   obtain ⟨n, rfl⟩ : ∃ n', n = n' + 1 := ⟨n - 1, by simp at hn; omega⟩
   unfold srch
   rw [Bool.or_eq_true]
   right
   refine (anyI_iff _ h 0).2 ⟨i, _, hx, ?_⟩
   rw [Nat.zero_add, Bool.and_eq_true, ht]
   exact ⟨(mayI_ok h p i _).2 hm, ih n _ _ hl (by simp at hn; omega)⟩
theorem lin_len (h : List KO) (hn : h.length <= 31) : ∀ (o : List Nat) (p : BitVec 32) (s : LS), Lin h p s o -> o.length <= unp h.length p := by
 intro o
 induction o with
 | nil => intro p s _; exact Nat.zero_le _
 | cons i o ih =>
  intro p s hl
  cases hl with
  | step hx ht hm hl =>
   have hi := (List.getElem?_eq_some_iff.1 hx).1
   have e := unp_set (by omega) hm.2 h.length
   rw [if_pos hi] at e
   have := ih _ _ hl
   simp; omega
theorem srch_iff (h : List KO) (hn : h.length <= 31) (s : LS) : srch h h.length 0#32 s = true ↔ ∃ o, Lin h 0#32 s o :=
 ⟨srch_lin h _ _ _, fun ⟨o, ho⟩ => lin_srch h o _ _ _ ho (Nat.le_trans (lin_len h hn o _ _ ho) (unp_le _ _))⟩
theorem check_l3 (h : List KO) (ks : List (BitVec 64)) (hl : h.length < 50) (hs : ∀ x ∈ h, smallK x) (h12 : ∀ k, (onlyK h k).length <= 12) (hks : ks.length <= 1000) : ∀ (B A : List (BitVec 64)) (q : Nat), ks = A ++ B -> B.length < q ->
  ∃ r, m_linear_Check_l3 h ks q (A.length : Int) = some (r, 0) /\ (r = true ↔ ∀ k ∈ B, ∃ o, Lin (onlyK h k) 0#32 zeroL o) := by
 intro B
 induction B with
 | nil =>
  intro A q hr hq
  obtain ⟨q, rfl⟩ : ∃ q', q = q' + 1 := ⟨q - 1, by simp at hq; omega⟩
  unfold m_linear_Check_l3
  rw [if_neg (by rw [hr]; simp)]
  exact ⟨true, rfl, fun _ k hk => by simp at hk, fun _ => rfl⟩
 | cons k B ih =>
  intro A q hr hq
  obtain ⟨q, rfl⟩ : ∃ q', q = q' + 1 := ⟨q - 1, by simp at hq; omega⟩
  have hlen : A.length < ks.length := by rw [hr]; simp
  have hi : idx ks (A.length : Int) = some k := by rw [idx_nat, hr]; simp
  obtain ⟨r, e, he⟩ := ih (A ++ [k]) q (by rw [hr]; simp) (by simp at hq; omega)
  rw [List.length_append, List.length_singleton] at e
  have h0 := h12 k
  obtain ⟨o, b, eb, hb1, hb2⟩ := find_ok (onlyK h k) (by omega) (fun x hx => hs x (List.mem_filter.1 hx).1) zeroL (Nat.zero_le _)
  have eb' : m_linear_find (onlyK h k) false 0#32 ([] : List (BitVec 8)) = some (o, b) := eb
  unfold m_linear_Check_l3
  rw [if_pos (by omega), hi, obs, only_ok h k (by omega) hs, obs, eb', obs]
  cases b with
  | true =>
   rw [if_pos rfl, ckK (by omega), obs]
   obtain ⟨o', _, hl'⟩ := hb1 rfl
   refine ⟨r, e, he.trans ⟨fun h1 k' hk' => ?_, fun h1 k' hk' => h1 k' (List.mem_cons_of_mem _ hk')⟩⟩
   rcases List.mem_cons.1 hk' with rfl | hk'
   ·exact ⟨o', hl'⟩
   ·exact h1 k' hk'
  | false =>
   rw [if_neg (by simp)]
   refine ⟨false, rfl, fun h => (by cases h), fun h1 => ?_⟩
   obtain ⟨o', ho⟩ := h1 k (List.mem_cons_self ..)
   exact absurd ho ((hb2 rfl).2 o')
theorem check_l1 (h : List KO) (ks : List (BitVec 64)) (hl : h.length < 50) (hs : ∀ x ∈ h, smallK x) (h12 : ∀ k, (onlyK h k).length <= 12) (hks : ks.length <= 1000) : ∀ (B A : List (BitVec 64)) (q : Nat), ks = A ++ B -> B.length < q ->
  m_linear_Check_l1 h ks q (A.length : Int) = m_linear_Check_j0 h ks := by
 intro B
 induction B with
 | nil =>
  intro A q hr hq
  obtain ⟨q, rfl⟩ : ∃ q', q = q' + 1 := ⟨q - 1, by simp at hq; omega⟩
  unfold m_linear_Check_l1
  rw [if_neg (by rw [hr]; simp)]
 | cons k B ih =>
  intro A q hr hq
  obtain ⟨q, rfl⟩ : ∃ q', q = q' + 1 := ⟨q - 1, by simp at hq; omega⟩
  have hlen : A.length < ks.length := by rw [hr]; simp
  have hi : idx ks (A.length : Int) = some k := by rw [idx_nat, hr]; simp
  have e := ih (A ++ [k]) q (by rw [hr]; simp) (by simp at hq; omega)
  rw [List.length_append, List.length_singleton] at e
  have h0 := h12 k
  unfold m_linear_Check_l1
  rw [if_pos (by omega), hi, obs, only_ok h k (by omega) hs, obs, if_neg (by omega), ckK (by omega), obs]
  exact e
theorem check_ok (h : List KO) (hl : h.length < 50) (hs : ∀ x ∈ h, smallK x) (hv : validK [] h = true) (h12 : ∀ k, (onlyK h k).length <= 12) :
  ∃ r, m_linear_Check h = some (r, 0) /\ (r = true ↔ ∀ k ∈ h.map (·.fKey), ∃ o, Lin (onlyK h k) 0#32 zeroL o) := by
 obtain ⟨ks, ek, hD, hkl⟩ := keys_ok h hl
 unfold m_linear_Check
 rw [validK_ok h (by omega), hv, obs, if_pos rfl, ek, obs]
 have e1 := check_l1 h ks hl hs h12 (by omega) ks [] forever rfl (by unfold forever; omega)
 obtain ⟨r, e2, he⟩ := check_l3 h ks hl hs h12 (by omega) ks [] forever rfl (by unfold forever; omega)
 refine ⟨r, ?_, he.trans ⟨fun h1 k hk => h1 k ((hD.2 k).2 hk), fun h1 k hk => h1 k ((hD.2 k).1 hk)⟩⟩
 refine Eq.trans e1 ?_
 unfold m_linear_Check_j0
 exact e2
theorem check_one (h : List KO) (hl : h.length <= 12) (hne : h ≠ []) (hs : ∀ x ∈ h, smallK x) (hv : validK [] h = true) (k : BitVec 64) (hk : ∀ x ∈ h, x.fKey = k) : m_linear_Check h = some (srch h h.length 0#32 zeroL, 0) := by
 have h12 : ∀ k, (onlyK h k).length <= 12 := fun k => Nat.le_trans (List.length_filter_le _ _) hl
 obtain ⟨r, e, he⟩ := check_ok h (by omega) hs hv h12
 have eo : onlyK h k = h := List.filter_eq_self.2 fun x hx => decide_eq_true (hk x hx)
 rw [e]
 congr 2
 rw [Bool.eq_iff_iff, srch_iff h (by omega), he]
 constructor
 ·intro h1
  obtain ⟨x, l, rfl⟩ := List.exists_cons_of_ne_nil hne
  have := h1 k (by rw [<- hk x (List.mem_cons_self ..)]; simp)
  rwa [eo] at this
 ·intro h1 k' hk'
  obtain ⟨x, hx, rfl⟩ := List.mem_map.1 hk'
  rw [hk x hx, eo]; exact h1
theorem awake_okL : m_law25_awake = some true := by
 unfold m_law25_awake
 have e0 : m_linear_Check ([] : List KO) = some (true, 0) := by
  obtain ⟨r, e, he⟩ := check_ok [] (by simp) (by simp) rfl (fun k => by simp [onlyK])
  rw [e, he.2 (by simp)]
 rw [e0, obs]
 rw [check_one _ (by simp) (by simp) (by simp [smallK]) (by decide) 0#64 (by simp), obs]
 rw [check_one _ (by simp) (by simp) (by simp [smallK]) (by decide) 0#64 (by simp), obs]
 decide
end Go.Proofs.Ytkcccenekglkoaa
