/-
 The package's search: it finds a linearization exactly if there is one. Conditions: the history's length, the lengths of the data, as each theorem says.
-/
import Derived.Test.YtkcccenekglkoaaLa
import Derived.Test.YtkcccenekglkoaaMdg
namespace Go.Proofs.Ytkcccenekglkoaa
set_option linter.unusedVariables false
set_option linter.unusedSimpArgs false
theorem bit_and (p : BitVec 32) (i : Nat) : (p >>> i) &&& 1#32 = if p.getLsbD i = true then 1#32 else 0#32 := by
 rw [BitVec.and_one_eq_setWidth_ofBool_getLsbD, BitVec.getLsbD_ushiftRight, Nat.add_zero]
 cases p.getLsbD i <;> rfl
theorem bit_set (p : BitVec 32) {i : Nat} (hi : i < 32) (j : Nat) : (p ||| 1#32 <<< i).getLsbD j = (p.getLsbD j || decide (j = i)) := by
 rw [BitVec.getLsbD_or, BitVec.getLsbD_shiftLeft, BitVec.getLsbD_one]
 congr 1
 by_cases h : j = i
 ·subst h; simp [hi]
 ·by_cases h2 : j < i
  ·simp [h2, h]
  ·have : ¬ j - i = 0 := by omega
   simp [this, h]
def unp (n : Nat) (p : BitVec 32) : Nat := (List.range n).countP fun i => !p.getLsbD i
theorem unp_set {p : BitVec 32} {i : Nat} (hi : i < 32) (hp : p.getLsbD i = false) : ∀ n, unp n (p ||| 1#32 <<< i) + (if i < n then 1 else 0) = unp n p := by
 intro n
 induction n with
 | zero => rfl
 | succ n ih =>
  have e : ∀ r : BitVec 32, unp (n + 1) r = unp n r + (if r.getLsbD n = true then 0 else 1) := by
   intro r
   unfold unp
   rw [List.range_succ, List.countP_append, List.countP_singleton]
   cases r.getLsbD n <;> rfl
  rw [e, e, bit_set p hi]
  by_cases h : n = i
  ·subst h
   rw [if_neg (Nat.lt_irrefl _)] at ih
   simp only [hp, decide_true, Bool.or_true, if_true, Bool.false_eq_true, if_false, Nat.lt_succ_self]; omega
  ·rw [decide_eq_false h, Bool.or_false]
   by_cases h2 : i < n
   ·rw [if_pos h2] at ih; rw [if_pos (show i < n + 1 by omega)]; omega
   ·rw [if_neg h2] at ih; rw [if_neg (show ¬ i < n + 1 by omega)]; omega
theorem unp_le (n : Nat) (p : BitVec 32) : unp n p <= n := by
 unfold unp
 have := List.countP_le_length (p := fun i => !p.getLsbD i) (l := List.range n)
 simpa using this
def Comp (h : List KO) (p : BitVec 32) : Prop := ∀ (i : Nat) x, h[i]? = some x -> p.getLsbD i = true ∨ dropL x = true
def May (h : List KO) (p : BitVec 32) (i : Nat) (x : KO) : Prop :=
 (∀ (j : Nat) y, h[j]? = some y -> (p.getLsbD j = true -> befK x y = false) /\ (p.getLsbD j = false -> j ≠ i -> dropL y = false -> befK y x = false)) /\ p.getLsbD i = false
inductive Lin (h : List KO) : BitVec 32 -> LS -> List Nat -> Prop
 | done {p : BitVec 32} {s : LS} : Comp h p -> Lin h p s []
 | step {p : BitVec 32} {s t : LS} {i : Nat} {x : KO} {o : List Nat} : h[i]? = some x -> stepL s x = some t -> May h p i x -> Lin h (p ||| 1#32 <<< i) t o -> Lin h p s (i :: o)
theorem drops_ok (x : KO) : m_linear_Drops x.fClient x.fKind x.fKey x.fCookie x.fData x.fGot x.fCall x.fReturn x.fClosed x.fResult = some (dropL x) := rfl
theorem shruN (p : BitVec 32) (i : Nat) : shru p (i : Int) = some (p >>> i) := by rw [shru_of (by omega), Int.toNat_natCast]
theorem comp_loop (h : List KO) (p : BitVec 32) (hl : h.length <= 1000) : ∀ (B A : List KO) (q : Nat), h = A ++ B -> B.length < q ->
  ∃ b, m_linear_complete_l1 h p q (A.length : Int) = some b /\ (b = true ↔ ∀ (i : Nat) x, A.length <= i -> h[i]? = some x -> p.getLsbD i = true ∨ dropL x = true) := by
 intro B
 induction B with
 | nil =>
  intro A q hr hq
  obtain ⟨q, rfl⟩ : ∃ q', q = q' + 1 := ⟨q - 1, by simp at hq; omega⟩
  unfold m_linear_complete_l1
  rw [if_neg (by rw [hr]; simp)]
  refine ⟨true, rfl, fun _ i x hi hx => ?_, fun _ => rfl⟩
  have := (List.getElem?_eq_some_iff.1 hx).1
  rw [hr] at this; simp at this; omega
 | cons y B ih =>
  intro A q hr hq
  obtain ⟨q, rfl⟩ : ∃ q', q = q' + 1 := ⟨q - 1, by simp at hq; omega⟩
  have hlen : A.length < h.length := by rw [hr]; simp
  have hg : h[A.length]? = some y := by rw [hr]; simp
  obtain ⟨b, e, hb⟩ := ih (A ++ [y]) q (by rw [hr]; simp) (by simp at hq; omega)
  rw [List.length_append, List.length_singleton] at e hb
  unfold m_linear_complete_l1
  rw [if_pos (by omega), idx_nat, hg, obs, shruN, obs, bit_and, drops_ok, ckK (by omega)]
  have fin : (p.getLsbD A.length = true ∨ dropL y = true) -> (b = true ↔ ∀ (i : Nat) x, A.length <= i -> h[i]? = some x -> p.getLsbD i = true ∨ dropL x = true) := by
   intro h0
   rw [hb]
   constructor
   ·intro h1 i x hi hx
    by_cases e : i = A.length
    ·subst e; rw [hg] at hx; injection hx with hx; subst hx; exact h0
    ·exact h1 i x (by omega) hx
   ·exact fun h1 i x hi hx => h1 i x (by omega) hx
  by_cases hp : p.getLsbD A.length = true
  ·rw [if_pos hp, if_neg (by decide), obs]
   exact ⟨b, e, fin (Or.inl hp)⟩
  ·rw [if_neg hp, if_pos rfl, obs]
   by_cases hd : dropL y = true
   ·rw [if_pos hd, obs]; exact ⟨b, e, fin (Or.inr hd)⟩
   ·rw [if_neg hd]
    refine ⟨false, rfl, fun h => (by cases h), fun h1 => ?_⟩
    rcases h1 A.length y (Nat.le_refl _) hg with h2 | h2
    ·exact absurd h2 hp
    ·exact absurd h2 hd
theorem comp_ok (h : List KO) (p : BitVec 32) (hl : h.length <= 1000) : ∃ b, m_linear_complete h p = some b /\ (b = true ↔ Comp h p) := by
 obtain ⟨b, e, hb⟩ := comp_loop h p hl h [] forever rfl (by unfold forever; omega)
 exact ⟨b, e, hb.trans ⟨fun h1 i x hx => h1 i x (Nat.zero_le _) hx, fun h1 i x _ hx => h1 i x hx⟩⟩
theorem may_loop (h : List KO) (p : BitVec 32) (i : Nat) (x : KO) (hx : h[i]? = some x) (hl : h.length <= 1000) : ∀ (B A : List KO) (q : Nat), h = A ++ B -> B.length < q ->
  ∃ b, m_linear_may_l1 h p (i : Int) q (A.length : Int) = some b /\ (b = true ↔ (∀ (j : Nat) y, A.length <= j -> h[j]? = some y -> (p.getLsbD j = true -> befK x y = false) /\ (p.getLsbD j = false -> j ≠ i -> dropL y = false -> befK y x = false)) /\ p.getLsbD i = false) := by
 intro B
 induction B with
 | nil =>
  intro A q hr hq
  obtain ⟨q, rfl⟩ : ∃ q', q = q' + 1 := ⟨q - 1, by simp at hq; omega⟩
  unfold m_linear_may_l1 m_linear_may_j0
  rw [if_neg (by rw [hr]; simp), shruN, obs, bit_and]
  refine ⟨_, rfl, ?_⟩
  cases hp : p.getLsbD i
  ·simp
   intro j y hj hy
   have := (List.getElem?_eq_some_iff.1 hy).1
   rw [hr] at this; simp at this; omega
  ·simp
 | cons y B ih =>
  intro A q hr hq
  obtain ⟨q, rfl⟩ : ∃ q', q = q' + 1 := ⟨q - 1, by simp at hq; omega⟩
  have hlen : A.length < h.length := by rw [hr]; simp
  have hg : h[A.length]? = some y := by rw [hr]; simp
  obtain ⟨b, e, hb⟩ := ih (A ++ [y]) q (by rw [hr]; simp) (by simp at hq; omega)
  rw [List.length_append, List.length_singleton] at e hb
  have fin : ((p.getLsbD A.length = true -> befK x y = false) /\ (p.getLsbD A.length = false -> A.length ≠ i -> dropL y = false -> befK y x = false)) -> (b = true ↔ (∀ (j : Nat) y, A.length <= j -> h[j]? = some y -> (p.getLsbD j = true -> befK x y = false) /\ (p.getLsbD j = false -> j ≠ i -> dropL y = false -> befK y x = false)) /\ p.getLsbD i = false) := by
   intro h0
   rw [hb]
   constructor
   ·rintro ⟨h1, h2⟩
    refine ⟨fun j z hj hz => ?_, h2⟩
    by_cases e : j = A.length
    ·subst e; rw [hg] at hz; injection hz with hz; subst hz; exact h0
    ·exact h1 j z (by omega) hz
   ·exact fun h1 => ⟨fun j z hj hz => h1.1 j z (by omega) hz, h1.2⟩
  have bad : ∀ {c : Prop}, ¬ ((p.getLsbD A.length = true -> befK x y = false) /\ (p.getLsbD A.length = false -> A.length ≠ i -> dropL y = false -> befK y x = false)) -> (false = true ↔ (∀ (j : Nat) y, A.length <= j -> h[j]? = some y -> (p.getLsbD j = true -> befK x y = false) /\ (p.getLsbD j = false -> j ≠ i -> dropL y = false -> befK y x = false)) /\ p.getLsbD i = false) := by
   intro c h0
   exact ⟨fun h => (by cases h), fun h1 => absurd (h1.1 A.length y (Nat.le_refl _) hg) h0⟩
  unfold m_linear_may_l1
  rw [if_pos (by omega), idx_nat, hg, obs, shruN, obs, bit_and, drops_ok, ckK (by omega), idx_nat, hx]
  by_cases hp : p.getLsbD A.length = true
  ·rw [if_pos hp, if_pos rfl, obs, befK_ok, obs]
   by_cases hf : befK x y = true
   ·rw [if_pos hf]
    exact ⟨false, rfl, bad (c := True) fun h => by have := h.1 hp; rw [hf] at this; cases this⟩
   ·rw [if_neg hf, obs]
    exact ⟨b, e, fin ⟨fun _ => by simpa using hf, fun h => by rw [hp] at h; cases h⟩⟩
  ·have hp' : p.getLsbD A.length = false := by simpa using hp
   rw [if_neg hp, if_neg (by decide)]
   by_cases hi : A.length = i
   ·rw [if_pos (by omega), obs]
    exact ⟨b, e, fin ⟨fun h => absurd h hp, fun _ h => absurd hi h⟩⟩
   ·rw [if_neg (by omega), obs]
    by_cases hd : dropL y = true
    ·rw [if_pos hd, obs]
     exact ⟨b, e, fin ⟨fun h => absurd h hp, fun _ _ h => by rw [hd] at h; cases h⟩⟩
    ·have hd' : dropL y = false := by simpa using hd
     rw [if_neg hd, obs, befK_ok, obs]
     by_cases hf : befK y x = true
     ·rw [if_pos hf]
      exact ⟨false, rfl, bad (c := True) fun h => by have := h.2 hp' hi hd'; rw [hf] at this; cases this⟩
     ·rw [if_neg hf, obs]
      exact ⟨b, e, fin ⟨fun h => absurd h hp, fun _ _ _ => by simpa using hf⟩⟩
theorem may_ok (h : List KO) (p : BitVec 32) (i : Nat) (x : KO) (hx : h[i]? = some x) (hl : h.length <= 1000) : ∃ b, m_linear_may h p (i : Int) = some b /\ (b = true ↔ May h p i x) := by
 obtain ⟨b, e, hb⟩ := may_loop h p i x hx hl h [] forever rfl (by unfold forever; omega)
 exact ⟨b, e, hb.trans ⟨fun h1 => ⟨fun j y hy => h1.1 j y (Nat.zero_le _) hy, h1.2⟩, fun h1 => ⟨fun j y _ hy => h1.1 j y hy, h1.2⟩⟩⟩
theorem mget_msetL {κ ν : Type} [BEq κ] [LawfulBEq κ] [DecidableEq κ] (m : List (κ × ν)) (k k' : κ) (v : ν) : mget (mset m k v) k' = if k' = k then some v else mget m k' := by
 induction m with
 | nil =>
  simp only [mset, mget]
  by_cases h : k' = k
  ·subst h; simp
  ·simp [h]
 | cons p m ih =>
  obtain ⟨a, w⟩ := p
  unfold mset
  by_cases h : k = a
  ·subst h
   rw [if_pos (by simp)]; unfold mget
   by_cases h2 : k' = k
   ·subst h2; simp
   ·simp [h2]
  ·rw [if_neg (by simpa using h)]; unfold mget
   by_cases h2 : k' = a
   ·subst h2; simp [Ne.symm h]
   ·have e : (k' == a) = false := by simpa using h2
    rw [e, ih]; simp
def Memo (h : List KO) (m : List (Slinear_point × Bool)) : Prop := ∀ pt, mget m pt = some true -> ∀ o, ¬ Lin h pt.fplaced (pt.fhas, pt.fcookie, pt.fdata) o
def ofN (o : List Nat) : List Int := o.map fun i : Nat => (i : Int)
def Found (h : List KO) (p : BitVec 32) (s : LS) (ord : List Int) (r : Option (Bool × List (Slinear_point × Bool) × List Int)) : Prop :=
 ∃ b m' ord', r = some (b, m', ord') /\ Memo h m' /\ (b = true -> ∃ o : List Nat, ord' = ord ++ ofN o /\ Lin h p s o) /\ (b = false -> ord' = ord /\ ∀ o, ¬ Lin h p s o)
theorem search_loop (h : List KO) (hn : h.length <= 31) (hs : ∀ x ∈ h, smallK x) (p : BitVec 32) (s : LS) (hls : lenL s) (hc : ¬ Comp h p) (ord : List Int) (ho : ord.length + unp h.length p <= 100) (rc0 : BitVec 32 -> Bool -> BitVec 32 -> List (BitVec 8) -> List KO -> List (Slinear_point × Bool) -> List Int -> Option (Bool × List (Slinear_point × Bool) × List Int))
  (ih : ∀ (i : Nat) (x : KO) (t : LS) (m : List (Slinear_point × Bool)), h[i]? = some x -> stepL s x = some t -> May h p i x -> Memo h m -> Found h (p ||| 1#32 <<< i) t (ord ++ [(i : Int)]) (rc0 (p ||| 1#32 <<< i) t.1 t.2.1 t.2.2 h m (ord ++ [(i : Int)]))) :
  ∀ (d i q : Nat) (m : List (Slinear_point × Bool)), i + d = h.length -> d < q -> Memo h m -> (∀ (j : Nat) o, j < i -> ¬ Lin h p s (j :: o)) ->
   Found h p s ord (m_linear_find_1_l1 p h s.1 s.2.1 s.2.2 rc0 q m ord (i : Int)) := by
 intro d
 induction d with
 | zero =>
  intro i q m hi hq hm hno
  obtain ⟨q, rfl⟩ : ∃ q', q = q' + 1 := ⟨q - 1, by omega⟩
  unfold m_linear_find_1_l1 m_linear_find_1_j0
  rw [if_neg (by omega)]
  have none_ : ∀ o, ¬ Lin h p s o := by
   intro o ho
   cases ho with
   | done c => exact hc c
   | step hx ht hm2 hl =>
    have := (List.getElem?_eq_some_iff.1 hx).1
    exact hno _ _ (by omega) (Lin.step hx ht hm2 hl)
  refine ⟨false, _, _, rfl, fun pt hpt => ?_, fun h => (by cases h), fun _ => ⟨rfl, none_⟩⟩
  rw [mget_msetL] at hpt
  split at hpt
  ·rename_i e; subst e; exact none_
  ·exact hm pt hpt
 | succ d ihd =>
  intro i q m hi hq hm hno
  obtain ⟨q, rfl⟩ : ∃ q', q = q' + 1 := ⟨q - 1, by omega⟩
  have hx : h[i]? = some h[i] := List.getElem?_eq_getElem (by omega)
  have hxs := hs h[i] (List.getElem_mem _)
  generalize h[i] = x at hx hxs
  have next : ∀ m', Memo h m' -> (∀ o, ¬ Lin h p s (i :: o)) -> Found h p s ord (m_linear_find_1_l1 p h s.1 s.2.1 s.2.2 rc0 q m' ord ((i + 1 : Nat) : Int)) := by
   intro m' hm' hno'
   refine ihd (i + 1) q m' (by omega) (by omega) hm' fun j o hj => ?_
   by_cases e : j = i
   ·subst e; exact hno' o
   ·exact hno j o (by omega)
  unfold m_linear_find_1_l1
  rw [if_pos (by omega), idx_nat, hx, obs, step_okL s x hls hxs, obs, ckK (by omega)]
  cases ht : stepL s x with
  | none =>
   rw [if_neg (by simp [outL]), obs]
   refine next m hm fun o ho => ?_
   cases ho with
   | step hx2 ht2 hm2 hl => rw [hx] at hx2; injection hx2 with hx2; subst hx2; rw [ht] at ht2; cases ht2
  | some t =>
   obtain ⟨b, eb, hb⟩ := may_ok h p i x hx (by omega)
   rw [if_pos (by simp [outL]), eb, obs]
   cases b with
   | false =>
    rw [if_neg (by simp), obs]
    refine next m hm fun o ho => ?_
    cases ho with
    | step hx2 ht2 hm2 hl =>
     rw [hx] at hx2; injection hx2 with hx2; subst hx2
     have := hb.2 hm2; cases this
   | true =>
    have hmay := hb.1 rfl
    rw [if_pos rfl]
    unfold m_linear_find_1_j2
    have hi32 : i < 32 := by omega
    rw [apd_of (by simp; omega), obs, shlu_of (by omega), obs, Int.toNat_natCast]
    obtain ⟨r, m', ord', er, hm', ht', hf'⟩ := ih i x t m hx ht hmay hm
    have er' : rc0 (p ||| 1#32 <<< i) (outL (some t)).1 (outL (some t)).2.1 (outL (some t)).2.2.1 h m (ord ++ [(i : Int)]) = some (r, m', ord') := er
    rw [er', obs]
    cases r with
    | true =>
     obtain ⟨o, eo, hl⟩ := ht' rfl
     rw [if_pos rfl]
     refine ⟨true, m', ord', rfl, hm', fun _ => ⟨i :: o, by rw [eo]; simp [ofN], Lin.step hx ht hmay hl⟩, fun h => by cases h⟩
    | false =>
     obtain ⟨eo, hno2⟩ := hf' rfl
     rw [if_neg (by simp)]
     subst eo
     rw [ck_of (by simp; omega), obs, slc_of ⟨by omega, by simp, by simp⟩, obs, ckK (by omega), obs]
     have e1 : ((ord ++ [(i : Int)]).drop (0 : Int).toNat).take ((((ord ++ [(i : Int)]).length : Int) - 1).toNat - (0 : Int).toNat) = ord := by simp
     rw [e1]
     refine next m' hm' fun o ho => ?_
     cases ho with
     | step hx2 ht2 hm2 hl =>
      rw [hx] at hx2; injection hx2 with hx2; subst hx2
      rw [ht] at ht2; injection ht2 with ht2; subst ht2
      exact hno2 o hl
theorem search_ok (h : List KO) (hn : h.length <= 31) (hs : ∀ x ∈ h, smallK x) : ∀ (k q : Nat) (p : BitVec 32) (s : LS) (m : List (Slinear_point × Bool)) (ord : List Int), unp h.length p <= k -> k < q -> lenL s -> Memo h m -> ord.length + unp h.length p <= 100 ->
  Found h p s ord (m_linear_find_1R q p s.1 s.2.1 s.2.2 h m ord) := by
 intro k
 induction k with
 | zero =>
  intro q p s m ord hu hq hls hm ho
  obtain ⟨q, rfl⟩ : ∃ q', q = q' + 1 := ⟨q - 1, by omega⟩
  show Found h p s ord (m_linear_find_1F (m_linear_find_1R q) p s.1 s.2.1 s.2.2 h m ord)
  unfold m_linear_find_1F
  split
  ·rename_i hg
   refine ⟨false, m, ord, rfl, hm, fun h => (by cases h), fun _ => ⟨rfl, ?_⟩⟩
   refine hm (Slinear_point.mk p s.1 s.2.1 s.2.2) ?_
   cases e : mget m (Slinear_point.mk p s.1 s.2.1 s.2.2) with
   | none => rw [e] at hg; cases hg
   | some v => rw [e] at hg; simp at hg; rw [hg]
  ·obtain ⟨b, eb, hb⟩ := comp_ok h p (by omega)
   rw [eb, obs]
   have hc : Comp h p := by
    intro i x hx
    have hi := (List.getElem?_eq_some_iff.1 hx).1
    left
    cases hp : p.getLsbD i with
    | true => rfl
    | false =>
     have : 0 < unp h.length p := by
      unfold unp
      rw [List.countP_pos_iff]
      exact ⟨i, by simpa using hi, by rw [hp]; rfl⟩
     omega
   rw [if_pos (hb.2 hc)]
   exact ⟨true, m, ord, rfl, hm, fun _ => ⟨[], by simp [ofN], Lin.done hc⟩, fun h => (by cases h)⟩
 | succ k ih =>
  intro q p s m ord hu hq hls hm ho
  obtain ⟨q, rfl⟩ : ∃ q', q = q' + 1 := ⟨q - 1, by omega⟩
  show Found h p s ord (m_linear_find_1F (m_linear_find_1R q) p s.1 s.2.1 s.2.2 h m ord)
  unfold m_linear_find_1F
  split
  ·rename_i hg
   refine ⟨false, m, ord, rfl, hm, fun h => (by cases h), fun _ => ⟨rfl, ?_⟩⟩
   refine hm (Slinear_point.mk p s.1 s.2.1 s.2.2) ?_
   cases e : mget m (Slinear_point.mk p s.1 s.2.1 s.2.2) with
   | none => rw [e] at hg; cases hg
   | some v => rw [e] at hg; simp at hg; rw [hg]
  ·obtain ⟨b, eb, hb⟩ := comp_ok h p (by omega)
   rw [eb, obs]
   cases b with
   | true =>
    rw [if_pos rfl]
    exact ⟨true, m, ord, rfl, hm, fun _ => ⟨[], by simp [ofN], Lin.done (hb.1 rfl)⟩, fun h => (by cases h)⟩
   | false =>
    rw [if_neg (by simp)]
    have hnc : ¬ Comp h p := fun c => by have := hb.2 c; cases this
    refine search_loop h hn hs p s hls hnc ord ho _ (fun i x t m' hx ht hmay hm' => ?_) h.length 0 forever m (by omega) (by unfold forever; omega) hm (fun j o hj => by omega)
    have hi := (List.getElem?_eq_some_iff.1 hx).1
    have e := unp_set (by omega) hmay.2 h.length
    rw [if_pos hi] at e
    exact ih q (p ||| 1#32 <<< i) t m' (ord ++ [(i : Int)]) (by omega) (by omega) (stepL_len hls (hs x (List.mem_of_getElem? hx)) ht) hm' (by simp; omega)
theorem find_ok (h : List KO) (hn : h.length <= 31) (hs : ∀ x ∈ h, smallK x) (s : LS) (hls : lenL s) :
  ∃ (o : List Int) (b : Bool), m_linear_find h s.1 s.2.1 s.2.2 = some (o, b) /\ (b = true -> ∃ o' : List Nat, o = ofN o' /\ Lin h 0#32 s o') /\ (b = false -> o = [] /\ ∀ o', ¬ Lin h 0#32 s o') := by
 have hu := unp_le h.length 0#32
 obtain ⟨b, m', ord', e, _, ht, hf⟩ := search_ok h hn hs 31 forever 0#32 s [] [] (by omega) (by unfold forever; omega) hls (fun pt h => by simp [mget] at h) (by simp; omega)
 refine ⟨ord', b, ?_, fun hb => ?_, fun hb => ?_⟩
 ·unfold m_linear_find m_linear_find_1
  rw [e, obs]
 ·obtain ⟨o, h1, h2⟩ := ht hb; exact ⟨o, by simpa using h1, h2⟩
 ·exact hf hb
end Go.Proofs.Ytkcccenekglkoaa
