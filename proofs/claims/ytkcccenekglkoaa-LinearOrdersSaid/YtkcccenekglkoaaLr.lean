/-
 The histories that the statements draw: random's. Conditions: the number of places, as the theorem says.
-/
import Derived.Test.YtkcccenekglkoaaHy
import Derived.Test.YtkcccenekglkoaaMdi
namespace Go.Proofs.Ytkcccenekglkoaa
set_option linter.unusedVariables false
set_option linter.unusedSimpArgs false
abbrev LA := Sneedlestorelaw25_Act
theorem andiN (m : Int) (b : Nat) (hb : b < 1000) : 0 <= andi m (b : Int) /\ andi m (b : Int) <= b := by
 have e0 : (BitVec.ofInt 64 (b : Int)).toNat = b := by
  rw [BitVec.toNat_ofInt]; omega
 have h : (BitVec.ofInt 64 m &&& BitVec.ofInt 64 (b : Int)).toNat <= b := by
  rw [BitVec.toNat_and]; exact Nat.le_trans Nat.and_le_right (by omega)
 have e : andi m (b : Int) = ((BitVec.ofInt 64 m &&& BitVec.ofInt 64 (b : Int)).toNat : Int) := BitVec.toInt_eq_toNat_of_lt (by omega)
 omega
def okA (a : LA) : Prop := (0 <= a.fClient /\ a.fClient <= 2) /\ 1 <= a.fKind /\ a.fKind <= 3
theorem short_loop (l : List LA) (most : Nat) (hm : most <= 100) : ∀ (d i q : Nat) (out : List LA), i + d = most -> d < q -> out.length = i -> (∀ a ∈ out, okA a) ->
  ∃ r, m_law25_short_l1 l (most : Int) q out (i : Int) = some r /\ r.length <= most /\ ∀ a ∈ r, okA a := by
 intro d
 induction d with
 | zero =>
  intro i q out hi hq ho hk
  obtain ⟨q, rfl⟩ : ∃ q', q = q' + 1 := ⟨q - 1, by omega⟩
  unfold m_law25_short_l1 m_law25_short_j0
  by_cases h : i < l.length
  ·rw [if_pos (by omega), if_neg (by omega)]; exact ⟨out, rfl, by omega, hk⟩
  ·rw [if_neg (by omega)]; exact ⟨out, rfl, by omega, hk⟩
 | succ d ih =>
  intro i q out hi hq ho hk
  obtain ⟨q, rfl⟩ : ∃ q', q = q' + 1 := ⟨q - 1, by omega⟩
  unfold m_law25_short_l1
  by_cases h : i < l.length
  ·rw [if_pos (by omega), if_pos (by omega)]
   unfold m_law25_short_j2
   have a1 : 0 <= andi l[i].fClient 3 /\ andi l[i].fClient 3 <= 3 := andiN l[i].fClient 3 (by omega)
   have a2 : 0 <= andi l[i].fKind 3 /\ andi l[i].fKind 3 <= 3 := andiN l[i].fKind 3 (by omega)
   have r1 : rmi (andi l[i].fClient 3) 3 = some (andi l[i].fClient 3 % 3) := rmi_of a1.1 (by omega)
   have r2 : rmi (andi l[i].fKind 3) 3 = some (andi l[i].fKind 3 % 3) := rmi_of a2.1 (by omega)
   rw [idx_nat, List.getElem?_eq_getElem h, obs, r1, obs, r2, obs, ck_of (by omega), obs, apd_of (by simp; omega), obs, ckK (by omega), obs]
   refine ih (i + 1) q _ (by omega) (by omega) (by simp; omega) fun a ha => ?_
   rcases List.mem_append.1 ha with ha | ha
   ·exact hk a ha
   ·rw [List.mem_singleton.1 ha]; refine ⟨⟨?_, ?_⟩, ?_, ?_⟩ <;> dsimp only <;> omega
  ·unfold m_law25_short_j0
   rw [if_neg (by omega)]; exact ⟨out, rfl, by omega, hk⟩
theorem short_ok (l : List LA) (most : Nat) (hm : most <= 100) : ∃ r, m_law25_short l (most : Int) = some r /\ r.length <= most /\ ∀ a ∈ r, okA a :=
 short_loop l most hm most 0 forever [] (by omega) (by unfold forever; omega) rfl (by simp)
theorem mget_mem {ν : Type} {m : List (Int × ν)} {c : Int} {v : ν} (h : mget m c = some v) : (c, v) ∈ m := by
 induction m with
 | nil => simp [mget] at h
 | cons p m ih =>
  obtain ⟨a, w⟩ := p
  unfold mget at h
  by_cases e : c = a
  ·subst e; rw [if_pos (by simp)] at h; injection h with h; subst h; exact List.mem_cons_self ..
  ·rw [if_neg (by simpa using e)] at h; exact List.mem_cons_of_mem _ (ih h)
theorem mget_none {ν : Type} {m : List (Int × ν)} {c : Int} (h : mget m c = none) : ∀ v, (c, v) ∉ m := by
 induction m with
 | nil => intro v hv; simp at hv
 | cons p m ih =>
  obtain ⟨a, w⟩ := p
  unfold mget at h
  by_cases e : c = a
  ·subst e; rw [if_pos (by simp)] at h; cases h
  ·rw [if_neg (by simpa using e)] at h
   intro v hv
   rcases List.mem_cons.1 hv with hv | hv
   ·injection hv with h1 h2; exact e h1
   ·exact ih h v hv
theorem mem_mset {ν : Type} {m : List (Int × ν)} {c : Int} {v : ν} {x : Int × ν} (h : x ∈ mset m c v) : x ∈ m ∨ x = (c, v) := by
 induction m with
 | nil => right; simpa [mset] using h
 | cons p m ih =>
  obtain ⟨a, w⟩ := p
  unfold mset at h
  split at h
  ·rcases List.mem_cons.1 h with h | h
   ·right; exact h
   ·left; exact List.mem_cons_of_mem _ h
  ·rcases List.mem_cons.1 h with h | h
   ·left; rw [h]; exact List.mem_cons_self ..
   ·rcases ih h with h | h
    ·left; exact List.mem_cons_of_mem _ h
    ·right; exact h
theorem len_mset {ν : Type} {m : List (Int × ν)} {c : Int} {v : ν} (h : mget m c = none) : (mset m c v).length = m.length + 1 := by
 induction m with
 | nil => rfl
 | cons p m ih =>
  obtain ⟨a, w⟩ := p
  unfold mget at h
  by_cases e : c = a
  ·subst e; rw [if_pos (by simp)] at h; cases h
  ·rw [if_neg (by simpa using e)] at h
   unfold mset
   rw [if_neg (by simpa using e), List.length_cons, ih h, List.length_cons]
theorem mem_mdel {ν : Type} {m : List (Int × ν)} {c : Int} {x : Int × ν} (h : x ∈ mdel m c) : x ∈ m := by
 induction m with
 | nil => simp [mdel] at h
 | cons p m ih =>
  obtain ⟨a, w⟩ := p
  unfold mdel at h
  split at h
  ·exact List.mem_cons_of_mem _ h
  ·rcases List.mem_cons.1 h with h | h
   ·rw [h]; exact List.mem_cons_self ..
   ·exact List.mem_cons_of_mem _ (ih h)
theorem len_mdel {ν : Type} {m : List (Int × ν)} {c : Int} {v : ν} (h : mget m c = some v) : (mdel m c).length + 1 = m.length := by
 induction m with
 | nil => simp [mget] at h
 | cons p m ih =>
  obtain ⟨a, w⟩ := p
  unfold mget at h
  unfold mdel
  by_cases e : c = a
  ·subst e; rw [if_pos (by simp)]; rfl
  ·rw [if_neg (by simpa using e)] at h ⊢
   rw [List.length_cons, ih h, List.length_cons]
structure RI (K : Nat) (next : List (Int × Int)) (ev : List RE) (i : Nat) : Prop where
 keys : ∀ c j, (c, j) ∈ next -> (0 <= c /\ c <= 2) /\ 0 <= j /\ j < (K : Int)
 dat : ∀ e ∈ ev, e.fData.length <= 1
 calls : cAll ev <= i
 len : ev.length + next.length <= 2 * i
 le : i <= K
theorem cAll_snoc (ev : List RE) (e : RE) : cAll (ev ++ [e]) = cAll ev + if e.fKind = 1 then 1 else 0 := by
 unfold cAll; simp [List.countP_append, List.countP_cons]
theorem ri_less {K : Nat} {next next' : List (Int × Int)} {ev : List RE} {i : Nat} {e : RE} (h : RI K next ev i) (hs : ∀ x ∈ next', x ∈ next) (hl : next'.length + 1 <= next.length) (hk : e.fKind ≠ 1) (hd : e.fData.length <= 1) : RI K next' (ev ++ [e]) i := by
 refine ⟨fun c j hm => h.keys c j (hs _ hm), fun x hx => ?_, ?_, ?_, h.le⟩
 ·rcases List.mem_append.1 hx with hx | hx
  ·exact h.dat x hx
  ·rw [List.mem_singleton.1 hx]; exact hd
 ·rw [cAll_snoc, if_neg hk]; exact h.calls
 ·have := h.len; simp; omega
theorem rnd_l6 (k : List LA) (hk : k.length <= 100) (next : List (Int × Int)) (ev : List RE) (i : Nat) (p x50 : Int) (c0 : Nat) (hc0 : c0 <= 2) (r1 : List (Int × Int) -> List RE -> Int -> Int -> Option (List RO)) (h : RI k.length next ev i) :
  ∀ (d n q : Nat), n + d = 3 -> d < q -> (∀ m : Nat, m < n -> mget next (((c0 + m) % 3 : Nat) : Int) = none) ->
   ∃ next' ev', m_law25_random_l6 k next ev (i : Int) x50 p (c0 : Int) r1 q (n : Int) = r1 next' ev' p (i : Int) /\ RI k.length next' ev' i /\ next'.length <= next.length /\ (next ≠ [] -> next'.length < next.length) := by
 intro d
 induction d with
 | zero =>
  intro n q hn hq hno
  obtain ⟨q, rfl⟩ : ∃ q', q = q' + 1 := ⟨q - 1, by omega⟩
  unfold m_law25_random_l6
  rw [if_neg (by omega)]
  refine ⟨next, ev, rfl, h, Nat.le_refl _, fun hne => ?_⟩
  exfalso
  obtain ⟨⟨c, j⟩, l, rfl⟩ := List.exists_cons_of_ne_nil hne
  obtain ⟨⟨h1, h2⟩, _⟩ := h.keys c j (List.mem_cons_self ..)
  have : ∃ m : Nat, m < 3 /\ (((c0 + m) % 3 : Nat) : Int) = c := ⟨(c.toNat + 3 - c0) % 3, by omega, by omega⟩
  obtain ⟨m, hm, e⟩ := this
  exact mget_none (hno m (by omega)) j (by rw [e]; exact List.mem_cons_self ..)
 | succ d ih =>
  intro n q hn hq hno
  obtain ⟨q, rfl⟩ : ∃ q', q = q' + 1 := ⟨q - 1, by omega⟩
  unfold m_law25_random_l6
  have er : rmi ((c0 + n : Nat) : Int) 3 = some (((c0 + n) % 3 : Nat) : Int) := by rw [rmi_of (by omega) (by omega)]; congr 1
  rw [if_pos (by omega), ck_of (by omega), obs, show (c0 : Int) + (n : Int) = ((c0 + n : Nat) : Int) by omega, er, obs]
  cases hg : mget next (((c0 + n) % 3 : Nat) : Int) with
  | none =>
   rw [if_neg (by simp), ckK (by omega), obs]
   refine ih (n + 1) q (by omega) (by omega) fun m hm => ?_
   by_cases e : m = n
   ·subst e; exact hg
   ·exact hno m (by omega)
  | some j =>
   obtain ⟨_, hj1, hj2⟩ := h.keys _ _ (mget_mem hg)
   obtain ⟨jn, rfl⟩ : ∃ jn : Nat, j = (jn : Int) := ⟨j.toNat, by omega⟩
   have hjl : jn < k.length := by omega
   have hne : next ≠ [] := fun e => by rw [e] at hg; simp [mget] at hg
   have hln : 1 <= next.length := by cases next with | nil => exact absurd rfl hne | cons _ _ => simp
   have hlen := h.len
   have hle := h.le
   have j7 : ∀ b, ∃ next' ev', m_law25_random_j7 k next ev (i : Int) p (((c0 + n) % 3 : Nat) : Int) r1 b = r1 next' ev' p (i : Int) /\ RI k.length next' ev' i /\ next'.length < next.length := by
    intro b
    unfold m_law25_random_j7
    cases b with
    | true =>
     rw [if_pos rfl, apd_of (by simp; omega), obs]
     exact ⟨[], _, rfl, ri_less h (by simp) (by simp; omega) (by decide) (by decide), by simp; omega⟩
    | false =>
     rw [if_neg (by simp), hg, Option.getD_some, idx_nat, List.getElem?_eq_getElem hjl, obs]
     have a7 : 0 <= andi k[jn].fResult 7 /\ andi k[jn].fResult 7 <= 7 := andiN k[jn].fResult 7 (by omega)
     obtain ⟨r, hr⟩ : ∃ r, idx ([0, 0, 6, 6, 11, 9, 10, 8] : List Int) (andi k[jn].fResult 7) = some r := by
      obtain ⟨z, hz⟩ : ∃ z : Nat, andi k[jn].fResult 7 = (z : Int) := ⟨(andi k[jn].fResult 7).toNat, by have := a7.1; exact (Int.toNat_of_nonneg this).symm⟩
      rw [hz, idx_nat]
      exact ⟨_, List.getElem?_eq_getElem (by have := a7.2; simp; omega)⟩
     rw [hr, obs, obs, apd_of (by simp; omega), obs]
     have := len_mdel hg
     exact ⟨_, _, rfl, ri_less h (fun x hx => mem_mdel hx) (by omega) (show (2 : Int) ≠ 1 by decide) (by simp), by omega⟩
   rw [if_pos (by simp), Option.getD_some, idx_nat, List.getElem?_eq_getElem hjl, obs]
   split
   ·obtain ⟨next', ev', e, hI, hlt⟩ := j7 (decide ((0 : Int) < (andi x50 (64 : Int))))
    exact ⟨next', ev', e, hI, by omega, fun _ => hlt⟩
   ·obtain ⟨next', ev', e, hI, hlt⟩ := j7 false
    exact ⟨next', ev', e, hI, by omega, fun _ => hlt⟩
theorem rnd_j4 (k : List LA) (hk : k.length <= 100) (next : List (Int × Int)) (ev : List RE) (i : Nat) (p : Int) (x50 : Nat) (r1 : List (Int × Int) -> List RE -> Int -> Int -> Option (List RO)) (h : RI k.length next ev i) :
  ∃ next' ev', m_law25_random_j4 k next ev (i : Int) (x50 : Int) p r1 = r1 next' ev' p (i : Int) /\ RI k.length next' ev' i /\ next'.length <= next.length /\ (next ≠ [] -> next'.length < next.length) := by
 unfold m_law25_random_j4
 have e1 : shri (x50 : Int) (1 : Nat) = some ((x50 / 2 : Nat) : Int) := by
  unfold shri; rw [if_pos (by omega)]; congr 1
 have e2 : rmi ((x50 / 2 : Nat) : Int) 3 = some ((x50 / 2 % 3 : Nat) : Int) := by rw [rmi_of (by omega) (by omega)]; congr 1
 rw [e1, obs, e2, obs]
 exact rnd_l6 k hk next ev i p _ (x50 / 2 % 3) (by omega) r1 h 3 0 forever (by omega) (by unfold forever; omega) (fun m hm => by omega)
theorem rnd_j2 (places : List (BitVec 8)) (k : List LA) (hk : k.length <= 100) (hA : ∀ a ∈ k, okA a) (next : List (Int × Int)) (ev : List RE) (p i : Nat) (hp : p < 9223372036854775807) (r1 : List (Int × Int) -> List RE -> Int -> Int -> Option (List RO)) (h : RI k.length next ev i) (hgo : i < k.length ∨ next ≠ []) :
  ∃ next' ev' i', m_law25_random_j2 places k next ev (p : Int) (i : Int) r1 = r1 next' ev' ((p + 1 : Nat) : Int) ((i' : Nat) : Int) /\ RI k.length next' ev' i' /\ i <= i' /\ 2 * (k.length - i') + next'.length <= 2 * (k.length - i) + next.length /\ (places.length <= p -> 2 * (k.length - i') + next'.length < 2 * (k.length - i) + next.length) := by
 have j3 : ∀ x50 : Nat, (places.length <= p -> x50 = 0) -> ∃ next' ev' i', m_law25_random_j3 k next ev (p : Int) (i : Int) r1 (x50 : Int) = r1 next' ev' ((p + 1 : Nat) : Int) ((i' : Nat) : Int) /\ RI k.length next' ev' i' /\ i <= i' /\ 2 * (k.length - i') + next'.length <= 2 * (k.length - i) + next.length /\ (places.length <= p -> 2 * (k.length - i') + next'.length < 2 * (k.length - i) + next.length) := by
  intro x50 hx
  unfold m_law25_random_j3
  rw [ckK (by omega), obs]
  have back : ∀ hne : next ≠ [] ∨ ¬ places.length <= p, ∃ next' ev' i', m_law25_random_j4 k next ev (i : Int) (x50 : Int) ((p + 1 : Nat) : Int) r1 = r1 next' ev' ((p + 1 : Nat) : Int) ((i' : Nat) : Int) /\ RI k.length next' ev' i' /\ i <= i' /\ 2 * (k.length - i') + next'.length <= 2 * (k.length - i) + next.length /\ (places.length <= p -> 2 * (k.length - i') + next'.length < 2 * (k.length - i) + next.length) := by
   intro hne
   obtain ⟨next', ev', e, hI, h1, h2⟩ := rnd_j4 k hk next ev i ((p + 1 : Nat) : Int) x50 r1 h
   refine ⟨next', ev', i, e, hI, Nat.le_refl _, by omega, fun hpl => ?_⟩
   rcases hne with hne | hne
   ·have := h2 hne; omega
   ·exact absurd hpl hne
  by_cases hi : i < k.length
  ·rw [if_pos (by omega)]
   unfold m_law25_random_j5
   by_cases hb : ((andi (x50 : Int) (1 : Int)) == (0 : Int)) = true
   ·rw [if_pos hb, idx_nat, List.getElem?_eq_getElem hi, obs]
    have hok := hA k[i] (List.getElem_mem _)
    cases hg : mget next k[i].fClient with
    | some j =>
     rw [if_pos (by simp)]
     refine back (Or.inl fun e => ?_)
     rw [e] at hg; simp [mget] at hg
    | none =>
     have hlen := h.len
     rw [if_neg (by simp), obs, apd_of (by simp; omega), obs, ckK (by omega), obs]
     refine ⟨_, _, i + 1, rfl, ⟨fun c j hm => ?_, fun x hx => ?_, ?_, ?_, hi⟩, by omega, ?_, fun _ => ?_⟩
     ·rcases mem_mset hm with hm | hm
      ·exact h.keys c j hm
      ·injection hm with h1 h2; subst h1; subst h2; exact ⟨hok.1, by omega, by omega⟩
     ·rcases List.mem_append.1 hx with hx | hx
      ·exact h.dat x hx
      ·rw [List.mem_singleton.1 hx]; simp
     ·rw [cAll_snoc, if_pos rfl]; have := h.calls; omega
     ·rw [len_mset hg]; simp; omega
     ·rw [len_mset hg]; omega
     ·rw [len_mset hg]; omega
   ·rw [if_neg hb]
    refine back ?_
    by_cases hpl : places.length <= p
    ·rw [hx hpl] at hb; exact absurd (by decide) hb
    ·exact Or.inr hpl
  ·rw [if_neg (by omega)]
   unfold m_law25_random_j5
   rw [if_neg (by simp)]
   exact back (Or.inl (hgo.resolve_left hi))
 unfold m_law25_random_j2
 by_cases hpl : p < places.length
 ·rw [if_pos (by omega), idx_nat, List.getElem?_eq_getElem hpl, obs]
  exact j3 _ (fun h => by omega)
 ·rw [if_neg (by omega)]
  exact j3 0 (fun _ => rfl)
theorem rnd_l1 (places : List (BitVec 8)) (hpl : places.length <= 140737488351232) (k : List LA) (hk : k.length <= 100) (hA : ∀ a ∈ k, okA a) : ∀ (N q p i : Nat) (next : List (Int × Int)) (ev : List RE), (places.length - p) + 2 * (k.length - i) + next.length < N -> N <= q -> p + ((places.length - p) + 2 * (k.length - i) + next.length) <= 140737488359000 -> RI k.length next ev i ->
  ∃ ev', m_law25_random_l1 places k q next ev (p : Int) (i : Int) = m_law25_random_j0 ev' /\ (∀ e ∈ ev', e.fData.length <= 1) /\ cAll ev' <= k.length /\ ev'.length <= 2 * k.length := by
 intro N
 induction N with
 | zero => intro q p i next ev h; omega
 | succ N ih =>
  intro q p i next ev hm hq hp h
  obtain ⟨q, rfl⟩ : ∃ q', q = q' + 1 := ⟨q - 1, by omega⟩
  have go : (i < k.length ∨ next ≠ []) -> ∃ ev', m_law25_random_j2 places k next ev (p : Int) (i : Int) (m_law25_random_l1 places k q) = m_law25_random_j0 ev' /\ (∀ e ∈ ev', e.fData.length <= 1) /\ cAll ev' <= k.length /\ ev'.length <= 2 * k.length := by
   intro hgo
   obtain ⟨next', ev', i', e, hI, hi, h1, h2⟩ := rnd_j2 places k hk hA next ev p i (by omega) (m_law25_random_l1 places k q) h hgo
   rw [e]
   by_cases hc : places.length <= p
   ·have := h2 hc
    exact ih q (p + 1) i' next' ev' (by omega) (by omega) (by omega) hI
   ·exact ih q (p + 1) i' next' ev' (by omega) (by omega) (by omega) hI
  unfold m_law25_random_l1
  by_cases hi : i < k.length
  ·rw [if_pos (by omega)]; exact go (Or.inl hi)
  ·rw [if_neg (by omega)]
   by_cases hn : next = []
   ·subst hn
    rw [if_neg (by simp)]
    have h1 := h.calls; have h2 := h.len; have h3 := h.le
    exact ⟨ev, rfl, h.dat, by omega, by simp at h2; omega⟩
   ·have : 0 < next.length := by cases next with | nil => exact absurd rfl hn | cons _ _ => simp
    rw [if_pos (by omega)]; exact go (Or.inr hn)
theorem random_ok (l : List LA) (places : List (BitVec 8)) (hpl : places.length <= 140737488351232) :
  ∃ h : List KO, m_law25_random l places = some (h.map tO) /\ h.length <= 7 /\ validK [] h = true /\ (h.Pairwise pairK /\ ∀ x ∈ h, x.fCall <= endK x) /\ ∀ x ∈ h, x.fData.length <= 1 /\ x.fGot.length <= 1 := by
 obtain ⟨k, e, hk, hA⟩ := short_ok l 7 (by omega)
 unfold m_law25_random
 rw [show (7 : Int) = ((7 : Nat) : Int) from rfl, e, obs]
 obtain ⟨ev, e1, h1, h2, h3⟩ := rnd_l1 places hpl k (by omega) hA (places.length + 100) forever 0 0 [] [] (by simp; omega) (by unfold forever; omega) (by simp; omega) ⟨fun c j h => by simp at h, by simp, by simp [cAll], by simp, Nat.zero_le _⟩
 obtain ⟨h, er, e2, g1, g4, g5, g2, g3⟩ := rbuild_any ev 1 (by omega) h1 (by omega)
 refine ⟨h, ?_, by omega, g1, ⟨g4, g5⟩, g3⟩
 refine Eq.trans e1 ?_
 unfold m_law25_random_j0
 rw [e2, obs]
end Go.Proofs.Ytkcccenekglkoaa
