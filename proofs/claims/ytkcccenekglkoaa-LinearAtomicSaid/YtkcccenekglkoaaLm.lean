/-
 LinearAtomic: every history of an atomic map is accepted. Conditions: none beyond the statement's.
-/
import Derived.Test.YtkcccenekglkoaaLc
import Derived.Test.YtkcccenekglkoaaHy
import Derived.Test.YtkcccenekglkoaaLr
import Derived.Test.YtkcccenekglkoaaMdj4
namespace Go.Proofs.Ytkcccenekglkoaa
set_option linter.unusedVariables false
set_option linter.unusedSimpArgs false
theorem step_det {i : Int} {e : HV} {ops : List HO} (h1 : One ops) {o o' : Option (List HO)} (s : Step i e ops o) (s' : Step i e ops o') : o = o' := by
 have uniq : ∀ (j j' : Nat) x x', ops[j]? = some x -> ops[j']? = some x' -> x.fClient = e.fClient -> x'.fClient = e.fClient -> opn x = true -> opn x' = true -> j = j' := by
  intro j j' x x' hx hx' hc hc' ho ho'
  rcases Nat.lt_trichotomy j j' with h | h | h
  ·have := h1 j j' x x' h hx hx' (by rw [hc, hc']); rw [this] at ho; cases ho
  ·exact h
  ·have := h1 j' j x' x h hx' hx (by rw [hc, hc']); rw [this] at ho'; cases ho'
 cases s with
 | call k1 a b hn =>
  cases s' with
  | call => rfl
  | ret j x k2 => omega
  | kill k3 => omega
  | bad k hb _ => obtain ⟨j, x, h1, h2⟩ := hb k1 a b; exact absurd h2 (hn j x h1)
 | ret j x k2 hx hc ho =>
  cases s' with
  | call k1 => omega
  | ret j' x' _ hx' hc' ho' =>
   obtain rfl := uniq j j' x x' hx hx' hc hc' ho ho'
   rw [hx] at hx'; injection hx' with hx'; subst hx'; rfl
  | kill k3 => omega
  | bad k hb hr => exact absurd ⟨hc, ho⟩ (hr k2 j x hx)
 | kill k3 =>
  cases s' with
  | call k1 => omega
  | ret j x k2 => omega
  | kill => rfl
  | bad k => exact absurd k3 k
 | bad k hb hr =>
  cases s' with
  | call k1 a b hn => obtain ⟨j, x, h1, h2⟩ := hb k1 a b; exact absurd h2 (hn j x h1)
  | ret j x k2 hx hc ho => exact absurd ⟨hc, ho⟩ (hr k2 j x hx)
  | kill k3 => exact absurd k3 k
  | bad => rfl
inductive Hist : List HV -> List HO -> Prop
 | nil : Hist [] []
 | snoc {es : List HV} {ops o : List HO} {e : HV} : Hist es ops -> Step (es.length : Int) e ops (some o) -> Hist (es ++ [e]) o
theorem Hist.inv {es : List HV} {e : HV} {o : List HO} (h : Hist (es ++ [e]) o) : ∃ ops, Hist es ops /\ Step (es.length : Int) e ops (some o) := by
 generalize hl : es ++ [e] = l at h
 cases h with
 | nil => simp at hl
 | snoc h s =>
  obtain ⟨h1, h2⟩ := List.append_inj' hl rfl
  subst h1; injection h2 with h2; subst h2
  exact ⟨_, h, s⟩
theorem Hist.inv0 {o : List HO} (h : Hist [] o) : o = [] := by
 generalize hl : ([] : List HV) = l at h
 cases h with
 | nil => rfl
 | snoc h s => simp at hl
theorem Hist.one {es : List HV} {h : List HO} (hh : Hist es h) : One h := by
 induction hh with
 | nil => exact fun i j x y _ h => by simp at h
 | snoc _ s ih => exact (one_step ih s).1
theorem Hist.det {es : List HV} {h h' : List HO} (hh : Hist es h) (hh' : Hist es h') : h = h' := by
 induction hh generalizing h' with
 | nil => exact hh'.inv0.symm
 | snoc h0 s ih =>
  obtain ⟨ops, h1, s1⟩ := hh'.inv
  obtain rfl := ih h1
  exact Option.some.inj (step_det h0.one s s1)
theorem Hist.pre {es : List HV} {h : List HO} (hh : Hist es h) : ∀ n, n <= es.length -> ∃ ops, Hist (es.take n) ops := by
 induction hh with
 | nil => intro n hn; exact ⟨[], by rw [List.take_nil]; exact Hist.nil⟩
 | @snoc es ops o e h0 s ih =>
  intro n hn
  by_cases h1 : n <= es.length
  ·obtain ⟨ops, h2⟩ := ih n h1
   exact ⟨ops, by rw [List.take_append_of_le_length h1]; exact h2⟩
  ·refine ⟨o, ?_⟩
   rw [List.take_of_length_le (by rw [List.length_append] at hn ⊢; simp at hn ⊢; omega)]; exact Hist.snoc h0 s
def rE (e : HV) : RE := ⟨e.fKind, e.fClient, e.fOp, e.fKey, e.fCookie, e.fData, e.fResult⟩
theorem Hist.build {es : List HV} {h : List HO} (hh : Hist es h) (hd : ∀ e ∈ es, e.fData.length <= 1000) (hl : es.length <= 900) : m_history_Build es = some (h, 0) := by
 have em : (es.map rE).map gE = es := by
  rw [List.map_map]; exact List.map_id es
 have hget : ∀ (n : Nat) (e : RE), (es.map rE)[n]? = some e -> es[n]? = some (gE e) := by
  intro n e he
  rw [<- em, List.getElem?_map, he]; rfl
 have hsn : ∀ (n : Nat) e ops o, (es.map rE)[n]? = some e -> Hist (es.take n) ops -> Step (n : Int) (gE e) ops (some o) -> Hist (es.take (n + 1)) o := by
  intro n e ops o he h1 s
  have hn := (List.getElem?_eq_some_iff.1 (hget n e he)).1
  rw [List.take_add_one, hget n e he]
  refine Hist.snoc h1 ?_
  rw [List.length_take, Nat.min_eq_left (by omega)]; exact s
 obtain ⟨r, e, _, d⟩ := build_okA (es.map rE) (fun e he => by obtain ⟨e0, h0, rfl⟩ := List.mem_map.1 he; exact hd e0 h0) (by simpa using hl) (fun n ops => Hist (es.take n) ops) Hist.nil (fun n e ops o he _ hp s => hsn n e ops o he hp s)
 rw [em] at e
 rw [e]
 rcases d with ⟨d1, _, d2⟩ | ⟨_, _, n, ev, ops, he, h1, hp, s⟩
 ·rw [List.length_map, List.take_length] at d2
  have := hh.det d2
  rw [this, <- d1]
 ·exfalso
  have hn := (List.getElem?_eq_some_iff.1 (hget n ev he)).1
  obtain ⟨o, ho⟩ := hh.pre (n + 1) (by omega)
  rw [List.take_add_one, hget n ev he] at ho
  obtain ⟨ops', h2, s2⟩ := Hist.inv (e := gE ev) ho
  obtain rfl := hp.det h2
  rw [List.length_take, Nat.min_eq_left (by omega)] at s2
  cases step_det h1 s s2
abbrev LE := KO × LS × LS
def Chn (k : BitVec 64) : LS -> List LE -> LS -> Prop
 | s, [], t => s = t
 | s, e :: l, t => if e.1.fKey = k then e.2.1 = s /\ Chn k e.2.2 l t else Chn k s l t
theorem Chn.snoc {k : BitVec 64} {e : LE} {t t' : LS} (he : if e.1.fKey = k then e.2.1 = t /\ t' = e.2.2 else t' = t) : ∀ {L : List LE} {s : LS}, Chn k s L t -> Chn k s (L ++ [e]) t'
 | [], s, h => by
  obtain rfl : s = t := h
  show if e.1.fKey = k then e.2.1 = s /\ e.2.2 = t' else s = t'
  split at he
  ·rename_i h0; rw [if_pos h0]; exact ⟨he.1, he.2.symm⟩
  ·rename_i h0; rw [if_neg h0]; exact he.symm
 | x :: L, s, h => by
  unfold Chn at h
  show if x.1.fKey = k then x.2.1 = s /\ Chn k x.2.2 (L ++ [e]) t' else Chn k s (L ++ [e]) t'
  split at h
  ·rename_i h0; rw [if_pos h0]; exact ⟨h.1, Chn.snoc he h.2⟩
  ·rename_i h0; rw [if_neg h0]; exact Chn.snoc he h
theorem Chn.map {k : BitVec 64} {f : KO -> KO} {t : LS} : ∀ {L : List LE} {s : LS}, (∀ e ∈ L, (f e.1).fKey = e.1.fKey) -> Chn k s L t -> Chn k s (L.map fun e => (f e.1, e.2)) t
 | [], s, _, h => h
 | x :: L, s, hf, h => by
  have h0 := hf x (List.mem_cons_self ..)
  have h1 : ∀ e ∈ L, (f e.1).fKey = e.1.fKey := fun e he => hf e (List.mem_cons_of_mem _ he)
  unfold Chn at h
  show if (f x.1).fKey = k then x.2.1 = s /\ Chn k x.2.2 (L.map fun e => (f e.1, e.2)) t else Chn k s (L.map fun e => (f e.1, e.2)) t
  rw [h0]
  split at h
  ·rename_i h2; rw [if_pos h2]; exact ⟨h.1, Chn.map h1 h.2⟩
  ·rename_i h2; rw [if_neg h2]; exact Chn.map h1 h
theorem Chn.filter {k : BitVec 64} {t : LS} : ∀ {L : List LE} {s : LS}, Chn k s L t -> Chn k s (L.filter fun e => decide (e.1.fKey = k)) t
 | [], s, h => h
 | x :: L, s, h => by
  unfold Chn at h
  split at h
  ·rename_i h0
   rw [List.filter_cons_of_pos (by simpa using h0)]
   unfold Chn; rw [if_pos h0]; exact ⟨h.1, Chn.filter h.2⟩
  ·rename_i h0
   rw [List.filter_cons_of_neg (by simpa using h0)]; exact Chn.filter h
theorem linE (g : List KO) (hg : g.Nodup) (hl : g.length <= 31) (k : BitVec 64) : ∀ (B A : List LE) (p : BitVec 32) (s t : LS), (∀ e ∈ A ++ B, e.1 ∈ g) -> (A ++ B).Pairwise (fun a b => befK b.1 a.1 = false) -> ((A ++ B).map (·.1)).Nodup ->
  (∀ e ∈ B, stepL e.2.1 e.1 = some e.2.2) -> (∀ e ∈ B, e.1.fKey = k) -> Chn k s B t -> (∀ (j : Nat) y, g[j]? = some y -> (p.getLsbD j = true ↔ ∃ e ∈ A, e.1 = y)) -> (∀ y ∈ g, dropL y = false -> ∃ e ∈ A ++ B, e.1 = y) -> ∃ o, Lin g p s o := by
 intro B
 induction B with
 | nil =>
  intro A p s t hm ho hn hst hk hc hb hcov
  refine ⟨[], Lin.done fun i x hx => ?_⟩
  cases hd : dropL x with
  | true => exact Or.inr rfl
  | false =>
   left
   obtain ⟨e, he, h1⟩ := hcov x (List.mem_of_getElem? hx) hd
   rw [List.append_nil] at he
   exact (hb i x hx).2 ⟨e, he, h1⟩
 | cons e B ih =>
  intro A p s t hm ho hn hst hk hc hb hcov
  unfold Chn at hc
  rw [if_pos (hk e (List.mem_cons_self ..))] at hc
  obtain ⟨hs, hc⟩ := hc
  obtain ⟨i, hi⟩ := List.mem_iff_getElem?.1 (hm e (by simp))
  have hil := (List.getElem?_eq_some_iff.1 hi).1
  have inj : ∀ (j j' : Nat) y, g[j]? = some y -> g[j']? = some y -> j = j' := fun j j' y h1 h2 => (List.getElem?_inj (List.getElem?_eq_some_iff.1 h1).1 hg).1 (h1.trans h2.symm)
  have hnA : ∀ a ∈ A, a.1 ≠ e.1 := by
   intro a ha he
   rw [List.map_append, List.map_cons] at hn
   exact (List.nodup_append.1 hn).2.2 a.1 (List.mem_map.2 ⟨a, ha, rfl⟩) e.1 (List.mem_cons_self ..) he
  have hp0 : p.getLsbD i = false := by
   cases h : p.getLsbD i with
   | false => rfl
   | true => obtain ⟨a, ha, h1⟩ := (hb i _ hi).1 h; exact absurd h1 (hnA a ha)
  have hpw := List.pairwise_append.1 ho
  have hpe := List.pairwise_cons.1 hpw.2.1
  have hmay : May g p i e.1 := by
   refine ⟨fun j y hy => ⟨fun h => ?_, fun h hne hd => ?_⟩, hp0⟩
   ·obtain ⟨a, ha, rfl⟩ := (hb j y hy).1 h
    exact hpw.2.2 a ha e (List.mem_cons_self ..)
   ·obtain ⟨a, ha, rfl⟩ := hcov y (List.mem_of_getElem? hy) hd
    rcases List.mem_append.1 ha with ha | ha
    ·rw [(hb j _ hy).2 ⟨a, ha, rfl⟩] at h; cases h
    ·rcases List.mem_cons.1 ha with rfl | ha
     ·exact absurd (inj j i _ hy hi) hne
     ·exact hpe.1 a ha
  have ea : A ++ e :: B = (A ++ [e]) ++ B := by simp
  rw [ea] at hm ho hn hcov
  obtain ⟨o, h⟩ := ih (A ++ [e]) (p ||| 1#32 <<< i) e.2.2 t hm ho hn (fun x hx => hst x (List.mem_cons_of_mem _ hx)) (fun x hx => hk x (List.mem_cons_of_mem _ hx)) hc (fun j y hy => by
   rw [bit_set p (by omega), Bool.or_eq_true, hb j y hy, decide_eq_true_iff]
   constructor
   ·rintro (⟨a, ha, h1⟩ | rfl)
    ·exact ⟨a, List.mem_append_left _ ha, h1⟩
    ·rw [hi] at hy; injection hy with hy; exact ⟨e, by simp, hy⟩
   ·rintro ⟨a, ha, h1⟩
    rcases List.mem_append.1 ha with ha | ha
    ·exact Or.inl ⟨a, ha, h1⟩
    ·rw [List.mem_singleton.1 ha] at h1; subst h1; exact Or.inr (inj j i _ hy hi)) hcov
  have hstep := hst e (List.mem_cons_self ..)
  rw [hs] at hstep
  exact ⟨i :: o, Lin.step hi hstep hmay h⟩
theorem lin_of (h : List KO) (L : List LE) (k : BitVec 64) (t : LS) (hn : h.Nodup) (hl : (onlyK h k).length <= 31) (mem : ∀ e ∈ L, e.1 ∈ h) (ret : ∀ x ∈ h, x.fReturn ≠ -1 -> ∃ e ∈ L, e.1 = x) (nod : (L.map (·.1)).Nodup)
  (ord : L.Pairwise fun a b => befK b.1 a.1 = false) (stp : ∀ e ∈ L, stepL e.2.1 e.1 = some e.2.2) (chn : Chn k zeroL L t) : ∃ o, Lin (onlyK h k) 0#32 zeroL o := by
 have hsub : (L.filter fun e => decide (e.1.fKey = k)).Sublist L := List.filter_sublist
 refine linE (onlyK h k) (hn.sublist List.filter_sublist) hl k (L.filter fun e => decide (e.1.fKey = k)) [] 0#32 zeroL t (fun e he => ?_) (ord.sublist hsub) (nod.sublist (hsub.map _)) (fun e he => stp e (hsub.subset he)) (fun e he => by simpa using (List.mem_filter.1 he).2) chn.filter (fun j y _ => by simp) (fun y hy hd => ?_)
 ·have := List.mem_filter.1 (show e ∈ L.filter fun e => decide (e.1.fKey = k) from he)
  exact List.mem_filter.2 ⟨mem e this.1, this.2⟩
 ·obtain ⟨h1, h2⟩ := List.mem_filter.1 hy
  obtain ⟨e, he, rfl⟩ := ret y h1 (by
   intro h3; unfold dropL at hd; rw [h3] at hd; simp at hd)
  exact ⟨e, List.mem_filter.2 ⟨he, h2⟩, rfl⟩
section
variable {κ ν : Type} [BEq κ] [LawfulBEq κ]
theorem mgetS (q : κ) (v : ν) : ∀ m : List (κ × ν), mget (mset m q v) q = some v
 | [] => by unfold mset mget; rw [if_pos (by simp)]
 | (a, w) :: m => by
  unfold mset
  split
  ·unfold mget; rw [if_pos (by simp)]
  ·rename_i h; unfold mget; rw [if_neg h]; exact mgetS q v m
theorem mgetN {q q' : κ} (h : q' ≠ q) (v : ν) : ∀ m : List (κ × ν), mget (mset m q v) q' = mget m q'
 | [] => by unfold mset mget; rw [if_neg (by simpa using h)]; rfl
 | (a, w) :: m => by
  unfold mset
  split
  ·rename_i e
   have e := eq_of_beq e
   subst e
   unfold mget; rw [if_neg (by simpa using h), if_neg (by simpa using h)]
  ·unfold mget; rw [mgetN h v m]
theorem msetT (q : κ) (a b : ν) : ∀ m : List (κ × ν), mset (mset m q a) q b = mset m q b
 | [] => by simp [mset]
 | (c, w) :: m => by
  by_cases e : (q == c) = true
  ·simp [mset, e]
  ·simp only [mset, e, if_false, Bool.false_eq_true]; rw [msetT q a b m]
theorem mdelN {q q' : κ} (h : q' ≠ q) : ∀ m : List (κ × ν), mget (mdel m q) q' = mget m q'
 | [] => rfl
 | (a, w) :: m => by
  unfold mdel
  split
  ·rename_i e
   have e := eq_of_beq e
   subst e
   conv => rhs; unfold mget
   rw [if_neg (by simpa using h)]
  ·unfold mget; rw [mdelN h m]
theorem mget_key {q : κ} {v : ν} : ∀ {m : List (κ × ν)}, mget m q = some v -> q ∈ m.map Prod.fst
 | [], h => by cases h
 | (a, w) :: m, h => by
  unfold mget at h
  split at h
  ·rename_i e; rw [eq_of_beq e]; simp
  ·exact List.mem_cons_of_mem _ (mget_key h)
omit [LawfulBEq κ] in
theorem mset_keys {q : κ} {v : ν} : ∀ {m : List (κ × ν)} {a : κ}, a ∈ (mset m q v).map Prod.fst -> a = q ∨ a ∈ m.map Prod.fst
 | [], a, h => by left; simpa [mset] using h
 | (c, w) :: m, a, h => by
  unfold mset at h
  split at h
  ·rcases List.mem_cons.1 h with h | h
   ·exact .inl h
   ·exact .inr (List.mem_cons_of_mem _ h)
  ·rcases List.mem_cons.1 h with h | h
   ·right; rw [h]; exact List.mem_cons_self ..
   ·rcases mset_keys h with h | h
    ·exact .inl h
    ·exact .inr (List.mem_cons_of_mem _ h)
theorem msetK (q : κ) (v : ν) : ∀ {m : List (κ × ν)}, (m.map Prod.fst).Nodup -> ((mset m q v).map Prod.fst).Nodup
 | [], _ => by simp [mset]
 | (a, w) :: m, h => by
  obtain ⟨h1, h2⟩ := List.nodup_cons.1 h
  unfold mset
  split
  ·rename_i e
   rw [eq_of_beq e]; exact h
  ·rename_i e
   refine List.nodup_cons.2 ⟨fun hm => ?_, msetK q v h2⟩
   rcases mset_keys hm with hm | hm
   ·exact e (by rw [show a = q from hm]; simp)
   ·exact h1 hm
omit [LawfulBEq κ] in
theorem mdel_sub (q : κ) : ∀ m : List (κ × ν), (mdel m q).Sublist m
 | [] => List.Sublist.refl _
 | (a, w) :: m => by
  unfold mdel
  split
  ·exact List.sublist_cons_self _ _
  ·exact List.Sublist.cons_cons _ (mdel_sub q m)
omit [LawfulBEq κ] in
theorem mdelK (q : κ) {m : List (κ × ν)} (h : (m.map Prod.fst).Nodup) : ((mdel m q).map Prod.fst).Nodup := h.sublist ((mdel_sub q m).map _)
theorem mdelS (q : κ) : ∀ {m : List (κ × ν)}, (m.map Prod.fst).Nodup -> mget (mdel m q) q = none
 | [], _ => rfl
 | (a, w) :: m, h => by
  obtain ⟨h1, h2⟩ := List.nodup_cons.1 h
  unfold mdel
  split
  ·rename_i e
   have e := eq_of_beq e
   subst e
   cases hg : mget m q with
   | none => rfl
   | some v => exact absurd (mget_key hg) h1
  ·rename_i e
   unfold mget; rw [if_neg e]; exact mdelS q h2
end
abbrev LV := Slinear_State
abbrev LD := Sneedlestorelaw25_doing
def stV (V : List (BitVec 64 × LV)) (k : BitVec 64) : LS := (((mget V k).getD ⟨false, 0#32, []⟩).fHas, ((mget V k).getD ⟨false, 0#32, []⟩).fCookie, ((mget V k).getD ⟨false, 0#32, []⟩).fData)
theorem stV_set (V : List (BitVec 64 × LV)) (q k : BitVec 64) (v : LV) : stV (mset V q v) k = if k = q then (v.fHas, v.fCookie, v.fData) else stV V k := by
 unfold stV
 by_cases h : k = q
 ·subst h; rw [if_pos rfl, mgetS]; rfl
 ·rw [if_neg h, mgetN h]
def cV (a : LA) : HV := ⟨1, a.fClient, a.fKind, a.fKey, a.fCookie, [a.fData], 0⟩
def rV (c : Int) (d : LD) : HV := ⟨2, c, 0, 0#64, 0#32, d.fgot, d.fresult⟩
def Dng (ks : List LA) (h : List KO) (L : List LE) (c : Int) (d : LD) : Prop := ∃ (j : Nat) (a : LA) (x : KO), d.fact = (j : Int) /\ ks[j]? = some a /\ x ∈ h /\ opn x = true /\ x.fClient = c /\
 (x.fKind = a.fKind /\ x.fKey = a.fKey /\ x.fCookie = a.fCookie /\ (a.fKind = 1 -> x.fData = [a.fData])) /\
 ((d.fstage = 0 /\ d.fresult = 0 /\ d.fgot = [] /\ ∀ e ∈ L, e.1 ≠ x) ∨ (d.fstage = 1 /\ ∃ s t, (x, s, t) ∈ L /\ ∀ r : Int, r ≠ -1 -> stepL s (retO r (rV c d) x) = some t))
structure AI (ks : List LA) (V : List (BitVec 64 × LV)) (D : List (Int × LD)) (n : Nat) (h : List KO) (L : List LE) : Prop where
 inv : InvA n h
 nd : (D.map Prod.fst).Nodup
 dk : ∀ c d, mget D c = some d -> Dng ks h L c d
 dop : ∀ x ∈ h, opn x = true -> ∃ d, mget D x.fClient = some d
 ret : ∀ x ∈ h, x.fReturn ≠ -1 -> ∃ e ∈ L, e.1 = x
 mem : ∀ e ∈ L, e.1 ∈ h
 nod : (L.map (·.1)).Nodup
 ord : L.Pairwise fun a b => befK b.1 a.1 = false
 stp : ∀ e ∈ L, stepL e.2.1 e.1 = some e.2.2
 chn : ∀ k, Chn k zeroL L (stV V k)
 big : ∀ k v, mget V k = some v -> v.fData.length <= 1
 got : ∀ c d, mget D c = some d -> d.fgot.length <= 1
theorem call_lt {n : Nat} {h : List KO} (H : InvA n h) {x : KO} (hx : x ∈ h) : 0 <= x.fCall /\ x.fCall < n := by
 obtain ⟨j, hj⟩ := List.mem_iff_getElem?.1 hx
 exact ⟨(H.each j x hj).1, (H.each j x hj).2.1⟩
theorem call_inj {n : Nat} {h : List KO} (H : InvA n h) {x y : KO} (hx : x ∈ h) (hy : y ∈ h) (he : x.fCall = y.fCall) : x = y := by
 obtain ⟨i, hi⟩ := List.mem_iff_getElem?.1 hx
 obtain ⟨j, hj⟩ := List.mem_iff_getElem?.1 hy
 rcases Nat.lt_trichotomy i j with h1 | h1 | h1
 ·have := H.inc i j x y h1 hi hj; omega
 ·subst h1; rw [hi] at hj; exact Option.some.inj hj
 ·have := H.inc j i y x h1 hj hi; omega
theorem open_inj {n : Nat} {h : List KO} (H : InvA n h) {x y : KO} (hx : x ∈ h) (hy : y ∈ h) (ho : opn x = true) (ho' : opn y = true) (he : x.fClient = y.fClient) : x = y := by
 obtain ⟨i, hi⟩ := List.mem_iff_getElem?.1 hx
 obtain ⟨j, hj⟩ := List.mem_iff_getElem?.1 hy
 rcases Nat.lt_trichotomy i j with h1 | h1 | h1
 ·have := (H.cli i j x y h1 hi hj he).1; rw [ho] at this; cases this
 ·subst h1; rw [hi] at hj; exact Option.some.inj hj
 ·have := (H.cli j i y x h1 hj hi he.symm).1; rw [ho'] at this; cases this
theorem nodup_h {n : Nat} {h : List KO} (H : InvA n h) : h.Nodup := by
 unfold List.Nodup
 rw [List.pairwise_iff_getElem]
 intro i j hi hj hij he
 have := H.inc i j _ _ hij (List.getElem?_eq_getElem hi) (List.getElem?_eq_getElem hj)
 rw [he] at this; omega
section
variable {ks : List LA} {V : List (BitVec 64 × LV)} {D : List (Int × LD)} {n : Nat} {h : List KO} {L : List LE}
theorem AI.nil (ks : List LA) : AI ks [] [] 0 [] [] where
 inv := invA_nil
 nd := List.Pairwise.nil
 dk := fun c d h => by cases h
 dop := fun x hx => by simp at hx
 ret := fun x hx => by simp at hx
 mem := fun x hx => by simp at hx
 nod := List.Pairwise.nil
 ord := List.Pairwise.nil
 stp := fun x hx => by simp at hx
 chn := fun k => rfl
 big := fun c d h => by cases h
 got := fun c d h => by cases h
theorem AI.call (H : AI ks V D n h L) {j : Nat} {a : LA} (ha : ks[j]? = some a) (hA : okA a) (hg : mget D a.fClient = none) :
  Step (n : Int) (cV a) h (some (h ++ [newO n (cV a)])) /\ AI ks V (mset D a.fClient ⟨(j : Int), 0, 0, []⟩) (n + 1) (h ++ [newO n (cV a)]) L := by
 have hs : Step (n : Int) (cV a) h (some (h ++ [newO n (cV a)])) := Step.call rfl hA.2.1 hA.2.2 fun i x hx ⟨hc, ho⟩ => by
  obtain ⟨d, hd⟩ := H.dop x (List.mem_of_getElem? hx) ho
  rw [hc, show (cV a).fClient = a.fClient from rfl, hg] at hd; cases hd
 refine ⟨hs, invA_step H.inv hs, msetK _ _ H.nd, fun c d hd => ?_, fun x hx ho => ?_, fun x hx hr => ?_, fun e he => List.mem_append_left _ (H.mem e he), H.nod, H.ord, H.stp, H.chn, H.big, fun c d hd => ?_⟩
 ·by_cases hc : c = a.fClient
  ·subst hc
   rw [mgetS] at hd; injection hd with hd; subst hd
   refine ⟨j, a, newO n (cV a), rfl, ha, by simp, rfl, rfl, ⟨rfl, rfl, rfl, fun h1 => if_pos h1⟩, Or.inl ⟨rfl, rfl, rfl, fun e he h1 => ?_⟩⟩
   have := (call_lt H.inv (H.mem e he)).2
   rw [h1] at this
   exact absurd this (Int.lt_irrefl _)
  ·rw [mgetN hc] at hd
   obtain ⟨j', a', x, h1, h2, h3, h4⟩ := H.dk c d hd
   exact ⟨j', a', x, h1, h2, List.mem_append_left _ h3, h4⟩
 ·rcases List.mem_append.1 hx with hx | hx
  ·obtain ⟨d, hd⟩ := H.dop x hx ho
   have : x.fClient ≠ a.fClient := fun e => by rw [e, hg] at hd; cases hd
   exact ⟨d, by rw [mgetN this]; exact hd⟩
  ·rw [List.mem_singleton.1 hx]; exact ⟨_, mgetS _ _ _⟩
 ·rcases List.mem_append.1 hx with hx | hx
  ·exact H.ret x hx hr
  ·rw [List.mem_singleton.1 hx] at hr; exact absurd rfl hr
 ·by_cases hc : c = a.fClient
  ·subst hc
   rw [mgetS] at hd; injection hd with hd; subst hd; simp
  ·rw [mgetN hc] at hd; exact H.got c d hd
theorem AI.eff (H : AI ks V D n h L) (hn : n <= 900) {c : Int} {d d' : LD} {j : Nat} {a : LA} {x : KO} (h0 : d.fact = (j : Int)) (ha : ks[j]? = some a) (hx : x ∈ h) (ho : opn x = true) (hc : x.fClient = c)
  (hm : x.fKind = a.fKind /\ x.fKey = a.fKey /\ x.fCookie = a.fCookie /\ (a.fKind = 1 -> x.fData = [a.fData])) (hf : ∀ e ∈ L, e.1 ≠ x) {V' : List (BitVec 64 × LV)} {t : LS} (h1 : d'.fact = d.fact) (h2 : d'.fstage = 1) (h3 : d'.fgot.length <= 1)
  (hst : stepL (stV V a.fKey) x = some t) (hp : ∀ r : Int, r ≠ -1 -> stepL (stV V a.fKey) (retO r (rV c d') x) = some t) (hV : ∀ k, stV V' k = if k = a.fKey then t else stV V k) (hb : ∀ k v, mget V' k = some v -> v.fData.length <= 1) :
  AI ks V' (mset D c d') n h (L ++ [(x, stV V a.fKey, t)]) := by
 refine ⟨H.inv, msetK _ _ H.nd, fun c' e hd => ?_, fun y hy hyo => ?_, fun y hy hr => ?_, fun e he => ?_, ?_, ?_, fun e he => ?_, fun k => ?_, hb, fun c' e hd => ?_⟩
 ·by_cases e0 : c' = c
  ·subst e0
   rw [mgetS] at hd; injection hd with hd; subst hd
   exact ⟨j, a, x, by rw [h1, h0], ha, hx, ho, hc, hm, Or.inr ⟨h2, _, _, List.mem_append_right _ (List.mem_singleton.2 rfl), hp⟩⟩
  ·rw [mgetN e0] at hd
   obtain ⟨j', a', y, g1, g2, g3, g4, g5, g6, g7⟩ := H.dk c' e hd
   refine ⟨j', a', y, g1, g2, g3, g4, g5, g6, ?_⟩
   rcases g7 with ⟨g7, g8, g9, g10⟩ | ⟨g7, s, u, g8, g9⟩
   ·refine Or.inl ⟨g7, g8, g9, fun z hz => ?_⟩
    rcases List.mem_append.1 hz with hz | hz
    ·exact g10 z hz
    ·rw [List.mem_singleton.1 hz]
     intro he
     have he : x = y := he
     rw [<- he, hc] at g5; exact e0 g5.symm
   ·exact Or.inr ⟨g7, s, u, List.mem_append_left _ g8, g9⟩
 ·obtain ⟨d0, hd0⟩ := H.dop y hy hyo
  by_cases e0 : y.fClient = c
  ·rw [e0]; exact ⟨_, mgetS _ _ _⟩
  ·exact ⟨d0, by rw [mgetN e0]; exact hd0⟩
 ·obtain ⟨e, he, h4⟩ := H.ret y hy hr
  exact ⟨e, List.mem_append_left _ he, h4⟩
 ·rcases List.mem_append.1 he with he | he
  ·exact H.mem e he
  ·rw [List.mem_singleton.1 he]; exact hx
 ·rw [List.map_append]
  refine List.nodup_append.2 ⟨H.nod, by simp, fun y hy z hz he => ?_⟩
  obtain ⟨e, h4, rfl⟩ := List.mem_map.1 hy
  have hz : z = x := by simpa using hz
  rw [hz] at he
  exact hf e h4 he
 ·refine List.pairwise_append.2 ⟨H.ord, by simp, fun e he z hz => ?_⟩
  rw [List.mem_singleton.1 hz]
  have hlt := (call_lt H.inv (H.mem e he)).2
  have h5 := opn_iff.1 ho
  unfold befK endK
  rw [if_pos h5.1, if_pos h5.2]
  exact decide_eq_false (by omega)
 ·rcases List.mem_append.1 he with he | he
  ·exact H.stp e he
  ·rw [List.mem_singleton.1 he]; exact hst
 ·refine Chn.snoc ?_ (H.chn k)
  rw [hV, show x.fKey = a.fKey from hm.2.1]
  by_cases e0 : a.fKey = k
  ·subst e0; rw [if_pos rfl, if_pos rfl]; exact ⟨rfl, rfl⟩
  ·rw [if_neg e0, if_neg (fun e => e0 e.symm)]
 ·by_cases e0 : c' = c
  ·subst e0
   rw [mgetS] at hd; injection hd with hd; subst hd; exact h3
  ·rw [mgetN e0] at hd; exact H.got c' e hd
theorem AI.mapL (H : AI ks V D n h L) {f : KO -> KO} (hf : ∀ x ∈ h, (f x).fKey = x.fKey /\ (f x).fCall = x.fCall /\ (f x = x ∨ endK (f x) = n)) (hs : ∀ e ∈ L, stepL e.2.1 (f e.1) = some e.2.2) :
  (∀ e ∈ L.map (fun e => (f e.1, e.2)), e.1 ∈ h.map f) /\ ((L.map (fun e => (f e.1, e.2))).map (·.1)).Nodup /\ (L.map (fun e => (f e.1, e.2))).Pairwise (fun a b => befK b.1 a.1 = false) /\
   (∀ e ∈ L.map (fun e => (f e.1, e.2)), stepL e.2.1 e.1 = some e.2.2) /\ ∀ k, Chn k zeroL (L.map (fun e => (f e.1, e.2))) (stV V k) := by
 refine ⟨fun e he => ?_, ?_, ?_, fun e he => ?_, fun k => Chn.map (fun e he => (hf _ (H.mem e he)).1) (H.chn k)⟩
 ·obtain ⟨e0, h0, rfl⟩ := List.mem_map.1 he
  exact List.mem_map.2 ⟨e0.1, H.mem e0 h0, rfl⟩
 ·have e1 : (L.map (fun e => (f e.1, e.2))).map (·.1) = (L.map (·.1)).map f := by rw [List.map_map, List.map_map]; rfl
  rw [e1]
  refine List.pairwise_map.2 (List.Pairwise.imp_of_mem (fun {x y} hx hy hne he => ?_) H.nod)
  obtain ⟨a, h1, rfl⟩ := List.mem_map.1 hx
  obtain ⟨b, h2, rfl⟩ := List.mem_map.1 hy
  refine hne (call_inj H.inv (H.mem a h1) (H.mem b h2) ?_)
  rw [<- (hf _ (H.mem a h1)).2.1, <- (hf _ (H.mem b h2)).2.1, he]
 ·refine List.pairwise_map.2 (List.Pairwise.imp_of_mem (fun {a b} ha hb hr => ?_) H.ord)
  have h1 := (hf _ (H.mem a ha)).2.1
  have h3 := (call_lt H.inv (H.mem a ha)).2
  unfold befK at hr ⊢
  show decide (endK (f b.1) < (f a.1).fCall) = false
  rw [h1]
  rcases (hf _ (H.mem b hb)).2.2 with h2 | h2
  ·rw [h2]; exact hr
  ·rw [h2]; exact decide_eq_false (by omega)
 ·obtain ⟨e0, h0, rfl⟩ := List.mem_map.1 he
  exact hs e0 h0
theorem stepL_cl (s : LS) (i : Int) (x : KO) : stepL s (clO i x) = stepL s x := by
 unfold clO; split
 ·rfl
 ·rfl
theorem AI.crash (H : AI ks V D n h L) : Step (n : Int) ⟨3, 0, 0, 0#64, 0#32, [], 0⟩ h (some (h.map (clO n))) /\ AI ks V [] (n + 1) (h.map (clO n)) (L.map fun e => (clO n e.1, e.2)) := by
 have hs : Step (n : Int) ⟨3, 0, 0, 0#64, 0#32, [], 0⟩ h (some (h.map (clO n))) := Step.kill rfl
 obtain ⟨m1, m2, m3, m4, m5⟩ := H.mapL (f := clO n) (fun x hx => by
  unfold clO; split
  ·rename_i ho
   have h1 := opn_iff.1 ho
   refine ⟨rfl, rfl, Or.inr ?_⟩
   unfold endK
   rw [if_pos (show x.fReturn = -1 from h1.1), if_neg (show ¬ ((n : Int) = -1) by omega)]
  ·exact ⟨rfl, rfl, Or.inl rfl⟩) (fun e he => by rw [stepL_cl]; exact H.stp e he)
 refine ⟨hs, invA_step H.inv hs, List.Pairwise.nil, fun c d hd => (by cases hd), fun x hx ho => ?_, fun x hx hr => ?_, m1, m2, m3, m4, m5, H.big, fun c d hd => (by cases hd)⟩
 ·exfalso
  obtain ⟨y, hy, rfl⟩ := List.mem_map.1 hx
  unfold clO at ho
  split at ho
  ·have := (opn_iff.1 ho).2
   have : (n : Int) = -1 := this
   omega
  ·rename_i h1; exact h1 ho
 ·obtain ⟨y, hy, rfl⟩ := List.mem_map.1 hx
  obtain ⟨e, he, h1⟩ := H.ret y hy (by
   unfold clO at hr; split at hr
   ·exact hr
   ·exact hr)
  exact ⟨_, List.mem_map.2 ⟨e, he, rfl⟩, by show clO n e.1 = _; rw [h1]⟩
theorem AI.rtn (H : AI ks V D n h L) {c : Int} {d : LD} (hd : mget D c = some d) (h1 : d.fstage = 1) : ∃ h' L', Step (n : Int) (rV c d) h (some h') /\ AI ks V (mdel D c) (n + 1) h' L' /\ h'.length = h.length := by
 obtain ⟨j, a, x, _, _, hx, ho, hc, _, hh⟩ := H.dk c d hd
 obtain ⟨s, t, hst, hp⟩ : ∃ s t, (x, s, t) ∈ L /\ ∀ r : Int, r ≠ -1 -> stepL s (retO r (rV c d) x) = some t := by
  rcases hh with ⟨h2, _⟩ | ⟨_, h2⟩
  ·omega
  ·exact h2
 obtain ⟨jx, hjx⟩ := List.mem_iff_getElem?.1 hx
 have hs : Step (n : Int) (rV c d) h (some (h.set jx (retO n (rV c d) x))) := Step.ret jx x rfl hjx hc ho
 let f : KO -> KO := fun y => if y.fCall = x.fCall then retO n (rV c d) y else y
 have fx : f x = retO n (rV c d) x := if_pos rfl
 have fne : ∀ y, y.fCall ≠ x.fCall -> f y = y := fun y hy => if_neg hy
 have feq : ∀ y ∈ h, y.fCall = x.fCall -> y = x := fun y hy he => call_inj H.inv hy hx he
 have fcall : ∀ y, (f y).fCall = y.fCall := by
  intro y; show (if y.fCall = x.fCall then retO n (rV c d) y else y).fCall = y.fCall
  split <;> rfl
 have hset : h.set jx (retO n (rV c d) x) = h.map f := by
  refine List.ext_getElem? fun i => ?_
  rw [List.getElem?_map, List.getElem?_set]
  by_cases e : jx = i
  ·subst e
   rw [if_pos rfl, if_pos (List.getElem?_eq_some_iff.1 hjx).1, hjx, Option.map_some, fx]
  ·rw [if_neg e]
   cases hi : h[i]? with
   | none => rfl
   | some y =>
    rw [Option.map_some, fne y fun he => ?_]
    have := feq y (List.mem_of_getElem? hi) he
    subst this
    exact e ((List.getElem?_inj (List.getElem?_eq_some_iff.1 hjx).1 (nodup_h H.inv)).1 (hjx.trans hi.symm))
 rw [hset] at hs
 obtain ⟨m1, m2, m3, m4, m5⟩ := H.mapL (f := f) (fun y hy => by
  by_cases e : y.fCall = x.fCall
  ·obtain rfl := feq y hy e
   rw [fx]
   refine ⟨rfl, rfl, Or.inr ?_⟩
   unfold endK
   exact if_neg (show ¬ ((n : Int) = -1) by omega)
  ·rw [fne y e]; exact ⟨rfl, rfl, Or.inl rfl⟩) (fun e he => by
  by_cases e0 : e.1.fCall = x.fCall
  ·have h2 := feq e.1 (H.mem e he) e0
   have h3 : e = (x, s, t) := by
    have hi : ∀ (i i' : Nat) (a b : LE), L[i]? = some a -> L[i']? = some b -> a.1 = b.1 -> a = b := by
     intro i i' a b ha hb hab
     have e1 : (L.map (·.1))[i]? = some a.1 := by rw [List.getElem?_map, ha]; rfl
     have e2 : (L.map (·.1))[i']? = some b.1 := by rw [List.getElem?_map, hb]; rfl
     rw [hab] at e1
     have := (List.getElem?_inj (List.getElem?_eq_some_iff.1 e1).1 H.nod).1 (e1.trans e2.symm)
     subst this
     rw [ha] at hb; exact Option.some.inj hb
    obtain ⟨i, hi1⟩ := List.mem_iff_getElem?.1 he
    obtain ⟨i', hi2⟩ := List.mem_iff_getElem?.1 hst
    exact hi i i' _ _ hi1 hi2 h2
   subst h3
   show stepL s (f x) = some t
   rw [fx]; exact hp n (by omega)
  ·rw [fne _ e0]; exact H.stp e he)
 refine ⟨h.map f, L.map (fun e => (f e.1, e.2)), hs, ⟨invA_step H.inv hs, mdelK _ H.nd, fun c' d' hd' => ?_, fun y hy hyo => ?_, fun y hy hr => ?_, m1, m2, m3, m4, m5, H.big, fun c' d' hd' => ?_⟩, by simp⟩
 ·have hne : c' ≠ c := fun e => by subst e; rw [mdelS _ H.nd] at hd'; cases hd'
  rw [mdelN hne] at hd'
  obtain ⟨j', a', y, g1, g2, g3, g4, g5, g6, g7⟩ := H.dk c' d' hd'
  have hcy : y.fCall ≠ x.fCall := fun e => by have := feq y g3 e; subst this; exact hne (g5.symm.trans hc)
  have fy := fne y hcy
  refine ⟨j', a', y, g1, g2, List.mem_map.2 ⟨y, g3, fy⟩, g4, g5, g6, ?_⟩
  rcases g7 with ⟨g7, g8, g9, g10⟩ | ⟨g7, s', u, g8, g9⟩
  ·refine Or.inl ⟨g7, g8, g9, fun z hz he => ?_⟩
   obtain ⟨e, h2, rfl⟩ := List.mem_map.1 hz
   have he : f e.1 = y := he
   have h3 : e.1.fCall ≠ x.fCall := fun h3 => hcy (by rw [<- he, fcall, h3])
   rw [fne _ h3] at he
   exact g10 e h2 he
  ·exact Or.inr ⟨g7, s', u, List.mem_map.2 ⟨_, g8, by show (f y, s', u) = _; rw [fy]⟩, g9⟩
 ·obtain ⟨x0, h2, rfl⟩ := List.mem_map.1 hy
  by_cases e : x0.fCall = x.fCall
  ·obtain rfl := feq x0 h2 e
   rw [fx] at hyo
   have : (n : Int) = -1 := (opn_iff.1 hyo).1
   omega
  ·rw [fne _ e] at hyo ⊢
   obtain ⟨d0, hd0⟩ := H.dop x0 h2 hyo
   have : x0.fClient ≠ c := fun h3 => e (by rw [open_inj H.inv h2 hx hyo ho (h3.trans hc.symm)])
   exact ⟨d0, by rw [mdelN this]; exact hd0⟩
 ·obtain ⟨x0, h2, rfl⟩ := List.mem_map.1 hy
  by_cases e : x0.fCall = x.fCall
  ·obtain rfl := feq x0 h2 e
   exact ⟨_, List.mem_map.2 ⟨_, hst, rfl⟩, rfl⟩
  ·rw [fne _ e] at hr ⊢
   obtain ⟨z, hz, rfl⟩ := H.ret x0 h2 hr
   exact ⟨_, List.mem_map.2 ⟨z, hz, rfl⟩, fne _ e⟩
 ·have hne : c' ≠ c := fun e => by subst e; rw [mdelS _ H.nd] at hd'; cases hd'
  rw [mdelN hne] at hd'
  exact H.got c' d' hd'
end
theorem Hist.small {es : List HV} {h : List HO} (hh : Hist es h) (hd : ∀ e ∈ es, e.fData.length <= 1) : ∀ x ∈ h, x.fData.length <= 1 /\ x.fGot.length <= 1 := by
 induction hh with
 | nil => intro x hx; simp at hx
 | snoc _ s ih => exact small_stepA (hd _ (by simp)) (ih fun e he => hd e (List.mem_append_left _ he)) s
structure AS (ks : List LA) (V : List (BitVec 64 × LV)) (D : List (Int × LD)) (es : List HV) (i p : Nat) : Prop where
 ex : ∃ h L, Hist es h /\ AI ks V D es.length h L /\ h.length <= i
 le : i <= ks.length
 lp : es.length <= p
 dat : ∀ e ∈ es, e.fData.length <= 1
abbrev R1 := List (BitVec 64 × LV) -> List (Int × LD) -> List HV -> Int -> Int -> Option (List HV)
def Rnd (ks : List LA) (p : Nat) (r1 : R1) (o : Option (List HV)) : Prop := ∃ V' D' es' i', o = r1 V' D' es' ((i' : Nat) : Int) ((p + 1 : Nat) : Int) /\ AS ks V' D' es' i' (p + 1)
theorem at_j3 {p : Nat} (hp : p < 1000) (r1 : R1) (V : List (BitVec 64 × LV)) (D : List (Int × LD)) (es : List HV) (i : Int) : m_law25_atomic_j3 (p : Int) r1 V D es i = r1 V D es i ((p + 1 : Nat) : Int) := by
 unfold m_law25_atomic_j3; rw [ckK (by omega), obs]
theorem AS.skip {ks : List LA} {V : List (BitVec 64 × LV)} {D : List (Int × LD)} {es : List HV} {i p : Nat} (H : AS ks V D es i p) : AS ks V D es i (p + 1) := ⟨H.ex, H.le, by have := H.lp; omega, H.dat⟩
theorem same_V (V : List (BitVec 64 × LV)) (q k : BitVec 64) : stV V k = if k = q then stV V q else stV V k := by
 split
 ·rename_i h; rw [h]
 ·rfl
section
variable {ks : List LA} {V : List (BitVec 64 × LV)} {D : List (Int × LD)} {n : Nat} {h : List KO} {L : List LE}
theorem at_j11 (H : AI ks V D n h L) (hn : n <= 900) {c : Int} {d : LD} (hd : mget D c = some d) {j : Nat} {a : LA} {x : KO} (h0 : d.fact = (j : Int)) (ha : ks[j]? = some a) (hA : okA a) (hx : x ∈ h) (ho : opn x = true) (hc : x.fClient = c)
  (hm : x.fKind = a.fKind /\ x.fKey = a.fKey /\ x.fCookie = a.fCookie /\ (a.fKind = 1 -> x.fData = [a.fData])) (hr0 : d.fresult = 0) (hg0 : d.fgot = []) (hf : ∀ e ∈ L, e.1 ≠ x) (b : Bool) (hb : b = fitsL (stV V a.fKey) a.fCookie) {p : Nat} (hp : p < 1000) (i : Int) (es : List HV) (r1 : R1) :
  ∃ V' D' L', m_law25_atomic_j11 V D es i (p : Int) c a d r1 b = r1 V' D' es i ((p + 1 : Nat) : Int) /\ AI ks V' D' n h L' := by
 obtain ⟨m1, m2, m3, m4⟩ := hm
 have hret : x.fReturn = -1 := (opn_iff.1 ho).1
 unfold m_law25_atomic_j11
 by_cases k1 : a.fKind = 1
 ·rw [if_pos k1, at_j3 hp]
  refine ⟨_, _, _, rfl, H.eff hn h0 ha hx ho hc ⟨m1, m2, m3, m4⟩ hf (t := (true, a.fCookie, [a.fData])) rfl rfl (H.got c d hd) ?_ (fun r hr => ?_) (fun k => stV_set _ _ _ _) (fun k v hv => ?_)⟩
  ·unfold stepL
   rw [if_pos (m1.trans k1), if_pos hret, m3, m4 k1]
  ·unfold stepL
   rw [if_pos (show (retO r (rV c { d with fstage := 1 }) x).fKind = 1 from m1.trans k1), if_neg (show ¬ (retO r (rV c { d with fstage := 1 }) x).fReturn = -1 from hr), if_pos (show (retO r (rV c { d with fstage := 1 }) x).fResult = 0 from hr0)]
   show some (true, x.fCookie, x.fData) = _
   rw [m3, m4 k1]
  ·by_cases e : k = a.fKey
   ·subst e; rw [mgetS] at hv; injection hv with hv; subst hv; simp
   ·rw [mgetN e] at hv; exact H.big k v hv
 ·rw [if_neg k1]
  have k1' : ¬ x.fKind = 1 := fun e => k1 (m1.symm.trans e)
  by_cases hbt : b = true
  ·have hfit : fitsL (stV V a.fKey) a.fCookie = true := hb.symm.trans hbt
   rw [if_pos hbt]
   by_cases k2 : a.fKind = 2
   ·rw [if_pos k2, at_j3 hp]
    have k2' : x.fKind = 2 := m1.trans k2
    refine ⟨_, _, _, rfl, H.eff hn h0 ha hx ho hc ⟨m1, m2, m3, m4⟩ hf (t := zeroL) rfl rfl (H.got c d hd) ?_ (fun r hr => ?_) (fun k => stV_set _ _ _ _) (fun k v hv => ?_)⟩
    ·unfold stepL
     rw [if_neg k1', if_pos k2', if_pos hret, m3, if_pos hfit]
    ·unfold stepL
     rw [if_neg (show ¬ (retO r (rV c { d with fstage := 1 }) x).fKind = 1 from k1'), if_pos (show (retO r (rV c { d with fstage := 1 }) x).fKind = 2 from k2'), if_neg (show ¬ (retO r (rV c { d with fstage := 1 }) x).fReturn = -1 from hr), if_pos (show (retO r (rV c { d with fstage := 1 }) x).fResult = 0 from hr0),
      show (retO r (rV c { d with fstage := 1 }) x).fCookie = a.fCookie from m3, if_pos hfit]
    ·by_cases e : k = a.fKey
     ·subst e; rw [mgetS] at hv; injection hv with hv; subst hv; simp
     ·rw [mgetN e] at hv; exact H.big k v hv
   ·rw [if_neg k2]
    have k2' : ¬ x.fKind = 2 := fun e => k2 (m1.symm.trans e)
    have k3 : a.fKind = 3 := by have := hA.2; omega
    have k3' : x.fKind = 3 := m1.trans k3
    rw [mgetS, obs, msetT, at_j3 hp]
    refine ⟨_, _, _, rfl, H.eff hn h0 ha hx ho hc ⟨m1, m2, m3, m4⟩ hf (t := stV V a.fKey) rfl rfl ?_ ?_ (fun r hr => ?_) (fun k => same_V V _ k) H.big⟩
    ·show ((mget V a.fKey).getD ⟨false, 0#32, []⟩).fData.length <= 1
     cases hv : mget V a.fKey with
     | none => simp
     | some v => exact H.big _ _ hv
    ·unfold stepL
     rw [if_neg k1', if_neg k2', if_pos k3', if_pos hret]
    ·have hgot : ∀ d' : LD, d'.fresult = 0 -> (stV V a.fKey).2.2 = d'.fgot -> stepL (stV V a.fKey) (retO r (rV c d') x) = some (stV V a.fKey) := by
      intro d' e e'
      unfold stepL
      rw [if_neg (show ¬ (retO r (rV c d') x).fKind = 1 from k1'), if_neg (show ¬ (retO r (rV c d') x).fKind = 2 from k2'), if_pos (show (retO r (rV c d') x).fKind = 3 from k3'), if_neg (show ¬ (retO r (rV c d') x).fReturn = -1 from hr),
       if_neg (show ¬ (retO r (rV c d') x).fResult = 11 from fun e1 => absurd (e.symm.trans e1) (by decide)), if_pos (show (retO r (rV c d') x).fResult = 0 from e), show (retO r (rV c d') x).fCookie = a.fCookie from m3, if_pos hfit,
       show (retO r (rV c d') x).fGot = d'.fgot from if_pos ⟨k3', e⟩]
      exact if_pos e'
     exact hgot _ hr0 rfl
  ·have hbf : b = false := by cases b <;> simp at hbt ⊢
   have hfit : ¬ fitsL (stV V a.fKey) a.fCookie = true := fun e => hbt (hb.trans e)
   rw [if_neg hbt, mgetS, obs, msetT, at_j3 hp]
   refine ⟨_, _, _, rfl, H.eff hn h0 ha hx ho hc ⟨m1, m2, m3, m4⟩ hf (t := stV V a.fKey) rfl rfl (H.got c d hd) ?_ (fun r hr => ?_) (fun k => same_V V _ k) H.big⟩
   ·unfold stepL
    by_cases k2 : a.fKind = 2
    ·rw [if_neg k1', if_pos (m1.trans k2), if_pos hret, m3, if_neg hfit]
    ·have k3 : a.fKind = 3 := by have := hA.2; omega
     rw [if_neg k1', if_neg (fun e => k2 (m1.symm.trans e)), if_pos (m1.trans k3), if_pos hret]
   ·have hno : ∀ d' : LD, d'.fresult = 6 -> stepL (stV V a.fKey) (retO r (rV c d') x) = some (stV V a.fKey) := by
     intro d' e
     have e6 : (retO r (rV c d') x).fResult = 6 := e
     unfold stepL
     rw [if_neg (show ¬ (retO r (rV c d') x).fKind = 1 from k1')]
     by_cases k2 : a.fKind = 2
     ·rw [if_pos (show (retO r (rV c d') x).fKind = 2 from m1.trans k2), if_neg (show ¬ (retO r (rV c d') x).fReturn = -1 from hr), e6, if_neg (show ¬ (6 : Int) = 0 by decide), if_pos (show (6 : Int) = 6 from rfl),
       show (retO r (rV c d') x).fCookie = a.fCookie from m3, if_neg hfit]
     ·have k3 : a.fKind = 3 := by have := hA.2; omega
      rw [if_neg (show ¬ (retO r (rV c d') x).fKind = 2 from fun e => k2 (m1.symm.trans e)), if_pos (show (retO r (rV c d') x).fKind = 3 from m1.trans k3), if_neg (show ¬ (retO r (rV c d') x).fReturn = -1 from hr), e6, if_neg (show ¬ (6 : Int) = 11 by decide), if_neg (show ¬ (6 : Int) = 0 by decide),
       if_pos (show (6 : Int) = 6 from rfl), show (retO r (rV c d') x).fCookie = a.fCookie from m3, if_neg hfit]
    exact hno _ rfl
end
section
variable {ks : List LA} {V : List (BitVec 64 × LV)} {D : List (Int × LD)} {es : List HV} {i p : Nat}
theorem at_j10 (hK : ∀ a ∈ ks, okA a) (H : AS ks V D es i p) (hp : p < 200) (r1 : R1) {c : Int} {d : LD} (hd : mget D c = some d) {a : LA} (ha : idx ks d.fact = some a) (b : Bool) (hb : b = true -> d.fstage = 0) :
  Rnd ks p r1 (m_law25_atomic_j10 V D es (i : Int) (p : Int) c a r1 b) := by
 obtain ⟨h, L, hH, hI, hl⟩ := H.ex
 have hlp := H.lp
 obtain ⟨j, a', x, g1, g2, g3, g4, g5, g6, g7⟩ := hI.dk c d hd
 have ea : a' = a := by
  rw [g1, idx_nat, g2] at ha; exact Option.some.inj ha
 subst ea
 unfold m_law25_atomic_j10
 by_cases hbt : b = true
 ·have hst := hb hbt
  rw [if_pos hbt, hd, obs]
  obtain ⟨_, hr0, hg0, hf⟩ : d.fstage = 0 /\ d.fresult = 0 /\ d.fgot = [] /\ ∀ e ∈ L, e.1 ≠ x := by
   rcases g7 with g7 | ⟨g7, _⟩
   ·exact g7
   ·omega
  have go : ∀ b', b' = fitsL (stV V a'.fKey) a'.fCookie -> Rnd ks p r1 (m_law25_atomic_j11 V D es (i : Int) (p : Int) c a' d r1 b') := by
   intro b' hb'
   obtain ⟨V', D', L', e, hI'⟩ := at_j11 hI (by omega) hd g1 g2 (hK a' (List.mem_of_getElem? g2)) g3 g4 g5 g6 hr0 hg0 hf b' hb' (p := p) (by omega) (i : Int) es r1
   exact ⟨V', D', es, i, e, ⟨h, L', hH, hI', hl⟩, H.le, by omega, H.dat⟩
  cases hh : ((mget V a'.fKey).getD (⟨false, 0#32, []⟩ : LV)).fHas with
  | true =>
   rw [if_pos rfl]
   refine go _ ?_
   show _ = (((mget V a'.fKey).getD (⟨false, 0#32, []⟩ : LV)).fHas && _)
   rw [hh]; rfl
  | false =>
   rw [if_neg (by simp)]
   refine go _ ?_
   show _ = (((mget V a'.fKey).getD (⟨false, 0#32, []⟩ : LV)).fHas && _)
   rw [hh]; rfl
 ·rw [if_neg hbt, hd, obs]
  by_cases h1 : d.fstage = 1
  ·rw [if_pos h1, obs, obs, apd_of (by simp; omega), obs, at_j3 (by omega)]
   obtain ⟨h', L', s, hI', hl'⟩ := hI.rtn hd h1
   refine ⟨_, _, es ++ [rV c d], i, rfl, ⟨h', L', Hist.snoc hH s, ?_, by omega⟩, H.le, by simp; omega, fun e he => ?_⟩
   ·rw [List.length_append]; exact hI'
   ·rcases List.mem_append.1 he with he | he
    ·exact H.dat e he
    ·rw [List.mem_singleton.1 he]; exact hI.got c d hd
  ·rw [if_neg h1, at_j3 (by omega)]; exact ⟨_, _, _, _, rfl, H.skip⟩
theorem at_j9 (hK : ∀ a ∈ ks, okA a) (H : AS ks V D es i p) (hp : p < 200) (r1 : R1) {c : Int} {d : LD} (hd : mget D c = some d) {a : LA} (ha : idx ks d.fact = some a) (x88 : Int) (b : Bool) :
  Rnd ks p r1 (m_law25_atomic_j9 V D es (i : Int) (p : Int) x88 c a r1 b) := by
 unfold m_law25_atomic_j9
 have hlp := H.lp
 by_cases hbt : b = true
 ·obtain ⟨h, L, hH, hI, hl⟩ := H.ex
  rw [if_pos hbt, apd_of (by simp; omega), obs, at_j3 (by omega)]
  obtain ⟨s, hI'⟩ := hI.crash
  refine ⟨_, _, es ++ [⟨3, 0, 0, 0#64, 0#32, [], 0⟩], i, rfl, ⟨_, L.map fun e => (clO es.length e.1, e.2), Hist.snoc hH s, ?_, by simpa using hl⟩, H.le, by simp; omega, fun e he => ?_⟩
  ·rw [List.length_append]; exact hI'
  ·rcases List.mem_append.1 he with he | he
   ·exact H.dat e he
   ·rw [List.mem_singleton.1 he]; simp
 ·rw [if_neg hbt, hd, obs]
  by_cases h0 : d.fstage = 0
  ·rw [if_pos h0]
   split
   ·exact at_j10 hK H hp r1 hd ha _ fun _ => h0
   ·exact at_j10 hK H hp r1 hd ha _ fun _ => h0
  ·rw [if_neg h0]; exact at_j10 hK H hp r1 hd ha _ fun e => (by cases e)
theorem at_j7 (hK : ∀ a ∈ ks, okA a) (H : AS ks V D es i p) (hp : p < 200) (r1 : R1) (x88 c : Int) : Rnd ks p r1 (m_law25_atomic_j7 ks V D es (i : Int) (p : Int) x88 r1 c) := by
 unfold m_law25_atomic_j7
 cases hd : mget D c with
 | none =>
  rw [if_pos (show (none : Option LD).isNone = true from rfl), at_j3 (by omega)]; exact ⟨_, _, _, _, rfl, H.skip⟩
 | some d =>
  rw [if_neg (by simp), obs]
  obtain ⟨h, L, hH, hI, hl⟩ := H.ex
  obtain ⟨j, a, x, g1, g2, _⟩ := hI.dk c d hd
  have ha : idx ks d.fact = some a := by rw [g1, idx_nat, g2]
  rw [ha, obs]
  split
  ·exact at_j9 hK H hp r1 hd ha x88 _
  ·exact at_j9 hK H hp r1 hd ha x88 _
theorem at_l8 (hK : ∀ a ∈ ks, okA a) (H : AS ks V D es i p) (hp : p < 200) (r1 : R1) (x88 : Int) : ∀ (d n q c : Nat), n + d = 3 -> d < q -> c < 3 -> Rnd ks p r1 (m_law25_atomic_l8 ks V D es (i : Int) (p : Int) x88 r1 q (c : Int) (n : Int)) := by
 intro d
 induction d with
 | zero =>
  intro n q c hn hq hc
  obtain ⟨q, rfl⟩ : ∃ q', q = q' + 1 := ⟨q - 1, by omega⟩
  unfold m_law25_atomic_l8
  rw [if_neg (by omega)]; exact at_j7 hK H hp r1 x88 c
 | succ d ih =>
  intro n q c hn hq hc
  obtain ⟨q, rfl⟩ : ∃ q', q = q' + 1 := ⟨q - 1, by omega⟩
  unfold m_law25_atomic_l8
  rw [if_pos (by omega)]
  split
  ·have er : rmi ((c + 1 : Nat) : Int) 3 = some (((c + 1) % 3 : Nat) : Int) := by rw [rmi_of (by omega) (by omega)]; congr 1
   rw [ckK (by omega), obs, er, obs, ckK (by omega), obs]
   exact ih (n + 1) q _ (by omega) (by omega) (by omega)
  ·exact at_j7 hK H hp r1 x88 c
theorem at_j5 (hK : ∀ a ∈ ks, okA a) (H : AS ks V D es i p) (hp : p < 200) (r1 : R1) (x : Nat) : Rnd ks p r1 (m_law25_atomic_j5 ks V D es (i : Int) (p : Int) (x : Int) r1) := by
 unfold m_law25_atomic_j5
 have e1 : shri (x : Int) (1 : Nat) = some ((x / 2 : Nat) : Int) := by
  unfold shri; rw [if_pos (by omega)]; congr 1
 have e2 : rmi ((x / 2 : Nat) : Int) 3 = some ((x / 2 % 3 : Nat) : Int) := by rw [rmi_of (by omega) (by omega)]; congr 1
 rw [e1, obs, e2, obs]
 exact at_l8 hK H hp r1 _ 3 0 forever (x / 2 % 3) (by omega) (by unfold forever; omega) (by omega)
theorem at_j6 (hK : ∀ a ∈ ks, okA a) (hk : ks.length <= 100) (H : AS ks V D es i p) (hp : p < 200) (r1 : R1) (x : Nat) (b : Bool) (hb : b = true -> ∃ a, ks[i]? = some a /\ mget D a.fClient = none) : Rnd ks p r1 (m_law25_atomic_j6 ks V D es (i : Int) (p : Int) (x : Int) r1 b) := by
 unfold m_law25_atomic_j6
 have hlp := H.lp
 by_cases hbt : b = true
 ·obtain ⟨a, ha, hg⟩ := hb hbt
  have hil := (List.getElem?_eq_some_iff.1 ha).1
  obtain ⟨h, L, hH, hI, hl⟩ := H.ex
  obtain ⟨s, hI'⟩ := hI.call ha (hK a (List.mem_of_getElem? ha)) hg
  rw [if_pos hbt, idx_nat, ha, obs, apd_of (by simp; omega), obs, ckK (by omega), obs, at_j3 (by omega)]
  refine ⟨_, _, es ++ [cV a], i + 1, rfl, ⟨_, L, Hist.snoc hH s, ?_, by simp; omega⟩, hil, by simp; omega, fun e he => ?_⟩
  ·rw [List.length_append]; exact hI'
  ·rcases List.mem_append.1 he with he | he
   ·exact H.dat e he
   ·rw [List.mem_singleton.1 he]; simp [cV]
 ·rw [if_neg hbt]; exact at_j5 hK H hp r1 x
theorem at_j4 (hK : ∀ a ∈ ks, okA a) (hk : ks.length <= 100) (H : AS ks V D es i p) (hp : p < 200) (r1 : R1) (x : Nat) : Rnd ks p r1 (m_law25_atomic_j4 ks V D es (i : Int) (p : Int) r1 (x : Int)) := by
 unfold m_law25_atomic_j4
 have no : Rnd ks p r1 (m_law25_atomic_j6 ks V D es (i : Int) (p : Int) (x : Int) r1 false) := at_j6 hK hk H hp r1 x false fun e => (by cases e)
 by_cases hi : i < ks.length
 ·rw [if_pos (by omega)]
  split
  ·rw [idx_nat, List.getElem?_eq_getElem hi, obs]
   refine at_j6 hK hk H hp r1 x _ fun e => ⟨_, List.getElem?_eq_getElem hi, ?_⟩
   cases hg : mget D ks[i].fClient with
   | none => rfl
   | some d => rw [hg] at e; cases e
  ·exact no
 ·rw [if_neg (by omega)]; exact no
theorem at_j2 (places : List (BitVec 8)) (hK : ∀ a ∈ ks, okA a) (hk : ks.length <= 100) (H : AS ks V D es i p) (hp : p < 200) (r1 : R1) : Rnd ks p r1 (m_law25_atomic_j2 places ks V D es (i : Int) (p : Int) r1) := by
 unfold m_law25_atomic_j2
 rw [ck_of (by omega), obs]
 by_cases hl : p < places.length
 ·rw [if_pos (by omega), idx_nat, List.getElem?_eq_getElem hl, obs]; exact at_j4 hK hk H hp r1 _
 ·rw [if_neg (by omega), show (p : Int) * 7 = ((p * 7 : Nat) : Int) by omega]; exact at_j4 hK hk H hp r1 _
end
theorem at_l1 (places : List (BitVec 8)) (ks : List LA) (hK : ∀ a ∈ ks, okA a) (hk : ks.length <= 100) : ∀ (N q p i : Nat) (V : List (BitVec 64 × LV)) (D : List (Int × LD)) (es : List HV), p + N = 200 -> N < q -> AS ks V D es i p ->
  ∃ V' D' es' i' p', m_law25_atomic_l1 places ks q V D es (i : Int) (p : Int) = some es' /\ AS ks V' D' es' i' p' /\ p' <= 200 := by
 intro N
 induction N with
 | zero =>
  intro q p i V D es hN hq H
  obtain ⟨q, rfl⟩ : ∃ q', q = q' + 1 := ⟨q - 1, by omega⟩
  unfold m_law25_atomic_l1 m_law25_atomic_j0
  rw [if_neg (by omega)]; exact ⟨V, D, es, i, p, rfl, H, by omega⟩
 | succ N ih =>
  intro q p i V D es hN hq H
  obtain ⟨q, rfl⟩ : ∃ q', q = q' + 1 := ⟨q - 1, by omega⟩
  have go : ∃ V' D' es' i' p', m_law25_atomic_j2 places ks V D es (i : Int) (p : Int) (m_law25_atomic_l1 places ks q) = some es' /\ AS ks V' D' es' i' p' /\ p' <= 200 := by
   obtain ⟨V', D', es', i', e, H'⟩ := at_j2 places hK hk H (by omega) (m_law25_atomic_l1 places ks q)
   rw [e]; exact ih q (p + 1) i' V' D' es' (by omega) (by omega) H'
  unfold m_law25_atomic_l1
  rw [if_pos (by omega)]
  split
  ·exact go
  ·split
   ·exact go
   ·unfold m_law25_atomic_j0; exact ⟨V, D, es, i, p, rfl, H, by omega⟩
theorem atomic_ok (l : List LA) (places : List (BitVec 8)) : ∃ (es : List HV) (h : List KO) (L : List LE) (ks : List LA) (V : List (BitVec 64 × LV)) (D : List (Int × LD)), m_law25_atomic l places = some es /\ Hist es h /\ AI ks V D es.length h L /\ h.length <= 20 /\ es.length <= 200 /\ ∀ e ∈ es, e.fData.length <= 1 := by
 obtain ⟨ks, e, hk, hA⟩ := short_ok l 20 (by omega)
 unfold m_law25_atomic
 rw [show (20 : Int) = ((20 : Nat) : Int) from rfl, e, obs]
 obtain ⟨V, D, es, i, p, e1, H, hp⟩ := at_l1 places ks hA (by omega) 200 forever 0 0 [] [] [] (by omega) (by unfold forever; omega) ⟨⟨[], [], Hist.nil, AI.nil ks, by simp⟩, Nat.zero_le _, by simp, by simp⟩
 obtain ⟨h, L, hH, hI, hl⟩ := H.ex
 have h1 := H.le; have h2 := H.lp
 exact ⟨es, h, L, ks, V, D, e1, hH, hI, by omega, by omega, H.dat⟩
theorem at_law (h : List KO) (hl : h.length <= 20) (hs : ∀ x ∈ h, smallK x) (hv : validK [] h = true) (hLin : ∀ k, (onlyK h k).length <= 31 -> ∃ o, Lin (onlyK h k) 0#32 zeroL o) (er : Int) (R : List (BitVec 64)) (hD : ∀ v, v ∈ R ↔ v ∈ h.map (·.fKey)) (hR : R.length <= 1000) :
  ∀ (d n q : Nat), n + d = R.length -> d < q -> (∀ (m : Nat) k, m < n -> R[m]? = some k -> (onlyK h k).length <= 12) -> m_law25_LinearAtomic_l1 (h, er) R q (n : Int) = some true := by
 intro d
 induction d with
 | zero =>
  intro n q hn hq h12
  obtain ⟨q, rfl⟩ : ∃ q', q = q' + 1 := ⟨q - 1, by omega⟩
  unfold m_law25_LinearAtomic_l1 m_law25_LinearAtomic_j0
  rw [if_neg (by omega)]
  have h12' : ∀ k, (onlyK h k).length <= 12 := by
   intro k
   by_cases hk : k ∈ h.map (·.fKey)
   ·obtain ⟨m, hm⟩ := List.mem_iff_getElem?.1 ((hD k).2 hk)
    exact h12 m k (by have := (List.getElem?_eq_some_iff.1 hm).1; omega) hm
   ·have : onlyK h k = [] := List.filter_eq_nil_iff.2 fun x hx he => hk (List.mem_map.2 ⟨x, hx, by simpa using he⟩)
    rw [this]; simp
  obtain ⟨r, e, he⟩ := check_ok h (by omega) hs hv h12'
  rw [e, obs, he.2 fun k _ => hLin k (by have := h12' k; omega), if_pos rfl, if_pos rfl, awake_okL, obs]
 | succ d ih =>
  intro n q hn hq h12
  obtain ⟨q, rfl⟩ : ∃ q', q = q' + 1 := ⟨q - 1, by omega⟩
  have hlt : n < R.length := by omega
  unfold m_law25_LinearAtomic_l1
  rw [if_pos (by omega), idx_nat, List.getElem?_eq_getElem hlt, obs, only_ok h _ (by omega) hs, obs]
  by_cases hg : (onlyK h R[n]).length <= 12
  ·rw [if_neg (by omega), ckK (by omega), obs]
   refine ih (n + 1) q (by omega) (by omega) fun m k hm hk => ?_
   by_cases e : m = n
   ·subst e; rw [List.getElem?_eq_getElem hlt] at hk; injection hk with hk; subst hk; exact hg
   ·exact h12 m k (by omega) hk
  ·rw [if_pos (by omega), awake_okL, obs]
theorem ok_LinearAtomic (l : List LA) (places : List (BitVec 8)) : m_law25_LinearAtomic l places = some true := by
 obtain ⟨es, h, L, ks, V, D, e, hH, hI, hl, hes, hd⟩ := atomic_ok l places
 have hsm := hH.small hd
 have hs : ∀ x ∈ h, smallK x := fun x hx => by have := hsm x hx; exact ⟨by omega, by omega⟩
 obtain ⟨R, ek, hD, hkl⟩ := keys_ok h (by omega)
 unfold m_law25_LinearAtomic
 rw [e, obs, hH.build (fun e he => by have := hd e he; omega) (by omega), obs, if_pos rfl, ek, obs]
 exact at_law h hl hs (invA_valid hI.inv) (fun k hk => lin_of h L k _ (nodup_h hI.inv) hk hI.mem hI.ret hI.nod hI.ord hI.stp (hI.chn k)) 0 R hD.2 (by omega) R.length 0 forever (by omega) (by unfold forever; omega) (fun m k hm => by omega)
end Go.Proofs.Ytkcccenekglkoaa
