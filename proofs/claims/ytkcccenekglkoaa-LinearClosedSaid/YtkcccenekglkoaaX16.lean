/-
  A small symbolic executor for the walk, part 16: rows of the call's own that hang on a slice of slices of the call's own.
  Conditions: none; plain lemmas over any program.
-/
import Derived.Test.YtkcccenekglkoaaX15
namespace Go.Proofs.Ytkcccenekglkoaa
open Go Go.RowKit
set_option linter.unusedVariables false

/-! ### what is known, told otherwise -/
def HStep (H H' : Heap) : Prop := ∀ B w, HS B w H → HS B w H'
theorem HStep.trans {H H1 H2 : Heap} (h : HStep H H1) (k : HStep H1 H2) : HStep H H2 := fun B w s => k B w (h B w s)
theorem HStep.sub {H H' : Heap} (h : Sub H' H) : HStep H H' := fun _ _ s => s.sub h
section
variable {P : Program} {N : Nat} {w0 : World} {env : Env} {H H' H1 H2 H3 : Heap} {ops : Array Oper} {K : Act → World → Prop} {rest : List Oper}
variable {Hro : Heap} {fuel : Nat} {listed : Array Bool}
theorem St.hs {a : Act} {w : World} (hst : HStep H H') (h : St N w0 env H a w) : St N w0 env H' a w := ⟨h.size, h.defers, h.vals, h.below, hst _ _ h.heap⟩
theorem WL.hs (hst : HStep H H') (h : WL P N w0 ops K rest env H') : WL P N w0 ops K rest env H := fun a w hs => h a w (hs.hs hst)
theorem WC.hs {cd : Code} {Q : Exit → Act → World → Prop} (hst : HStep H H') (h : WC P N w0 cd Q env H') : WC P N w0 cd Q env H := fun a w hs => h a w (hs.hs hst)
theorem KK.hs (hst : HStep H H') (h : KK N w0 K env H') : KK N w0 K env H := fun a w hs => h a w (hs.hs hst)
theorem QK.hs {Q : Exit → Act → World → Prop} {e : Exit} (hst : HStep H H') (h : QK N w0 Q e env H') : QK N w0 Q e env H := fun a w hs => h a w (hs.hs hst)
theorem WD.hs (hst : HStep H H') (hsub : Sub Hro H') (h : WD P N w0 ops K Hro fuel listed env H') : WD P N w0 ops K Hro fuel listed env H := fun _ a w hs => h hsub a w (hs.hs hst)
theorem WS.hs {i : Nat} (hst : HStep H H') (hsub : Sub Hro H') (h : WS P N w0 ops K Hro fuel listed env H' i) : WS P N w0 ops K Hro fuel listed env H i := fun _ a w hs => h hsub a w (hs.hs hst)
theorem Eff0.via {o : Oper} (h1 : HStep H H1) (h : Eff0 P N w0 env H1 o H2) (h2 : HStep H2 H3) : Eff0 P N w0 env H o H3 :=
  fun a w K Q hs hK => h a w K Q (hs.hs h1) fun w' hb hh => hK w' hb (h2 _ _ hh)
theorem Eff.via {o : Oper} {R R' : Value → Heap → Prop} (h1 : HStep H H1) (h : Eff P N w0 env H1 o R) (h2 : ∀ v H2, R v H2 → ∃ H3, HStep H2 H3 ∧ R' v H3) : Eff P N w0 env H o R' :=
  fun a w K Q hs hK => h a w K Q (hs.hs h1) fun v H2 w' hr hb hh => by
    obtain ⟨H3, h3, hr'⟩ := h2 v H2 hr
    exact hK v H3 w' hr' hb (h3 _ _ hh)
/-- memory grows -/
def HGrow (w0 : World) (H : Heap) (R : Mem → Prop) (F : Mem → Heap) : Prop := ∀ w, HS w0.heap.size w H → ∃ M', R M' ∧ HS w0.heap.size w (F M')
variable {R : Mem → Prop} {F : Mem → Heap}
theorem St.grow {a : Act} {w : World} (g : HGrow w0 H R F) (h : St N w0 env H a w) : ∃ M', R M' ∧ St N w0 env (F M') a w := by
  obtain ⟨M', h1, h2⟩ := g w h.heap; exact ⟨M', h1, h.size, h.defers, h.vals, h.below, h2⟩
theorem WL.grow (g : HGrow w0 H R F) (h : ∀ M', R M' → WL P N w0 ops K rest env (F M')) : WL P N w0 ops K rest env H := fun a w hs => let ⟨M', h1, h2⟩ := hs.grow g; h M' h1 a w h2
theorem WC.grow {cd : Code} {Q : Exit → Act → World → Prop} (g : HGrow w0 H R F) (h : ∀ M', R M' → WC P N w0 cd Q env (F M')) : WC P N w0 cd Q env H := fun a w hs => let ⟨M', h1, h2⟩ := hs.grow g; h M' h1 a w h2
theorem KK.grow (g : HGrow w0 H R F) (h : ∀ M', R M' → KK N w0 K env (F M')) : KK N w0 K env H := fun a w hs => let ⟨M', h1, h2⟩ := hs.grow g; h M' h1 a w h2
theorem QK.grow {Q : Exit → Act → World → Prop} {e : Exit} (g : HGrow w0 H R F) (h : ∀ M', R M' → QK N w0 Q e env (F M')) : QK N w0 Q e env H := fun a w hs => let ⟨M', h1, h2⟩ := hs.grow g; h M' h1 a w h2
end
namespace Z
section
variable {P : Program} {N : Nat} {w0 : World} {env : Env} {H H' : Heap} {ops : Array Oper} {K : Act → World → Prop} {rest : List Oper} {r : Option Nat} {ds : List Deferred} {Q : Exit → Act → World → Prop}
variable {R : Mem → Prop} {F : Mem → Heap}
theorem SZ.hs {a : Act} {w : World} (hst : HStep H H') (h : SZ N w0 ds env H a w) : SZ N w0 ds env H' a w := ⟨h.1.hs hst, h.2⟩
theorem WL.hs (hst : HStep H H') (h : WL P N w0 r ds ops K rest env H') : WL P N w0 r ds ops K rest env H := fun a w hs => h a w (hs.hs hst)
theorem WC.hs {cd : Code} (hst : HStep H H') (h : WC P N w0 r ds cd Q env H') : WC P N w0 r ds cd Q env H := fun a w hs => h a w (hs.hs hst)
theorem KK.hs (hst : HStep H H') (h : KK N w0 ds K env H') : KK N w0 ds K env H := fun a w hs => h a w (hs.hs hst)
theorem QK.hs {e : Exit} (hst : HStep H H') (h : QK N w0 ds Q e env H') : QK N w0 ds Q e env H := fun a w hs => h a w (hs.hs hst)
theorem SZ.grow {a : Act} {w : World} (g : HGrow w0 H R F) (h : SZ N w0 ds env H a w) : ∃ M', R M' ∧ SZ N w0 ds env (F M') a w := let ⟨M', h1, h2⟩ := h.1.grow g; ⟨M', h1, h2, h.2⟩
theorem WL.grow (g : HGrow w0 H R F) (h : ∀ M', R M' → WL P N w0 r ds ops K rest env (F M')) : WL P N w0 r ds ops K rest env H := fun a w hs => let ⟨M', h1, h2⟩ := hs.grow g; h M' h1 a w h2
theorem WC.grow {cd : Code} (g : HGrow w0 H R F) (h : ∀ M', R M' → WC P N w0 r ds cd Q env (F M')) : WC P N w0 r ds cd Q env H := fun a w hs => let ⟨M', h1, h2⟩ := hs.grow g; h M' h1 a w h2
theorem KK.grow (g : HGrow w0 H R F) (h : ∀ M', R M' → KK N w0 ds K env (F M')) : KK N w0 ds K env H := fun a w hs => let ⟨M', h1, h2⟩ := hs.grow g; h M' h1 a w h2
theorem QK.grow {e : Exit} (g : HGrow w0 H R F) (h : ∀ M', R M' → QK N w0 ds Q e env (F M')) : QK N w0 ds Q e env H := fun a w hs => let ⟨M', h1, h2⟩ := hs.grow g; h M' h1 a w h2
end
end Z

/-! ### two entries told anew -/
theorem HS.two {B : Nat} {w : World} {H : Heap} (h : HS B w H) {k k' : Nat} {e1 e2 : HE} (hne : k ≠ k') (s1 : e1.sat B w) (s2 : e2.sat B w) (ap : e1.apart e2)
    (f1 : ∀ g, e1.fp g → (∃ e, look H k = some e ∧ e.fp g) ∨ (∃ e, look H k' = some e ∧ e.fp g))
    (f2 : ∀ g, e2.fp g → (∃ e, look H k = some e ∧ e.fp g) ∨ (∃ e, look H k' = some e ∧ e.fp g)) : HS B w ((k, e1) :: (k', e2) :: H) := by
  have oth : ∀ {e : HE}, (∀ g, e.fp g → (∃ e, look H k = some e ∧ e.fp g) ∨ (∃ e, look H k' = some e ∧ e.fp g)) → ∀ j x, j ≠ k → j ≠ k' → look H j = some x → e.apart x := by
    intro e hf j x h1 h2 hx g hg hg'
    rcases hf g hg with ⟨e0, he0, hg0⟩ | ⟨e0, he0, hg0⟩
    · exact h.apart k j e0 x he0 hx (Ne.symm h1) g hg0 hg'
    · exact h.apart k' j e0 x he0 hx (Ne.symm h2) g hg0 hg'
  refine ⟨fun i x hx => ?_, fun i j x y hx hy hij => ?_⟩
  · rw [look_cons] at hx
    split at hx
    · injection hx with hx; subst hx; exact s1
    · rw [look_cons] at hx
      split at hx
      · injection hx with hx; subst hx; exact s2
      · exact h.sat i x hx
  · rw [look_cons] at hx hy
    split at hx
    · rename_i a
      injection hx with hx; subst hx
      split at hy
      · omega
      · rename_i b
        rw [look_cons] at hy
        split at hy
        · injection hy with hy; subst hy; exact ap
        · rename_i c; exact oth f1 j y (fun e => b e.symm) (fun e => c e.symm) hy
    · rename_i a
      rw [look_cons] at hx
      split at hy
      · injection hy with hy; subst hy
        split at hx
        · injection hx with hx; subst hx; exact ap.symm
        · rename_i b c; exact (oth f1 i x (fun e => a e.symm) (fun e => c e.symm) hx).symm
      · rename_i b
        rw [look_cons] at hy
        split at hx
        · rename_i c
          injection hx with hx; subst hx
          split at hy
          · omega
          · rename_i d; exact oth f2 j y (fun e => b e.symm) (fun e => d e.symm) hy
        · rename_i c
          split at hy
          · injection hy with hy; subst hy; exact (oth f2 i x (fun e => a e.symm) (fun e => c e.symm) hx).symm
          · exact h.apart i j x y hx hy hij

/-! ### rows -/
abbrev rowAp (r r' : ORow) : Prop := ∀ g, ownFp r.1 r.2.2.1 g → ownFp r'.1 r'.2.2.1 g → False
theorem rowAp.symm {r r' : ORow} (h : rowAp r r') : rowAp r' r := fun g a b => h g b a
theorem pw_get {l : List ORow} (h : l.Pairwise rowAp) : ∀ {i j : Nat} {a b : ORow}, l[i]? = some a → l[j]? = some b → i ≠ j → rowAp a b := by
  intro i j a b ha hb hne
  have hi := (List.getElem?_eq_some_iff.1 ha); have hj := (List.getElem?_eq_some_iff.1 hb)
  obtain ⟨h1, rfl⟩ := hi; obtain ⟨h2, rfl⟩ := hj
  have hp := List.pairwise_iff_getElem.1 h
  rcases Nat.lt_or_gt_of_ne hne with hlt | hlt
  · exact hp i j h1 h2 hlt
  · exact (hp j i h2 h1 hlt).symm
theorem pw_set {l : List ORow} (h : l.Pairwise rowAp) (i : Nat) (x : ORow) (hx : ∀ j y, j ≠ i → l[j]? = some y → rowAp x y) : (l.set i x).Pairwise rowAp := by
  refine List.pairwise_iff_getElem.2 fun p q hp hq hlt => ?_
  rw [List.length_set] at hp hq
  rw [List.getElem_set, List.getElem_set]
  split
  · split
    · omega
    · rename_i a b; exact hx q _ (fun e => b e.symm) (List.getElem?_eq_getElem hq)
  · split
    · rename_i a b; exact (hx p _ (fun e => a e.symm) (List.getElem?_eq_getElem hp)).symm
    · exact List.pairwise_iff_getElem.1 h p q hp hq hlt
theorem mem_set_cases {l : List ORow} {i : Nat} {x r : ORow} (h : r ∈ l.set i x) : r = x ∨ ∃ j, j ≠ i ∧ l[j]? = some r := by
  obtain ⟨j, hj⟩ := List.mem_iff_getElem?.1 h
  rw [List.getElem?_set] at hj
  split at hj
  · split at hj
    · injection hj with hj; exact .inl hj.symm
    · cases hj
  · rename_i hne; exact .inr ⟨j, fun e => hne e.symm, hj⟩
section
variable {H : Heap} {E : TypeId} {sz : Nat} {rs rs' : List ORow} {A : Option Addr} {n c : Nat} {xs : List Value}
theorem HStep.rowsNil (k : Nat) (E : TypeId) (sz : Nat) : HStep H ((k, .rows E sz []) :: H) := fun B w h =>
  h.set k _ (Nat.le_refl _) (fun _ _ _ => rfl) ⟨fun _ h => (by cases h), List.Pairwise.nil⟩ (fun g hg => by obtain ⟨r, hr, _⟩ := hg; cases hr)
theorem HStep.rowsRep (k : Nat) (E : TypeId) (sz m : Nat) : HStep H ((k, .rows E sz (List.replicate m (none, 0, 0, []))) :: H) := fun B w h =>
  h.set k _ (Nat.le_refl _) (fun _ _ _ => rfl) ⟨fun r hr => by rw [List.eq_of_mem_replicate hr]; exact .inr ⟨rfl, rfl, rfl⟩, List.pairwise_replicate.2 (.inr fun g hg => (hg.1 rfl).elim)⟩
    (fun g hg => by obtain ⟨r, hr, hg⟩ := hg; rw [List.eq_of_mem_replicate hr] at hg; exact (hg.1 rfl).elim)
theorem HStep.toRows (k : Nat) (hk : look H k = some (.own E sz A n c xs)) : HStep H ((k, .rows E sz [(A, n, c, xs)]) :: H) := fun B w h =>
  h.set k _ (Nat.le_refl _) (fun _ _ _ => rfl) ⟨fun r hr => by rw [List.mem_singleton] at hr; subst hr; exact h.sat k _ hk, List.pairwise_singleton _ _⟩
    (fun g hg => by obtain ⟨r, hr, hg⟩ := hg; rw [List.mem_singleton] at hr; subst hr; exact .inl ⟨_, hk, hg⟩)
theorem HStep.rowsCat (k k' : Nat) (hne : Nat.beq k k' = false) (hk : look H k = some (.rows E sz rs)) (hk' : look H k' = some (.rows E sz rs')) : HStep H ((k, .rows E sz (rs ++ rs')) :: (k', .emp) :: H) := fun B w h => by
  have hne' : k ≠ k' := fun e => by subst e; simp at hne
  have h1 := h.sat k _ hk; have h2 := h.sat k' _ hk'
  refine h.two hne' ⟨fun r hr => ?_, List.pairwise_append.2 ⟨h1.2, h2.2, fun a ha b hb g ga gb => h.apart k k' _ _ hk hk' hne' g ⟨a, ha, ga⟩ ⟨b, hb, gb⟩⟩⟩ trivial (fun _ _ hg => hg.elim) (fun g hg => ?_) (fun _ hg => hg.elim)
  · rcases List.mem_append.1 hr with hr | hr
    · exact h1.1 r hr
    · exact h2.1 r hr
  · obtain ⟨r, hr, hg⟩ := hg
    rcases List.mem_append.1 hr with hr | hr
    · exact .inl ⟨_, hk, r, hr, hg⟩
    · exact .inr ⟨_, hk', r, hr, hg⟩
theorem HStep.rowsApd {rs'' : List ORow} (k k' : Nat) (hne : Nat.beq k k' = false) (he : rs ++ rs' = rs'') (hk : look H k = some (.rows E sz rs)) (hk' : look H k' = some (.rows E sz rs')) : HStep H ((k, .rows E sz rs'') :: (k', .emp) :: H) := by
  subst he; exact HStep.rowsCat k k' hne hk hk'
/-- a slice of the call's own becomes row i -/
theorem HStep.rowsPut (k k' i : Nat) (hne : Nat.beq k k' = false) (hk : look H k = some (.rows E sz rs)) (hk' : look H k' = some (.own E sz A n c xs)) : HStep H ((k, .rows E sz (rs.set i (A, n, c, xs))) :: (k', .emp) :: H) := fun B w h => by
  have hne' : k ≠ k' := fun e => by subst e; simp at hne
  have h1 := h.sat k _ hk; have h2 := h.sat k' _ hk'
  refine h.two hne' ⟨fun r hr => ?_, pw_set h1.2 i _ fun j y hj hy g ga gb => h.apart k k' _ _ hk hk' hne' g ⟨y, List.mem_of_getElem? hy, gb⟩ ga⟩ trivial (fun _ _ hg => hg.elim) (fun g hg => ?_) (fun _ hg => hg.elim)
  · rcases mem_set_cases hr with rfl | ⟨j, _, hj⟩
    · exact h2
    · exact h1.1 r (List.mem_of_getElem? hj)
  · obtain ⟨r, hr, hg⟩ := hg
    rcases mem_set_cases hr with rfl | ⟨j, _, hj⟩
    · exact .inr ⟨_, hk', hg⟩
    · exact .inl ⟨_, hk, r, List.mem_of_getElem? hj, hg⟩
/-- row i, taken out -/
theorem HStep.rowsTake (k k' i : Nat) (hne : k' ≠ k) (hk : look H k = some (.rows E sz rs)) (hi : rs[i]? = some (A, n, c, xs)) : HStep H ((k', .own E sz A n c xs) :: (k, .rows E sz (rs.set i (none, 0, 0, []))) :: H) := fun B w h => by
  have h1 := h.sat k _ hk
  refine h.two hne (h1.1 _ (List.mem_of_getElem? hi)) ⟨fun r hr => ?_, pw_set h1.2 i _ fun j y hj hy g ga gb => (ga.1 rfl).elim⟩ (fun g ga gb => ?_) (fun g hg => .inr ⟨_, hk, _, List.mem_of_getElem? hi, hg⟩) (fun g hg => ?_)
  · rcases mem_set_cases hr with rfl | ⟨j, _, hj⟩
    · exact .inr ⟨rfl, rfl, rfl⟩
    · exact h1.1 r (List.mem_of_getElem? hj)
  · obtain ⟨r, hr, hg⟩ := gb
    rcases mem_set_cases hr with rfl | ⟨j, hne, hj⟩
    · exact hg.1 rfl
    · exact pw_get h1.2 hi hj (Ne.symm hne) g ga hg
  · obtain ⟨r, hr, hg⟩ := hg
    rcases mem_set_cases hr with rfl | ⟨j, _, hj⟩
    · exact (hg.1 rfl).elim
    · exact .inr ⟨_, hk, r, List.mem_of_getElem? hj, hg⟩
end

/-! ### rows and headers -/
def rws {α : Type} [Lay α] (hs : List Hdr) (e : List (List α)) : List ORow := List.zipWith (fun h x => (h.A, h.n, h.c, cel x)) hs e
section
variable {α : Type} {hs : List Hdr} {e : List (List α)}
theorem rows_idx {i : Int} {x : List α} (hl : hs.length = e.length) (hx : idx e i = some x) : ∃ r, idx hs i = some r := by
  obtain ⟨h1, h2, _⟩ := idx_some hx
  exact ⟨_, idx_of h1 (List.getElem?_eq_getElem (by omega))⟩
theorem rows_upd {i : Int} {v : List (List α)} {x : List α} (hl : hs.length = e.length) (h : upd e i x = some v) : hs.length = v.length := by
  obtain ⟨_, rfl⟩ := upd_some h; simpa using hl
end
section
variable {α : Type} [Lay α] {hs hs' : List Hdr} {e e' : List (List α)}
theorem rws_get {i : Nat} {r : Hdr} {x : List α} (h : hs[i]? = some r) (hx : e[i]? = some x) : (rws hs e)[i]? = some (r.A, r.n, r.c, cel x) := by
  rw [rws, List.getElem?_zipWith, h, hx]
theorem rws_put (r : Hdr) (x : List α) : ∀ (hs : List Hdr) (e : List (List α)) (i : Nat), (rws hs e).set i (r.A, r.n, r.c, cel x) = rws (hs.set i r) (e.set i x)
  | [], _, _ => rfl
  | _ :: _, [], i => by cases i <;> rfl
  | h :: hs, y :: e, 0 => rfl
  | h :: hs, y :: e, i + 1 => by
    show (_ :: (rws hs e).set i _) = _ :: rws (hs.set i r) (e.set i x)
    rw [rws_put r x hs e i]
theorem rws_set {i : Nat} {r : Hdr} (x : List α) (h : hs[i]? = some r) : (rws hs e).set i (r.A, r.n, r.c, cel x) = rws hs (e.set i x) := by
  rw [rws_put, show hs.set i r = hs from by
    refine List.ext_getElem? fun j => ?_
    rw [List.getElem?_set]
    split
    · rename_i e1; subst e1; split
      · exact h.symm
      · rename_i h2; rw [List.getElem?_eq_none (by omega)]
    · rfl]
theorem rws_append (h : hs.length = e.length) : rws (hs ++ hs') (e ++ e') = rws hs e ++ rws hs' e' := List.zipWith_append h
theorem rws_rep (m : Nat) : rws (α := α) (List.replicate m ⟨none, 0, 0⟩) (List.replicate m []) = List.replicate m (none, 0, 0, []) := by
  rw [rws, List.zipWith_replicate, Nat.min_self]; rfl
theorem rows_apd {B : Nat} {v : List (List α)} (hl : hs.length = e.length) (hl' : hs'.length = e'.length) (h : apd B e e' = some v) :
    apd B hs hs' = some (hs ++ hs') ∧ (hs ++ hs').length = v.length ∧ rws hs e ++ rws hs' e' = rws (hs ++ hs') v := by
  obtain ⟨h1, rfl⟩ := apd_some h
  exact ⟨apd_of (by rw [hl, hl']; exact h1), by simp [hl, hl'], (rws_append hl).symm⟩
theorem rows_updH {i : Int} {v : List (List α)} {x : List α} (r : Hdr) (hl : hs.length = e.length) (h : upd e i x = some v) :
    upd hs i r = some (hs.set i.toNat r) ∧ (hs.set i.toNat r).length = v.length ∧ (rws hs e).set i.toNat (r.A, r.n, r.c, cel x) = rws (hs.set i.toNat r) v := by
  obtain ⟨h1, rfl⟩ := upd_some h
  exact ⟨upd_of ⟨h1.1, by omega⟩, by simpa using hl, rws_put r x hs e _⟩
theorem rows_mks {B : Nat} {n : Int} {v : List (List α)} (h : mks B n ([] : List α) = some v) :
    mks B n (⟨none, 0, 0⟩ : Hdr) = some (List.replicate n.toNat ⟨none, 0, 0⟩) ∧ (List.replicate n.toNat (⟨none, 0, 0⟩ : Hdr)).length = v.length ∧ List.replicate n.toNat (none, 0, 0, []) = rws (List.replicate n.toNat ⟨none, 0, 0⟩) v := by
  obtain ⟨h1, rfl⟩ := mks_some h
  exact ⟨mks_of h1, by simp, (rws_rep _).symm⟩
end
section
variable {P : Program} {N : Nat} {w0 : World} {env : Env} {H : Heap} {α : Type} [Lay α] {hs : List Hdr} {e e' : List (List α)}
variable {d : Option Tmp} {ty T T' E : TypeId} {pos : String} {after : Array Edge} {g : Option (Nat × Bool)} {x y : Operand}
/-- a row is read -/
theorem RdT.row {k : Nat} {i : Int} {r : Hdr} {b : List α} (hk : look H k = some (.rows E (Lay.sz α) (rws hs e))) (hr : idx hs i = some r) (hb : idx e i = some b) : RdT w0 H r.A r.n r.c b := fun w _ hh => by
  obtain ⟨h0, _, h1⟩ := idx_some hr; obtain ⟨_, _, h2⟩ := idx_some hb
  exact own_SlR ((hh.sat k _ hk).1 _ (List.mem_of_getElem? (rws_get h1 h2)))
theorem fresh_for (H : Heap) (m : Nat) : ∃ k, m < k ∧ look H k = none := by
  have key : ∀ H : Heap, ∃ k, m < k ∧ ∀ i, k ≤ i → look H i = none := by
    intro H
    induction H with
    | nil => exact ⟨m + 1, Nat.lt_succ_self _, fun _ _ => rfl⟩
    | cons p H ih =>
      obtain ⟨k, h1, h2⟩ := ih
      obtain ⟨k0, e0⟩ := p
      refine ⟨max k (k0 + 1), by omega, fun i hi => ?_⟩
      rw [look_cons_ne e0 H (by omega)]; exact h2 i (by omega)
  obtain ⟨k, h1, h2⟩ := key H
  exact ⟨k, h1, h2 k (Nat.le_refl _)⟩
/-- row i as a slice of the call's own, for a step -/
theorem HStep.rowOut {k kf : Nat} {i : Int} {r : Hdr} {b : List α} (hf : k < kf) (hk : look H k = some (.rows E (Lay.sz α) (rws hs e))) (hr : idx hs i = some r) (hb : idx e i = some b) :
    HStep H ((kf, .own E (Lay.sz α) r.A r.n r.c (cel b)) :: (k, .rows E (Lay.sz α) ((rws hs e).set i.toNat (none, 0, 0, []))) :: H) := by
  obtain ⟨h0, _, h1⟩ := idx_some hr; obtain ⟨_, _, h2⟩ := idx_some hb
  exact HStep.rowsTake k kf i.toNat (by omega) hk (rws_get h1 h2)
theorem HStep.rowBack {k kf : Nat} {i : Int} {r : Hdr} {b b' : List α} (hf : k < kf) (hn : look H kf = none) (hr : idx hs i = some r) (h : upd e i b' = some e') :
    HStep ((kf, .own E (Lay.sz α) r.A r.n r.c (cel b')) :: (kf, .own E (Lay.sz α) r.A r.n r.c (cel b)) :: (k, .rows E (Lay.sz α) ((rws hs e).set i.toNat (none, 0, 0, []))) :: H) ((k, .rows E (Lay.sz α) (rws hs e')) :: H) := by
  obtain ⟨h0, _, h1⟩ := idx_some hr
  obtain ⟨_, rfl⟩ := upd_some h
  refine HStep.trans (HStep.rowsPut k kf i.toNat (nbeq (by omega)) (E := E) (sz := Lay.sz α) (rs := (rws hs e).set i.toNat (none, 0, 0, [])) (A := r.A) (n := r.n) (c := r.c) (xs := cel b') ?_ (look_cons_same _ _ _)) (HStep.sub ?_)
  · rw [look_cons_ne _ _ (by omega), look_cons_ne _ _ (by omega), look_cons_same]
  · intro j x hx
    rw [look_cons] at hx ⊢
    split at hx
    · rename_i e0; rw [if_pos e0]
      rw [List.set_set, rws_set b' h1]; exact hx
    · rename_i e0; rw [if_neg e0]
      have hj : kf ≠ j := fun e1 => by subst e1; rw [hn] at hx; cases hx
      rw [look_cons_ne _ _ hj, look_cons_ne _ _ hj, look_cons_ne _ _ hj, look_cons_ne _ _ e0]
      exact hx
/-- a store into an element of a row -/
theorem Eff0.storeRow (k : Nat) {i m : Int} {r : Hdr} {b b' : List α} {a' : α} {u : Value} (hsz : (P.info? T).map (·.size) = some 1) (h1 : Lay.sz α = 1) (hx : evl env x = some (.pointer (some ((adr r.A).add (m.toNat * Lay.sz α))))) (hy : evl env y = some u) (hu : u.oneCell' = true)
    (hk : look H k = some (.rows E (Lay.sz α) (rws hs e))) (hr : idx hs i = some r) (hb : idx e i = some b) (he : Lay.enc a' = [u]) (h : upd b m a' = some b') (h' : upd e i b' = some e') :
    Eff0 P N w0 env H ⟨none, .store T x y, ty, pos, after, g⟩ ((k, .rows E (Lay.sz α) (rws hs e')) :: H) := by
  obtain ⟨kf, hf, hn⟩ := fresh_for H k
  exact Eff0.via (HStep.rowOut hf hk hr hb) (Eff0.storeC1 kf hsz h1 hx hy hu (look_cons_same _ _ _) he h) (HStep.rowBack hf hn hr h')
/-- all rows become memory that stays -/
theorem HGrow.rows {M : Mem} (k : Nat) (hk : look H k = some (.rows E (Lay.sz α) (rws hs e))) (hM : look H 0 = some (.mem M)) (h0 : Nat.beq k 0 = false) (hl : hs.length = e.length) :
    HGrow w0 H (fun M' => Ext w0.heap.size M M' ∧ Rels (RelB (α := α) M') hs e) (fun M' => (k, .emp) :: (0, .mem M') :: H) := fun w hh => by
  obtain ⟨M', h1, h2, h3⟩ := hh.freeze hk hM (fun e => by subst e; simp at h0) (fun _ e => by cases e)
  refine ⟨M', ⟨h1, hl, fun i r b hr hb => ?_⟩, h3⟩
  have hm := List.mem_of_getElem? (rws_get hr hb)
  exact own_SlM (E := E) (sz := Lay.sz α) ((hh.sat k _ hk).1 _ hm) fun g o hg hf => h2 g o hg ⟨_, hm, hf⟩
end
/-! ### an array inside a block, at a number that is not literal -/
section
variable {P : Program} {N : Nat} {w0 : World} {env : Env} {H : Heap} {α : Type} [Lay α] {xs ys zs : List α} {pre post cs : List Value}
variable {d : Option Tmp} {ty T T' E : TypeId} {pos : String} {after : Array Edge} {g : Option (Nat × Bool)} {x y : Operand}
theorem Yld.idxArrF {k : IntKind} {m : Int} {gb o len : Nat} {a : α} (hT : P.underlying T = some (.array len E)) (hE : (P.info? E).map (·.size) = some (Lay.sz α)) (hx : evl env x = some (.pointer (some ⟨gb, o, none⟩))) (hy : evl env y = some (.int k m)) (hl : xs.length = len) (h : idx xs m = some a) :
    Yld P N w0 env H ⟨d, .indexAddr T x y, ty, pos, after, g⟩ (.pointer (some ⟨gb, o + m.toNat * Lay.sz α, none⟩)) := by
  obtain ⟨h1, h2, _⟩ := idx_some h
  exact Yld.idxArr hT hE hx hy ⟨h1, by omega⟩
theorem Yld.loadArrF {m : Int} {k gb o : Nat} {t : TypeId} {a : α} {u : Value} (hsc : scal P T = true) (hx : evl env x = some (.pointer (some ⟨gb, o + m.toNat * Lay.sz α, none⟩))) (hk : look H k = some (.blk gb t (pre ++ (cel xs ++ post)))) (ho : pre.length = o) (h : idx xs m = some a) (hu : (Lay.enc a)[0]? = some u) :
    Yld P N w0 env H ⟨d, .load T x, ty, pos, after, g⟩ u := by
  obtain ⟨h1, h2, h3⟩ := idx_some h
  have hlt : m.toNat * Lay.sz α < (cel xs).length := by
    rw [cel_length]
    have : (m.toNat + 1) * Lay.sz α ≤ xs.length * Lay.sz α := Nat.mul_le_mul_right _ (by omega)
    rw [Nat.add_mul] at this; have := Lay.pos (α := α); omega
  refine Yld.loadB hsc hx hk ?_
  rw [List.getElem?_append_right (by omega), List.getElem?_append_left (by omega), show o + m.toNat * Lay.sz α - pre.length = m.toNat * Lay.sz α + 0 from by omega, cel_get h3 Lay.pos]; exact hu
theorem Eff0.storeArrF (k : Nat) {m : Int} {gb o : Nat} {t : TypeId} {a' : α} {u : Value} (hsz : (P.info? T).map (·.size) = some 1) (h1 : Lay.sz α = 1) (hx : evl env x = some (.pointer (some ⟨gb, o + m.toNat * Lay.sz α, none⟩))) (hy : evl env y = some u) (hu : u.oneCell' = true)
    (hk : look H k = some (.blk gb t (pre ++ (cel xs ++ post)))) (ho : pre.length = o) (he : Lay.enc a' = [u]) (h : upd xs m a' = some ys) (hz : ys = zs) (hcs : pre ++ (cel zs ++ post) = cs) :
    Eff0 P N w0 env H ⟨none, .store T x y, ty, pos, after, g⟩ ((k, .blk gb t cs) :: H) := by
  subst hz; subst hcs
  obtain ⟨h4, rfl⟩ := upd_some h
  obtain ⟨a, ha⟩ : ∃ a, xs[m.toNat]? = some a := ⟨_, List.getElem?_eq_getElem h4.2⟩
  have hlt : m.toNat * Lay.sz α < (cel xs).length := by rw [cel_length, h1]; omega
  refine (Eff0.storeB k hsz hx hy hu hk (by rw [List.length_append, List.length_append]; omega)).weaken' ?_
  have he' : (Lay.enc a).set 0 u = Lay.enc a' := by
    have hl := Lay.len a
    rw [h1] at hl
    rw [he]
    obtain ⟨v, hv⟩ := List.length_eq_one_iff.1 hl
    rw [hv]; rfl
  have := cel_set ha he' Lay.pos
  rw [Nat.add_zero] at this
  rw [← this, List.set_append_right _ _ (by omega), List.set_append_left _ _ (by omega), show o + m.toNat * Lay.sz α - pre.length = m.toNat * Lay.sz α from by omega]
end
section
variable {P : Program} {N : Nat} {w0 : World} {env : Env} {H : Heap} {T : TypeId} {cs : List Value}
theorem ResIs.tmpCellTmpM {fn : Func} {a' u u' : Tmp} {v v' : Value} {gb k s : Nat} {t : TypeId} (h : fn.results = #[.tmp u, .cell a' T, .tmp u']) (ha : Agg P T s) (he : look env a' = some (.pointer (some ⟨gb, 0, none⟩))) (hk : look H k = some (.blk gb t cs)) (hl : cs.length = s)
    (hu : look env u = some v) (hu' : look env u' = some v') : ResIs P N w0 fn env H (.tuple #[v, .agg cs.toArray, v']) := fun a w hs => by
  subst hl
  obtain ⟨_, h2⟩ : w0.heap.size ≤ gb ∧ w.heap[gb]? = some (.cells cs.toArray t (0, 0)) := hs.heap.sat k _ hk
  have hv := hs.vals _ _ he
  have hw := hs.vals _ _ hu
  have hw' := hs.vals _ _ hu'
  simp only [Array.getD_eq_getD_getElem?] at hv hw hw'
  simp [results, h, hv, hw, hw', asAddr, loadVar_blk ha h2]
end
theorem eta_getD {α : Type} (z : α) {ys : List α} {n : Nat} (h : ys.length = n) : ys = (List.range n).map fun i => ys.getD i z := by
  subst h
  refine List.ext_getElem? fun i => ?_
  rw [List.getElem?_map]
  by_cases hi : i < ys.length
  · rw [List.getElem?_range hi, List.getElem?_eq_getElem hi]; simp [List.getElem?_eq_getElem hi]
  · rw [List.getElem?_eq_none (by omega), List.getElem?_eq_none (by simp; omega)]; rfl
end Go.Proofs.Ytkcccenekglkoaa
