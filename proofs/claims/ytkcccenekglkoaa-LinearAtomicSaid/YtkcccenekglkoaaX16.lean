/-
 A small symbolic executor for the walk, part 16: rows of the call's own that hang on a slice of slices of the call's own.
 Conditions: none; plain lemmas over any program.
-/
import Derived.Test.YtkcccenekglkoaaX15
namespace Go.Proofs.Ytkcccenekglkoaa
open Go Go.RowKit
set_option linter.unusedVariables false
def HStep (H H' : Heap) : Prop := ∀ B w, HS B w H -> HS B w H'
theorem HStep.trans {H H1 H2 : Heap} (h : HStep H H1) (k : HStep H1 H2) : HStep H H2 := fun B w s => k B w (h B w s)
theorem HStep.sub {H H' : Heap} (h : Sub H' H) : HStep H H' := fun _ _ s => s.sub h
section
variable {P : Program} {N : Nat} {w0 : World} {env : Env} {H H' H1 H2 H3 : Heap} {ops : Array Oper} {K : Act -> World -> Prop} {rest : List Oper}
variable {Hro : Heap} {fuel : Nat} {listed : Array Bool}
theorem St.hs {a : Act} {w : World} (hst : HStep H H') (h : St N w0 env H a w) : St N w0 env H' a w := ⟨h.size, h.defers, h.vals, h.below, hst _ _ h.heap⟩
theorem WL.hs (hst : HStep H H') (h : WL P N w0 ops K rest env H') : WL P N w0 ops K rest env H := fun a w hs => h a w (hs.hs hst)
theorem Eff0.via {o : Oper} (h1 : HStep H H1) (h : Eff0 P N w0 env H1 o H2) (h2 : HStep H2 H3) : Eff0 P N w0 env H o H3 :=
 fun a w K Q hs hK => h a w K Q (hs.hs h1) fun w' hb hh => hK w' hb (h2 _ _ hh)
variable {R : Mem -> Prop} {F : Mem -> Heap}
end
namespace Z
end Z
theorem HS.two {B : Nat} {w : World} {H : Heap} (h : HS B w H) {k k' : Nat} {e1 e2 : HE} (hne : k ≠ k') (s1 : e1.sat B w) (s2 : e2.sat B w) (ap : e1.apart e2)
  (f1 : ∀ g, e1.fp g -> (∃ e, look H k = some e /\ e.fp g) ∨ (∃ e, look H k' = some e /\ e.fp g))
  (f2 : ∀ g, e2.fp g -> (∃ e, look H k = some e /\ e.fp g) ∨ (∃ e, look H k' = some e /\ e.fp g)) : HS B w ((k, e1) :: (k', e2) :: H) := by
 have oth : ∀ {e : HE}, (∀ g, e.fp g -> (∃ e, look H k = some e /\ e.fp g) ∨ (∃ e, look H k' = some e /\ e.fp g)) -> ∀ j x, j ≠ k -> j ≠ k' -> look H j = some x -> e.apart x := by
  intro e hf j x h1 h2 hx g hg hg'
  rcases hf g hg with ⟨e0, he0, hg0⟩ | ⟨e0, he0, hg0⟩
  ·exact h.apart k j e0 x he0 hx (Ne.symm h1) g hg0 hg'
  ·exact h.apart k' j e0 x he0 hx (Ne.symm h2) g hg0 hg'
 refine ⟨fun i x hx => ?_, fun i j x y hx hy hij => ?_⟩
 ·rw [look_cons] at hx
  split at hx
  ·injection hx with hx; subst hx; exact s1
  ·rw [look_cons] at hx
   split at hx
   ·injection hx with hx; subst hx; exact s2
   ·exact h.sat i x hx
 ·rw [look_cons] at hx hy
  split at hx
  ·rename_i a
   injection hx with hx; subst hx
   split at hy
   ·omega
   ·rename_i b
    rw [look_cons] at hy
    split at hy
    ·injection hy with hy; subst hy; exact ap
    ·rename_i c; exact oth f1 j y (fun e => b e.symm) (fun e => c e.symm) hy
  ·rename_i a
   rw [look_cons] at hx
   split at hy
   ·injection hy with hy; subst hy
    split at hx
    ·injection hx with hx; subst hx; exact ap.symm
    ·rename_i b c; exact (oth f1 i x (fun e => a e.symm) (fun e => c e.symm) hx).symm
   ·rename_i b
    rw [look_cons] at hy
    split at hx
    ·rename_i c
     injection hx with hx; subst hx
     split at hy
     ·omega
     ·rename_i d; exact oth f2 j y (fun e => b e.symm) (fun e => d e.symm) hy
    ·rename_i c
     split at hy
     ·injection hy with hy; subst hy; exact (oth f2 i x (fun e => a e.symm) (fun e => c e.symm) hx).symm
     ·exact h.apart i j x y hx hy hij
abbrev rowAp (r r' : ORow) : Prop := ∀ g, ownFp r.1 r.2.2.1 g -> ownFp r'.1 r'.2.2.1 g -> False
theorem rowAp.symm {r r' : ORow} (h : rowAp r r') : rowAp r' r := fun g a b => h g b a
theorem pw_get {l : List ORow} (h : l.Pairwise rowAp) : ∀ {i j : Nat} {a b : ORow}, l[i]? = some a -> l[j]? = some b -> i ≠ j -> rowAp a b := by
 intro i j a b ha hb hne
 have hi := (List.getElem?_eq_some_iff.1 ha); have hj := (List.getElem?_eq_some_iff.1 hb)
 obtain ⟨h1, rfl⟩ := hi; obtain ⟨h2, rfl⟩ := hj
 have hp := List.pairwise_iff_getElem.1 h
 rcases Nat.lt_or_gt_of_ne hne with hlt | hlt
 ·exact hp i j h1 h2 hlt
 ·exact (hp j i h2 h1 hlt).symm
theorem pw_set {l : List ORow} (h : l.Pairwise rowAp) (i : Nat) (x : ORow) (hx : ∀ j y, j ≠ i -> l[j]? = some y -> rowAp x y) : (l.set i x).Pairwise rowAp := by
 refine List.pairwise_iff_getElem.2 fun p q hp hq hlt => ?_
 rw [List.length_set] at hp hq
 rw [List.getElem_set, List.getElem_set]
 split
 ·split
  ·omega
  ·rename_i a b; exact hx q _ (fun e => b e.symm) (List.getElem?_eq_getElem hq)
 ·split
  ·rename_i a b; exact (hx p _ (fun e => a e.symm) (List.getElem?_eq_getElem hp)).symm
  ·exact List.pairwise_iff_getElem.1 h p q hp hq hlt
theorem mem_set_cases {l : List ORow} {i : Nat} {x r : ORow} (h : r ∈ l.set i x) : r = x ∨ ∃ j, j ≠ i /\ l[j]? = some r := by
 obtain ⟨j, hj⟩ := List.mem_iff_getElem?.1 h
 rw [List.getElem?_set] at hj
 split at hj
 ·split at hj
  ·injection hj with hj; exact .inl hj.symm
  ·cases hj
 ·rename_i hne; exact .inr ⟨j, fun e => hne e.symm, hj⟩
section
variable {H : Heap} {E : TypeId} {sz : Nat} {rs rs' : List ORow} {A : Option Addr} {n c : Nat} {xs : List Value}
theorem HStep.rowsNil (k : Nat) (E : TypeId) (sz : Nat) : HStep H ((k, .rows E sz []) :: H) := fun B w h =>
 h.set k _ (Nat.le_refl _) (fun _ _ _ => rfl) ⟨fun _ h => (by cases h), List.Pairwise.nil⟩ (fun g hg => by obtain ⟨r, hr, _⟩ := hg; cases hr)
theorem HStep.rowsPut (k k' i : Nat) (hne : Nat.beq k k' = false) (hk : look H k = some (.rows E sz rs)) (hk' : look H k' = some (.own E sz A n c xs)) : HStep H ((k, .rows E sz (rs.set i (A, n, c, xs))) :: (k', .emp) :: H) := fun B w h => by
 have hne' : k ≠ k' := fun e => by subst e; simp at hne
 have h1 := h.sat k _ hk; have h2 := h.sat k' _ hk'
 refine h.two hne' ⟨fun r hr => ?_, pw_set h1.2 i _ fun j y hj hy g ga gb => h.apart k k' _ _ hk hk' hne' g ⟨y, List.mem_of_getElem? hy, gb⟩ ga⟩ trivial (fun _ _ hg => hg.elim) (fun g hg => ?_) (fun _ hg => hg.elim)
 ·rcases mem_set_cases hr with rfl | ⟨j, _, hj⟩
  ·exact h2
  ·exact h1.1 r (List.mem_of_getElem? hj)
 ·obtain ⟨r, hr, hg⟩ := hg
  rcases mem_set_cases hr with rfl | ⟨j, _, hj⟩
  ·exact .inr ⟨_, hk', hg⟩
  ·exact .inl ⟨_, hk, r, List.mem_of_getElem? hj, hg⟩
theorem HStep.rowsTake (k k' i : Nat) (hne : k' ≠ k) (hk : look H k = some (.rows E sz rs)) (hi : rs[i]? = some (A, n, c, xs)) : HStep H ((k', .own E sz A n c xs) :: (k, .rows E sz (rs.set i (none, 0, 0, []))) :: H) := fun B w h => by
 have h1 := h.sat k _ hk
 refine h.two hne (h1.1 _ (List.mem_of_getElem? hi)) ⟨fun r hr => ?_, pw_set h1.2 i _ fun j y hj hy g ga gb => (ga.1 rfl).elim⟩ (fun g ga gb => ?_) (fun g hg => .inr ⟨_, hk, _, List.mem_of_getElem? hi, hg⟩) (fun g hg => ?_)
 ·rcases mem_set_cases hr with rfl | ⟨j, _, hj⟩
  ·exact .inr ⟨rfl, rfl, rfl⟩
  ·exact h1.1 r (List.mem_of_getElem? hj)
 ·obtain ⟨r, hr, hg⟩ := gb
  rcases mem_set_cases hr with rfl | ⟨j, hne, hj⟩
  ·exact hg.1 rfl
  ·exact pw_get h1.2 hi hj (Ne.symm hne) g ga hg
 ·obtain ⟨r, hr, hg⟩ := hg
  rcases mem_set_cases hr with rfl | ⟨j, _, hj⟩
  ·exact (hg.1 rfl).elim
  ·exact .inr ⟨_, hk, r, List.mem_of_getElem? hj, hg⟩
end
section
variable {P : Program} {N : Nat} {w0 : World} {env : Env} {H : Heap} {α : Type} [Lay α] {hs : List Hdr} {e e' : List (List α)}
variable {d : Option Tmp} {ty T T' E : TypeId} {pos : String} {after : Array Edge} {g : Option (Nat × Bool)} {x y : Operand}
theorem fresh_for (H : Heap) (m : Nat) : ∃ k, m < k /\ look H k = none := by
 have key : ∀ H : Heap, ∃ k, m < k /\ ∀ i, k <= i -> look H i = none := by
  intro H
  induction H with
  | nil => exact ⟨m + 1, Nat.lt_succ_self _, fun _ _ => rfl⟩
  | cons p H ih =>
   obtain ⟨k, h1, h2⟩ := ih
   obtain ⟨k0, e0⟩ := p
   refine ⟨max k (k0 + 1), by omega, fun i hi => ?_⟩
   rw [look_cons_ne e0 H (by omega)]; exact h2 i (by omega)
 obtain ⟨k, h1, h2⟩ := key H
 exact ⟨k, h1, h2 k (Nat.le_refl _)⟩
end
end Go.Proofs.Ytkcccenekglkoaa
