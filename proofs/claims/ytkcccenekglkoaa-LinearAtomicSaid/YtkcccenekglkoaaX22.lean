/-
 A small symbolic executor for the walk, part 22: a function that changes several entries of its caller's own (a closure's cells, a map), and that may call itself.
 Conditions: none; plain lemmas over any program.
-/
import Derived.Test.YtkcccenekglkoaaX21
namespace Go.Proofs.Ytkcccenekglkoaa
open Go Go.RowKit
set_option linter.unusedVariables false
def tagK : List Nat -> List HE -> Heap -> Heap
 | k :: ks, e :: es, H => (k, e) :: tagK ks es H
 | _, _, H => H
theorem tagK_out : ∀ (ks : List Nat) (es : List HE) (H : Heap) (i : Nat), i ∉ ks -> look (tagK ks es H) i = look H i
 | [], _, H, i, _ => rfl
 | _ :: _, [], H, i, _ => rfl
 | k :: ks, e :: es, H, i, h => by
  rw [List.mem_cons, not_or] at h
  show look ((k, e) :: tagK ks es H) i = _
  rw [look_cons, if_neg (fun e => h.1 e.symm), tagK_out ks es H i h.2]
theorem tagK_in : ∀ (ks : List Nat) (es : List HE) (H : Heap) (j i : Nat) (e : HE), ks.Nodup -> ks[j]? = some i -> es[j]? = some e -> look (tagK ks es H) i = some e
 | [], _, H, j, i, e, _, h, _ => by simp at h
 | _ :: _, [], H, j, i, e, _, _, h => by simp at h
 | k :: ks, e0 :: es, H, j, i, e, hn, h1, h2 => by
  show look ((k, e0) :: tagK ks es H) i = _
  rw [List.nodup_cons] at hn
  cases j with
  | zero => simp at h1 h2; subst h1; subst h2; rw [look_cons, if_pos rfl]
  | succ j =>
   simp at h1 h2
   have : k ≠ i := fun e => hn.1 (e ▸ List.mem_of_getElem? h1)
   rw [look_cons, if_neg this]; exact tagK_in ks es H j i e hn.2 h1 h2
theorem tagK_cases {ks : List Nat} {es : List HE} {H : Heap} {i : Nat} {e : HE} (hn : ks.Nodup) (hl : ks.length = es.length) (h : look (tagK ks es H) i = some e) : (∃ j : Nat, ks[j]? = some i /\ es[j]? = some e) ∨ (i ∉ ks /\ look H i = some e) := by
 by_cases hi : i ∈ ks
 ·left
  obtain ⟨j, hj⟩ := List.mem_iff_getElem?.1 hi
  have hlt : j < es.length := by have := (List.getElem?_eq_some_iff.1 hj).1; omega
  have := tagK_in ks es H j i es[j] hn hj (List.getElem?_eq_getElem hlt)
  rw [h] at this; injection this with this
  exact ⟨j, hj, by rw [this]; exact List.getElem?_eq_getElem hlt⟩
 ·right; exact ⟨hi, by rw [tagK_out ks es H i hi] at h; exact h⟩
theorem pickH_get {H : Heap} : ∀ {ks : List Nat} {es : List HE}, pickH H ks = some es -> ks.length = es.length /\ ∀ (j i : Nat) (e : HE), ks[j]? = some i -> es[j]? = some e -> look H i = some e
 | [], es, h => by simp [pickH] at h; subst h; exact ⟨rfl, fun j i e h => by simp at h⟩
 | k :: ks, es, h => by
  unfold pickH at h
  cases h1 : look H k with
  | none => simp [h1] at h
  | some e =>
   cases h2 : pickH H ks with
   | none => simp [h1, h2] at h
   | some es' =>
    simp [h1, h2] at h
    subst h
    obtain ⟨g1, g2⟩ := pickH_get h2
    refine ⟨by simp [g1], fun j i x hi hx => ?_⟩
    cases j with
    | zero => simp at hi hx; subst hi; subst hx; exact h1
    | succ j => simp at hi hx; exact g2 j i x hi hx
open Classical in
theorem Tri.frame {P : Program} {f : FuncId} {args : Array Value} {w0 : World} {H : Heap} (cks kks : List Nat) (es : List HE) {X : Type} (Rp : X -> Value -> Prop) (G : X -> List HE) (hp : pickH H kks = some es)
  (hn1 : kks.Nodup) (hn2 : cks.Nodup) (h1 : 1 ∉ cks) (hl : cks.length = kks.length) (hG : ∀ x, (G x).length = cks.length)
  (hc : ∀ e0, Tri P f args w0 ((1, e0) :: tagK cks es []) fun r H' => ∃ x, Rp x r /\ H' = (1, e0) :: tagK cks (G x) []) :
  Tri P f args w0 H fun r H' => ∃ x, Rp x r /\ H' = tagK kks (G x) H := by
 intro w hb hh
 obtain ⟨hpl, hpg⟩ := pickH_get hp
 let F : Nat -> Prop := fun g => ∃ i e, look H i = some e /\ i ∉ kks /\ e.fp g
 let M : Mem := fun g => if F g then w.heap[g]? else none
 have hM : Holds M w := fun g o h => by
  by_cases hF : F g
  ·simpa [M, hF] using h
  ·simp [M, hF] at h
 have hMF : ∀ g, M g ≠ none -> F g := fun g h => Classical.byContradiction fun hF => h (by simp [M, hF])
 have idx : ∀ {j i : Nat} {e : HE}, cks[j]? = some i -> es[j]? = some e -> ∃ i', kks[j]? = some i' /\ look H i' = some e := by
  intro j i e hi he
  have hlt : j < kks.length := by have := (List.getElem?_eq_some_iff.1 hi).1; omega
  exact ⟨kks[j], List.getElem?_eq_getElem hlt, hpg j _ e (List.getElem?_eq_getElem hlt) he⟩
 have hin : HS w0.heap.size w ((1, .mem M) :: tagK cks es []) := by
  have cs : ∀ i e, look ((1, HE.mem M) :: tagK cks es []) i = some e -> (i = 1 /\ e = .mem M) ∨ (i ≠ 1 /\ ∃ (j i' : Nat), cks[j]? = some i /\ kks[j]? = some i' /\ look H i' = some e) := by
   intro i e h
   rw [look_cons] at h
   split at h
   ·rename_i hi; injection h with h; exact .inl ⟨hi.symm, h.symm⟩
   ·rename_i hi
    rcases tagK_cases hn2 (by omega) h with ⟨j, a, b⟩ | ⟨_, b⟩
    ·obtain ⟨i', c, d⟩ := idx a b
     exact .inr ⟨fun e => hi e.symm, j, i', a, c, d⟩
    ·simp [look] at b
  have key : ∀ (j i' : Nat) (e : HE), kks[j]? = some i' -> look H i' = some e -> ∀ g, (HE.mem M).fp g -> e.fp g -> False := by
   intro j i' e hk he g hg1 hg2
   obtain ⟨i2, e2, hl2, hne, hg⟩ := hMF g hg1
   exact hh.apart i' i2 e e2 he hl2 (fun x => hne (x ▸ List.mem_of_getElem? hk)) g hg2 hg
  refine ⟨fun i e he => ?_, fun i j e e' hi hj hne => ?_⟩
  ·rcases cs i e he with ⟨_, rfl⟩ | ⟨_, j, i', _, _, d⟩
   ·exact hM
   ·exact hh.sat i' e d
  ·rcases cs i e hi with ⟨a1, rfl⟩ | ⟨_, j1, i1, a1, b1, d1⟩ <;> rcases cs j e' hj with ⟨a2, rfl⟩ | ⟨_, j2, i2, a2, b2, d2⟩
   ·omega
   ·exact key j2 i2 e' b2 d2
   ·exact fun g x y => key j1 i1 e b1 d1 g y x
   ·refine hh.apart i1 i2 e e' d1 d2 fun x => hne ?_
    subst x
    have : j1 = j2 := (List.getElem?_inj (List.getElem?_eq_some_iff.1 b1).1 hn1).1 (b1.trans b2.symm)
    subst this
    rw [a1] at a2; exact Option.some.inj a2
 refine (hc (.mem M) w hb hin).mono fun e w' ⟨r, H', he, ⟨x, hr, hH⟩, hb', hh'⟩ => ⟨r, tagK kks (G x) H, he, ⟨x, hr, rfl⟩, hb', ?_⟩
 subst hH
 have hM' : Holds M w' := hh'.sat 1 _ rfl
 have hkeep : ∀ i e, look H i = some e -> i ∉ kks -> e.sat w0.heap.size w' := fun i e he hne =>
  (hh.sat i e he).keep fun g hg => by
   have hlt := (hh.sat i e he).lt g hg
   have hF : F g := ⟨i, e, he, hne, hg⟩
   obtain ⟨o, ho⟩ : ∃ o, w.heap[g]? = some o := ⟨_, Array.getElem?_eq_getElem hlt⟩
   rw [ho]
   exact hM' g o (by simp [M, hF, ho])
 have hgl : kks.length = (G x).length := by rw [hG]; omega
 have can : ∀ {j i : Nat} {e : HE}, kks[j]? = some i -> (G x)[j]? = some e -> ∃ i', cks[j]? = some i' /\ look ((1, HE.mem M) :: tagK cks (G x) []) i' = some e := by
  intro j i e hi he
  have hlt : j < cks.length := by have := (List.getElem?_eq_some_iff.1 hi).1; omega
  have hi' := List.getElem?_eq_getElem hlt
  refine ⟨cks[j], hi', ?_⟩
  rw [look_cons, if_neg (fun x => h1 (by rw [x]; exact List.getElem_mem _))]
  exact tagK_in cks (G x) [] j _ e hn2 hi' he
 have key : ∀ (i' : Nat) (e : HE), i' ≠ 1 -> look ((1, HE.mem M) :: tagK cks (G x) []) i' = some e -> ∀ (i2 : Nat) (e2 : HE), look H i2 = some e2 -> i2 ∉ kks -> ∀ g, e.fp g -> e2.fp g -> False := by
  intro i' e hne he i2 e2 he2 hn g hg1 hg2
  refine hh'.apart 1 i' (.mem M) e rfl he (Ne.symm hne) g ?_ hg1
  have hlt := (hh.sat i2 e2 he2).lt g hg2
  have hF : F g := ⟨i2, e2, he2, hn, hg2⟩
  simp [HE.fp, M, hF, hlt]
 have ne1 : ∀ {j i' : Nat}, cks[j]? = some i' -> i' ≠ 1 := fun h e => h1 (e ▸ List.mem_of_getElem? h)
 refine ⟨fun i e he => ?_, fun i j e e' hi hj hne => ?_⟩
 ·rcases tagK_cases hn1 hgl he with ⟨j, a, b⟩ | ⟨a, b⟩
  ·obtain ⟨i', c, d⟩ := can a b; exact hh'.sat i' e d
  ·exact hkeep i e b a
 ·rcases tagK_cases hn1 hgl hi with ⟨j1, a1, b1⟩ | ⟨a1, b1⟩ <;> rcases tagK_cases hn1 hgl hj with ⟨j2, a2, b2⟩ | ⟨a2, b2⟩
  ·obtain ⟨i1, c1, d1⟩ := can a1 b1; obtain ⟨i2, c2, d2⟩ := can a2 b2
   refine hh'.apart i1 i2 e e' d1 d2 fun x => hne ?_
   subst x
   have : j1 = j2 := (List.getElem?_inj (List.getElem?_eq_some_iff.1 c1).1 hn2).1 (c1.trans c2.symm)
   subst this
   rw [a1] at a2; exact Option.some.inj a2
  ·obtain ⟨i1, c1, d1⟩ := can a1 b1
   exact key i1 e (ne1 c1) d1 j e' b2 a2
  ·obtain ⟨i2, c2, d2⟩ := can a2 b2
   exact fun g x y => key i2 e' (ne1 c2) d2 i e b1 a1 g y x
  ·exact hh.apart i j e e' b1 b2 hne
end Go.Proofs.Ytkcccenekglkoaa
