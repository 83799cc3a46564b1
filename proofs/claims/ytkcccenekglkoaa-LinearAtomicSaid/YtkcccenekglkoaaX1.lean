/-
 A small symbolic executor for the walk, part 1 (second edition: a memory that is known to stay): states as association lists (temporaries; blocks of the call's own), and the rules for code.
 Conditions: none; plain lemmas over any program.
-/
import Derived.WalkKit
import Derived.OrdersHeld
import Derived.Deep.Draws
import Derived.Deep.LoopGhost
namespace Go.Proofs.Ytkcccenekglkoaa
open Go Go.RowKit
set_option linter.unusedVariables false
def look {α : Type} : List (Nat × α) -> Nat -> Option α
 | [], _ => none
 | (k, v) :: e, n => bif Nat.beq k n then some v else look e n
theorem nbeq {k n : Nat} (h : k ≠ n) : Nat.beq k n = false := by
 cases hb : Nat.beq k n
 ·rfl
 ·exact absurd (Nat.eq_of_beq_eq_true hb) h
theorem look_cons_same {α : Type} (k : Nat) (v : α) (e : List (Nat × α)) : look ((k, v) :: e) k = some v := by simp [look]
theorem look_cons_ne {α : Type} {k n : Nat} (v : α) (e : List (Nat × α)) (h : k ≠ n) : look ((k, v) :: e) n = look e n := by simp [look, nbeq h]
theorem look_cons {α : Type} (k n : Nat) (v : α) (e : List (Nat × α)) : look ((k, v) :: e) n = if k = n then some v else look e n := by
 by_cases h : k = n
 ·subst h; simp [look]
 ·simp [look, nbeq h, h]
abbrev Env := List (Nat × Value)
abbrev Mem := Nat -> Option Obj
def Mem.cell? (M : Mem) (a : Addr) : Option Value :=
 match M a.block with
 | some (.cells c _ _) => if a.spot.isSome then none else c[a.off]?
 | _ => none
def Mem.snap (w : World) : Mem := fun g => w.heap[g]?
def Holds (M : Mem) (w : World) : Prop := ∀ g o, M g = some o -> w.heap[g]? = some o
theorem Holds.snap (w : World) : Holds (Mem.snap w) w := fun _ _ h => h
theorem Holds.cell {M : Mem} {w : World} (h : Holds M w) {a : Addr} {v : Value} (hc : M.cell? a = some v) : w.cell? a = some v := by
 unfold Mem.cell? at hc
 unfold World.cell?
 cases hm : M a.block with
 | none => rw [hm] at hc; cases hc
 | some o => rw [hm] at hc; rw [h _ _ hm]; exact hc
theorem Mem.snap_cell (w : World) (a : Addr) : (Mem.snap w).cell? a = w.cell? a := rfl
structure Ext (B : Nat) (M M' : Mem) : Prop where
 le : ∀ g o, M g = some o -> M' g = some o
 new : ∀ g o, M' g = some o -> M g = some o ∨ B <= g
theorem Ext.refl (B : Nat) (M : Mem) : Ext B M M := ⟨fun _ _ h => h, fun _ _ h => .inl h⟩
theorem Ext.trans {B : Nat} {a b c : Mem} (h : Ext B a b) (k : Ext B b c) : Ext B a c :=
 ⟨fun g o e => k.le g o (h.le g o e), fun g o e => (k.new g o e).elim (fun e => h.new g o e) .inr⟩
theorem Ext.mono {B B' : Nat} {a b : Mem} (h : Ext B a b) (hB : B' <= B) : Ext B' a b := ⟨h.le, fun g o e => (h.new g o e).imp id (Nat.le_trans hB)⟩
theorem Ext.cell {B : Nat} {M M' : Mem} (h : Ext B M M') {a : Addr} {v : Value} (hc : M.cell? a = some v) : M'.cell? a = some v := by
 unfold Mem.cell? at hc ⊢
 cases hm : M a.block with
 | none => rw [hm] at hc; cases hc
 | some o => rw [hm] at hc; rw [h.le _ _ hm]; exact hc
inductive HE where
 | blk (g : Nat) (t : TypeId) (cs : List Value)
 | own (E : TypeId) (sz : Nat) (A : Option Addr) (n c : Nat) (xs : List Value)
 | ro (g : Nat) (t : TypeId) (cs : List Value)
 | obj (g : Nat) (o : Obj)
 | rows (E : TypeId) (sz : Nat) (rs : List (Option Addr × Nat × Nat × List Value))
 | mem (M : Mem)
 | emp
abbrev Heap := List (Nat × HE)
def ownFp (A : Option Addr) (c i : Nat) : Prop := c ≠ 0 /\ ∃ a, A = some a /\ a.block = i
def ownSat (B : Nat) (w : World) (E : TypeId) (sz : Nat) (A : Option Addr) (n c : Nat) (xs : List Value) : Prop := w.ownsRow B E sz (.slice A n c) n xs ∨ (n = 0 /\ c = 0 /\ xs = [])
abbrev ORow := Option Addr × Nat × Nat × List Value
def HE.fp : HE -> Nat -> Prop
 | .blk g _ _, i => g = i
 | .own _ _ A _ c _, i => c ≠ 0 /\ ∃ a, A = some a /\ a.block = i
 | .ro g _ _, i => g = i
 | .obj g _, i => g = i
 | .rows _ _ rs, i => ∃ r ∈ rs, ownFp r.1 r.2.2.1 i
 | .mem M, i => M i ≠ none
 | .emp, _ => False
def HE.sat (B : Nat) (w : World) : HE -> Prop
 | .blk g t cs => B <= g /\ w.heap[g]? = some (.cells cs.toArray t (0, 0))
 | .own E sz A n c xs => w.ownsRow B E sz (.slice A n c) n xs ∨ (n = 0 /\ c = 0 /\ xs = [])
 | .ro g t cs => B <= g /\ ∃ fr, w.heap[g]? = some (.cells cs.toArray t fr)
 | .obj g o => B <= g /\ w.heap[g]? = some o
 | .rows E sz rs => (∀ r ∈ rs, ownSat B w E sz r.1 r.2.1 r.2.2.1 r.2.2.2) /\ rs.Pairwise (fun r r' => ∀ g, ownFp r.1 r.2.2.1 g -> ownFp r'.1 r'.2.2.1 g -> False)
 | .mem M => Holds M w
 | .emp => True
def HE.apart (e e' : HE) : Prop := ∀ g, e.fp g -> e'.fp g -> False
theorem HE.apart.symm {e e' : HE} (h : e.apart e') : e'.apart e := fun g h1 h2 => h g h2 h1
theorem ownSat.lt {B : Nat} {w : World} {E : TypeId} {sz : Nat} {A : Option Addr} {n c : Nat} {xs : List Value} (h : ownSat B w E sz A n c xs) : ∀ g, ownFp A c g -> g < w.heap.size := by
 rintro g ⟨hc, a, rfl, rfl⟩
 rcases h with h' | ⟨_, h', _⟩
 ·exact (h'.lt a.block (by simp [Value.ownBlock])).2
 ·exact absurd h' hc
theorem ownSat.ge {B : Nat} {w : World} {E : TypeId} {sz : Nat} {A : Option Addr} {n c : Nat} {xs : List Value} (h : ownSat B w E sz A n c xs) : ∀ g, ownFp A c g -> B <= g := by
 rintro g ⟨hc, a, rfl, rfl⟩
 rcases h with h' | ⟨_, h', _⟩
 ·exact (h'.lt a.block (by simp [Value.ownBlock])).1
 ·exact absurd h' hc
theorem ownSat.keep {B : Nat} {w w' : World} {E : TypeId} {sz : Nat} {A : Option Addr} {n c : Nat} {xs : List Value} (h : ownSat B w E sz A n c xs) (hk : ∀ g, ownFp A c g -> w'.heap[g]? = w.heap[g]?) : ownSat B w' E sz A n c xs := by
 rcases h with h | h
 ·rcases h.2 with hn | ⟨g, cap, cur, hv, hb, hgg, rest⟩
  ·exact .inl ⟨h.1, .inl hn⟩
  ·by_cases hc : c = 0
   ·right
    have hn : n = 0 := by have := rest.1; injection hv with _ _ hcc; omega
    refine ⟨hn, hc, ?_⟩
    have := h.1
    rw [hn] at this
    exact List.eq_nil_of_length_eq_zero (by simpa using this)
   ·have hA : A = some ⟨g, 0, none⟩ := by injection hv
    subst hA
    exact .inl ⟨h.1, .inr ⟨g, cap, cur, hv, hb, (hk g ⟨hc, _, rfl, rfl⟩).trans hgg, rest⟩⟩
 ·exact .inr h
theorem ownSat.mono {B B' : Nat} {w : World} {E : TypeId} {sz : Nat} {A : Option Addr} {n c : Nat} {xs : List Value} (h : ownSat B w E sz A n c xs) (hB : B' <= B) : ownSat B' w E sz A n c xs := by
 rcases h with h | h
 ·rcases h.2 with hn | ⟨g, cap, cur, hv, hb, rest⟩
  ·exact .inl ⟨h.1, .inl hn⟩
  ·exact .inl ⟨h.1, .inr ⟨g, cap, cur, hv, Nat.le_trans hB hb, rest⟩⟩
 ·exact .inr h
theorem HE.sat.lt {B : Nat} {w : World} {e : HE} (h : e.sat B w) : ∀ g, e.fp g -> g < w.heap.size := by
 intro g hg
 have key : ∀ {o : Obj}, w.heap[g]? = some o -> g < w.heap.size := fun h => (Array.getElem?_eq_some_iff.1 h).1
 cases e with
 | blk g' t cs => simp [HE.fp] at hg; subst hg; exact key h.2
 | own E sz A n c xs =>
  obtain ⟨hc, a, rfl, rfl⟩ := hg
  rcases h with h' | ⟨_, h', _⟩
  ·exact (h'.lt a.block (by simp [Value.ownBlock])).2
  ·exact absurd h' hc
 | ro g' t cs => simp [HE.fp] at hg; subst hg; obtain ⟨_, fr, h2⟩ := h; exact key h2
 | obj g' o => simp [HE.fp] at hg; subst hg; exact key h.2
 | rows E sz rs => obtain ⟨r, hr, hg⟩ := hg; exact (h.1 r hr).lt g hg
 | mem M =>
  simp only [HE.fp] at hg
  cases hm : M g with
  | none => exact absurd hm hg
  | some o => exact key (h g o hm)
 | emp => exact hg.elim
theorem HE.sat.keep {B : Nat} {w w' : World} {e : HE} (h : e.sat B w) (hk : ∀ g, e.fp g -> w'.heap[g]? = w.heap[g]?) : e.sat B w' := by
 cases e with
 | blk g t cs => exact ⟨h.1, (hk g rfl).trans h.2⟩
 | own E sz A n c xs =>
  rcases h with h | h
  ·rcases h.2 with hn | ⟨g, cap, cur, hv, hb, hgg, rest⟩
   ·exact .inl ⟨h.1, .inl hn⟩
   ·by_cases hc : c = 0
    ·right
     have hn : n = 0 := by have := rest.1; injection hv with _ _ hcc; omega
     refine ⟨hn, hc, ?_⟩
     have := h.1
     rw [hn] at this
     exact List.eq_nil_of_length_eq_zero (by simpa using this)
    ·have hA : A = some ⟨g, 0, none⟩ := by injection hv
     subst hA
     exact .inl ⟨h.1, .inr ⟨g, cap, cur, hv, hb, (hk g ⟨hc, _, rfl, rfl⟩).trans hgg, rest⟩⟩
  ·exact .inr h
 | ro g t cs => obtain ⟨h1, fr, h2⟩ := h; exact ⟨h1, fr, (hk g rfl).trans h2⟩
 | obj g o => exact ⟨h.1, (hk g rfl).trans h.2⟩
 | rows E sz rs => exact ⟨fun r hr => (h.1 r hr).keep fun g hg => hk g ⟨r, hr, hg⟩, h.2⟩
 | mem M => exact fun g o hm => (hk g (by simp [HE.fp, hm])).trans (h g o hm)
 | emp => trivial
theorem HE.sat.mono {B B' : Nat} {w : World} {e : HE} (h : e.sat B w) (hB : B' <= B) : e.sat B' w := by
 cases e with
 | blk g t cs => exact ⟨Nat.le_trans hB h.1, h.2⟩
 | own E sz A n c xs =>
  rcases h with h | h
  ·rcases h.2 with hn | ⟨g, cap, cur, hv, hb, rest⟩
   ·exact .inl ⟨h.1, .inl hn⟩
   ·exact .inl ⟨h.1, .inr ⟨g, cap, cur, hv, Nat.le_trans hB hb, rest⟩⟩
  ·exact .inr h
 | ro g t cs => exact ⟨Nat.le_trans hB h.1, h.2⟩
 | obj g o => exact ⟨Nat.le_trans hB h.1, h.2⟩
 | rows E sz rs => exact ⟨fun r hr => (h.1 r hr).mono hB, h.2⟩
 | mem M => exact h
 | emp => trivial
structure HS (B : Nat) (w : World) (H : Heap) : Prop where
 sat : ∀ k e, look H k = some e -> e.sat B w
 apart : ∀ k k' e e', look H k = some e -> look H k' = some e' -> k ≠ k' -> e.apart e'
theorem HS.one {B : Nat} {w : World} {k : Nat} {e : HE} (h : e.sat B w) : HS B w [(k, e)] := by
 refine ⟨fun k' e' he => ?_, fun k1 k2 e1 e2 h1 h2 hne => ?_⟩
 ·rw [look_cons] at he
  split at he
  ·injection he with he; subst he; exact h
  ·simp [look] at he
 ·rw [look_cons] at h1 h2
  split at h1 <;> split at h2
  ·omega
  ·simp [look] at h2
  ·simp [look] at h1
  ·simp [look] at h1
theorem HS.set {B : Nat} {w w' : World} {H : Heap} (h : HS B w H) (k : Nat) (e' : HE)
  (hsz : w.heap.size <= w'.heap.size) (hkeep : ∀ g, g < w.heap.size -> (∀ e, look H k = some e -> ¬ e.fp g) -> w'.heap[g]? = w.heap[g]?)
  (hs : e'.sat B w') (hf : ∀ g, e'.fp g -> (∃ e, look H k = some e /\ e.fp g) ∨ w.heap.size <= g) : HS B w' ((k, e') :: H) := by
 have hap : ∀ k' e, k' ≠ k -> look H k' = some e -> e'.apart e := by
  intro k' e hne he g hg hg'
  rcases hf g hg with ⟨e0, he0, hg0⟩ | hge
  ·exact h.apart k k' e0 e he0 he (Ne.symm hne) g hg0 hg'
  ·have := (h.sat k' e he).lt g hg'
   omega
 refine ⟨fun k' e he => ?_, fun k1 k2 e1 e2 h1 h2 hne => ?_⟩
 ·rw [look_cons] at he
  split at he
  ·injection he with he; subst he; exact hs
  ·rename_i hne
   refine (h.sat k' e he).keep fun g hg => hkeep g ((h.sat k' e he).lt g hg) fun e0 he0 hg0 => h.apart k k' e0 e he0 he hne g hg0 hg
 ·rw [look_cons] at h1 h2
  split at h1 <;> split at h2
  ·omega
  ·injection h1 with h1; subst h1; rename_i hk1 hk2; subst hk1; exact hap k2 e2 (Ne.symm hk2) h2
  ·injection h2 with h2; subst h2; rename_i hk1 hk2; subst hk2; exact (hap k1 e1 (fun e => hk1 e.symm) h1).symm
  ·exact h.apart k1 k2 e1 e2 h1 h2 hne
theorem HS.keep {B : Nat} {w w' : World} {H : Heap} (h : HS B w H) (hb : ∀ g, g < w.heap.size -> w'.heap[g]? = w.heap[g]?) : HS B w' H :=
 ⟨fun k e he => (h.sat k e he).keep fun g hg => hb g ((h.sat k e he).lt g hg), h.apart⟩
theorem HS.move {B : Nat} {w : World} {H : Heap} (h : HS B w H) {k k' : Nat} {e : HE} (hk : look H k = some e) (hne : k ≠ k') : HS B w ((k', e) :: (k, .emp) :: H) := by
 have h1 : HS B w ((k, .emp) :: H) := h.set k .emp (Nat.le_refl _) (fun _ _ _ => rfl) trivial (fun _ hg => hg.elim)
 refine ⟨fun k0 e0 he => ?_, fun k1 k2 e1 e2 h1' h2' hne' => ?_⟩
 ·rw [look_cons] at he
  split at he
  ·injection he with he; subst he; exact h.sat k e hk
  ·exact h1.sat k0 e0 he
 ·have hap : ∀ j x, j ≠ k' -> look ((k, .emp) :: H) j = some x -> e.apart x := by
   intro j x hj hx
   rw [look_cons] at hx
   split at hx
   ·injection hx with hx; subst hx; exact fun _ _ hg => hg.elim
   ·rename_i hkj; exact h.apart k j e x hk hx hkj
  rw [look_cons] at h1' h2'
  split at h1' <;> split at h2'
  ·omega
  ·injection h1' with h1'; subst h1'; rename_i a b; exact hap k2 e2 (fun e => b e.symm) h2'
  ·injection h2' with h2'; subst h2'; rename_i a b; exact (hap k1 e1 (fun e => a e.symm) h1').symm
  ·exact h1.apart k1 k2 e1 e2 h1' h2' hne'
structure HSes (B : Nat) (w : World) (es : List HE) : Prop where
 sat : ∀ e ∈ es, e.sat B w
 ge : ∀ e ∈ es, ∀ g, e.fp g -> B <= g
 apart : es.Pairwise HE.apart
def tag (k : Nat) : List HE -> Heap -> Heap
 | [], H => H
 | e :: es, H => (k, e) :: tag (k + 1) es H
theorem tag_in {H : Heap} : ∀ (es : List HE) (k0 i : Nat) (x : HE), look (tag k0 es H) i = some x -> x ∈ es ∨ look H i = some x := by
 intro es
 induction es with
 | nil => intro k0 i x hx; exact .inr hx
 | cons y ys ihy =>
  intro k0 i x hx
  rw [tag, look_cons] at hx
  split at hx
  ·injection hx with hx; subst hx; exact .inl (List.mem_cons_self ..)
  ·rcases ihy _ _ _ hx with h1 | h1
   ·exact .inl (List.mem_cons_of_mem _ h1)
   ·exact .inr h1
theorem HS.pushA {B : Nat} {w : World} : ∀ (es : List HE) {H : Heap}, HS B w H -> ∀ (k : Nat), (∀ e ∈ es, e.sat B w) -> es.Pairwise HE.apart ->
  (∀ e ∈ es, ∀ k' x, look H k' = some x -> e.apart x) -> HS B w (tag k es H)
 | [], _, h, _, _, _, _ => h
 | e :: es, H, h, k, hs, hp, ha => by
  have ih := HS.pushA es h (k + 1) (fun x hx => hs x (List.mem_cons_of_mem _ hx)) (List.pairwise_cons.1 hp).2 (fun x hx => ha x (List.mem_cons_of_mem _ hx))
  have hap : ∀ i x, look (tag (k + 1) es H) i = some x -> e.apart x := by
   intro i x hx
   rcases tag_in es _ _ _ hx with h1 | h1
   ·exact (List.pairwise_cons.1 hp).1 x h1
   ·exact ha e (List.mem_cons_self ..) i x h1
  refine ⟨fun i x hx => ?_, fun i j x y hx hy hne => ?_⟩
  ·rw [tag, look_cons] at hx
   split at hx
   ·injection hx with hx; subst hx; exact hs _ (List.mem_cons_self ..)
   ·exact ih.sat i x hx
  ·rw [tag, look_cons] at hx hy
   split at hx <;> split at hy
   ·omega
   ·injection hx with hx; subst hx; exact hap _ _ hy
   ·injection hy with hy; subst hy; exact (hap _ _ hx).symm
   ·exact ih.apart i j x y hx hy hne
theorem HS.push {B B' : Nat} {w : World} (es : List HE) {H : Heap} (h : HS B w H) (k : Nat) (hes : HSes B' w es) (hB : B <= B')
  (hlt : ∀ k e g, look H k = some e -> e.fp g -> g < B') : HS B w (tag k es H) :=
 HS.pushA es h k (fun e he => (hes.sat e he).mono hB) hes.apart fun e he k' x hx g hg hg' => by
  have h1 := hes.ge e he g hg
  have h2 := hlt k' x g hx hg'
  omega
structure St (N : Nat) (w0 : World) (env : Env) (H : Heap) (a : Act) (w : World) : Prop where
 size : a.tmps.size = N
 defers : a.defers = []
 vals : ∀ k v, look env k = some v -> a.tmps.getD k undef = v
 below : Below w0.heap.size w0 w
 heap : HS w0.heap.size w H
section
variable {P : Program} {N : Nat} {w0 : World}
def evl (env : Env) : Operand -> Option Value
 | .tmp t => look env t
 | .const v => some v
 | .global g => some (.pointer (some ⟨g, 0, none⟩))
 | .func f => some (.func (.func f) #[] #[])
theorem St.eval {env : Env} {H : Heap} {a : Act} {w : World} (h : St N w0 env H a w) {x : Operand} {v : Value} (hx : evl env x = some v) : a.eval x = v := by
 cases x with
 | tmp t => exact h.vals t v hx
 | const u => simpa [evl, Act.eval] using hx
 | global g => simpa [evl, Act.eval] using hx
 | func f => simpa [evl, Act.eval] using hx
theorem St.put {env : Env} {H : Heap} {a : Act} {w : World} (h : St N w0 env H a w) {d : Nat} (hd : d < N) (v : Value) : St N w0 ((d, v) :: env) H (a.put (some d) v) w := by
 refine ⟨by simp [Act.put, h.size], h.defers, fun k u hk => ?_, h.below, h.heap⟩
 rw [look_cons] at hk
 have hs := h.size
 split at hk
 ·injection hk with hk; subst hk; rename_i e; subst e
  simp [Act.put, hs, hd]
 ·rename_i hne
  have := h.vals k u hk
  simpa [Act.put, Array.getElem?_setIfInBounds_ne hne] using this
theorem St.putH {env : Env} {H H' : Heap} {a : Act} {w w' : World} (h : St N w0 env H a w) {d : Nat} (hd : d < N) (v : Value) (hb : Below w0.heap.size w0 w') (hh : HS w0.heap.size w' H') :
  St N w0 ((d, v) :: env) H' (a.put (some d) v) w' := by
 have := h.put hd v
 exact ⟨this.size, this.defers, this.vals, hb, hh⟩
theorem St.world {env : Env} {H H' : Heap} {a : Act} {w w' : World} (h : St N w0 env H a w) (hb : Below w0.heap.size w0 w') (hh : HS w0.heap.size w' H') : St N w0 env H' a w' :=
 ⟨h.size, h.defers, h.vals, hb, hh⟩
theorem St.weaken {env env' : Env} {H H' : Heap} {a : Act} {w : World} (h : St N w0 env H a w) (he : ∀ k v, look env' k = some v -> look env k = some v)
  (hh : ∀ k e, look H' k = some e -> look H k = some e) : St N w0 env' H' a w :=
 ⟨h.size, h.defers, fun k v hk => h.vals k v (he k v hk), h.below, ⟨fun k e hk => h.heap.sat k e (hh k e hk), fun k k' e e' h1 h2 => h.heap.apart k k' e e' (hh k e h1) (hh k' e' h2)⟩⟩
def Yld (P : Program) (N : Nat) (w0 : World) (env : Env) (H : Heap) (o : Oper) (v : Value) : Prop :=
 ∀ a w, St N w0 env H a w -> (execOp a.eval o).run P w = .ok (.value v) w
def Eff (P : Program) (N : Nat) (w0 : World) (env : Env) (H : Heap) (o : Oper) (R : Value -> Heap -> Prop) : Prop :=
 ∀ a w (K : Act -> World -> Prop) (Q : Exit -> Act -> World -> Prop), St N w0 env H a w ->
  (∀ v H' w', R v H' -> Below w0.heap.size w0 w' -> HS w0.heap.size w' H' -> K (a.put o.dst v) w') -> o.wp P a w K Q
def Eff0 (P : Program) (N : Nat) (w0 : World) (env : Env) (H : Heap) (o : Oper) (H' : Heap) : Prop :=
 ∀ a w (K : Act -> World -> Prop) (Q : Exit -> Act -> World -> Prop), St N w0 env H a w ->
  (∀ w', Below w0.heap.size w0 w' -> HS w0.heap.size w' H' -> K (a.put o.dst undef) w') -> o.wp P a w K Q
def Qn (K : Act -> World -> Prop) : Exit -> Act -> World -> Prop
 | .normal, a, w => K a w
 | _, _, _ => False
def WL (P : Program) (N : Nat) (w0 : World) (ops : Array Oper) (K : Act -> World -> Prop) (rest : List Oper) (env : Env) (H : Heap) : Prop :=
 ∀ a w, St N w0 env H a w -> wpList P ops (Qn K) rest a w
def WC (P : Program) (N : Nat) (w0 : World) (c : Code) (Q : Exit -> Act -> World -> Prop) (env : Env) (H : Heap) : Prop :=
 ∀ a w, St N w0 env H a w -> c.wp P Q a w
def QK (N : Nat) (w0 : World) (Q : Exit -> Act -> World -> Prop) (e : Exit) (env : Env) (H : Heap) : Prop :=
 ∀ a w, St N w0 env H a w -> Q e a w
def KK (N : Nat) (w0 : World) (K : Act -> World -> Prop) (env : Env) (H : Heap) : Prop := ∀ a w, St N w0 env H a w -> K a w
variable {ops : Array Oper} {K : Act -> World -> Prop} {rest : List Oper} {env env' : Env} {H H' : Heap}
theorem WL.done (h : KK N w0 K env H) : WL P N w0 ops K [] env H := fun a w hs => wpList_nil (h a w hs)
theorem WL.yld {d : Nat} {op : Op} {ty : TypeId} {pos : String} {after : Array Edge} {v : Value} (hd : d < N) (h : Yld P N w0 env H ⟨some d, op, ty, pos, after, none⟩ v)
  (k : WL P N w0 ops K rest ((d, v) :: env) H) : WL P N w0 ops K (⟨some d, op, ty, pos, after, none⟩ :: rest) env H := by
 intro a w hs
 refine wpList_plain rfl fun K' hK => ?_
 unfold Oper.wp
 rw [h a w hs]
 exact hK _ _ (k _ _ (hs.put hd v))
theorem WL.eff {d : Nat} {op : Op} {ty : TypeId} {pos : String} {after : Array Edge} {R : Value -> Heap -> Prop} (hd : d < N) (h : Eff P N w0 env H ⟨some d, op, ty, pos, after, none⟩ R)
  (k : ∀ v H', R v H' -> WL P N w0 ops K rest ((d, v) :: env) H') : WL P N w0 ops K (⟨some d, op, ty, pos, after, none⟩ :: rest) env H := by
 intro a w hs
 exact wpList_plain rfl fun K' hK => h a w K' _ hs fun v H' w' hr hb hh => hK _ _ (k v H' hr _ _ (hs.putH hd v hb hh))
theorem WL.eff0 {op : Op} {ty : TypeId} {pos : String} {after : Array Edge} (h : Eff0 P N w0 env H ⟨none, op, ty, pos, after, none⟩ H')
  (k : WL P N w0 ops K rest env H') : WL P N w0 ops K (⟨none, op, ty, pos, after, none⟩ :: rest) env H := by
 intro a w hs
 exact wpList_plain rfl fun K' hK => h a w K' _ hs fun w' hb hh => hK _ _ (k _ _ (hs.world hb hh))
def guardIs (ops : Array Oper) (env : Env) (j : Nat) : Option Value := ((ops[j]?).bind (·.dst)).bind (look env)
theorem wanted_of {o : Oper} {a : Act} {w : World} {j : Nat} {want b : Bool} (hs : St N w0 env H a w) (hg : o.guard = some (j, want)) (hj : guardIs ops env j = some (.bool b)) :
  Region.wanted o (yielded ops a.tmps) = (b == want) := by
 unfold guardIs at hj
 cases hd : (ops[j]?).bind (·.dst) with
 | none => rw [hd] at hj; simp at hj
 | some t =>
  rw [hd] at hj
  have hv := hs.vals t _ hj
  have ht : a.tmps[t]? = some (.bool b) := by
   cases hq : a.tmps[t]? with
   | none => simp [Array.getD_eq_getD_getElem?, hq, undef] at hv
   | some u => simp [Array.getD_eq_getD_getElem?, hq] at hv; rw [hv]
  simp [Region.wanted, hg, yielded, hd, ht]
theorem not_wanted_undef {o : Oper} {a : Act} {w : World} {j : Nat} {want : Bool} (hs : St N w0 env H a w) (hg : o.guard = some (j, want)) (hj : guardIs ops env j = some undef) :
  Region.wanted o (yielded ops a.tmps) = false := by
 unfold guardIs at hj
 cases hd : (ops[j]?).bind (·.dst) with
 | none => rw [hd] at hj; simp at hj
 | some t =>
  rw [hd] at hj
  have hv := hs.vals t _ hj
  cases hq : a.tmps[t]? with
  | none => simp [Region.wanted, hg, yielded, hd, hq]
  | some u =>
   simp [Array.getD_eq_getD_getElem?, hq] at hv
   subst hv
   simp [Region.wanted, hg, yielded, hd, hq, undef]
theorem wpList_on {o : Oper} {a : Act} {w : World} {Q : Exit -> Act -> World -> Prop} (hw : Region.wanted o (yielded ops a.tmps) = true)
  (h : ∀ K : Act -> World -> Prop, (∀ a w, wpList P ops Q rest a w -> K a w) -> o.wp P a w K Q) : wpList P ops Q (o :: rest) a w := by
 unfold wpList
 rw [if_pos hw]
 exact .inl (h _ fun _ _ h => h)
theorem WL.yldG {d j : Nat} {want : Bool} {op : Op} {ty : TypeId} {pos : String} {after : Array Edge} {v : Value} (hd : d < N) (hj : guardIs ops env j = some (.bool want))
  (h : Yld P N w0 env H ⟨some d, op, ty, pos, after, some (j, want)⟩ v)
  (k : WL P N w0 ops K rest ((d, v) :: env) H) : WL P N w0 ops K (⟨some d, op, ty, pos, after, some (j, want)⟩ :: rest) env H := by
 intro a w hs
 refine wpList_on (by rw [wanted_of hs rfl hj]; simp) fun K' hK => ?_
 unfold Oper.wp
 rw [h a w hs]
 exact hK _ _ (k _ _ (hs.put hd v))
theorem WL.effG {d j : Nat} {want : Bool} {op : Op} {ty : TypeId} {pos : String} {after : Array Edge} {R : Value -> Heap -> Prop} (hd : d < N) (hj : guardIs ops env j = some (.bool want))
  (h : Eff P N w0 env H ⟨some d, op, ty, pos, after, some (j, want)⟩ R)
  (k : ∀ v H', R v H' -> WL P N w0 ops K rest ((d, v) :: env) H') : WL P N w0 ops K (⟨some d, op, ty, pos, after, some (j, want)⟩ :: rest) env H := by
 intro a w hs
 exact wpList_on (by rw [wanted_of hs rfl hj]; simp) fun K' hK => h a w K' _ hs fun v H' w' hr hb hh => hK _ _ (k v H' hr _ _ (hs.putH hd v hb hh))
theorem WL.skip {d j : Nat} {want b : Bool} {op : Op} {ty : TypeId} {pos : String} {after : Array Edge} (hd : d < N) (hj : guardIs ops env j = some (.bool b)) (hb : (b == want) = false)
  (k : WL P N w0 ops K rest ((d, undef) :: env) H) : WL P N w0 ops K (⟨some d, op, ty, pos, after, some (j, want)⟩ :: rest) env H := by
 intro a w hs
 exact wpList_skip (by rw [wanted_of hs rfl hj]; exact hb) (k _ _ (hs.put hd undef))
theorem WL.skipU {d j : Nat} {want : Bool} {op : Op} {ty : TypeId} {pos : String} {after : Array Edge} (hd : d < N) (hj : guardIs ops env j = some undef)
  (k : WL P N w0 ops K rest ((d, undef) :: env) H) : WL P N w0 ops K (⟨some d, op, ty, pos, after, some (j, want)⟩ :: rest) env H := by
 intro a w hs
 exact wpList_skip (not_wanted_undef hs rfl hj) (k _ _ (hs.put hd undef))
variable {Q : Exit -> Act -> World -> Prop}
theorem Qn_mono {c : Code} {a : Act} {w : World} {K : Act -> World -> Prop} (h : c.wp P (Qn K) a w) (hk : ∀ a w, K a w -> Q .normal a w) : c.wp P Q a w :=
 wp_mono h fun e a w hq => by cases e <;> first | exact hk _ _ hq | exact hq.elim
theorem WC.region {id : Nat} {l : List Oper} (h : ∀ K : Act -> World -> Prop, (∀ e h, QK N w0 Q .normal e h -> KK N w0 K e h) -> WL P N w0 l.toArray K l env H) :
  WC P N w0 (.region id l.toArray false) Q env H :=
 fun a w hs => Qn_mono (wp_region_lit (h (fun a w => Q .normal a w) (fun _ _ hq => hq) a w hs)) fun _ _ h => h
theorem WC.skip (h : QK N w0 Q .normal env H) : WC P N w0 .skip Q env H := fun a w hs => wp_skip (h a w hs)
theorem WC.ret (h : QK N w0 Q .ret env H) : WC P N w0 .ret Q env H := fun a w hs => wp_ret (h a w hs)
theorem WC.exit {id : Nat} (h : QK N w0 Q (.exit id) env H) : WC P N w0 (.exit id) Q env H := fun a w hs => wp_exit (h a w hs)
theorem WC.seq {x y : Code} (h : ∀ K : Act -> World -> Prop, (∀ e h, WC P N w0 y Q e h -> KK N w0 K e h) -> WC P N w0 x (Exit.then K Q) env H) :
  WC P N w0 (.seq x y) Q env H :=
 fun a w hs => wp_seq (h _ (fun _ _ hy => hy) a w hs)
theorem WC.cond {c : Operand} {x y : Code} {b : Bool} (hc : evl env c = some (.bool b)) (ht : b = true -> WC P N w0 x Q env H) (hf : b = false -> WC P N w0 y Q env H) :
  WC P N w0 (.cond c x y) Q env H :=
 fun a w hs => wp_cond_split (hs.eval hc) (fun h => ht h a w hs) (fun h => hf h a w hs)
theorem WC.condT {c : Operand} {x y : Code} (hc : evl env c = some (.bool true)) (h : WC P N w0 x Q env H) : WC P N w0 (.cond c x y) Q env H :=
 WC.cond hc (fun _ => h) (fun h => by cases h)
theorem WC.condF {c : Operand} {x y : Code} (hc : evl env c = some (.bool false)) (h : WC P N w0 y Q env H) : WC P N w0 (.cond c x y) Q env H :=
 WC.cond hc (fun h => by cases h) (fun _ => h)
theorem WC.block {id : Nat} {c : Code} (h : WC P N w0 c (Exit.inBlock id Q) env H) : WC P N w0 (.block id c) Q env H := fun a w hs => wp_block (h a w hs)
def Sub {α : Type} (E env : List (Nat × α)) : Prop := ∀ k v, look E k = some v -> look env k = some v
theorem Sub.refl {α : Type} (E : List (Nat × α)) : Sub E E := fun _ _ h => h
theorem Sub.nil {α : Type} (E : List (Nat × α)) : Sub [] E := fun _ _ h => by simp [look] at h
theorem Sub.cons {α : Type} {E env : List (Nat × α)} {k : Nat} {v : α} (h : look env k = some v) (hs : Sub E env) : Sub ((k, v) :: E) env := by
 intro k' v' hk
 rw [look_cons] at hk
 split at hk
 ·rename_i e; subst e; injection hk with hk; subst hk; exact h
 ·exact hs k' v' hk
theorem WC.loop {c : Code} {σ : Type} (E : σ -> Env) (G : σ -> Heap) (I : σ -> Prop) (μ : σ -> Nat) (s0 : σ) (h0 : I s0)
  (he : Sub (E s0) env) (hh : Sub (G s0) H)
  (round : ∀ s, I s -> ∀ K : Act -> World -> Prop,
   (∀ s' e h, I s' -> μ s' < μ s -> Sub (E s') e -> Sub (G s') h -> KK N w0 K e h) ->
   WC P N w0 c (Exit.then K Q) (E s) (G s)) : WC P N w0 (.loop c) Q env H := by
 intro a w hs
 refine wp_loop_ghost (fun n a w => ∃ s, I s /\ μ s = n /\ St N w0 (E s) (G s) a w) (μ s0) ⟨s0, h0, rfl, hs.weaken he hh⟩ ?_
 rintro n a w ⟨s, hI, rfl, hst⟩
 exact round s hI _ (fun s' e h hI' hlt he hh a w hs' => ⟨μ s', hlt, s', hI', rfl, hs'.weaken he hh⟩) a w hst
theorem WC.seqCut {x y : Code} {σ : Type} (E : σ -> Env) (G : σ -> Heap) (I : σ -> Prop)
  (hx : ∀ K : Act -> World -> Prop, (∀ s e h, I s -> Sub (E s) e -> Sub (G s) h -> KK N w0 K e h) -> WC P N w0 x (Exit.then K Q) env H)
  (hy : ∀ s, I s -> WC P N w0 y Q (E s) (G s)) : WC P N w0 (.seq x y) Q env H := by
 intro a w hs
 refine wp_seq (hx _ (fun s e h hI he hh a w hs => ?_) a w hs)
 exact hy s hI a w (hs.weaken he hh)
theorem WC.seqRegion {id : Nat} {l : List Oper} {y : Code} (h : ∀ K : Act -> World -> Prop, (∀ e h, WC P N w0 y Q e h -> KK N w0 K e h) -> WL P N w0 l.toArray K l env H) :
  WC P N w0 (.seq (.region id l.toArray false) y) Q env H :=
 WC.seq fun K hK => WC.region fun K' hK' => h K' fun e h hy => hK' e h (hK e h hy)
theorem WC.seqRegionCut {id : Nat} {l : List Oper} {y : Code} {σ : Type} (E : σ -> Env) (G : σ -> Heap) (I : σ -> Prop)
  (hx : ∀ K : Act -> World -> Prop, (∀ s e h, I s -> Sub (E s) e -> Sub (G s) h -> KK N w0 K e h) -> WL P N w0 l.toArray K l env H)
  (hy : ∀ s, I s -> WC P N w0 y Q (E s) (G s)) : WC P N w0 (.seq (.region id l.toArray false) y) Q env H :=
 WC.seqCut E G I (fun K hK => WC.region fun K' hK' => hx K' fun s e h hI he hh => hK' e h (hK s e h hI he hh)) hy
theorem QK.thenN {K : Act -> World -> Prop} (h : KK N w0 K env H) : QK N w0 (Exit.then K Q) .normal env H := h
theorem QK.thenR {K : Act -> World -> Prop} (h : QK N w0 Q .ret env H) : QK N w0 (Exit.then K Q) .ret env H := h
theorem QK.blockR {id : Nat} (h : QK N w0 Q .ret env H) : QK N w0 (Exit.inBlock id Q) .ret env H := h
theorem QK.blockX {id : Nat} (h : QK N w0 Q .normal env H) : QK N w0 (Exit.inBlock id Q) (.exit id) env H := fun a w hs => by
 simp only [Exit.inBlock, if_true]; exact h a w hs
theorem QK.blockO {id id' : Nat} (hne : Nat.beq id' id = false) (h : QK N w0 Q (.exit id') env H) : QK N w0 (Exit.inBlock id Q) (.exit id') env H := fun a w hs => by
 have : ¬ id' = id := fun e => by subst e; simp at hne
 simp only [Exit.inBlock, this, if_false]; exact h a w hs
def SS (w0 : World) (Hro : Heap) (w : World) : Prop := Below w0.heap.size w0 w /\ HS w0.heap.size w Hro
def WD (P : Program) (N : Nat) (w0 : World) (ops : Array Oper) (K : Act -> World -> Prop) (Hro : Heap) (fuel : Nat) (listed : Array Bool) (env : Env) (H : Heap) : Prop :=
 Sub Hro H -> ∀ a w, St N w0 env H a w -> wpAnyH P .any ops (Qn K) (SS w0 Hro) fuel listed a w
theorem HS.sub {B : Nat} {w : World} {H H' : Heap} (h : HS B w H) (hs : Sub H' H) : HS B w H' :=
 ⟨fun k e hk => h.sat k e (hs k e hk), fun k k' e e' h1 h2 => h.apart k k' e e' (hs k e h1) (hs k' e' h2)⟩
theorem St.ss {Hro : Heap} {a : Act} {w : World} (h : St N w0 env H a w) (hs : Sub Hro H) : SS w0 Hro w := ⟨h.below, h.heap.sub hs⟩
variable {Hro : Heap} {fuel : Nat} {listed : Array Bool}
theorem WD.take (i : Nat) {d : Nat} {op : Op} {ty : TypeId} {pos : String} {after : Array Edge} {v : Value} (hi : ops[i]? = some ⟨some d, op, ty, pos, after, none⟩)
  (hs : Region.noSelect ops = true) (hf : Region.free .any ops listed i = true) (hr : (Region.ready .any ops listed).contains i = true) (hd : d < N)
  (hy : Yld P N w0 env Hro ⟨some d, op, ty, pos, after, none⟩ v) (k : WD P N w0 ops K Hro fuel (listed.setIfInBounds i true) ((d, v) :: env) H) : WD P N w0 ops K Hro (fuel + 1) listed env H := by
 intro hsub a w hst
 exact wpAnyH_take hi hs hf hr (fun _ _ _ h => h) (.inl ⟨rfl, fun w' hw' => hy a w' ⟨hst.size, hst.defers, hst.vals, hw'.1, hw'.2⟩⟩) (hst.ss hsub) (k hsub _ _ (hst.put hd v))
theorem WD.takeG (i : Nat) {d j : Nat} {want : Bool} {op : Op} {ty : TypeId} {pos : String} {after : Array Edge} {v : Value} (hi : ops[i]? = some ⟨some d, op, ty, pos, after, some (j, want)⟩)
  (hs : Region.noSelect ops = true) (hf : Region.free .any ops listed i = true) (hr : (Region.ready .any ops listed).contains i = true) (hd : d < N) (hj : guardIs ops env j = some (.bool want))
  (hy : Yld P N w0 env Hro ⟨some d, op, ty, pos, after, some (j, want)⟩ v) (k : WD P N w0 ops K Hro fuel (listed.setIfInBounds i true) ((d, v) :: env) H) : WD P N w0 ops K Hro (fuel + 1) listed env H := by
 intro hsub a w hst
 exact wpAnyH_take hi hs hf hr (fun _ _ _ h => h) (.inl ⟨by rw [wanted_of hst rfl hj]; simp, fun w' hw' => hy a w' ⟨hst.size, hst.defers, hst.vals, hw'.1, hw'.2⟩⟩) (hst.ss hsub) (k hsub _ _ (hst.put hd v))
theorem WD.takeS (i : Nat) {d j : Nat} {want b : Bool} {op : Op} {ty : TypeId} {pos : String} {after : Array Edge} (hi : ops[i]? = some ⟨some d, op, ty, pos, after, some (j, want)⟩)
  (hs : Region.noSelect ops = true) (hf : Region.free .any ops listed i = true) (hr : (Region.ready .any ops listed).contains i = true) (hd : d < N) (hj : guardIs ops env j = some (.bool b)) (hb : (b == want) = false)
  (k : WD P N w0 ops K Hro fuel (listed.setIfInBounds i true) ((d, undef) :: env) H) : WD P N w0 ops K Hro (fuel + 1) listed env H := by
 intro hsub a w hst
 exact wpAnyH_take hi hs hf hr (fun _ _ _ h => h) (.inr ⟨by rw [wanted_of hst rfl hj]; exact hb, rfl⟩) (hst.ss hsub) (k hsub _ _ (hst.put hd undef))
theorem WD.takeU (i : Nat) {d j : Nat} {want : Bool} {op : Op} {ty : TypeId} {pos : String} {after : Array Edge} (hi : ops[i]? = some ⟨some d, op, ty, pos, after, some (j, want)⟩)
  (hs : Region.noSelect ops = true) (hf : Region.free .any ops listed i = true) (hr : (Region.ready .any ops listed).contains i = true) (hd : d < N) (hj : guardIs ops env j = some undef)
  (k : WD P N w0 ops K Hro fuel (listed.setIfInBounds i true) ((d, undef) :: env) H) : WD P N w0 ops K Hro (fuel + 1) listed env H := by
 intro hsub a w hst
 exact wpAnyH_take hi hs hf hr (fun _ _ _ h => h) (.inr ⟨not_wanted_undef hst rfl hj, rfl⟩) (hst.ss hsub) (k hsub _ _ (hst.put hd undef))
def WS (P : Program) (N : Nat) (w0 : World) (ops : Array Oper) (K : Act -> World -> Prop) (Hro : Heap) (fuel : Nat) (listed : Array Bool) (env : Env) (H : Heap) (i : Nat) : Prop :=
 Sub Hro H -> ∀ a w, St N w0 env H a w -> wpOp P ops (Qn K) i (fun a' w' => SS w0 Hro w' /\ wpAnyH P .any ops (Qn K) (SS w0 Hro) fuel (listed.setIfInBounds i true) a' w') a w
theorem WD.one (i : Nat) (hr : Region.ready .any ops listed = [i]) (h : WS P N w0 ops K Hro fuel listed env H i) : WD P N w0 ops K Hro (fuel + 1) listed env H :=
 fun hsub a w hst => wpAnyH_all hr (by simp) fun j hj => by
  rw [List.mem_singleton] at hj; subst hj; exact h hsub a w hst
theorem WD.two (i j : Nat) (hr : Region.ready .any ops listed = [i, j]) (hi : WS P N w0 ops K Hro fuel listed env H i) (hj : WS P N w0 ops K Hro fuel listed env H j) : WD P N w0 ops K Hro (fuel + 1) listed env H :=
 fun hsub a w hst => wpAnyH_all hr (by simp) fun k hk => by
  rcases List.mem_cons.1 hk with rfl | hk
  ·exact hi hsub a w hst
  ·rw [List.mem_singleton] at hk; subst hk; exact hj hsub a w hst
theorem WS.eff {i d : Nat} {op : Op} {ty : TypeId} {pos : String} {after : Array Edge} {R : Value -> Heap -> Prop} (hi : ops[i]? = some ⟨some d, op, ty, pos, after, none⟩) (hd : d < N)
  (h : Eff P N w0 env H ⟨some d, op, ty, pos, after, none⟩ R)
  (k : ∀ v H', R v H' -> Sub Hro H' /\ WD P N w0 ops K Hro fuel (listed.setIfInBounds i true) ((d, v) :: env) H') : WS P N w0 ops K Hro fuel listed env H i := by
 intro hsub a w hst
 unfold wpOp
 simp only [hi]
 rw [if_pos (show Region.wanted _ _ = true from rfl)]
 refine .inl (h a w _ _ hst fun v H' w' hr hb hh => ?_)
 have hk := k v H' hr
 have hst' := hst.putH hd v hb hh
 exact ⟨hst'.ss hk.1, hk.2 hk.1 _ _ hst'⟩
theorem WS.effG {i d j : Nat} {want : Bool} {op : Op} {ty : TypeId} {pos : String} {after : Array Edge} {R : Value -> Heap -> Prop} (hi : ops[i]? = some ⟨some d, op, ty, pos, after, some (j, want)⟩) (hd : d < N)
  (hj : guardIs ops env j = some (.bool want)) (h : Eff P N w0 env H ⟨some d, op, ty, pos, after, some (j, want)⟩ R)
  (k : ∀ v H', R v H' -> Sub Hro H' /\ WD P N w0 ops K Hro fuel (listed.setIfInBounds i true) ((d, v) :: env) H') : WS P N w0 ops K Hro fuel listed env H i := by
 intro hsub a w hst
 unfold wpOp
 simp only [hi]
 rw [if_pos (by rw [wanted_of hst rfl hj]; simp)]
 refine .inl (h a w _ _ hst fun v H' w' hr hb hh => ?_)
 have hk := k v H' hr
 have hst' := hst.putH hd v hb hh
 exact ⟨hst'.ss hk.1, hk.2 hk.1 _ _ hst'⟩
theorem WS.eff0 {i : Nat} {op : Op} {ty : TypeId} {pos : String} {after : Array Edge} (hi : ops[i]? = some ⟨none, op, ty, pos, after, none⟩)
  (h : Eff0 P N w0 env H ⟨none, op, ty, pos, after, none⟩ H') (hsub' : Sub Hro H')
  (k : WD P N w0 ops K Hro fuel (listed.setIfInBounds i true) env H') : WS P N w0 ops K Hro fuel listed env H i := by
 intro hsub a w hst
 unfold wpOp
 simp only [hi]
 rw [if_pos (show Region.wanted _ _ = true from rfl)]
 refine .inl (h a w _ _ hst fun w' hb hh => ?_)
 have hst' := hst.world hb hh
 exact ⟨hst'.ss hsub', k hsub' _ _ hst'⟩
theorem WS.yld {i d : Nat} {op : Op} {ty : TypeId} {pos : String} {after : Array Edge} {v : Value} (hi : ops[i]? = some ⟨some d, op, ty, pos, after, none⟩) (hd : d < N)
  (h : Yld P N w0 env H ⟨some d, op, ty, pos, after, none⟩ v)
  (k : WD P N w0 ops K Hro fuel (listed.setIfInBounds i true) ((d, v) :: env) H) : WS P N w0 ops K Hro fuel listed env H i := by
 intro hsub a w hst
 unfold wpOp
 simp only [hi]
 rw [if_pos (show Region.wanted _ _ = true from rfl)]
 refine .inl ?_
 unfold Oper.wp
 rw [h a w hst]
 have hst' := hst.put hd v
 exact ⟨hst'.ss hsub, k hsub _ _ hst'⟩
theorem WD.done (hr : Region.ready .any ops listed = []) (h : KK N w0 K env H) : WD P N w0 ops K Hro fuel listed env H :=
 fun _ a w hst => wpAnyH_done hr (h a w hst) fuel
theorem St.drew {a : Act} {w : World} (h : St N w0 env H a w) : St N w0 env H a { w with drawn := w.drawn + 1 } :=
 ⟨h.size, h.defers, h.vals, h.below.drew, h.heap.keep fun _ _ => rfl⟩
theorem WC.regionD {id n : Nat} (Hro : Heap) (hn : ops.size = n) (hm : P.follows .mixedOrders = true) (hsub : Sub Hro H)
  (h : ∀ K : Act -> World -> Prop, (∀ e h, QK N w0 Q .normal e h -> KK N w0 K e h) -> WD P N w0 ops K Hro n (Array.replicate n false) env H) :
  WC P N w0 (.region id ops true) Q env H := by
 subst hn
 exact fun a w hs => Qn_mono (wp_region_held hm (h (fun a w => Q .normal a w) (fun _ _ hq => hq) hsub a _ hs.drew)) fun _ _ h => h
theorem WC.seqRegionD {id n : Nat} {y : Code} (Hro : Heap) (hn : ops.size = n) (hm : P.follows .mixedOrders = true) (hsub : Sub Hro H)
  (h : ∀ K : Act -> World -> Prop, (∀ e h, WC P N w0 y Q e h -> KK N w0 K e h) -> WD P N w0 ops K Hro n (Array.replicate n false) env H) :
  WC P N w0 (.seq (.region id ops true) y) Q env H :=
 WC.seq fun K hK => WC.regionD Hro hn hm hsub fun K' hK' => h K' fun e h hy => hK' e h (hK e h hy)
theorem WC.seqRegionDCut {id n : Nat} {y : Code} (Hro : Heap) {σ : Type} (E : σ -> Env) (G : σ -> Heap) (I : σ -> Prop) (hn : ops.size = n) (hm : P.follows .mixedOrders = true) (hsub : Sub Hro H)
  (hx : ∀ K : Act -> World -> Prop, (∀ s e h, I s -> Sub (E s) e -> Sub (G s) h -> KK N w0 K e h) -> WD P N w0 ops K Hro n (Array.replicate n false) env H)
  (hy : ∀ s, I s -> WC P N w0 y Q (E s) (G s)) : WC P N w0 (.seq (.region id ops true) y) Q env H :=
 WC.seqCut E G I (fun K hK => WC.regionD Hro hn hm hsub fun K' hK' => hx K' fun s e h hI he hh => hK' e h (hK s e h hI he hh)) hy
def Tri (P : Program) (f : FuncId) (args : Array Value) (w0 : World) (H : Heap) (R : Value -> Heap -> Prop) : Prop :=
 ∀ w, Below w0.heap.size w0 w -> HS w0.heap.size w H ->
  Calls P f args w fun e w' => ∃ r H', e = .returned r /\ R r H' /\ Below w0.heap.size w0 w' /\ HS w0.heap.size w' H'
def Fn (P : Program) (f : FuncId) (args : Array Value) (M : Mem) (R : Value -> Mem -> List HE -> Prop) : Prop :=
 ∀ w, Holds M w -> Calls P f args w fun e w' => ∃ r M' es, e = .returned r /\ R r M' es /\ Ext w.heap.size M M' /\ Below w.heap.size w w' /\ Holds M' w' /\ HSes w.heap.size w' es /\ (∀ e ∈ es, ∀ g, e.fp g -> M' g = none)
def envOf (k : Nat) : List Value -> Env
 | [] => []
 | v :: vs => (k, v) :: envOf (k + 1) vs
theorem look_envOf : ∀ (vs : List Value) (k i : Nat) (v : Value), look (envOf k vs) i = some v -> k <= i /\ vs[i - k]? = some v
 | [], _, _, _, h => by simp [envOf, look] at h
 | u :: vs, k, i, v, h => by
  rw [envOf, look_cons] at h
  split at h
  ·rename_i e; subst e; injection h with h; subst h; simp
  ·rename_i hne
   obtain ⟨h1, h2⟩ := look_envOf vs (k + 1) i v h
   refine ⟨by omega, ?_⟩
   rw [show i - k = (i - (k + 1)) + 1 from by omega]
   simpa using h2
theorem st_enter {fn : Func} {args : List Value} (hN : fn.ntmps = N) (hle : args.length <= N) {w : World} (hb : Below w0.heap.size w0 w) (hh : HS w0.heap.size w H) :
  St N w0 (envOf 0 args) H { tmps := args.toArray ++ Array.replicate (fn.ntmps - args.toArray.size) undef, defers := [] } w := by
 refine ⟨by simp; omega, rfl, fun k v hk => ?_, hb, hh⟩
 obtain ⟨_, h2⟩ := look_envOf args 0 k v hk
 have hlt : k < args.length := by
  have := (List.getElem?_eq_some_iff.1 h2).1; omega
 simp only [Nat.sub_zero] at h2
 have h3 : args[k] = v := by rw [List.getElem?_eq_getElem hlt] at h2; injection h2
 simp [Array.getD_eq_getD_getElem?, Array.getElem?_append, hlt, h3]
def Ret (fn : Func) (P : Program) (R : Ending -> World -> Prop) : Exit -> Act -> World -> Prop := bodyPost P fn R
theorem Tri.intro {f : FuncId} {fn : Func} {c : Code} {args : List Value} {R : Value -> Heap -> Prop} (hf : P.funcs[f]? = some fn) (hb : fn.body = some c) (hN : fn.ntmps = N) (hle : args.length <= N)
  (h : WC P N w0 c (bodyPost P fn fun e w' => ∃ r H', e = .returned r /\ R r H' /\ Below w0.heap.size w0 w' /\ HS w0.heap.size w' H') (envOf 0 args) H) :
  Tri P f args.toArray w0 H R :=
 fun w hbel hh => calls_of_wp hf hb (h _ w (st_enter hN hle hbel hh))
theorem Fn.intro {f : FuncId} {fn : Func} {c : Code} {args : List Value} {M : Mem} {R : Value -> Mem -> List HE -> Prop} (hf : P.funcs[f]? = some fn) (hb : fn.body = some c) (hN : fn.ntmps = N) (hle : args.length <= N)
  (h : ∀ w0, WC P N w0 c (bodyPost P fn fun e w' => ∃ r M' es, e = .returned r /\ R r M' es /\ Ext w0.heap.size M M' /\ Below w0.heap.size w0 w' /\ Holds M' w' /\ HSes w0.heap.size w' es /\ (∀ e ∈ es, ∀ g, e.fp g -> M' g = none)) (envOf 0 args) [(0, .mem M)]) :
  Fn P f args.toArray M R :=
 fun w hM => calls_of_wp hf hb (h w _ w (st_enter hN hle (Below.refl _ _) (HS.one hM)))
def pickH (H : Heap) : List Nat -> Option (List HE)
 | [] => some []
 | k :: ks => match look H k, pickH H ks with
  | some e, some es => some (e :: es)
  | _, _ => none
theorem pickH_mem : ∀ {ks : List Nat} {es : List HE}, pickH H ks = some es -> ∀ e ∈ es, ∃ k ∈ ks, look H k = some e
 | [], es, h, e, he => by simp [pickH] at h; subst h; cases he
 | k :: ks, es, h, e, he => by
  unfold pickH at h
  cases h1 : look H k with
  | none => simp [h1] at h
  | some x =>
   cases h2 : pickH H ks with
   | none => simp [h1, h2] at h
   | some xs =>
    simp [h1, h2] at h
    subst h
    rcases List.mem_cons.1 he with rfl | he
    ·exact ⟨k, List.mem_cons_self .., h1⟩
    ·obtain ⟨k', hk', hl⟩ := pickH_mem h2 e he
     exact ⟨k', List.mem_cons_of_mem _ hk', hl⟩
theorem HS.pick {B : Nat} {w : World} (h : HS B w H) : ∀ {ks : List Nat} {es : List HE}, pickH H ks = some es -> ks.Nodup -> (∀ e ∈ es, e.sat B w) /\ es.Pairwise HE.apart
 | [], es, hp, _ => by simp [pickH] at hp; subst hp; exact ⟨fun _ h => (by cases h), List.Pairwise.nil⟩
 | k :: ks, es, hp, hn => by
  unfold pickH at hp
  cases h1 : look H k with
  | none => simp [h1] at hp
  | some x =>
   cases h2 : pickH H ks with
   | none => simp [h1, h2] at hp
   | some xs =>
    simp [h1, h2] at hp
    subst hp
    have hn' := List.nodup_cons.1 hn
    have ih := HS.pick h h2 hn'.2
    refine ⟨fun e he => ?_, List.pairwise_cons.2 ⟨fun e he => ?_, ih.2⟩⟩
    ·rcases List.mem_cons.1 he with rfl | he
     ·exact h.sat k e h1
     ·exact ih.1 e he
    ·obtain ⟨k', hk', hl⟩ := pickH_mem h2 e he
     exact h.apart k k' x e h1 hl (fun e => hn'.1 (e ▸ hk'))
theorem HE.sat.ge {B : Nat} {w : World} {e : HE} (h : e.sat B w) (hm : ∀ M, e ≠ .mem M) : ∀ g, e.fp g -> B <= g := by
 intro g hg
 cases e with
 | blk g' t cs => simp [HE.fp] at hg; subst hg; exact h.1
 | own E sz A n c xs =>
  obtain ⟨hc, a, rfl, rfl⟩ := hg
  rcases h with h' | ⟨_, h', _⟩
  ·exact (h'.lt a.block (by simp [Value.ownBlock])).1
  ·exact absurd h' hc
 | ro g' t cs => simp [HE.fp] at hg; subst hg; exact h.1
 | obj g' o => simp [HE.fp] at hg; subst hg; exact h.1
 | rows E sz rs => obtain ⟨r, hr, hg⟩ := hg; exact (h.1 r hr).ge g hg
 | mem M => exact absurd rfl (hm M)
 | emp => exact hg.elim
def HE.isMem : HE -> Bool
 | .mem _ => true
 | _ => false
def ResIs (P : Program) (N : Nat) (w0 : World) (fn : Func) (env : Env) (H : Heap) (r : Value) : Prop :=
 ∀ a w, St N w0 env H a w -> (results fn a.tmps).run P w = .ok r w
theorem ResIs.one {fn : Func} {t : Tmp} {v : Value} (h : fn.results = #[.tmp t]) (ht : look env t = some v) : ResIs P N w0 fn env H v :=
 fun a w hs => by rw [results_tmp h, hs.vals t v ht]
theorem ResIs.two {fn : Func} {t u : Tmp} {v x : Value} (h : fn.results = #[.tmp t, .tmp u]) (ht : look env t = some v) (hu : look env u = some x) : ResIs P N w0 fn env H (.tuple #[v, x]) :=
 fun a w hs => by rw [results_tmp2 h, hs.vals t v ht, hs.vals u x hu]
theorem ResIs.zero {fn : Func} (h : fn.results = #[]) : ResIs P N w0 fn env H (.tuple #[]) :=
 fun a w _ => by rw [results_none h]
theorem Ret.fn {fn : Func} {M M' : Mem} {R : Value -> Mem -> List HE -> Prop} {r : Value} (ks : List Nat) {es : List HE} (hr : ResIs P N w0 fn env H r) (hM : look H 0 = some (.mem M')) (hx : Ext w0.heap.size M M') (hp : pickH H ks = some es) (hn : ks.Nodup) (h0 : ks.all (fun k => Nat.ble 1 k) = true) (hm : es.all (fun e => !e.isMem) = true) (h : R r M' es) :
  QK N w0 (bodyPost P fn fun e w' => ∃ r M' es, e = .returned r /\ R r M' es /\ Ext w0.heap.size M M' /\ Below w0.heap.size w0 w' /\ Holds M' w' /\ HSes w0.heap.size w' es /\ (∀ e ∈ es, ∀ g, e.fp g -> M' g = none)) .ret env H :=
 fun a w hs => by
  obtain ⟨h1, h2⟩ := hs.heap.pick hp hn
  refine ⟨hs.defers, r, hr a w hs, r, M', es, rfl, h, hx, hs.below, hs.heap.sat 0 _ hM, ⟨h1, fun e he => (h1 e he).ge fun M e' => ?_, h2⟩, fun e he g hg => ?_⟩
  ·have := List.all_eq_true.1 hm e he; subst e'; simp [HE.isMem] at this
  ·obtain ⟨k, hk, hl⟩ := pickH_mem hp e he
   have hk1 : k ≠ 0 := by have := List.all_eq_true.1 h0 k hk; intro e; subst e; simp [Nat.ble] at this
   cases hm' : M' g with
   | none => rfl
   | some o => exact (hs.heap.apart k 0 e _ hl hM hk1 g hg (by simp [HE.fp, hm'])).elim
theorem Ret.tri {fn : Func} {R : Value -> Heap -> Prop} {r : Value} (H' : Heap) (hr : ResIs P N w0 fn env H r) (hsub : Sub H' H) (h : R r H') :
  QK N w0 (bodyPost P fn fun e w' => ∃ r H', e = .returned r /\ R r H' /\ Below w0.heap.size w0 w' /\ HS w0.heap.size w' H') .ret env H :=
 fun a w hs => ⟨hs.defers, r, hr a w hs, r, H', rfl, h, hs.below, hs.heap.sub hsub⟩
def evls (env : Env) : List Operand -> Option (List Value)
 | [] => some []
 | x :: xs => match evl env x, evls env xs with
  | some v, some vs => some (v :: vs)
  | _, _ => none
theorem St.evals {a : Act} {w : World} (h : St N w0 env H a w) : ∀ {xs : List Operand} {vs : List Value}, evls env xs = some vs -> xs.map a.eval = vs
 | [], vs, hx => by simp [evls] at hx; simp [hx]
 | x :: xs, vs, hx => by
  unfold evls at hx
  cases h1 : evl env x with
  | none => simp [h1] at hx
  | some v =>
   cases h2 : evls env xs with
   | none => simp [h1, h2] at hx
   | some us =>
    simp [h1, h2] at hx
    subst hx
    simp [h.eval h1, h.evals h2]
theorem wp_callGo {o : Oper} {a : Act} {w : World} {K : Act -> World -> Prop} {Q : Exit -> Act -> World -> Prop} {f : FuncId} {fn : Func} {xs : List Operand} {ts : Array TypeId} {vs : List Value}
  (ho : o.op = .call ⟨.value (.func f), xs.toArray, ts⟩) (hf : P.funcs[f]? = some fn) (hname : (fn.name == "runtime.NumGoroutine") = false) (hbody : fn.body.isNone = false)
  (hx : xs.map a.eval = vs) {R : Value -> World -> Prop} (h : Calls P f vs.toArray w fun e w' => ∃ r, e = .returned r /\ R r w') (k : ∀ r w', R r w' -> K (a.put o.dst r) w') : o.wp P a w K Q := by
 unfold Oper.wp
 have hrun : (execOp a.eval o).run P w = .ok (.enter f vs.toArray) w := by
  obtain ⟨dst, op, ty, pos, after, guard⟩ := o
  simp only at ho
  subst ho
  rw [execOp_call_go]
  have h1 : fn.name ≠ "runtime.NumGoroutine" := by simpa using hname
  have h2 : fn.body ≠ none := by intro e; rw [e] at hbody; cases hbody
  simp [callFunc, hf, h1, h2, hx]
 rw [hrun, Oper.upon_enter]
 refine h.mono fun e w' hR => ?_
 obtain ⟨r, rfl, hr⟩ := hR
 exact k r w' hr
theorem Eff.callS {o : Oper} {f : FuncId} {fn : Func} {xs : List Operand} {ts : Array TypeId} {vs : List Value} {R : Value -> List HE -> Prop} (k : Nat)
  (ho : o.op = .call ⟨.value (.func f), xs.toArray, ts⟩) (hf : P.funcs[f]? = some fn) (hname : (fn.name == "runtime.NumGoroutine") = false) (hbody : fn.body.isNone = false)
  (hx : evls env xs = some vs)
  (hc : ∀ w, Below w0.heap.size w0 w -> HS w0.heap.size w H -> Fn P f vs.toArray (Mem.snap w) fun r _ es => R r es) : Eff P N w0 env H o fun r H' => ∃ es, R r es /\ H' = tag k es H := by
 intro a w K Q hs hK
 refine wp_callGo ho hf hname hbody (hs.evals hx) (R := fun r w' => ∃ es, R r es /\ Below w.heap.size w w' /\ HSes w.heap.size w' es)
  ((hc w hs.below hs.heap w (Holds.snap w)).mono fun e w' ⟨r, M', es, he, hr, _, hb, _, hh, _⟩ => ⟨r, he, es, hr, hb, hh⟩) fun r w' ⟨es, hr, hb, hh⟩ => ?_
 have hB : w0.heap.size <= w.heap.size := hs.below.size
 exact hK r _ w' ⟨es, hr, rfl⟩ (hs.below.trans (hb.mono hB)) (HS.push es (hs.heap.keep fun g hg => hb.block g hg) k hh hB fun i e g he hg => (hs.heap.sat i e he).lt g hg)
theorem Eff.callM {o : Oper} {f : FuncId} {fn : Func} {xs : List Operand} {ts : Array TypeId} {vs : List Value} {M : Mem} {R : Value -> Mem -> List HE -> Prop} (k : Nat)
  (ho : o.op = .call ⟨.value (.func f), xs.toArray, ts⟩) (hf : P.funcs[f]? = some fn) (hname : (fn.name == "runtime.NumGoroutine") = false) (hbody : fn.body.isNone = false)
  (hx : evls env xs = some vs) (hM : look H 0 = some (.mem M))
  (hc : Fn P f vs.toArray M R) : Eff P N w0 env H o fun r H' => ∃ M' es, R r M' es /\ Ext w0.heap.size M M' /\ H' = tag k es ((0, .mem M') :: H) := by
 intro a w K Q hs hK
 refine wp_callGo ho hf hname hbody (hs.evals hx) (R := fun r w' => ∃ M' es, R r M' es /\ Ext w.heap.size M M' /\ Below w.heap.size w w' /\ Holds M' w' /\ HSes w.heap.size w' es /\ (∀ e ∈ es, ∀ g, e.fp g -> M' g = none))
  ((hc w (hs.heap.sat 0 _ hM)).mono fun e w' ⟨r, M', es, he, hr, h1, h2, h3, h4, h5⟩ => ⟨r, he, M', es, hr, h1, h2, h3, h4, h5⟩) fun r w' ⟨M', es, hr, h1, hb, h3, hh, h5⟩ => ?_
 have hB : w0.heap.size <= w.heap.size := hs.below.size
 have hk : HS w0.heap.size w' H := hs.heap.keep fun g hg => hb.block g hg
 have hap : ∀ k' x g, k' ≠ 0 -> look H k' = some x -> x.fp g -> M' g ≠ none -> False := by
  intro k' x g hne hx hg hm
  cases hmg : M' g with
  | none => exact hm hmg
  | some q =>
   rcases h1.new g q hmg with hq | hq
   ·exact hs.heap.apart k' 0 x _ hx hM hne g hg (by simp [HE.fp, hq])
   ·have := (hs.heap.sat k' x hx).lt g hg; omega
 have hk0 : HS w0.heap.size w' ((0, .mem M') :: H) := by
  refine ⟨fun i e he => ?_, fun i j e e' hi hj hne => ?_⟩
  ·rw [look_cons] at he
   split at he
   ·injection he with he; subst he; exact h3
   ·exact hk.sat i e he
  ·rw [look_cons] at hi hj
   split at hi <;> split at hj
   ·omega
   ·injection hi with hi; subst hi; rename_i a b; exact fun g h1 h2 => hap j e' g (fun e => b e.symm) hj h2 h1
   ·injection hj with hj; subst hj; rename_i a b; exact fun g h1 h2 => hap i e g (fun e => a e.symm) hi h1 h2
   ·exact hk.apart i j e e' hi hj hne
 refine hK r _ w' ⟨M', es, hr, h1.mono hB, rfl⟩ (hs.below.trans (hb.mono hB)) (HS.pushA es hk0 k (fun e he => (hh.sat e he).mono hB) hh.apart fun e he k' x hx g hg hg' => ?_)
 rw [look_cons] at hx
 split at hx
 ·injection hx with hx; subst hx; exact hg' (h5 e he g hg)
 ·have g1 := hh.ge e he g hg
  have g2 := (hs.heap.sat k' x hx).lt g hg'
  omega
theorem Eff.callT {o : Oper} {f : FuncId} {fn : Func} {xs : List Operand} {ts : Array TypeId} {vs : List Value} {R : Value -> Heap -> Prop}
  (ho : o.op = .call ⟨.value (.func f), xs.toArray, ts⟩) (hf : P.funcs[f]? = some fn) (hname : (fn.name == "runtime.NumGoroutine") = false) (hbody : fn.body.isNone = false)
  (hx : evls env xs = some vs) (hc : Tri P f vs.toArray w0 H R) : Eff P N w0 env H o R := by
 intro a w K Q hs hK
 refine wp_callGo ho hf hname hbody (hs.evals hx) (R := fun r w' => ∃ H', R r H' /\ Below w0.heap.size w0 w' /\ HS w0.heap.size w' H')
  ((hc w hs.below hs.heap).mono fun e w' ⟨r, H', he, hr, hb, hh⟩ => ⟨r, he, H', hr, hb, hh⟩) fun r w' ⟨H', hr, hb, hh⟩ => hK r H' w' hr hb hh
end
end Go.Proofs.Ytkcccenekglkoaa
