/-
 A small symbolic executor for the walk, part Z1: the same rules within rounds of a range over a function, in its iterator, and behind it.
 Conditions: none; plain lemmas over any program.
-/
import Derived.Test.YtkcccenekglkoaaX14
import Derived.RangeFuncRecord
import Derived.Sort.LoopGhostIn
import Derived.TacticsIn
namespace Go.Proofs.Ytkcccenekglkoaa
open Go Go.RowKit
set_option linter.unusedVariables false
def Fr : Option Nat -> Fence
 | none => Fence.wide
 | some l => Fence.wide.inRound l
theorem Fr_fn (r : Option Nat) (f : FuncId) : (Fr r).fn f := by cases r <;> trivial
theorem Fr_depth (r : Option Nat) : (Fr r).depth = none := by cases r <;> rfl
theorem Fr_deep (r : Option Nat) (n : Nat) : (Fr r).depth.isSome = true -> 1 <= n := by rw [Fr_depth]; intro h; cases h
theorem callsIn_Fr {r : Option Nat} {n : Nat} {P : Program} {f : FuncId} {args : Array Value} {w : World} {R : Ending -> World -> Prop} : CallsIn (Fr r) n P f args w R ↔ Calls P f args w R := by
 cases r with
 | none => exact callsIn_wide
 | some l => exact callsIn_wide
theorem rowsIn_Fr {r : Option Nat} {n : Nat} {P : Program} {row : String} {args : Array Value} {w : World} {R : Value -> World -> Prop} (h : Rows P row args w R) : RowsIn (Fr r) n P row args w R := by
 intro c cs _
 obtain ⟨v, w', h1, h2⟩ := h c cs
 refine ⟨v, w', h1, ?_⟩
 cases r with
 | none => exact stepsIn_wide.2 h2
 | some l => exact stepsIn_wide.2 h2
theorem put_defers (a : Act) (d : Option Tmp) (v : Value) : (a.put d v).defers = a.defers := by cases d <;> rfl
theorem put_tmps (a b : Act) (h : a.tmps = b.tmps) (d : Option Tmp) (v : Value) : (a.put d v).tmps = (b.put d v).tmps := by
 cases d <;> simp [Act.put, h]
theorem act_ext {a b : Act} (h1 : a.tmps = b.tmps) (h2 : a.defers = b.defers) : a = b := by cases a; cases b; simp at h1 h2; subst h1; subst h2; rfl
theorem eval_tmps (a b : Act) (h : a.tmps = b.tmps) : a.eval = b.eval := by
 funext x; cases x <;> simp [Act.eval, h]
theorem wpIn_of_wp {P : Program} {r : Option Nat} {n : Nat} {o : Oper} {a : Act} {w : World} {K : Act -> World -> Prop} {Q : Exit -> Act -> World -> Prop}
  (h : o.wp P ⟨a.tmps, []⟩ w (fun a' w' => a'.defers = [] /\ K ⟨a'.tmps, a.defers⟩ w') (fun _ _ _ => False)) : o.wpIn (Fr r) n P a w K Q := by
 have ev : (⟨a.tmps, []⟩ : Act).eval = a.eval := eval_tmps _ _ rfl
 have hnd : ∀ c, o.op ≠ .defer c := by
  intro c hc
  unfold Oper.wp at h
  have e : execOp (⟨a.tmps, []⟩ : Act).eval o = (do pure (.defer (<- resolve (⟨a.tmps, []⟩ : Act).eval c o.type)) : Sem Next) := by unfold execOp; rw [hc]
  rw [e] at h
  simp only [Sem.run_bind] at h
  cases hr : (resolve (⟨a.tmps, []⟩ : Act).eval c o.type).run P w with
  | ok d w' =>
   rw [hr] at h
   simp only [Result.andThen_ok, Sem.run_pure, Oper.upon_defer] at h
   have := h.1
   rw [put_defers] at this
   cases this
  | halt x w' =>
   rw [hr] at h
   cases x <;> exact h.elim
 refine ⟨fun f _ => Fr_fn r f, ?_⟩
 rw [Oper.semAt_eq _ _ _ hnd]
 unfold Oper.wp at h
 rw [ev] at h
 have pt : ∀ v, (⟨((⟨a.tmps, []⟩ : Act).put o.dst v).tmps, a.defers⟩ : Act) = a.put o.dst v := fun v => act_ext (b := a.put o.dst v) (put_tmps ⟨a.tmps, []⟩ a rfl o.dst v) (put_defers a o.dst v).symm
 cases hr : (execOp a.eval o).run P w with
 | halt x w' => rw [hr] at h; cases x <;> exact h.elim
 | ok x w' =>
  rw [hr] at h
  cases x with
  | value v => have h2 := h.2; rw [pt] at h2; exact h2
  | skip => have h2 := h.2; rw [pt] at h2; exact h2
  | defer d => have := h.1; rw [put_defers] at this; cases this
  | enter f args =>
   refine ⟨Fr_deep r n, callsIn_Fr.2 (Calls.mono h fun e w'' hq => ?_)⟩
   cases e with
   | returned v => have h2 := hq.2; rw [pt] at h2; exact h2
   | panicked chain => exact hq.elim
   | outgrown => obtain ⟨_, _, hq⟩ := hq; exact hq.elim
  | row row args => exact ⟨Fr_deep r n, rowsIn_Fr (Rows.mono h fun v w'' hq => by have h2 := hq.2; rw [pt] at h2; exact h2)⟩
  | _ => exact h.elim
theorem opDefers {P : Program} {o : Oper} {a : Act} {w : World} {K Q : Act -> World -> Prop} (h : o.wp P a w K (Qn Q)) (hk : ∀ a w, K a w -> a.defers = []) : a.defers = [] := by
 unfold Oper.wp at h
 cases hr : (execOp a.eval o).run P w with
 | halt x w' => rw [hr] at h; cases x <;> exact h.elim
 | ok x w' =>
  rw [hr] at h
  cases x with
  | value v => have := hk _ _ h; rwa [put_defers] at this
  | skip => have := hk _ _ h; rwa [put_defers] at this
  | defer d => have := hk _ _ h; rw [put_defers] at this; cases this
  | enter f args =>
   obtain ⟨e, w'', fr, hq, _⟩ := h []
   cases e with
   | returned v => have := hk _ _ hq; rwa [put_defers] at this
   | panicked chain => exact hq.elim
   | outgrown => obtain ⟨_, _, hq⟩ := hq; exact hq.elim
  | row row args =>
   obtain ⟨v, w'', hq, _⟩ := h default []
   have := hk _ _ hq; rwa [put_defers] at this
  | _ => exact h.elim
theorem opMono {P : Program} {o : Oper} {a : Act} {w : World} {K K' : Act -> World -> Prop} {Q Q' : Exit -> Act -> World -> Prop} (h : o.wp P a w K Q) (hk : ∀ a w, K a w -> K' a w) (hQ : ∀ c a w, Q (.panic c) a w -> Q' (.panic c) a w) (hO : ∀ a w, Q .outgrown a w -> Q' .outgrown a w) : o.wp P a w K' Q' := by
 unfold Oper.wp at h ⊢
 cases hr : (execOp a.eval o).run P w with
 | halt x w' => rw [hr] at h; cases x <;> first | exact hQ _ _ _ h | exact h.elim
 | ok x w' =>
  rw [hr] at h
  cases x with
  | value v => exact hk _ _ h
  | skip => exact hk _ _ h
  | defer d => exact hk _ _ h
  | enter f args =>
   refine Calls.mono h fun e w'' hq => ?_
   cases e with
   | returned v => exact hk _ _ hq
   | panicked chain => exact hQ _ _ _ hq
   | outgrown => obtain ⟨a, w, hq⟩ := hq; exact ⟨a, w, hO _ _ hq⟩
  | row row args => exact Rows.mono h fun v w'' hq => hk _ _ hq
  | _ => exact h.elim
theorem opsDefers {P : Program} {ops : Array Oper} {K : Act -> World -> Prop} : ∀ (l : List Nat) (a : Act) (w : World), wpOps P ops (Qn fun a w => a.defers = [] /\ K a w) l a w -> a.defers = []
 | [], a, w, h => h.1
 | i :: l, a, w, h => by
  unfold wpOps at h
  cases ho : ops[i]? with
  | none => rw [ho] at h; exact opsDefers l a w h
  | some o =>
   rw [ho] at h
   simp only at h
   split at h
   ·rcases h with h | ⟨_, _, _, hq⟩
    ·exact opDefers (opMono h (fun _ _ h => h) (fun _ _ _ hq => hq) (fun _ _ hq => hq)) (fun a w => opsDefers l a w)
    ·exact hq.elim
   ·have := opsDefers l _ w h; rwa [put_defers] at this
theorem opsIn_of {P : Program} {r : Option Nat} {n : Nat} {ops : Array Oper} {K : Act -> World -> Prop} : ∀ (l : List Nat) (a : Act) (w : World),
  wpOps P ops (Qn fun a w => a.defers = [] /\ K a w) l a w -> wpOpsIn (Fr r) n P ops (Qn K) l a w
 | [], a, w, h => h.2
 | i :: l, a, w, h => by
  have hd := opsDefers _ _ _ h
  unfold wpOps at h
  unfold wpOpsIn
  cases ho : ops[i]? with
  | none => rw [ho] at h; exact opsIn_of l a w h
  | some o =>
   rw [ho] at h
   simp only at h ⊢
   split
   ·rename_i hw
    rw [if_pos hw] at h
    rcases h with h | ⟨_, _, _, hq⟩
    ·have ha : (⟨a.tmps, []⟩ : Act) = a := act_ext rfl hd.symm
     refine wpIn_of_wp ?_
     rw [ha, hd]
     refine opMono h (fun a' w' h' => ?_) (fun _ _ _ hq => hq) (fun _ _ hq => hq)
     have hd' := opsDefers _ _ _ h'
     exact ⟨hd', by rw [act_ext (a := ⟨a'.tmps, []⟩) (b := a') rfl hd'.symm]; exact opsIn_of l a' w' h'⟩
    ·exact hq.elim
   ·rename_i hw
    rw [if_neg hw] at h
    exact ⟨fun f _ => Fr_fn r f, opsIn_of l _ w h⟩
namespace Z
def SZ (N : Nat) (w0 : World) (ds : List Deferred) (env : Env) (H : Heap) (a : Act) (w : World) : Prop := St N w0 env H ⟨a.tmps, []⟩ w /\ a.defers = ds
def WC (P : Program) (N : Nat) (w0 : World) (r : Option Nat) (ds : List Deferred) (c : Code) (Q : Exit -> Act -> World -> Prop) (env : Env) (H : Heap) : Prop := ∀ a w, SZ N w0 ds env H a w -> c.wpIn (Fr r) 0 P Q a w
def WL (P : Program) (N : Nat) (w0 : World) (r : Option Nat) (ds : List Deferred) (ops : Array Oper) (K : Act -> World -> Prop) (rest : List Oper) (env : Env) (H : Heap) : Prop := ∀ a w, SZ N w0 ds env H a w -> wpListIn (Fr r) 0 P ops (Qn K) rest a w
def QK (N : Nat) (w0 : World) (ds : List Deferred) (Q : Exit -> Act -> World -> Prop) (e : Exit) (env : Env) (H : Heap) : Prop := ∀ a w, SZ N w0 ds env H a w -> Q e a w
def KK (N : Nat) (w0 : World) (ds : List Deferred) (K : Act -> World -> Prop) (env : Env) (H : Heap) : Prop := ∀ a w, SZ N w0 ds env H a w -> K a w
section
variable {P : Program} {N : Nat} {w0 : World} {r : Option Nat} {ds : List Deferred} {ops : Array Oper} {K : Act -> World -> Prop} {rest : List Oper} {env env' : Env} {H H' : Heap} {Q : Exit -> Act -> World -> Prop}
variable {A : Option Addr} {n c sz : Nat} {E : TypeId}
theorem SZ.st {a : Act} {w : World} (h : SZ N w0 [] env H a w) : St N w0 env H a w := by
 have e : (⟨a.tmps, []⟩ : Act) = a := act_ext rfl h.2.symm
 have := h.1; rwa [e] at this
theorem SZ.of {a : Act} {w : World} (h : St N w0 env H a w) : SZ N w0 [] env H a w := by
 have e : (⟨a.tmps, []⟩ : Act) = a := act_ext rfl h.defers.symm
 exact ⟨by rw [e]; exact h, h.defers⟩
theorem SZ.eval {a : Act} {w : World} (h : SZ N w0 ds env H a w) {x : Operand} {v : Value} (hx : evl env x = some v) : a.eval x = v := by
 have := h.1.eval hx
 rwa [eval_tmps ⟨a.tmps, []⟩ a rfl] at this
theorem SZ.put {a : Act} {w : World} (h : SZ N w0 ds env H a w) {d : Nat} (hd : d < N) (v : Value) : SZ N w0 ds ((d, v) :: env) H (a.put (some d) v) w :=
 ⟨h.1.put hd v, by rw [put_defers]; exact h.2⟩
theorem SZ.putH {a : Act} {w w' : World} (h : SZ N w0 ds env H a w) {d : Nat} (hd : d < N) (v : Value) (hb : Below w0.heap.size w0 w') (hh : HS w0.heap.size w' H') : SZ N w0 ds ((d, v) :: env) H' (a.put (some d) v) w' :=
 ⟨h.1.putH hd v hb hh, by rw [put_defers]; exact h.2⟩
theorem SZ.weaken {a : Act} {w : World} (h : SZ N w0 ds env H a w) (he : Sub env' env) (hh : Sub H' H) : SZ N w0 ds env' H' a w := ⟨h.1.weaken he hh, h.2⟩
theorem WL.done (h : KK N w0 ds K env H) : WL P N w0 r ds ops K [] env H := fun a w hs => wpListIn_nil (h a w hs)
theorem listIn_on {o : Oper} {a : Act} {w : World} (hw : Region.wanted o (yielded ops a.tmps) = true) (h : o.wpIn (Fr r) 0 P a w (wpListIn (Fr r) 0 P ops (Qn K) rest) (Qn K)) : wpListIn (Fr r) 0 P ops (Qn K) (o :: rest) a w := by
 unfold wpListIn; rw [if_pos hw]; exact h
theorem yldIn {o : Oper} {a : Act} {w : World} {v : Value} {next : Act -> World -> Prop} (hs : SZ N w0 ds env H a w) (h : Yld P N w0 env H o v) (hn : next (a.put o.dst v) w) : o.wpIn (Fr r) 0 P a w next Q := by
 refine wpIn_of_wp ?_
 unfold Oper.wp
 rw [h _ w hs.1]
 have e : (⟨((⟨a.tmps, []⟩ : Act).put o.dst v).tmps, a.defers⟩ : Act) = a.put o.dst v := act_ext (b := a.put o.dst v) (put_tmps ⟨a.tmps, []⟩ a rfl o.dst v) (put_defers a o.dst v).symm
 exact ⟨by rw [put_defers], by rw [e]; exact hn⟩
theorem effIn {o : Oper} {a : Act} {w : World} {R : Value -> Heap -> Prop} {next : Act -> World -> Prop} (hs : SZ N w0 ds env H a w) (h : Eff P N w0 env H o R)
  (hn : ∀ v H' w', R v H' -> Below w0.heap.size w0 w' -> HS w0.heap.size w' H' -> next (a.put o.dst v) w') : o.wpIn (Fr r) 0 P a w next Q := by
 refine wpIn_of_wp (h _ w _ _ hs.1 fun v H' w' hr hb hh => ⟨by rw [put_defers], ?_⟩)
 have e : (⟨((⟨a.tmps, []⟩ : Act).put o.dst v).tmps, a.defers⟩ : Act) = a.put o.dst v := act_ext (b := a.put o.dst v) (put_tmps ⟨a.tmps, []⟩ a rfl o.dst v) (put_defers a o.dst v).symm
 rw [e]; exact hn v H' w' hr hb hh
theorem eff0In {o : Oper} {a : Act} {w : World} {next : Act -> World -> Prop} (hs : SZ N w0 ds env H a w) (h : Eff0 P N w0 env H o H')
  (hn : ∀ w', Below w0.heap.size w0 w' -> HS w0.heap.size w' H' -> next (a.put o.dst undef) w') : o.wpIn (Fr r) 0 P a w next Q := by
 refine wpIn_of_wp (h _ w _ _ hs.1 fun w' hb hh => ⟨by rw [put_defers], ?_⟩)
 have e : (⟨((⟨a.tmps, []⟩ : Act).put o.dst undef).tmps, a.defers⟩ : Act) = a.put o.dst undef := act_ext (b := a.put o.dst undef) (put_tmps ⟨a.tmps, []⟩ a rfl o.dst undef) (put_defers a o.dst undef).symm
 rw [e]; exact hn w' hb hh
theorem WL.yld {d : Nat} {op : Op} {ty : TypeId} {pos : String} {after : Array Edge} {v : Value} (hd : d < N) (h : Yld P N w0 env H ⟨some d, op, ty, pos, after, none⟩ v)
  (k : WL P N w0 r ds ops K rest ((d, v) :: env) H) : WL P N w0 r ds ops K (⟨some d, op, ty, pos, after, none⟩ :: rest) env H :=
 fun a w hs => listIn_on rfl (yldIn hs h (k _ _ (hs.put hd v)))
theorem WL.eff {d : Nat} {op : Op} {ty : TypeId} {pos : String} {after : Array Edge} {R : Value -> Heap -> Prop} (hd : d < N) (h : Eff P N w0 env H ⟨some d, op, ty, pos, after, none⟩ R)
  (k : ∀ v H', R v H' -> WL P N w0 r ds ops K rest ((d, v) :: env) H') : WL P N w0 r ds ops K (⟨some d, op, ty, pos, after, none⟩ :: rest) env H :=
 fun a w hs => listIn_on rfl (effIn hs h fun v H' w' hr hb hh => k v H' hr _ _ (hs.putH hd v hb hh))
theorem WL.eff0 {op : Op} {ty : TypeId} {pos : String} {after : Array Edge} (h : Eff0 P N w0 env H ⟨none, op, ty, pos, after, none⟩ H')
  (k : WL P N w0 r ds ops K rest env H') : WL P N w0 r ds ops K (⟨none, op, ty, pos, after, none⟩ :: rest) env H :=
 fun a w hs => listIn_on rfl (eff0In hs h fun w' hb hh => k _ _ ⟨hs.1.world hb hh, hs.2⟩)
theorem wcIn_mono {cd : Code} {a : Act} {w : World} (h : cd.wpIn (Fr r) 0 P (Qn K) a w) (hk : ∀ a w, K a w -> Q .normal a w) : cd.wpIn (Fr r) 0 P Q a w :=
 wpIn_mono h fun e a w hq => by cases e <;> first | exact hk _ _ hq | exact hq.elim
theorem WC.region {id : Nat} {l : List Oper} (h : ∀ K : Act -> World -> Prop, (∀ e h, QK N w0 ds Q .normal e h -> KK N w0 ds K e h) -> WL P N w0 r ds l.toArray K l env H) : WC P N w0 r ds (.region id l.toArray false) Q env H :=
 fun a w hs => wcIn_mono (wpIn_region_lit (h (fun a w => Q .normal a w) (fun _ _ hq => hq) a w hs)) fun _ _ h => h
theorem WC.skip (h : QK N w0 ds Q .normal env H) : WC P N w0 r ds .skip Q env H := fun a w hs => wpIn_skip (h a w hs)
theorem WC.ret (h : QK N w0 ds Q .ret env H) : WC P N w0 r ds .ret Q env H := fun a w hs => wpIn_ret (h a w hs)
theorem WC.exit {id : Nat} (h : QK N w0 ds Q (.exit id) env H) : WC P N w0 r ds (.exit id) Q env H := fun a w hs => wpIn_exit (h a w hs)
theorem WC.seq {x y : Code} (h : ∀ K : Act -> World -> Prop, (∀ {ds' : List Deferred} e h, WC P N w0 r ds' y Q e h -> KK N w0 ds' K e h) -> WC P N w0 r ds x (Exit.then K Q) env H) : WC P N w0 r ds (.seq x y) Q env H :=
 fun a w hs => wpIn_seq (h _ (fun _ _ hy => hy) a w hs)
theorem WC.cond {c : Operand} {x y : Code} {b : Bool} (hc : evl env c = some (.bool b)) (ht : b = true -> WC P N w0 r ds x Q env H) (hf : b = false -> WC P N w0 r ds y Q env H) : WC P N w0 r ds (.cond c x y) Q env H :=
 fun a w hs => wpIn_cond_split (hs.eval hc) (fun h => ht h a w hs) (fun h => hf h a w hs)
theorem WC.condT {c : Operand} {x y : Code} (hc : evl env c = some (.bool true)) (h : WC P N w0 r ds x Q env H) : WC P N w0 r ds (.cond c x y) Q env H := WC.cond hc (fun _ => h) (fun h => by cases h)
theorem WC.condF {c : Operand} {x y : Code} (hc : evl env c = some (.bool false)) (h : WC P N w0 r ds y Q env H) : WC P N w0 r ds (.cond c x y) Q env H := WC.cond hc (fun h => by cases h) (fun _ => h)
theorem WC.condTe {c : Operand} {x y : Code} {b : Bool} (hc : evl env c = some (.bool b)) (hb : b = true) (h : WC P N w0 r ds x Q env H) : WC P N w0 r ds (.cond c x y) Q env H := by subst hb; exact WC.condT hc h
theorem WC.condFe {c : Operand} {x y : Code} {b : Bool} (hc : evl env c = some (.bool b)) (hb : b = false) (h : WC P N w0 r ds y Q env H) : WC P N w0 r ds (.cond c x y) Q env H := by subst hb; exact WC.condF hc h
theorem WC.block {id : Nat} {cd : Code} (h : WC P N w0 r ds cd (Exit.inBlock id Q) env H) : WC P N w0 r ds (.block id cd) Q env H := fun a w hs => wpIn_block (h a w hs)
theorem WC.loop {cd : Code} {σ : Type} (E : σ -> Env) (G : σ -> Heap) (I : σ -> Prop) (μ : σ -> Nat) (s0 : σ) (h0 : I s0) (he : Sub (E s0) env) (hh : Sub (G s0) H)
  (round : ∀ s, I s -> ∀ K : Act -> World -> Prop, (∀ s' e h, I s' -> μ s' < μ s -> Sub (E s') e -> Sub (G s') h -> KK N w0 ds K e h) -> WC P N w0 r ds cd (Exit.then K Q) (E s) (G s)) : WC P N w0 r ds (.loop cd) Q env H := by
 intro a w hs
 refine wpIn_loop_ghost (fun n a w => ∃ s, I s /\ μ s = n /\ SZ N w0 ds (E s) (G s) a w) (μ s0) ⟨s0, h0, rfl, hs.weaken he hh⟩ ?_
 rintro n a w ⟨s, hI, rfl, hst⟩
 exact round s hI _ (fun s' e h hI' hlt he hh a w hs' => ⟨μ s', hlt, s', hI', rfl, hs'.weaken he hh⟩) a w hst
theorem WC.seqRegion {id : Nat} {l : List Oper} {y : Code} (h : ∀ K : Act -> World -> Prop, (∀ e h, WC P N w0 r ds y Q e h -> KK N w0 ds K e h) -> WL P N w0 r ds l.toArray K l env H) : WC P N w0 r ds (.seq (.region id l.toArray false) y) Q env H :=
 WC.seq fun K hK => WC.region fun K' hK' => h K' fun e h hy => hK' e h (hK e h hy)
theorem WC.regionD {id n : Nat} (Hro : Heap) (hn : ops.size = n) (hm : P.follows .mixedOrders = true) (hsub : Sub Hro H)
  (h : ∀ K : Act -> World -> Prop, (∀ e h, QK N w0 [] Q .normal e h -> Go.Proofs.Ytkcccenekglkoaa.KK N w0 K e h) -> WD P N w0 ops K Hro n (Array.replicate n false) env H) :
  WC P N w0 r [] (.region id ops true) Q env H := by
 subst hn
 intro a w hs
 refine wcIn_mono (K := fun a w => Q .normal a w) (wpIn_region_draw fun t => opsIn_of _ _ _ ?_) fun _ _ h => h
 have h1 := h (fun a w => a.defers = [] /\ Q .normal a w) (fun e h hq a w hs => ⟨hs.defers, hq a w (SZ.of hs)⟩) hsub a { w with drawn := w.drawn + 1 } hs.st.drew
 have h2 := wpAny_of_held _ _ _ _ h1
 simp only [Region.schedule, hm, Bool.true_or, if_true]
 exact wpAny_sound ops.size t _ a _ h2
theorem WC.seqRegionD {id n : Nat} {y : Code} (Hro : Heap) (hn : ops.size = n) (hm : P.follows .mixedOrders = true) (hsub : Sub Hro H)
  (h : ∀ K : Act -> World -> Prop, (∀ e h, WC P N w0 r [] y Q e h -> Go.Proofs.Ytkcccenekglkoaa.KK N w0 K e h) -> WD P N w0 ops K Hro n (Array.replicate n false) env H) :
  WC P N w0 r [] (.seq (.region id ops true) y) Q env H :=
 WC.seq fun K hK => WC.regionD Hro hn hm hsub fun K' hK' => h K' fun e h hy => hK' e h (hK e h hy)
theorem QK.thenN {K : Act -> World -> Prop} (h : KK N w0 ds K env H) : QK N w0 ds (Exit.then K Q) .normal env H := h
theorem QK.thenR {K : Act -> World -> Prop} (h : QK N w0 ds Q .ret env H) : QK N w0 ds (Exit.then K Q) .ret env H := h
theorem QK.blockR {id : Nat} (h : QK N w0 ds Q .ret env H) : QK N w0 ds (Exit.inBlock id Q) .ret env H := h
theorem QK.blockX {id : Nat} (h : QK N w0 ds Q .normal env H) : QK N w0 ds (Exit.inBlock id Q) (.exit id) env H := fun a w hs => by
 simp only [Exit.inBlock, if_true]; exact h a w hs
end
end Z
end Go.Proofs.Ytkcccenekglkoaa
