/-
 A small symbolic executor for the walk, part Z2: the statement 'for .. := range f', its rounds, and the return from a function that holds one.
 Conditions: none; plain lemmas over any program.
-/
import Derived.Test.YtkcccenekglkoaaZ1
namespace Go.Proofs.Ytkcccenekglkoaa
open Go Go.RowKit
set_option linter.unusedVariables false
namespace Z
section
variable {P : Program} {N N' : Nat} {w0 : World} {r : Option Nat} {ds : List Deferred} {ops : Array Oper} {K : Act -> World -> Prop} {rest : List Oper} {env env' : Env} {H H' : Heap} {Q : Exit -> Act -> World -> Prop}
def Rc (st : LoopState) (p : Option Code) (rc : Loop) : Loop := { rc with state := st, pending := p }
abbrev mk (D : Nat) : Deferred := { target := .collected D, args := #[] }
structure RcOk (N : Nat) (env : Env) (ps : Array Tmp) (assign body : Code) (rc : Loop) : Prop where
 size : rc.tmps.size = N
 vals : ∀ k v, look env k = some v -> rc.tmps.getD k undef = v
 params : rc.params = ps
 assign : rc.assign = assign
 body : rc.body = body
theorem putObj_below {w : World} (hb : Below w0.heap.size w0 w) {g : Nat} (hg : w0.heap.size <= g) (o : Obj) : Below w0.heap.size w0 (w.putObj g o) :=
 hb.trans ⟨rfl, rfl, rfl, by simp, fun i hi => World.putObj_heap_other (by omega)⟩
theorem HS.putObj {B : Nat} {w : World} (h : HS B w H) {k g : Nat} {o : Obj} (hk : look H k = some (.obj g o)) (o' : Obj) : HS B (w.putObj g o') ((k, .obj g o') :: H) := by
 obtain ⟨h1, h2⟩ : B <= g /\ w.heap[g]? = some o := h.sat k _ hk
 have hlt : g < w.heap.size := (Array.getElem?_eq_some_iff.1 h2).1
 refine h.set k _ (by simp) (fun i hi hne => World.putObj_heap_other (fun e => hne _ hk (by simp [HE.fp, e]))) ⟨h1, World.putObj_heap_same hlt⟩ (fun i hi => .inl ⟨_, hk, hi⟩)
theorem obj_at {B : Nat} {w : World} (h : HS B w H) {k g : Nat} {o : Obj} (hk : look H k = some (.obj g o)) : B <= g /\ w.heap[g]? = some o := h.sat k _ hk
theorem SZ.putObj {a : Act} {w : World} (h : SZ N w0 ds env H a w) {k g : Nat} {o : Obj} (hk : look H k = some (.obj g o)) (o' : Obj) : SZ N w0 ds env ((k, .obj g o') :: H) a (w.putObj g o') :=
 ⟨⟨h.1.size, h.1.defers, h.1.vals, putObj_below h.1.below (obj_at h.1.heap hk).1 o', HS.putObj h.1.heap hk o'⟩, h.2⟩
theorem Tri.intro {f : FuncId} {fn : Func} {c : Code} {args : List Value} {R : Value -> Heap -> Prop} (hf : P.funcs[f]? = some fn) (hb : fn.body = some c) (hN : fn.ntmps = N) (hle : args.length <= N)
  (h : WC P N w0 none [] c (bodyPost P fn fun e w' => ∃ r H', e = .returned r /\ R r H' /\ Below w0.heap.size w0 w' /\ HS w0.heap.size w' H') (envOf 0 args) H) : Tri P f args.toArray w0 H R :=
 fun w hbel hh => callsIn_wide (n := 0).1 (callsIn_of_wp hf hb trivial (h _ w (SZ.of (st_enter hN hle hbel hh))))
theorem Ret.go {fn : Func} {R : Value -> Heap -> Prop} {v : Value} (hr : ResIs P N w0 fn env H v) (h : R v H) :
  QK N w0 [] (bodyPost P fn fun e w' => ∃ r H', e = .returned r /\ R r H' /\ Below w0.heap.size w0 w' /\ HS w0.heap.size w' H') .ret env H := fun a w hs => Go.Proofs.Ytkcccenekglkoaa.Ret.go hr h a w hs.st
theorem Ret.goN {fn : Func} {R : Value -> Heap -> Prop} {v : Value} (hr : ResIs P N w0 fn env H v) (h : R v H) :
  QK N w0 [] (bodyPost P fn fun e w' => ∃ r H', e = .returned r /\ R r H' /\ Below w0.heap.size w0 w' /\ HS w0.heap.size w' H') .normal env H := fun a w hs => Go.Proofs.Ytkcccenekglkoaa.Ret.goN hr h a w hs.st
theorem WL.inl {d : Nat} {ty : TypeId} {pos : String} {after : Array Edge} {f : FuncId} {fn : Func} {xs : List Operand} {ts : Array TypeId} {vs : List Value} (hd : d < N)
  (hf : P.funcs[f]? = some fn) (hname : (fn.name == "runtime.NumGoroutine") = false) (hbody : fn.body.isNone = false) (hx : evls env xs = some vs)
  (h : Tri P f vs.toArray w0 H fun v H' => WL P N w0 r ds ops K rest ((d, v) :: env) H') :
  WL P N w0 r ds ops K (⟨some d, .call ⟨.value (.func f), xs.toArray, ts⟩, ty, pos, after, none⟩ :: rest) env H :=
 WL.eff hd (Eff.callT rfl hf hname hbody hx h) fun _ _ h => h
abbrev FnPost (P : Program) (fn : Func) (w0 : World) (M : Mem) (R : Value -> Mem -> List HE -> Prop) : Exit -> Act -> World -> Prop :=
 bodyPostM Fence.wide 0 P fn fun e w' => ∃ r M' es, e = .returned r /\ R r M' es /\ Ext w0.heap.size M M' /\ Below w0.heap.size w0 w' /\ Holds M' w' /\ HSes w0.heap.size w' es /\ (∀ e ∈ es, ∀ g, e.fp g -> M' g = Option.none)
theorem Fn.intro {f : FuncId} {fn : Func} {c : Code} {args : List Value} {M : Mem} {R : Value -> Mem -> List HE -> Prop} (hf : P.funcs[f]? = some fn) (hb : fn.body = some c) (hN : fn.ntmps = N) (hle : args.length <= N)
  (h : ∀ w0, WC P N w0 none [] c (FnPost P fn w0 M R) (envOf 0 args) [(0, .mem M)]) : Fn P f args.toArray M R :=
 fun w hM => callsIn_wide (n := 0).1 (callsIn_of_wp_marks hf hb trivial (h w _ w (SZ.of (st_enter hN hle (Below.refl _ _) (HS.one hM)))))
theorem Ret.fn {fn : Func} {M M' : Mem} {R : Value -> Mem -> List HE -> Prop} {v : Value} (ks : List Nat) {es : List HE} (hr : ResIs P N w0 fn env H v) (hM : look H 0 = some (.mem M')) (hx : Ext w0.heap.size M M') (hp : pickH H ks = some es) (hn : ks.Nodup) (h0 : ks.all (fun k => Nat.ble 1 k) = true) (hm : es.all (fun e => !e.isMem) = true) (h : R v M' es) :
  QK N w0 [] (FnPost P fn w0 M R) .ret env H := fun a w hs => by
 have := (Go.Proofs.Ytkcccenekglkoaa.Ret.fn (P := P) (fn := fn) (R := R) ks hr hM hx hp hn h0 hm h a w hs.st).2
 show LeavesInM _ _ _ _ _ _ a.defers _ _
 rw [hs.2]; exact this
theorem QK.unmark (kD : Nat) {D : Nat} {fn : Func} {R : Ending -> World -> Prop} (hk : look H kD = some (.obj D (.deferred (some [])))) (h : QK N w0 [] (bodyPostM Fence.wide 0 P fn R) .ret env ((kD, .obj D (.deferred none)) :: H)) :
  QK N w0 [mk D] (bodyPostM Fence.wide 0 P fn R) .ret env H := fun a w hs => by
 have h1 := obj_at hs.1.heap hk
 have h2 : SZ N w0 [] env ((kD, .obj D (.deferred none)) :: H) ⟨a.tmps, []⟩ (w.putObj D (.deferred none)) := ⟨(SZ.putObj hs hk (.deferred none)).1, rfl⟩
 have h3 := h _ _ h2
 show LeavesInM _ _ _ _ _ _ a.defers _ _
 rw [hs.2]
 refine ⟨by simp, .inl ⟨D, _, rfl, run_takeDeferred h1.2, ?_⟩⟩
 exact h3
theorem run_enter_yield {w : World} {a : Act} {g : Operand} {gf l : Nat} {fn : Func} {us cs : List Value} (hg : a.eval g = .func (.func gf) us.toArray cs.toArray) (hf : P.funcs[gf]? = some fn) (hname : (fn.name == "runtime.NumGoroutine") = false) (hbody : fn.body.isNone = false) :
  ∃ d : Deferred, (resolve a.eval (rangeCall g l) 0).run P w = .ok d w /\ (invoke d.target d.args).run P w = .ok (.enter gf (us ++ [Value.func (.yield l) #[] #[]] ++ cs).toArray) w := by
 have h1 : fn.name ≠ "runtime.NumGoroutine" := by simpa using hname
 have h2 : fn.body ≠ none := by intro e; rw [e] at hbody; cases hbody
 refine ⟨{ target := .fn (.func gf) cs.toArray, args := us.toArray ++ #[.func (.yield l) #[] #[]] }, ?_, ?_⟩
 ·have e : (#[Operand.const (.func (.yield l) #[] #[])] : Array Operand).map a.eval = #[.func (.yield l) #[] #[]] := by simp [Act.eval]
  simp only [resolve, hg, e, Deferred.ofValue, Sem.run_pure]
 ·simp [invoke, callFunc, hf, h1, h2]
def After (P : Program) (N : Nat) (w0 : World) (Q : Exit -> Act -> World -> Prop) (env : Env) (kl D l : Nat) (rc : Loop) (H' : Heap) : Prop :=
  ∃ st p, look H' kl = some (.obj l (.loop (Rc st p rc))) /\ st ≠ .busy /\
    (match p with
     | none => QK N w0 [mk D] Q .normal env ((kl, .obj l (.loop (Rc .exhausted none rc))) :: H')
     | some c => WC P N w0 none [mk D] c Q env ((kl, .obj l (.loop (Rc .exhausted (some c) rc))) :: H'))
theorem After.go (kl : Nat) {D l : Nat} {rc : Loop} (hk : look H' kl = some (.obj l (.loop (Rc .ready none rc)))) (h : QK N w0 [mk D] Q .normal env ((kl, .obj l (.loop (Rc .exhausted none rc))) :: H')) : After P N w0 Q env kl D l rc H' :=
 ⟨_, _, hk, by simp, h⟩
theorem After.ret (kl : Nat) {D l : Nat} {rc : Loop} (hk : look H' kl = some (.obj l (.loop (Rc .done (some .ret) rc)))) (h : QK N w0 [mk D] Q .ret env ((kl, .obj l (.loop (Rc .exhausted (some .ret) rc))) :: H')) : After P N w0 Q env kl D l rc H' :=
 ⟨_, _, hk, by simp, WC.ret h⟩
theorem WC.rangeFunc (kD kl : Nat) {g : Operand} {ps : Array Tmp} {assign body : Code} {gf : FuncId} {fn : Func} {us cs : List Value} (hg : evl env g = some (.func (.func gf) us.toArray cs.toArray))
  (hf : P.funcs[gf]? = some fn) (hname : (fn.name == "runtime.NumGoroutine") = false) (hbody : fn.body.isNone = false) (hkD : look H kD = none) (hkl : look H kl = none) (hne : Nat.beq kD kl = false)
  (h : ∀ (D l : Nat) (rc : Loop), RcOk N env ps assign body rc ->
   Tri P gf (us ++ [Value.func (.yield l) #[] #[]] ++ cs).toArray w0 ((kl, .obj l (.loop (Rc .ready none rc))) :: (kD, .obj D (.deferred (some []))) :: H) fun v H' => After P N w0 Q env kl D l rc H') :
  WC P N w0 none [] (.rangeFunc g ps assign body) Q env H := by
 intro a w hs
 have hev := hs.eval hg
 have hB := hs.1.below.size
 have hnk : kD ≠ kl := fun e => by subst e; simp at hne
 refine wpIn_rangeFunc fun fn' _ => ?_
 let rc : Loop := { state := .ready, pending := none, fn := fn', tmps := a.tmps, params := ps, assign, body, defers := w.heap.size }
 let w1 := (w.alloc (.deferred (some []))).alloc (.loop rc)
 obtain ⟨d, hres, hinv⟩ := run_enter_yield (P := P) (w := w1) (a := a) (l := w.heap.size + 1) hev hf hname hbody
 have hrc : RcOk N env ps assign body rc := ⟨hs.1.size, hs.1.vals, rfl, rfl, rfl⟩
 have hb1 : Below w0.heap.size w0 (w.alloc (.deferred (some []))) := hs.1.below.alloc hB _
 have hb2 : Below w0.heap.size w0 w1 := hb1.alloc (by simp; omega) _
 have hh1 : HS w0.heap.size (w.alloc (.deferred (some []))) ((kD, .obj w.heap.size (.deferred (some []))) :: H) :=
  hs.1.heap.new hB kD hkD _ _ ⟨hB, World.alloc_heap_new w _⟩ (fun g hg => (by simpa [HE.fp] using hg.symm))
 have hh2 : HS w0.heap.size w1 ((kl, .obj (w.heap.size + 1) (.loop (Rc .ready none rc))) :: (kD, .obj w.heap.size (.deferred (some []))) :: H) := by
  refine hh1.new (by simp; omega) kl (by rw [look_cons_ne _ _ hnk]; exact hkl) _ _ ⟨by omega, ?_⟩ (fun g hg => ?_)
  ·have := World.alloc_heap_new (w.alloc (.deferred (some []))) (.loop rc)
   simpa [w1, rc, Rc] using this
  ·have h3 : w.heap.size + 1 = g := hg
   simp; omega
 refine ⟨w.heap.size + 1, [mk w.heap.size], w1, d, w1, gf, (us ++ [Value.func (.yield (w.heap.size + 1)) #[] #[]] ++ cs).toArray, w1, run_enterLoop_outer fn' a.tmps ps assign body, hres, fun _ _ => trivial, hinv, Fr_deep none 0, ?_⟩
 refine callsIn_wide.2 ((h w.heap.size (w.heap.size + 1) rc hrc w1 hb2 hh2).mono fun e w' hR => ?_)
 obtain ⟨v, H', rfl, ⟨st, p, hk, hst, hp⟩, hb', hh'⟩ := hR
 obtain ⟨hg1, hg2⟩ := obj_at hh' hk
 refine ⟨p, _, run_endLoop hg2 hst, ?_⟩
 have hsz : SZ N w0 [mk w.heap.size] env ((kl, .obj (w.heap.size + 1) (.loop (Rc .exhausted p rc))) :: H') { a with defers := [mk w.heap.size] ++ a.defers } (w'.putObj (w.heap.size + 1) (.loop { (Rc st p rc) with state := .exhausted })) := by
  refine ⟨⟨hs.1.size, rfl, hs.1.vals, putObj_below hb' hg1 _, HS.putObj hh' hk _⟩, ?_⟩
  show [mk w.heap.size] ++ a.defers = _
  rw [hs.2]; rfl
 cases p with
 | none => exact hp _ _ hsz
 | some c => exact hp _ _ hsz
def bindPs : List Nat -> List Value -> Env -> Env
 | p :: ps, v :: vs, e => bindPs ps vs ((p, v) :: e)
 | _, _, e => e
theorem bind_tmps : ∀ (ps : List Nat) (vs : List Value) (e : Env) (t : Array Value), ps.length = vs.length -> (∀ p ∈ ps, p < t.size) -> (∀ k v, look e k = some v -> t.getD k undef = v) ->
  ((ps.zip vs).foldl (fun t (p : Nat × Value) => t.setIfInBounds p.1 p.2) t).size = t.size /\ ∀ k v, look (bindPs ps vs e) k = some v -> ((ps.zip vs).foldl (fun t (p : Nat × Value) => t.setIfInBounds p.1 p.2) t).getD k undef = v
 | [], [], e, t, _, _, h => ⟨rfl, h⟩
 | p :: ps, v :: vs, e, t, hl, hp, h => by
  have ih := bind_tmps ps vs ((p, v) :: e) (t.setIfInBounds p v) (by simpa using hl) (fun q hq => by simpa using hp q (List.mem_cons_of_mem _ hq)) (fun k u hk => by
   rw [look_cons] at hk
   have hpl := hp p (List.mem_cons_self ..)
   split at hk
   ·injection hk with hk; subst hk; rename_i e; subst e; simp [hpl]
   ·rename_i hne
    have := h k u hk
    simpa [Array.getElem?_setIfInBounds_ne hne] using this)
  refine ⟨ih.1.trans (by simp), ih.2⟩
theorem WL.round (kl : Nat) {d : Nat} {y : Operand} {ty : TypeId} {pos : String} {after : Array Edge} {xs : List Operand} {ts : Array TypeId} {vs : List Value} {l : Nat} {rc : Loop} {ps : List Tmp} {assign body : Code}
  (hd : d < N) (hy : evl env y = some (.func (.yield l) #[] #[])) (hx : evls env xs = some vs) (hk : look H kl = some (.obj l (.loop (Rc .ready none rc)))) (ok : RcOk N' env' ps.toArray assign body rc)
  (hps : ps.length = vs.length) (hlt : ps.all (fun p => Nat.blt p N') = true)
  (h : ∀ RQ : Exit -> Act -> World -> Prop,
   (∀ e h', look h' kl = some (.obj l (.loop (Rc .busy none rc))) -> WL P N w0 r ds ops K rest ((d, .bool true) :: env) ((kl, .obj l (.loop (Rc .ready none rc))) :: h') -> QK N' w0 [] RQ .normal e h') ->
   (∀ e h', look h' kl = some (.obj l (.loop (Rc .busy none rc))) -> WL P N w0 r ds ops K rest ((d, .bool false) :: env) ((kl, .obj l (.loop (Rc .done (some .ret) rc))) :: h') -> QK N' w0 [] RQ .ret e h') ->
   (∀ id e h', look h' kl = some (.obj l (.loop (Rc .busy none rc))) -> WL P N w0 r ds ops K rest ((d, .bool false) :: env) ((kl, .obj l (.loop (Rc .done (some (.exit id)) rc))) :: h') -> QK N' w0 [] RQ (.exit id) e h') ->
   ∀ KA : Act -> World -> Prop, (∀ e h', look h' kl = some (.obj l (.loop (Rc .ready none rc))) -> WC P N' w0 (some l) [] body RQ e ((kl, .obj l (.loop (Rc .busy none rc))) :: h') -> KK N' w0 [] KA e h') ->
    WC P N' w0 (some l) [] assign (Exit.then KA fun _ _ _ => False) (bindPs ps vs env') H) :
  WL P N w0 r ds ops K (⟨some d, .call ⟨.value y, xs.toArray, ts⟩, ty, pos, after, none⟩ :: rest) env H := by
 intro a w hs
 refine listIn_on rfl ?_
 obtain ⟨hg1, hg2⟩ := obj_at hs.1.heap hk
 have hxs : xs.map a.eval = vs := by have := hs.1.evals hx; rwa [eval_tmps ⟨a.tmps, []⟩ a rfl] at this
 have hrun : (execOp a.eval ⟨some d, .call ⟨.value y, xs.toArray, ts⟩, ty, pos, after, none⟩).run P w = .ok (.round l rc.fn ((ps.zip vs).foldl (fun t (p : Nat × Value) => t.setIfInBounds p.1 p.2) rc.tmps) assign body) w := by
  have h1 := run_yield (P := P) (args := vs.toArray) hg2 (by show vs.toArray.size = rc.params.size; rw [ok.params]; simp [hps])
  have h2 : (Rc .ready none rc).tmps = rc.tmps := rfl
  have h3 : (Rc .ready none rc).params = ps.toArray := ok.params
  have h4 : (Rc .ready none rc).assign = assign := ok.assign
  have h5 : (Rc .ready none rc).body = body := ok.body
  rw [h2, h3, h4, h5] at h1
  have h6 : (ps.toArray.zip vs.toArray).foldl (fun tmps (x : Nat × Value) => tmps.setIfInBounds x.1 x.2) rc.tmps = (ps.zip vs).foldl (fun t (p : Nat × Value) => t.setIfInBounds p.1 p.2) rc.tmps := by simp
  have h7 : (Instr.yield l vs.toArray).run P w = .ok (.round l rc.fn ((ps.zip vs).foldl (fun t (p : Nat × Value) => t.setIfInBounds p.1 p.2) rc.tmps) assign body) w := by rw [<- h6]; exact h1
  simp [execOp, resolve, hs.eval hy, Deferred.ofValue, invoke, hxs, h7]
 refine ⟨fun f _ => Fr_fn r f, ?_⟩
 rw [Oper.semAt_eq _ _ _ (by intro c hc; cases hc), hrun, Oper.uponIn_round]
 refine ⟨Fr_deep r 0, ?_⟩
 obtain ⟨t1, t2⟩ := bind_tmps ps vs env' rc.tmps hps (fun p hp => by have := List.all_eq_true.1 hlt p hp; rw [ok.size]; exact blt_of this) ok.vals
 have hin : (Fr r).inRound l = Fr (some l) := by cases r <;> rfl
 refine roundIn_of_wpIn (Fr_fn r _) ?_
 rw [hin]
 have next : ∀ (b : Bool) (p : Option Code) (st : LoopState) (e : Env) (h' : Heap) (a1 : Act) (w1 : World), SZ N' w0 [] e h' a1 w1 -> look h' kl = some (.obj l (.loop (Rc .busy none rc))) ->
   WL P N w0 r ds ops K rest ((d, .bool b) :: env) ((kl, .obj l (.loop (Rc st p rc))) :: h') -> wpListIn (Fr r) 0 P ops (Qn K) rest (a.put (some d) (.bool b)) (w1.putObj l (.loop { (Rc .busy none rc) with state := st, pending := p })) := fun b p st e h' a1 w1 hs1 hk1 hw => by
  refine hw _ _ ?_
  have h2 := (SZ.putObj hs1 hk1 (.loop { (Rc .busy none rc) with state := st, pending := p })).1
  have h3 := (hs.put hd (.bool b))
  exact ⟨⟨h3.1.size, h3.1.defers, h3.1.vals, h2.below, h2.heap⟩, h3.2⟩
 let R0 : Ending -> World -> Prop := fun
  | .returned v, w'' => wpListIn (Fr r) 0 P ops (Qn K) rest (a.put (some d) v) w''
  | .panicked chain, w'' => Qn K (.panic chain) a w''
  | .outgrown, _ => LetsOut (Qn K)
 refine h (roundPost P l R0) (fun e h' hk1 hw a1 w1 hs1 => ?_) (fun e h' hk1 hw a1 w1 hs1 => ?_) (fun id e h' hk1 hw a1 w1 hs1 => ?_) (fun a1 w1 => ∃ w2, (Instr.beginRound l).run P w1 = .ok () w2 /\ body.wpIn (Fr (some l)) 0 P (roundPost P l R0) a1 w2) (fun e h' hk1 hw a1 w1 hs1 => ?_) _ w ⟨⟨by rw [t1, ok.size], rfl, t2, hs.1.below, hs.1.heap⟩, rfl⟩
 ·exact ⟨_, _, run_endRound none (obj_at hs1.1.heap hk1).2, next true none .ready e h' a1 w1 hs1 hk1 hw⟩
 ·exact ⟨_, _, run_endRound (some .ret) (obj_at hs1.1.heap hk1).2, next false (some .ret) .done e h' a1 w1 hs1 hk1 hw⟩
 ·exact ⟨_, _, run_endRound (some (.exit id)) (obj_at hs1.1.heap hk1).2, next false (some (.exit id)) .done e h' a1 w1 hs1 hk1 hw⟩
 ·refine ⟨_, run_beginRound (obj_at hs1.1.heap hk1).2 rfl, ?_⟩
  exact hw _ _ (SZ.putObj hs1 hk1 (.loop { (Rc .ready none rc) with state := .busy }))
end
end Z
end Go.Proofs.Ytkcccenekglkoaa
