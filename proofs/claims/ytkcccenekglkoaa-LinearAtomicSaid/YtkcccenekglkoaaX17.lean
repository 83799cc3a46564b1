/-
 A small symbolic executor for the walk, part 17: short forms of steps (printed by wip/gen/x17.py).
 Conditions: none; plain lemmas over any program.
-/
import Derived.Test.YtkcccenekglkoaaX16
import Derived.KernelRfl
namespace Go.Proofs.Ytkcccenekglkoaa
open Go Go.RowKit
set_option linter.unusedVariables false
section
variable {P : Program} {N : Nat} {w0 : World} {env : Env} {H : Heap} {ops : Array Oper} {K : Act -> World -> Prop} {rest : List Oper} {Q : Exit -> Act -> World -> Prop}
variable {d j : Nat} {want : Bool} {op : Op} {ty : TypeId} {pos : String} {after : Array Edge} {v : Value} {x : Operand} {Hro : Heap} {fuel : Nat} {listed : Array Bool}
theorem sq {x y : Code} (h : ∀ K : Act -> World -> Prop, (∀ e h, WC P N w0 y Q e h -> KK N w0 K e h) -> WC P N w0 x (Exit.then K Q) env H) : WC P N w0 (.seq x y) Q env H := WC.seq h
theorem sr {id : Nat} {l : List Oper} {y : Code} (h : ∀ K : Act -> World -> Prop, (∀ e h, WC P N w0 y Q e h -> KK N w0 K e h) -> WL P N w0 l.toArray K l env H) : WC P N w0 (.seq (.region id l.toArray false) y) Q env H := WC.seqRegion h
theorem rg {id : Nat} {l : List Oper} (h : ∀ K : Act -> World -> Prop, (∀ e h, QK N w0 Q .normal e h -> KK N w0 K e h) -> WL P N w0 l.toArray K l env H) : WC P N w0 (.region id l.toArray false) Q env H := WC.region h
theorem dn (h : KK N w0 K env H) : WL P N w0 ops K [] env H := WL.done h
theorem ss {K : Act -> World -> Prop} (h : KK N w0 K env H) : WC P N w0 .skip (Exit.then K Q) env H := WC.skip h
theorem bl {id : Nat} {cd : Code} (h : WC P N w0 cd (Exit.inBlock id Q) env H) : WC P N w0 (.block id cd) Q env H := WC.block h
theorem bn {id : Nat} (h : QK N w0 Q .normal env H) : QK N w0 (Exit.inBlock id Q) .normal env H := h
theorem bx {id : Nat} (h : QK N w0 Q .normal env H) : QK N w0 (Exit.inBlock id Q) (.exit id) env H := QK.blockX h
theorem bo {id id' : Nat} (h : QK N w0 Q (.exit id') env H) (hne : Nat.beq id' id = false := by exact rfl) : QK N w0 (Exit.inBlock id Q) (.exit id') env H := QK.blockO hne h
theorem br {id : Nat} (h : QK N w0 Q .ret env H) : QK N w0 (Exit.inBlock id Q) .ret env H := h
theorem tn {K : Act -> World -> Prop} (h : KK N w0 K env H) : QK N w0 (Exit.then K Q) .normal env H := h
theorem te {K : Act -> World -> Prop} {id : Nat} (h : QK N w0 Q (.exit id) env H) : QK N w0 (Exit.then K Q) (.exit id) env H := h
theorem tr {K : Act -> World -> Prop} (h : QK N w0 Q .ret env H) : QK N w0 (Exit.then K Q) .ret env H := h
theorem xi {id : Nat} (h : QK N w0 Q (.exit id) env H) : WC P N w0 (.exit id) Q env H := WC.exit h
theorem re (h : QK N w0 Q .ret env H) : WC P N w0 .ret Q env H := WC.ret h
theorem kw {E : Env} {G : Heap} (h : KK N w0 K E G) (he : Sub E env := by repeat (first | exact sn | refine sc ?_)) (hh : Sub G H := by repeat (first | exact sn | refine sc ?_)) : KK N w0 K env H := fun a w hs => h a w (hs.weaken he hh)
theorem cnd {ρ : Type} {p : Prop} [Decidable p] {a b : Option ρ} {q : ρ} {c : Operand} {x y : Code} {v : Bool} (h : (if p then a else b) = some q) (hc : evl env c = some (.bool v)) (ht : p -> v = true) (hf : ¬ p -> v = false) (t : p -> a = some q -> WC P N w0 x Q env H) (f : ¬ p -> b = some q -> WC P N w0 y Q env H) : WC P N w0 (.cond c x y) Q env H := by
 by_cases hp : p
 ·exact WC.condTe hc (ht hp) (t hp (of_t hp h))
 ·exact WC.condFe hc (hf hp) (f hp (of_f hp h))
theorem cnn {ρ : Type} {p : Prop} [Decidable p] {a b : Option ρ} {q : ρ} {c : Operand} {x y : Code} {v : Bool} (h : (if p then a else b) = some q) (hc : evl env c = some (.bool v)) (ht : p -> v = false) (hf : ¬ p -> v = true) (t : p -> a = some q -> WC P N w0 y Q env H) (f : ¬ p -> b = some q -> WC P N w0 x Q env H) : WC P N w0 (.cond c x y) Q env H := by
 by_cases hp : p
 ·exact WC.condFe hc (ht hp) (t hp (of_t hp h))
 ·exact WC.condTe hc (hf hp) (f hp (of_f hp h))
theorem cdT {c : Operand} {x y : Code} (hc : evl env c = some (.bool true)) (h : WC P N w0 x Q env H) : WC P N w0 (.cond c x y) Q env H := WC.condT hc h
theorem cdF {c : Operand} {x y : Code} (hc : evl env c = some (.bool false)) (h : WC P N w0 y Q env H) : WC P N w0 (.cond c x y) Q env H := WC.condF hc h
theorem nt {b : Bool} (e : b = true) (h : WL P N w0 ops K rest ((d, .bool true) :: env) H) : WL P N w0 ops K rest ((d, .bool b) :: env) H := by subst e; exact h
theorem nf {b : Bool} (e : b = false) (h : WL P N w0 ops K rest ((d, .bool false) :: env) H) : WL P N w0 ops K rest ((d, .bool b) :: env) H := by subst e; exact h
theorem spl {ρ : Type} {p : Prop} [Decidable p] {a b : Option ρ} {q : ρ} {v : Bool} (h : (if p then a else b) = some q) (ht : p -> v = true) (hf : ¬ p -> v = false) (t : p -> a = some q -> WL P N w0 ops K rest ((d, .bool true) :: env) H) (f : ¬ p -> b = some q -> WL P N w0 ops K rest ((d, .bool false) :: env) H) : WL P N w0 ops K rest ((d, .bool v) :: env) H := by
 by_cases hp : p
 ·exact nt (ht hp) (t hp (of_t hp h))
 ·exact nf (hf hp) (f hp (of_f hp h))
theorem spn {ρ : Type} {p : Prop} [Decidable p] {a b : Option ρ} {q : ρ} {v : Bool} (h : (if p then a else b) = some q) (ht : p -> v = false) (hf : ¬ p -> v = true) (t : p -> a = some q -> WL P N w0 ops K rest ((d, .bool false) :: env) H) (f : ¬ p -> b = some q -> WL P N w0 ops K rest ((d, .bool true) :: env) H) : WL P N w0 ops K rest ((d, .bool v) :: env) H := by
 by_cases hp : p
 ·exact nf (ht hp) (t hp (of_t hp h))
 ·exact nt (hf hp) (f hp (of_f hp h))
theorem mv (hx : evl env x = some v) (k : WL P N w0 ops K rest ((d, v) :: env) H) (hd : d < N := by decide) : WL P N w0 ops K (⟨some d, .move x, ty, pos, after, none⟩ :: rest) env H := WL.yld hd (Yld.move hx) k
theorem asn (hx : evl env x = some v) (k : WL P N w0 ops K rest ((d, v) :: env) H) (hd : d < N := by decide) : WL P N w0 ops K (⟨some d, .assign x, ty, pos, after, none⟩ :: rest) env H := WL.yld hd (Yld.assign hx) k
theorem mvg (hx : evl env x = some v) (k : WL P N w0 ops K rest ((d, v) :: env) H) (hj : guardIs ops env j = some (.bool want) := by exact rfl) (hd : d < N := by decide) : WL P N w0 ops K (⟨some d, .move x, ty, pos, after, some (j, want)⟩ :: rest) env H := WL.yldG hd hj (Yld.move hx) k
theorem pt {c u : Operand} (hc : evl env c = some (.bool true)) (hx : evl env x = some v) (k : WL P N w0 ops K rest ((d, v) :: env) H) (hd : d < N := by decide) : WL P N w0 ops K (⟨some d, .pick c x u, ty, pos, after, none⟩ :: rest) env H := WL.yld hd (Yld.pickT hc hx) k
theorem pf {c u : Operand} (hc : evl env c = some (.bool false)) (hx : evl env x = some v) (k : WL P N w0 ops K rest ((d, v) :: env) H) (hd : d < N := by decide) : WL P N w0 ops K (⟨some d, .pick c u x, ty, pos, after, none⟩ :: rest) env H := WL.yld hd (Yld.pickF hc hx) k
theorem sb (k : Nat) {T gb s : Nat} {t : TypeId} {cs us : List Value} {y : Operand} (ha : Agg P T s) (hx : evl env x = some (.pointer (some ⟨gb, 0, none⟩))) (hy : evl env y = some (.agg us.toArray)) (hk : look H k = some (.blk gb t cs)) (q : WL P N w0 ops K rest env ((k, .blk gb t us) :: H)) (hl : us.length = s /\ cs.length = s := by exact ⟨rfl, rfl⟩) (hu : us.all (·.oneCell') = true := by exact rfl) : WL P N w0 ops K (⟨none, .store T x y, ty, pos, after, none⟩ :: rest) env H := WL.eff0 (Eff0.storeBAM k ha hx hy hk hl hu) q
theorem al (k : Nat) {T : TypeId} {us : List Value} (hz : (P.info? T).map (fun i => i.zero.map (·.cells)) = some (some us.toArray)) (q : ∀ g, WL P N w0 ops K rest ((d, .pointer (some ⟨g, 0, none⟩)) :: env) ((k, .blk g T us) :: H)) (hk : look H k = none := by exact rfl) (hd : d < N := by decide) : WL P N w0 ops K (⟨some d, .alloc T, ty, pos, after, none⟩ :: rest) env H := WL.eff hd (Eff.alloc k hk hz) fun _ _ ⟨g, h1, h2⟩ => by subst h1 h2; exact q g
theorem bb (k : Nat) {T : TypeId} {u : Value} (us : List Value) (hx : evl env x = some u) (q : ∀ g, WL P N w0 ops K rest ((d, .pointer (some ⟨g, 0, none⟩)) :: env) ((k, .blk g T us) :: H)) (hu : u.cells.toList = us := by exact rfl) (hk : look H k = none := by exact rfl) (hd : d < N := by decide) : WL P N w0 ops K (⟨some d, .box T x, ty, pos, after, none⟩ :: rest) env H := WL.eff hd (Eff.box k hk hx hu) fun _ _ ⟨g, h1, h2⟩ => by subst h1 h2; exact q g
theorem c0 {f : FuncId} {fn : Func} {xs : List Operand} {ts : Array TypeId} {vs : List Value} {rv : Value} (hf : P.funcs[f]? = some fn) (hx : evls env xs = some vs) (hc : ∀ w, Below w0.heap.size w0 w -> HS w0.heap.size w H -> Fn P f vs.toArray (Mem.snap w) fun r M' es => r = rv /\ es = []) (q : WL P N w0 ops K rest ((d, rv) :: env) H) (hb : fn.body.isNone = false := by exact rfl) (hn : (fn.name == "runtime.NumGoroutine") = false := by kernel_rfl) (hd : d < N := by decide) : WL P N w0 ops K (⟨some d, .call ⟨.value (.func f), xs.toArray, ts⟩, ty, pos, after, none⟩ :: rest) env H :=
 WL.eff hd (Eff.callS (R := fun r es => r = rv /\ es = []) 1 rfl hf hn hb hx hc) fun _ _ ⟨_, ⟨h1, h2⟩, h3⟩ => by subst h1 h2 h3; exact q
theorem c0g {f : FuncId} {fn : Func} {xs : List Operand} {ts : Array TypeId} {vs : List Value} {rv : Value} (hf : P.funcs[f]? = some fn) (hx : evls env xs = some vs) (hc : ∀ w, Below w0.heap.size w0 w -> HS w0.heap.size w H -> Fn P f vs.toArray (Mem.snap w) fun r M' es => r = rv /\ es = []) (q : WL P N w0 ops K rest ((d, rv) :: env) H) (hj : guardIs ops env j = some (.bool want) := by exact rfl) (hb : fn.body.isNone = false := by exact rfl) (hn : (fn.name == "runtime.NumGoroutine") = false := by kernel_rfl) (hd : d < N := by decide) : WL P N w0 ops K (⟨some d, .call ⟨.value (.func f), xs.toArray, ts⟩, ty, pos, after, some (j, want)⟩ :: rest) env H :=
 WL.effG hd hj (Eff.callS (R := fun r es => r = rv /\ es = []) 1 rfl hf hn hb hx hc) fun _ _ ⟨_, ⟨h1, h2⟩, h3⟩ => by subst h1 h2 h3; exact q
theorem c1 (k : Nat) {f : FuncId} {fn : Func} {xs : List Operand} {ts : Array TypeId} {vs : List Value} {V : Option Addr -> Nat -> Nat -> Value} {G : Option Addr -> Nat -> Nat -> List HE} (hf : P.funcs[f]? = some fn) (hx : evls env xs = some vs) (hc : ∀ w, Below w0.heap.size w0 w -> HS w0.heap.size w H -> Fn P f vs.toArray (Mem.snap w) fun r M' es => ∃ A n c, r = V A n c /\ es = G A n c) (q : ∀ A n c, WL P N w0 ops K rest ((d, V A n c) :: env) (tag k (G A n c) H)) (hb : fn.body.isNone = false := by exact rfl) (hn : (fn.name == "runtime.NumGoroutine") = false := by kernel_rfl) (hd : d < N := by decide) : WL P N w0 ops K (⟨some d, .call ⟨.value (.func f), xs.toArray, ts⟩, ty, pos, after, none⟩ :: rest) env H :=
 WL.eff hd (Eff.callS (R := fun r es => ∃ A n c, r = V A n c /\ es = G A n c) k rfl hf hn hb hx hc) fun _ _ ⟨_, ⟨A, n, c, h1, h2⟩, h3⟩ => by subst h1 h2 h3; exact q A n c
theorem ap (k : Nat) {α : Type} [Lay α] {xs ys zs : List α} {T E : TypeId} {z : Value} {bytes : Nat} {s : Operand} {A A' : Option Addr} {n c m c' : Nat} (hT : STy P T E z (Lay.sz α) bytes) (hs1 : evl env s = some (.slice A n c)) (hk : look H k = some (.own E (Lay.sz α) A n c (cel xs))) (hx : evl env x = some (.slice A' m c')) (hr : RdT w0 H A' m c' ys) (h : apd bytes xs ys = some zs)
  (q : ∀ A c, WL P N w0 ops K rest ((d, .slice A zs.length c) :: env) ((k, .own E (Lay.sz α) A zs.length c (cel zs)) :: H)) (hd : d < N := by decide) : WL P N w0 ops K (⟨some d, .call ⟨.builtin .append, #[s, x], #[T, T]⟩, ty, pos, after, none⟩ :: rest) env H :=
 WL.eff hd (Eff.appendC k hT hs1 hk hx hr h) fun _ _ ⟨A, c, h1, h2⟩ => by subst h1 h2; exact q A c
theorem lp {τ : Type} {cd : Code} (E : τ -> Env) (G : τ -> Heap) (I : Nat -> τ -> Prop) (t0 : τ) (h0 : I forever t0) (hz : ∀ t, ¬ I 0 t) (round : ∀ q t, I (q + 1) t -> ∀ K : Act -> World -> Prop, (∀ t', I q t' -> KK N w0 K (E t') (G t')) -> WC P N w0 cd (Exit.then K Q) (E t) (G t)) (he : Sub (E t0) env := by repeat (first | exact sn | refine sc ?_)) (hh : Sub (G t0) H := by repeat (first | exact sn | refine sc ?_)) : WC P N w0 (.loop cd) Q env H := by
 refine WC.loop (σ := Nat × τ) (fun s => E s.2) (fun s => G s.2) (fun s => I s.1 s.2) (fun s => s.1) (forever, t0) h0 he hh ?_
 rintro ⟨q, t⟩ hi K hK
 cases q with
 | zero => exact absurd hi (hz t)
 | succ q => exact round q t hi K fun t' ht => hK (q, t') _ _ ht (Nat.lt_succ_self q) (Sub.refl _) (Sub.refl _)
theorem ct {x y : Code} {σ : Type} (E : σ -> Env) (G : σ -> Heap) (I : σ -> Prop) (hx : ∀ K : Act -> World -> Prop, (∀ s, I s -> KK N w0 K (E s) (G s)) -> WC P N w0 x (Exit.then K Q) env H) (hy : ∀ s, I s -> WC P N w0 y Q (E s) (G s)) : WC P N w0 (.seq x y) Q env H :=
 WC.seqCut E G I (fun K hK => hx K fun s hi => hK s _ _ hi (Sub.refl _) (Sub.refl _)) hy
theorem ctr {id : Nat} {l : List Oper} {y : Code} {σ : Type} (E : σ -> Env) (G : σ -> Heap) (I : σ -> Prop) (hx : ∀ K : Act -> World -> Prop, (∀ s, I s -> KK N w0 K (E s) (G s)) -> WL P N w0 l.toArray K l env H) (hy : ∀ s, I s -> WC P N w0 y Q (E s) (G s)) : WC P N w0 (.seq (.region id l.toArray false) y) Q env H :=
 WC.seqRegionCut E G I (fun K hK => hx K fun s hi => hK s _ _ hi (Sub.refl _) (Sub.refl _)) hy
theorem sd {id n : Nat} {y : Code} (Hro : Heap) (hm : P.follows .mixedOrders = true) (h : ∀ K : Act -> World -> Prop, (∀ e h, WC P N w0 y Q e h -> KK N w0 K e h) -> WD P N w0 ops K Hro n (Array.replicate n false) env H) (hn : ops.size = n := by exact rfl) (hsub : Sub Hro H := by repeat (first | exact sn | refine sc ?_)) : WC P N w0 (.seq (.region id ops true) y) Q env H := WC.seqRegionD Hro hn hm hsub h
theorem rd {id n : Nat} (Hro : Heap) (hm : P.follows .mixedOrders = true) (h : ∀ K : Act -> World -> Prop, (∀ e h, QK N w0 Q .normal e h -> KK N w0 K e h) -> WD P N w0 ops K Hro n (Array.replicate n false) env H) (hn : ops.size = n := by exact rfl) (hsub : Sub Hro H := by repeat (first | exact sn | refine sc ?_)) : WC P N w0 (.region id ops true) Q env H := WC.regionD Hro hn hm hsub h
theorem ctd {id n : Nat} {y : Code} (Hro : Heap) {σ : Type} (E : σ -> Env) (G : σ -> Heap) (I : σ -> Prop) (hm : P.follows .mixedOrders = true) (hx : ∀ K : Act -> World -> Prop, (∀ s, I s -> KK N w0 K (E s) (G s)) -> WD P N w0 ops K Hro n (Array.replicate n false) env H) (hy : ∀ s, I s -> WC P N w0 y Q (E s) (G s)) (hn : ops.size = n := by exact rfl) (hsub : Sub Hro H := by repeat (first | exact sn | refine sc ?_)) : WC P N w0 (.seq (.region id ops true) y) Q env H :=
 WC.seqRegionDCut Hro E G I hn hm hsub (fun K hK => hx K fun s hi => hK s _ _ hi (Sub.refl _) (Sub.refl _)) hy
theorem dd (h : KK N w0 K env H) (hr : Region.ready .any ops listed = [] := by kernel_rfl) : WD P N w0 ops K Hro fuel listed env H := WD.done hr h
theorem on (i : Nat) (h : WS P N w0 ops K Hro fuel listed env H i) (hr : Region.ready .any ops listed = [i] := by kernel_rfl) : WD P N w0 ops K Hro (fuel + 1) listed env H := WD.one i hr h
theorem dm (i : Nat) (hi : ops[i]? = some ⟨some d, .move x, ty, pos, after, none⟩) (hx : evl env x = some v) (k : WD P N w0 ops K Hro fuel (listed.setIfInBounds i true) ((d, v) :: env) H) (hs : Region.noSelect ops = true := by kernel_rfl) (hf : Region.free .any ops listed i = true := by kernel_rfl) (hr : (Region.ready .any ops listed).contains i = true := by kernel_rfl) (hd : d < N := by decide) : WD P N w0 ops K Hro (fuel + 1) listed env H := WD.take i hi hs hf hr hd (Yld.move hx) k
theorem du (i : Nat) (hi : ops[i]? = some ⟨some d, op, ty, pos, after, none⟩) (hy : Yld P N w0 env Hro ⟨some d, op, ty, pos, after, none⟩ v) (k : WD P N w0 ops K Hro fuel (listed.setIfInBounds i true) ((d, v) :: env) H) (hs : Region.noSelect ops = true := by kernel_rfl) (hf : Region.free .any ops listed i = true := by kernel_rfl) (hr : (Region.ready .any ops listed).contains i = true := by kernel_rfl) (hd : d < N := by decide) : WD P N w0 ops K Hro (fuel + 1) listed env H := WD.take i hi hs hf hr hd hy k
theorem dv (i : Nat) (hi : ops[i]? = some ⟨some d, op, ty, pos, after, some (j, want)⟩) (hy : Yld P N w0 env Hro ⟨some d, op, ty, pos, after, some (j, want)⟩ v) (k : WD P N w0 ops K Hro fuel (listed.setIfInBounds i true) ((d, v) :: env) H) (hj : guardIs ops env j = some (.bool want) := by exact rfl) (hs : Region.noSelect ops = true := by kernel_rfl) (hf : Region.free .any ops listed i = true := by kernel_rfl) (hr : (Region.ready .any ops listed).contains i = true := by kernel_rfl) (hd : d < N := by decide) : WD P N w0 ops K Hro (fuel + 1) listed env H := WD.takeG i hi hs hf hr hd hj hy k
theorem dw (i : Nat) {b : Bool} (hi : ops[i]? = some ⟨some d, op, ty, pos, after, some (j, want)⟩) (k : WD P N w0 ops K Hro fuel (listed.setIfInBounds i true) ((d, undef) :: env) H) (hj : guardIs ops env j = some (.bool b) := by exact rfl) (hb : (b == want) = false := by exact rfl) (hs : Region.noSelect ops = true := by kernel_rfl) (hf : Region.free .any ops listed i = true := by kernel_rfl) (hr : (Region.ready .any ops listed).contains i = true := by kernel_rfl) (hd : d < N := by decide) : WD P N w0 ops K Hro (fuel + 1) listed env H := WD.takeS i hi hs hf hr hd hj hb k
variable {i : Nat}
theorem dy (hi : ops[i]? = some ⟨some d, op, ty, pos, after, none⟩) (h : Yld P N w0 env H ⟨some d, op, ty, pos, after, none⟩ v) (k : WD P N w0 ops K Hro fuel (listed.setIfInBounds i true) ((d, v) :: env) H) (hd : d < N := by decide) : WS P N w0 ops K Hro fuel listed env H i := WS.yld hi hd h k
theorem ds (k : Nat) {T gb s : Nat} {t : TypeId} {cs us : List Value} {y : Operand} (hi : ops[i]? = some ⟨none, .store T x y, ty, pos, after, none⟩) (ha : Agg P T s) (hx : evl env x = some (.pointer (some ⟨gb, 0, none⟩))) (hy : evl env y = some (.agg us.toArray)) (hk : look H k = some (.blk gb t cs)) (q : WD P N w0 ops K Hro fuel (listed.setIfInBounds i true) env ((k, .blk gb t us) :: H)) (hl : us.length = s /\ cs.length = s := by exact ⟨rfl, rfl⟩) (hu : us.all (·.oneCell') = true := by exact rfl) (hsub : Sub Hro ((k, .blk gb t us) :: H) := by repeat (first | exact sn | refine sc ?_)) : WS P N w0 ops K Hro fuel listed env H i := WS.eff0 hi (Eff0.storeBAM k ha hx hy hk hl hu) hsub q
theorem ad {A B : Prop} (h : B) (a : A) : A /\ B := ⟨a, h⟩
theorem d0 {f : FuncId} {fn : Func} {xs : List Operand} {ts : Array TypeId} {vs : List Value} {rv : Value} (hi : ops[i]? = some ⟨some d, .call ⟨.value (.func f), xs.toArray, ts⟩, ty, pos, after, none⟩) (hf : P.funcs[f]? = some fn) (hx : evls env xs = some vs) (hc : ∀ w, Below w0.heap.size w0 w -> HS w0.heap.size w H -> Fn P f vs.toArray (Mem.snap w) fun r M' es => r = rv /\ es = []) (q : WD P N w0 ops K Hro fuel (listed.setIfInBounds i true) ((d, rv) :: env) H) (hb : fn.body.isNone = false := by exact rfl) (hn : (fn.name == "runtime.NumGoroutine") = false := by kernel_rfl) (hd : d < N := by decide) : WS P N w0 ops K Hro fuel listed env H i :=
 fun hsub => WS.eff hi hd (Eff.callS (R := fun r es => r = rv /\ es = []) 1 rfl hf hn hb hx hc) (fun _ _ ⟨_, ⟨h1, h2⟩, h3⟩ => by subst h1 h2 h3; exact ⟨hsub, q⟩) hsub
theorem rt {fn : Func} {M M' : Mem} {R : Value -> Mem -> List HE -> Prop} {r : Value} (ks : List Nat) {es : List HE} (hr : ResIs P N w0 fn env H r) (hx : Ext w0.heap.size M M') (h : R r M' es) (hM : look H 0 = some (.mem M') := by exact rfl) (hp : pickH H ks = some es := by exact rfl) (hn : ks.Nodup := by decide) (h0 : ks.all (fun k => Nat.ble 1 k) = true := by exact rfl) (hm : es.all (fun e => !e.isMem) = true := by exact rfl) :
  QK N w0 (bodyPost P fn fun e w' => ∃ r M' es, e = .returned r /\ R r M' es /\ Ext w0.heap.size M M' /\ Below w0.heap.size w0 w' /\ Holds M' w' /\ HSes w0.heap.size w' es /\ (∀ e ∈ es, ∀ g, e.fp g -> M' g = none)) .ret env H := Ret.fn ks hr hM hx hp hn h0 hm h
theorem rt0 {fn : Func} {M : Mem} {rv : Value} (hr : ResIs P N w0 fn env H rv) (hM : look H 0 = some (.mem M) := by exact rfl) :
  QK N w0 (bodyPost P fn fun e w' => ∃ r M' es, e = .returned r /\ (r = rv /\ es = []) /\ Ext w0.heap.size M M' /\ Below w0.heap.size w0 w' /\ Holds M' w' /\ HSes w0.heap.size w' es /\ (∀ e ∈ es, ∀ g, e.fp g -> M' g = none)) .ret env H := Ret.fn (R := fun r _ es => r = rv /\ es = []) [] hr hM (Ext.refl _ _) rfl List.nodup_nil rfl rfl ⟨rfl, rfl⟩
end
namespace Z
section
variable {P : Program} {N : Nat} {w0 : World} {env : Env} {H : Heap} {ops : Array Oper} {K : Act -> World -> Prop} {rest : List Oper} {Q : Exit -> Act -> World -> Prop} {r : Option Nat} {ds : List Deferred}
variable {d j : Nat} {want : Bool} {op : Op} {ty : TypeId} {pos : String} {after : Array Edge} {v : Value} {x : Operand}
theorem sq {x y : Code} (h : ∀ K : Act -> World -> Prop, (∀ {ds' : List Deferred} e h, WC P N w0 r ds' y Q e h -> KK N w0 ds' K e h) -> WC P N w0 r ds x (Exit.then K Q) env H) : WC P N w0 r ds (.seq x y) Q env H := WC.seq h
theorem sr {id : Nat} {l : List Oper} {y : Code} (h : ∀ K : Act -> World -> Prop, (∀ e h, WC P N w0 r ds y Q e h -> KK N w0 ds K e h) -> WL P N w0 r ds l.toArray K l env H) : WC P N w0 r ds (.seq (.region id l.toArray false) y) Q env H := WC.seqRegion h
theorem rg {id : Nat} {l : List Oper} (h : ∀ K : Act -> World -> Prop, (∀ e h, QK N w0 ds Q .normal e h -> KK N w0 ds K e h) -> WL P N w0 r ds l.toArray K l env H) : WC P N w0 r ds (.region id l.toArray false) Q env H := WC.region h
theorem dn (h : KK N w0 ds K env H) : WL P N w0 r ds ops K [] env H := WL.done h
theorem ss {K : Act -> World -> Prop} (h : KK N w0 ds K env H) : WC P N w0 r ds .skip (Exit.then K Q) env H := WC.skip h
theorem bl {id : Nat} {cd : Code} (h : WC P N w0 r ds cd (Exit.inBlock id Q) env H) : WC P N w0 r ds (.block id cd) Q env H := WC.block h
theorem bn {id : Nat} (h : QK N w0 ds Q .normal env H) : QK N w0 ds (Exit.inBlock id Q) .normal env H := h
theorem bx {id : Nat} (h : QK N w0 ds Q .normal env H) : QK N w0 ds (Exit.inBlock id Q) (.exit id) env H := QK.blockX h
theorem br {id : Nat} (h : QK N w0 ds Q .ret env H) : QK N w0 ds (Exit.inBlock id Q) .ret env H := h
theorem tn {K : Act -> World -> Prop} (h : KK N w0 ds K env H) : QK N w0 ds (Exit.then K Q) .normal env H := h
theorem te {K : Act -> World -> Prop} {id : Nat} (h : QK N w0 ds Q (.exit id) env H) : QK N w0 ds (Exit.then K Q) (.exit id) env H := h
theorem tr {K : Act -> World -> Prop} (h : QK N w0 ds Q .ret env H) : QK N w0 ds (Exit.then K Q) .ret env H := h
theorem xi {id : Nat} (h : QK N w0 ds Q (.exit id) env H) : WC P N w0 r ds (.exit id) Q env H := WC.exit h
theorem re (h : QK N w0 ds Q .ret env H) : WC P N w0 r ds .ret Q env H := WC.ret h
theorem kw {E : Env} {G : Heap} (h : KK N w0 ds K E G) (he : Sub E env := by repeat (first | exact sn | refine sc ?_)) (hh : Sub G H := by repeat (first | exact sn | refine sc ?_)) : KK N w0 ds K env H := fun a w hs => h a w (hs.weaken he hh)
theorem cnd {ρ : Type} {p : Prop} [Decidable p] {a b : Option ρ} {q : ρ} {c : Operand} {x y : Code} {v : Bool} (h : (if p then a else b) = some q) (hc : evl env c = some (.bool v)) (ht : p -> v = true) (hf : ¬ p -> v = false) (t : p -> a = some q -> WC P N w0 r ds x Q env H) (f : ¬ p -> b = some q -> WC P N w0 r ds y Q env H) : WC P N w0 r ds (.cond c x y) Q env H := by
 by_cases hp : p
 ·exact WC.condTe hc (ht hp) (t hp (of_t hp h))
 ·exact WC.condFe hc (hf hp) (f hp (of_f hp h))
theorem cdT {c : Operand} {x y : Code} (hc : evl env c = some (.bool true)) (h : WC P N w0 r ds x Q env H) : WC P N w0 r ds (.cond c x y) Q env H := WC.condT hc h
theorem cdF {c : Operand} {x y : Code} (hc : evl env c = some (.bool false)) (h : WC P N w0 r ds y Q env H) : WC P N w0 r ds (.cond c x y) Q env H := WC.condF hc h
theorem mv (hx : evl env x = some v) (k : WL P N w0 r ds ops K rest ((d, v) :: env) H) (hd : d < N := by decide) : WL P N w0 r ds ops K (⟨some d, .move x, ty, pos, after, none⟩ :: rest) env H := WL.yld hd (Yld.move hx) k
theorem asn (hx : evl env x = some v) (k : WL P N w0 r ds ops K rest ((d, v) :: env) H) (hd : d < N := by decide) : WL P N w0 r ds ops K (⟨some d, .assign x, ty, pos, after, none⟩ :: rest) env H := WL.yld hd (Yld.assign hx) k
theorem al (k : Nat) {T : TypeId} {us : List Value} (hz : (P.info? T).map (fun i => i.zero.map (·.cells)) = some (some us.toArray)) (q : ∀ g, WL P N w0 r ds ops K rest ((d, .pointer (some ⟨g, 0, none⟩)) :: env) ((k, .blk g T us) :: H)) (hk : look H k = none := by exact rfl) (hd : d < N := by decide) : WL P N w0 r ds ops K (⟨some d, .alloc T, ty, pos, after, none⟩ :: rest) env H := WL.eff hd (Eff.alloc k hk hz) fun _ _ ⟨g, h1, h2⟩ => by subst h1 h2; exact q g
theorem bb (k : Nat) {T : TypeId} {u : Value} (us : List Value) (hx : evl env x = some u) (q : ∀ g, WL P N w0 r ds ops K rest ((d, .pointer (some ⟨g, 0, none⟩)) :: env) ((k, .blk g T us) :: H)) (hu : u.cells.toList = us := by exact rfl) (hk : look H k = none := by exact rfl) (hd : d < N := by decide) : WL P N w0 r ds ops K (⟨some d, .box T x, ty, pos, after, none⟩ :: rest) env H := WL.eff hd (Eff.box k hk hx hu) fun _ _ ⟨g, h1, h2⟩ => by subst h1 h2; exact q g
theorem lp {τ : Type} {cd : Code} (E : τ -> Env) (G : τ -> Heap) (I : Nat -> τ -> Prop) (t0 : τ) (h0 : I forever t0) (hz : ∀ t, ¬ I 0 t) (round : ∀ q t, I (q + 1) t -> ∀ K : Act -> World -> Prop, (∀ t', I q t' -> KK N w0 ds K (E t') (G t')) -> WC P N w0 r ds cd (Exit.then K Q) (E t) (G t)) (he : Sub (E t0) env := by repeat (first | exact sn | refine sc ?_)) (hh : Sub (G t0) H := by repeat (first | exact sn | refine sc ?_)) : WC P N w0 r ds (.loop cd) Q env H := by
 refine WC.loop (σ := Nat × τ) (fun s => E s.2) (fun s => G s.2) (fun s => I s.1 s.2) (fun s => s.1) (forever, t0) h0 he hh ?_
 rintro ⟨q, t⟩ hi K hK
 cases q with
 | zero => exact absurd hi (hz t)
 | succ q => exact round q t hi K fun t' ht => hK (q, t') _ _ ht (Nat.lt_succ_self q) (Sub.refl _) (Sub.refl _)
theorem rt {fn : Func} {M M' : Mem} {R : Value -> Mem -> List HE -> Prop} {u : Value} (ks : List Nat) {es : List HE} (hr : ResIs P N w0 fn env H u) (hx : Ext w0.heap.size M M') (h : R u M' es) (hM : look H 0 = some (.mem M') := by exact rfl) (hp : pickH H ks = some es := by exact rfl) (hn : ks.Nodup := by decide) (h0 : ks.all (fun k => Nat.ble 1 k) = true := by exact rfl) (hm : es.all (fun e => !e.isMem) = true := by exact rfl) :
  QK N w0 [] (FnPost P fn w0 M R) .ret env H := Ret.fn ks hr hM hx hp hn h0 hm h
theorem rt0 {fn : Func} {M : Mem} {u : Value} (hr : ResIs P N w0 fn env H u) (hM : look H 0 = some (.mem M) := by exact rfl) :
  QK N w0 [] (FnPost P fn w0 M fun r _ es => r = u /\ es = []) .ret env H := Ret.fn (R := fun r _ es => r = u /\ es = []) [] hr hM (Ext.refl _ _) rfl List.nodup_nil rfl rfl ⟨rfl, rfl⟩
end
end Z
end Go.Proofs.Ytkcccenekglkoaa
