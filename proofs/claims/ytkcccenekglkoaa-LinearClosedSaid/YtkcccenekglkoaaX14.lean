/-
  A small symbolic executor for the walk, part 14: pointers to elements, slices of aggregates, stores into their fields, maps.
  Conditions: none; plain lemmas over any program.
-/
import Derived.Test.YtkcccenekglkoaaX13
import Derived.Laws.Pointers
namespace Go.Proofs.Ytkcccenekglkoaa
open Go Go.RowKit
set_option linter.unusedVariables false

section
variable {P : Program} {N : Nat} {w0 : World} {env : Env} {H : Heap} {Q : Exit → Act → World → Prop}
variable {d : Option Nat} {ty T T' E : TypeId} {pos : String} {after : Array Edge} {g : Option (Nat × Bool)} {x y : Operand}
variable {sz bytes : Nat} {z : Value} {A : Option Addr} {n c : Nat} {cs : List Value} {α : Type} [Lay α] {xs ys : List α}

/-! ### a pointer to an element, or none -/
def optp (A : Option Addr) (i : Int) (s : Nat) : Option Addr := if i < 0 then none else some ((adr A).add (i.toNat * s))
theorem optp_some {A : Option Addr} {i : Int} {s : Nat} (h : 0 ≤ i) : Value.pointer (some ((adr A).add (i.toNat * s))) = .pointer (optp A i s) := by unfold optp; rw [if_neg (by omega)]
theorem optp_isNone (A : Option Addr) (i : Int) (s : Nat) : (optp A i s).isNone = decide (i < 0) := by
  unfold optp; by_cases h : i < 0 <;> simp [h]
theorem Yld.eqlPN {i : Int} {s : Nat} {E' : TypeId} (hT : P.underlying T = some (.pointer E')) (hx : evl env x = some (.pointer (optp A i s))) (hy : evl env y = some (.pointer none)) : Yld P N w0 env H ⟨d, .binOp .eql T x y T', ty, pos, after, g⟩ (.bool (decide (i < 0))) := by
  have ht : P.underlying T = some (.pointer (P.pointee T)) := by rw [hT]; simp [Program.pointee, hT]
  have e := optp_isNone A i s
  refine yld_bin hx hy (fun w => by simp [eqGuard]) fun w => ?_
  rw [← e]; exact run_eql_pointer_nil w T _ ht
theorem Yld.neqPN {i : Int} {s : Nat} {E' : TypeId} (hT : P.underlying T = some (.pointer E')) (hx : evl env x = some (.pointer (optp A i s))) (hy : evl env y = some (.pointer none)) : Yld P N w0 env H ⟨d, .binOp .neq T x y T', ty, pos, after, g⟩ (.bool (decide (0 ≤ i))) := by
  have ht : P.underlying T = some (.pointer (P.pointee T)) := by rw [hT]; simp [Program.pointee, hT]
  have e : (!(optp A i s).isNone) = decide (0 ≤ i) := by rw [optp_isNone]; by_cases h : i < 0 <;> simp [h] <;> omega
  refine yld_bin hx hy (fun w => by simp [eqGuard]) fun w => ?_
  rw [← e]; exact run_neq_pointer_nil w T _ ht
theorem Yld.nilCheckQ {i : Int} {s : Nat} {β : Type} {bs : List β} {a : β} (hx : evl env x = some (.pointer (optp A i s))) (h : idx bs i = some a) : Yld P N w0 env H ⟨d, .nilCheck x, ty, pos, after, g⟩ (.pointer (some ((adr A).add (i.toNat * s)))) := by
  have e : optp A i s = some ((adr A).add (i.toNat * s)) := by unfold optp; rw [if_neg (by have := (idx_some h).1; omega)]
  rw [e] at hx
  exact Yld.nilCheckP hx
theorem ResIs.cellS {fn : Func} {a' : Tmp} {gb k : Nat} {t : TypeId} {u : Value} (h : fn.results = #[.cell a' T]) (hsc : scal P T = true) (he : look env a' = some (.pointer (some ⟨gb, 0, none⟩))) (hk : look H k = some (.blk gb t cs)) (hu : cs[0]? = some u) :
    ResIs P N w0 fn env H u := fun a w hs => by
  obtain ⟨_, h2⟩ : w0.heap.size ≤ gb ∧ w.heap[gb]? = some (.cells cs.toArray t (0, 0)) := hs.heap.sat k _ hk
  have hc : w.cell? ⟨gb, 0, none⟩ = some u := by rw [cell_of_row w gb 0 _ _ _ h2]; simpa using hu
  have hv := hs.vals _ _ he
  simp only [Array.getD_eq_getD_getElem?] at hv
  simp [results, h, hv, asAddr, loadVar, isAgg_scal hsc, hc]
theorem ResIs.cellAS {fn : Func} {a' b' : Tmp} {gb gb' k k' s : Nat} {t t' T' : TypeId} {ds : List Value} {u : Value} (h : fn.results = #[.cell a' T, .cell b' T']) (ha : Agg P T s) (hsc : scal P T' = true) (he : look env a' = some (.pointer (some ⟨gb, 0, none⟩))) (he' : look env b' = some (.pointer (some ⟨gb', 0, none⟩)))
    (hk : look H k = some (.blk gb t cs)) (hk' : look H k' = some (.blk gb' t' ds)) (hl : cs.length = s) (hu : ds[0]? = some u) : ResIs P N w0 fn env H (.tuple #[.agg cs.toArray, u]) := fun a w hs => by
  subst hl
  obtain ⟨_, h2⟩ : w0.heap.size ≤ gb ∧ w.heap[gb]? = some (.cells cs.toArray t (0, 0)) := hs.heap.sat k _ hk
  obtain ⟨_, h2'⟩ : w0.heap.size ≤ gb' ∧ w.heap[gb']? = some (.cells ds.toArray t' (0, 0)) := hs.heap.sat k' _ hk'
  have hc : w.cell? ⟨gb', 0, none⟩ = some u := by rw [cell_of_row w gb' 0 _ _ _ h2']; simpa using hu
  have hv := hs.vals _ _ he
  have hw := hs.vals _ _ he'
  simp only [Array.getD_eq_getD_getElem?] at hv hw
  have e2 : Sem.run P (loadVar T' ⟨gb', 0, none⟩) w = .ok u w := by simp [loadVar, isAgg_scal hsc, hc]
  simp [results, h, hv, hw, asAddr, loadVar_blk ha h2, e2]

theorem ResIs.cellTmp3M {fn : Func} {a' u u' u2 : Tmp} {v v' v2 : Value} {gb k s : Nat} {t : TypeId} (h : fn.results = #[.cell a' T, .tmp u, .tmp u', .tmp u2]) (ha : Agg P T s) (he : look env a' = some (.pointer (some ⟨gb, 0, none⟩))) (hk : look H k = some (.blk gb t cs)) (hl : cs.length = s)
    (hu : look env u = some v) (hu' : look env u' = some v') (hu2 : look env u2 = some v2) : ResIs P N w0 fn env H (.tuple #[.agg cs.toArray, v, v', v2]) := fun a w hs => by
  subst hl
  obtain ⟨_, h2⟩ : w0.heap.size ≤ gb ∧ w.heap[gb]? = some (.cells cs.toArray t (0, 0)) := hs.heap.sat k _ hk
  have hv := hs.vals _ _ he
  have hw := hs.vals _ _ hu
  have hw' := hs.vals _ _ hu'
  have hw2 := hs.vals _ _ hu2
  simp only [Array.getD_eq_getD_getElem?] at hv hw hw' hw2
  simp [results, h, hv, hw, hw', hw2, asAddr, loadVar_blk ha h2]
/-- a part of an element -/
theorem Yld.loadAP {m : Int} {j s : Nat} {a : α} {us : List Value} (ha : Agg P T s) (hx : evl env x = some (.pointer (some ((adr A).add (m.toNat * Lay.sz α + j))))) (hr : RdT w0 H A n c xs) (h : idx xs m = some a) (hu : ((Lay.enc a).drop j).take s = us) (hl : us.length = s) :
    Yld P N w0 env H ⟨d, .load T x, ty, pos, after, g⟩ (.agg us.toArray) := by
  obtain ⟨h1, h2, h3⟩ := idx_some h
  refine Yld.loadRA ha hx hr hl fun i u hi => ?_
  rw [← hu] at hi
  have hs := (List.getElem?_eq_some_iff.1 hi).1
  rw [List.length_take, List.length_drop, Lay.len] at hs
  rw [List.getElem?_take, if_pos (by omega), List.getElem?_drop] at hi
  rw [Nat.add_assoc, cel_get h3 (by omega)]; exact hi

theorem WL.inlG {ops : Array Oper} {K : Act → World → Prop} {rest : List Oper} {d j : Nat} {want : Bool} {f : FuncId} {fn : Func} {xs : List Operand} {ts : Array TypeId} {vs : List Value} (hd : d < N) (hj : guardIs ops env j = some (.bool want))
    (hf : P.funcs[f]? = some fn) (hname : (fn.name == "runtime.NumGoroutine") = false) (hbody : fn.body.isNone = false) (hx : evls env xs = some vs)
    (h : Tri P f vs.toArray w0 H fun v H' => WL P N w0 ops K rest ((d, v) :: env) H') :
    WL P N w0 ops K (⟨some d, .call ⟨.value (.func f), xs.toArray, ts⟩, ty, pos, after, some (j, want)⟩ :: rest) env H :=
  WL.effG hd hj (Eff.callT rfl hf hname hbody hx h) fun _ _ h => h
theorem WL.inlVG {ops : Array Oper} {K : Act → World → Prop} {rest : List Oper} {d j : Nat} {want : Bool} {f : FuncId} {fn : Func} {xs : List Operand} {ts : Array TypeId} {us vs cs : List Value} (hd : d < N) (hj : guardIs ops env j = some (.bool want))
    (hy : evl env y = some (.func (.func f) us.toArray cs.toArray)) (hf : P.funcs[f]? = some fn) (hname : (fn.name == "runtime.NumGoroutine") = false) (hbody : fn.body.isNone = false) (hx : evls env xs = some vs)
    (h : Tri P f (us ++ vs ++ cs).toArray w0 H fun v H' => WL P N w0 ops K rest ((d, v) :: env) H') :
    WL P N w0 ops K (⟨some d, .call ⟨.value y, xs.toArray, ts⟩, ty, pos, after, some (j, want)⟩ :: rest) env H :=
  WL.effG hd hj (Eff.callVT rfl hy hf hname hbody hx h) fun _ _ h => h

/-! ### the smaller of two; aggregates that are equal -/
theorem Yld.minI {m n : Int} {ts : Array TypeId} (hx : evl env x = some (I64 m)) (hy : evl env y = some (I64 n)) : Yld P N w0 env H ⟨d, .call ⟨.builtin .min, #[x, y], ts⟩, ty, pos, after, g⟩ (I64 (min m n)) := fun a w hs => by
  have e : (if n < m then n else m) = min m n := by split <;> omega
  simp [execOp, resolve, invoke, builtin, hs.eval hx, hs.eval hy, Builtin.min_, Builtin.min2, ← e]
/-- what '==' says of two aggregates -/
def EqA (P : Program) (T : TypeId) (us vs : List Value) (b : Bool) : Prop :=
  P.eqGuardType P.depth T = false ∧ ∀ w, (Op.equalIn 10000 T (.agg us.toArray) (.agg vs.toArray)).run P w = .ok b w
theorem Yld.eqlA {us vs : List Value} {b : Bool} (h : EqA P T us vs b) (hx : evl env x = some (.agg us.toArray)) (hy : evl env y = some (.agg vs.toArray)) : Yld P N w0 env H ⟨d, .binOp .eql T x y T', ty, pos, after, g⟩ (.bool b) :=
  yld_bin hx hy (fun w => run_eqGuard_agg w .eql T x y _ _ h.1) fun w => by rw [run_eql_struct, h.2]; rfl
theorem Yld.neqA {us vs : List Value} {b : Bool} (h : EqA P T us vs b) (hx : evl env x = some (.agg us.toArray)) (hy : evl env y = some (.agg vs.toArray)) : Yld P N w0 env H ⟨d, .binOp .neq T x y T', ty, pos, after, g⟩ (.bool (!b)) :=
  yld_bin hx hy (fun w => run_eqGuard_agg w .neq T x y _ _ h.1) fun w => by rw [run_neq_struct, h.2]; rfl

def EqV (P : Program) (T : TypeId) (u v : Value) (p : Prop) [Decidable p] : Prop := ∀ d w, (Op.equalIn (d + 1) T u v).run P w = .ok (decide p) w
theorem EqV.i64 {k' : IntKind} {a b : Int} (h : P.underlying T = some (.int k')) : EqV P T (I64 a) (I64 b) (a = b) := fun d w => (run_equalIn_int w d T .i64 k' a b h).trans rfl
theorem EqV.bv {n : Nat} {k k' : IntKind} {a b : BitVec n} (h : P.underlying T = some (.int k')) : EqV P T (.int k (a.toNat : Int)) (.int k (b.toNat : Int)) (a = b) := fun d w => by
  rw [run_equalIn_int w d T k k' _ _ h]
  congr 1
  rw [Bool.eq_iff_iff, beq_iff_eq, decide_eq_true_iff]
  exact ⟨fun e => BitVec.eq_of_toNat_eq (by omega), fun e => by rw [e]⟩
theorem EqV.bool {a b : Bool} (h : P.underlying T = some .bool) : EqV P T (.bool a) (.bool b) (a = b) := fun d w => (run_equalIn_bool w d T a b h).trans (by cases a <;> cases b <;> rfl)
def EqF (P : Program) (xs ys : Array Value) (fs : List Field) (r : Prop) [Decidable r] : Prop := ∀ d w, (Op.eqFields (d + 1) xs ys fs).run P w = .ok (decide r) w
theorem part_scal {xs : Array Value} {off : Nat} {u : Value} (w : World) (hs : scal P E = true) (hx : xs[off]? = some u) : (part E xs off).run P w = .ok u w := by
  simp [part, isAgg_scal hs, hx]
theorem EqF.nil {xs ys : Array Value} : EqF P xs ys [] True := fun d w => by simp [Op.eqFields]
theorem EqF.cons {xs ys : Array Value} {f : Field} {fs : List Field} {u v : Value} {p r : Prop} [Decidable p] [Decidable r] (hn : f.name ≠ "_") (hs : scal P f.type = true) (hx : xs[f.offset]? = some u) (hy : ys[f.offset]? = some v)
    (he : EqV P f.type u v p) (h : EqF P xs ys fs r) : EqF P xs ys (f :: fs) (p ∧ r) := fun d w => by
  simp only [Op.eqFields, ne_eq, hn, not_false_eq_true, if_true, Sem.run_bind, part_scal w hs hx, part_scal w hs hy, he d w, Result.andThen_ok]
  by_cases hp : p
  · simp [hp, h d w]
  · simp [hp]
theorem EqA.struct {us vs : List Value} {fs : List Field} {r : Prop} [Decidable r] (hg : P.eqGuardType P.depth T = false) (ht : P.underlying T = some (.struct (P.fieldsOf T))) (hp : P.stoodInHeld T = false) (hf : (P.fieldsOf T).toList = fs)
    (h : EqF P us.toArray vs.toArray fs r) : EqA P T us vs (decide r) :=
  ⟨hg, fun w => by rw [show (10000 : Nat) = 9999 + 1 from rfl, run_equalIn_agg w 9999 T _ _ ht hp, hf]; exact h 9998 w⟩

/-- two lists of values of type E, place by place -/
def EqL (P : Program) (E : TypeId) : List Value → List Value → List Bool → Prop
  | [], [], [] => True
  | u :: us, v :: vs, b :: bs => (∀ d w, (Op.equalIn (d + 1) E u v).run P w = .ok b w) ∧ EqL P E us vs bs
  | _, _, _ => False
theorem EqL.get {E : TypeId} : ∀ {us vs : List Value} {bs : List Bool}, EqL P E us vs bs → us.length = bs.length ∧ vs.length = bs.length ∧ ∀ (i : Nat) (u v : Value) (b : Bool), us[i]? = some u → vs[i]? = some v → bs[i]? = some b → ∀ d w, (Op.equalIn (d + 1) E u v).run P w = .ok b w
  | [], [], [], _ => ⟨rfl, rfl, fun i u v b h => by simp at h⟩
  | u :: us, v :: vs, b :: bs, h => by
    obtain ⟨h1, h2, h3⟩ := EqL.get h.2
    refine ⟨by simp [h1], by simp [h2], fun i u' v' b' e1 e2 e3 => ?_⟩
    cases i with
    | zero => simp at e1 e2 e3; subst e1; subst e2; subst e3; exact h.1
    | succ i => exact h3 i u' v' b' (by simpa using e1) (by simpa using e2) (by simpa using e3)
  | [], [], _ :: _, h => h.elim
  | [], _ :: _, _, h => h.elim
  | _ :: _, [], _, h => h.elim
  | _ :: _, _ :: _, [], h => h.elim
theorem EqL.cons {E : TypeId} {u v : Value} {us vs : List Value} {bs : List Bool} {p : Prop} [Decidable p] (h : EqV P E u v p) (hs : EqL P E us vs bs) : EqL P E (u :: us) (v :: vs) (decide p :: bs) := ⟨h, hs⟩
theorem EqL.nil {E : TypeId} : EqL P E [] [] [] := trivial
theorem run_equalIn_list (w : World) (d : Nat) (t e : TypeId) (n : Nat) (ht : P.underlying t = some (.array n e)) (hs : scal P e = true) (hsz : ∀ w, (sizeOf e).run P w = .ok 1 w)
    {us vs : List Value} {bs : List Bool} (h : EqL P e us vs bs) (hn : bs.length = n) :
    (Op.equalIn (d + 2) t (.agg us.toArray) (.agg vs.toArray)).run P w = .ok (bs.all id) w := by
  obtain ⟨h1, h2, h3⟩ := EqL.get h
  have e0 : bs.all id = (List.range n).all fun i => bs.getD i true := by
    rw [Bool.eq_iff_iff, List.all_eq_true, List.all_eq_true]
    constructor
    · intro g i hi
      have hi' : i < bs.length := by have := List.mem_range.1 hi; omega
      rw [List.getD_eq_getElem?_getD, List.getElem?_eq_getElem hi']
      exact g _ (List.getElem_mem hi')
    · intro g b hb
      obtain ⟨i, hi, rfl⟩ := List.mem_iff_getElem.1 hb
      have := g i (List.mem_range.2 (by omega))
      rwa [List.getD_eq_getElem?_getD, List.getElem?_eq_getElem hi] at this
  rw [e0, List.range_eq_range', Op.equalIn]
  simp only [Sem.run_bind, run_underlying ht, Result.andThen_ok, hsz, Std.Legacy.Range.forIn_eq_forIn_range', Std.Legacy.Range.size, Nat.sub_zero, Nat.add_sub_cancel, Nat.div_one]
  have hl : ∀ i ∈ List.range' 0 n 1, i < n := fun i hi => by simpa using (List.mem_range'_1.1 hi).2
  generalize List.range' 0 n 1 = l at hl ⊢
  induction l with
  | nil => simp
  | cons i l ih =>
    have hi : i < n := hl i (by simp)
    have gu : us[i]? = some us[i] := List.getElem?_eq_getElem (by omega)
    have gv : vs[i]? = some vs[i] := List.getElem?_eq_getElem (by omega)
    have gb : bs[i]? = some bs[i] := List.getElem?_eq_getElem (by omega)
    have px : (part e us.toArray (i * 1)).run P w = .ok us[i] w := part_scal w hs (by simp)
    have py : (part e vs.toArray (i * 1)).run P w = .ok vs[i] w := part_scal w hs (by simp)
    have pe : (Op.equalIn (d + 1) e us[i] vs[i]).run P w = .ok bs[i] w := h3 i _ _ _ gu gv gb d w
    have gd : bs.getD i true = bs[i] := by rw [List.getD_eq_getElem?_getD, gb]; rfl
    simp only [List.forIn_cons, Sem.run_bind, px, py, pe, Result.andThen_ok, List.all_cons, gd]
    cases hb : bs[i]
    · simp
    · simp only [Bool.not_true, Bool.false_eq_true, if_false, Sem.run_pure, Result.andThen_ok, Bool.true_and]
      exact ih fun j hj => hl j (by simp [hj])
theorem EqA.array {us vs : List Value} {n : Nat} {bs : List Bool} {b : Bool} (hg : P.eqGuardType P.depth T = false) (ht : P.underlying T = some (.array n E)) (hE : (P.info? E).map (·.size) = some 1) (hs : scal P E = true)
    (h : EqL P E us vs bs) (hn : bs.length = n) (hb : bs.all id = b) : EqA P T us vs b :=
  ⟨hg, fun w => by rw [show (10000 : Nat) = 9998 + 2 from rfl, run_equalIn_list w 9998 T E n ht hs (fun w => sizeOf_of hE w) h hn, hb]⟩

/-! ### append onto a slice without spare places that is not the call's own -/
theorem Eff.appendG (k : Nat) {s : Operand} {m c' : Nat} {A' : Option Addr} {ad0 : Addr} {xs news : List Value} (hT : STy P T E z sz bytes) (hsz : 0 < sz) (hs1 : evl env s = some (.slice (some ad0) n n)) (hr1 : RdH w0 H sz (some ad0) n n xs)
    (hx : evl env x = some (.slice A' m c')) (hr : RdH w0 H sz A' m c' news) (hm : 0 < m) (hb : ((n + m) + (n + m) / 4 + 192) * bytes ≤ 281474976710656 ∧ n + m ≤ maxLen) :
    Eff P N w0 env H ⟨d, .call ⟨.builtin .append, #[s, x], #[T, T]⟩, ty, pos, after, g⟩ fun v H' => ∃ A2 c2, v = .slice A2 (n + m) c2 ∧ H' = (k, .own E sz A2 (n + m) c2 (xs ++ news)) :: H :=
  eff_of_value fun a w hs => by
    obtain ⟨i, hi, hz, hsz', hby⟩ := hT.info
    have hown := hr1 w hs.below hs.heap
    have hrd := hr w hs.below hs.heap
    have hmax := hb.2
    simp only [maxLen] at hmax
    have hlt : 0 < news.length := by rw [hrd.len]; exact Nat.mul_pos hm hsz
    obtain ⟨ad, rfl⟩ : ∃ ad, A' = some ad := by
      have h9 := (hrd.cells 0 _ (List.getElem?_eq_getElem hlt)).1
      cases A' with
      | none => cases h9
      | some ad => exact ⟨ad, rfl⟩
    have hrun := run_append_grow (P := P) w T ty E i z hT.under hi hz ad0 n n xs (by rw [hsz']; exact hown.len) (fun j u hj => (hown.cells j u hj).2) ad m c' news (by rw [hsz']; exact hrd.len) (fun j u hj => (hrd.cells j u hj).2) (by omega) (by omega)
      (growslice_fits_wide (by omega) (by rw [hby]; exact hb.1))
    obtain ⟨g1, g2⟩ := append_block hs k (c0 := n) hT hown.len hrd.len hb.2
    refine ⟨_, _, _, ?_, ⟨_, _, rfl, rfl⟩, g1, g2⟩
    simp [execOp, resolve, invoke, builtin, hs.eval hs1, hs.eval hx, hrun]
theorem Eff.appendGC {α : Type} [Lay α] {xs ys zs : List α} (k : Nat) {s : Operand} {m c' : Nat} {A' : Option Addr} {ad0 : Addr} (hT : STy P T E z (Lay.sz α) bytes) (hs1 : evl env s = some (.slice (some ad0) n n)) (hr1 : RdT w0 H (some ad0) n n xs)
    (hx : evl env x = some (.slice A' m c')) (hr : RdT w0 H A' m c' ys) (h : apg bytes xs ys = some zs) :
    Eff P N w0 env H ⟨d, .call ⟨.builtin .append, #[s, x], #[T, T]⟩, ty, pos, after, g⟩ fun v H' => ∃ A2 c2, v = .slice A2 zs.length c2 ∧ H' = (k, .own E (Lay.sz α) A2 zs.length c2 (cel zs)) :: H := by
  obtain ⟨h0, h⟩ := apg_some h
  obtain ⟨hb, rfl⟩ := apd_some h
  intro a w K Q hs hK
  have e1 : n = xs.length := RdT.len hr1 hs
  have e2 : m = ys.length := RdT.len hr hs
  subst e1; subst e2
  refine ((Eff.appendG k hT Lay.pos hs1 hr1 hx hr (by omega) ⟨hb.1, by unfold maxLen; exact hb.2⟩).weaken fun v H' ⟨A2, c2, h1, h2⟩ => ⟨A2, c2, ?_, ?_⟩) a w K Q hs hK
  · rw [h1, List.length_append]
  · rw [h2, List.length_append, cel_append]
theorem RdT.ro {k g : Nat} {t : TypeId} {xs : List (BitVec 8)} (hk : look H k = some (.ro g t (cel xs))) (hm : xs.length ≤ 9223372036854775807) : RdT w0 H (some ⟨g, 0, none⟩) xs.length xs.length xs := by
  have h1 : (cel xs).length = xs.length := by rw [cel_length]; exact Nat.mul_one _
  have h := RdH.ro (w0 := w0) hk (by rw [h1]; exact hm)
  rw [h1] at h; exact h

/-! ### append onto a prefix of an own slice -/
theorem St.cutOwn {a : Act} {w : World} {n' : Nat} {us : List Value} (k : Nat) (h : St N w0 env H a w) (hk : look H k = some (.own E sz A n c us)) (hn : n' ≤ n) : St N w0 env ((k, .own E sz A n' c (us.take (n' * sz))) :: H) a w := by
  refine ⟨h.size, h.defers, h.vals, h.below, h.heap.set k _ (Nat.le_refl _) (fun _ _ _ => rfl) ?_ (fun i hi => .inl ⟨_, hk, hi⟩)⟩
  rcases h.heap.sat k _ hk with ⟨hl, h1⟩ | ⟨h1, h2, h3⟩
  · left
    have hmul : n' * sz ≤ n * sz := Nat.mul_le_mul_right _ hn
    refine ⟨by rw [List.length_take, hl]; omega, ?_⟩
    rcases h1 with ⟨hv, hx⟩ | ⟨g, cap, cur, hv, hb, hg, hnc, hcm, hcs, ht⟩
    · left
      obtain ⟨e1, e2, e3⟩ := Value.slice.inj hv
      have e0 : n' = 0 := by omega
      exact ⟨by rw [e1, e0, e3], e0⟩
    · right
      obtain ⟨e1, _, e3⟩ := Value.slice.inj hv
      subst e1; subst e3
      refine ⟨g, c, cur, rfl, hb, hg, by omega, hcm, hcs, ?_⟩
      rw [← ht, List.take_take, Nat.min_eq_left hmul]
  · right
    subst h1; subst h3
    obtain rfl : n' = 0 := by omega
    exact ⟨rfl, h2, by simp⟩
theorem Eff.appendPC (k : Nat) {s : Operand} {m c' : Nat} {A' : Option Addr} {hi : Int} {pre zs : List α} (hT : STy P T E z (Lay.sz α) bytes) (hp : slc xs 0 hi = some pre) (hs1 : evl env s = some (.slice A pre.length c)) (hk : look H k = some (.own E (Lay.sz α) A n c (cel xs)))
    (hx : evl env x = some (.slice A' m c')) (hr : RdT w0 ((k, .own E (Lay.sz α) A pre.length c (cel pre)) :: H) A' m c' ys) (h : apd bytes pre ys = some zs) :
    Eff P N w0 env H ⟨d, .call ⟨.builtin .append, #[s, x], #[T, T]⟩, ty, pos, after, g⟩ fun v H' => ∃ A2 c2, v = .slice A2 zs.length c2 ∧ H' = (k, .own E (Lay.sz α) A2 zs.length c2 (cel zs)) :: H := fun a w K Q hs hK => by
  obtain ⟨h1, h2, h3⟩ := slc_some hp
  have e1 : n = xs.length := len_of_cel (own_SlR (hs.heap.sat k _ hk))
  have e2 : pre = xs.take pre.length := by rw [h3, h2]; simp
  have e3 : cel pre = (cel xs).take (pre.length * Lay.sz α) := by
    conv => lhs; rw [e2]
    exact (cel_take xs pre.length).symm
  have hs2 := hs.cutOwn k hk (n' := pre.length) (by omega)
  rw [← e3] at hs2
  refine Eff.appendC (H := (k, .own E (Lay.sz α) A pre.length c (cel pre)) :: H) k hT hs1 (by simp [look]) hx hr h a w K Q hs2 fun v H' w' hR hb hh => ?_
  obtain ⟨A2, c2, h4, h5⟩ := hR
  refine hK v _ w' ⟨A2, c2, h4, rfl⟩ hb ?_
  rw [h5] at hh
  refine HS.sub hh fun j e hj => ?_
  simp only [look] at hj ⊢
  cases hkj : Nat.beq k j
  · rw [hkj] at hj; simpa using hj
  · rw [hkj] at hj; simpa using hj

/-! ### slices of aggregates -/
theorem put_list (p : Nat) : ∀ (u : List Value) (k : Nat) (pre post : List Value), pre.length = p + k → u.length ≤ post.length →
    (u.zipIdx k).foldl (fun (cs : Array Value) (x : Value × Nat) => cs.setIfInBounds (p + x.2) x.1) (pre ++ post).toArray = (pre ++ u ++ post.drop u.length).toArray
  | [], k, pre, post, _, _ => by simp
  | v :: u, k, pre, post, hp, hl => by
    cases post with
    | nil => simp at hl
    | cons b post =>
      have ih := put_list p u (k + 1) (pre ++ [v]) post (by simp [hp]; omega) (by simpa using hl)
      rw [List.zipIdx_cons, List.foldl_cons]
      have e : ((pre ++ b :: post).toArray).setIfInBounds (p + k) v = (pre ++ [v] ++ post).toArray := by
        rw [← hp]; simp
      simp only [e, ih]
      simp
theorem fill_agg (s : Nat) (hs : 0 < s) : ∀ (us : List (List Value)) (i : Nat) (pre post : List Value), pre.length = i * s → post.length = us.length * s → (∀ u ∈ us, u.length = s) →
    Instr.fill (fun i => some (i * s, s)) (pre ++ post).toArray (((us.map fun u => Value.agg u.toArray).zipIdx i).map fun p => (p.2, p.1)) = some (pre ++ us.flatten).toArray
  | [], i, pre, post, hp, hq, _ => by
    have : post = [] := List.eq_nil_of_length_eq_zero (by simpa using hq)
    subst this; simp [Instr.fill]
  | u :: us, i, pre, post, hp, hq, hu => by
    have hul := hu u (List.mem_cons_self ..)
    have hq2 : post.length = us.length * s + s := by rw [hq, List.length_cons, Nat.add_mul, Nat.one_mul]
    have hq' : s ≤ post.length := by omega
    have ih := fill_agg s hs us (i + 1) (pre ++ u) (post.drop s) (by rw [List.length_append, hp, hul, Nat.add_mul, Nat.one_mul]) (by rw [List.length_drop]; omega) (fun v hv => hu v (List.mem_cons_of_mem _ hv))
    simp only [List.map_cons, List.zipIdx_cons, Instr.fill]
    have hcells : (Value.agg u.toArray).cells = u.toArray := rfl
    rw [hcells, if_neg (by simp [hul]; omega)]
    have e : u.toArray.zipIdx.foldl (fun (cs : Array Value) (x : Value × Nat) => cs.setIfInBounds (i * s + x.2) x.1) (pre ++ post).toArray = (pre ++ u ++ post.drop s).toArray := by
      have := put_list (i * s) u 0 pre post (by omega) (by omega)
      rw [hul] at this
      rw [← Array.foldl_toList, Array.toList_zipIdx]; exact this
    rw [e, ih]; simp
theorem run_buildAgg (w : World) {us : List (List Value)} (hT : STy P T E z sz bytes) (hs : 0 < sz) (hu : ∀ u ∈ us, u.length = sz) (hlen : us.length * sz ≤ 16777216) :
    (Instr.buildSlice T us.length (((us.map fun u => Value.agg u.toArray).zipIdx 0).map fun p => (p.2, p.1)).toArray).run P w = .ok (.slice (some ⟨w.heap.size, 0, none⟩) us.length us.length) (w.alloc (.cells us.flatten.toArray E)) := by
  obtain ⟨i, hi, hzz, hsi, hb⟩ := hT.info
  have fin : ∀ zc : Array Value, Instr.fill (fun i => some (i * sz, sz)) ((Array.range (us.length * sz)).map (zc[· % zc.size]!)) (((us.map fun u => Value.agg u.toArray).zipIdx 0).map fun p => (p.2, p.1)) = some us.flatten.toArray := fun zc => by
    generalize hq : (Array.range (us.length * sz)).map (zc[· % zc.size]!) = base
    have hsz : base.size = us.length * sz := by rw [← hq]; simp
    obtain ⟨post⟩ := base
    have := fill_agg sz hs us 0 [] post (by simp) (by simpa using hsz) hu
    rw [List.nil_append, List.nil_append] at this
    exact this
  simp only [Instr.buildSlice, Sem.run_bind, run_underlying hT.under, Result.andThen_ok, sizeOf_of hT.size]
  rw [if_neg (by omega)]
  by_cases h0 : us.length * sz = 0
  · rw [if_pos h0]
    simp only [Sem.run_pure, Result.andThen_ok, fin, newRow, Sem.run_bind, run_newObj, World.alloc_eq]
  · rw [if_neg h0]
    simp only [zeroValue, typeInfo, Sem.run_bind, run_program, Result.andThen_ok, hi, Sem.run_pure, hzz, fin, newRow, run_newObj, World.alloc_eq]
theorem cel_flat (ys : List α) : (ys.map Lay.enc).flatten = cel ys := by simp [cel, List.flatMap_def]
theorem Eff.buildCA (k : Nat) {len : Nat} {parts : List (Nat × Operand)} (ys : List α) (hT : STy P T E z (Lay.sz α) bytes) (hk : look H k = none) (hv : evlE env 0 parts = some (ys.map fun y => Value.agg (Lay.enc y).toArray)) (hl : ys.length = len) (hlen : len * Lay.sz α ≤ 16777216) :
    Eff P N w0 env H ⟨d, .buildSlice T len parts.toArray, ty, pos, after, g⟩ fun v H' => ∃ gb, v = .slice (some ⟨gb, 0, none⟩) ys.length ys.length ∧ H' = (k, .own E (Lay.sz α) (some ⟨gb, 0, none⟩) ys.length ys.length (cel ys)) :: H :=
  eff_of_value fun a w hs => by
    subst hl
    have hB := hs.below.size
    have hr := run_buildAgg (P := P) w (us := ys.map Lay.enc) hT Lay.pos (fun u hu => by obtain ⟨y, _, rfl⟩ := List.mem_map.1 hu; exact Lay.len y) (by simpa using hlen)
    have hm := evlE_map hs hv
    rw [List.length_map, cel_flat] at hr
    refine ⟨_, w.alloc (.cells (cel ys).toArray E), _, ?_, ⟨w.heap.size, rfl, rfl⟩, hs.below.alloc hB _, hs.heap.new hB k hk _ _ ?_ (fun g hg => by first | exact hg.symm | (obtain ⟨_, a, ha, hb⟩ := hg; injection ha with ha; subst ha; exact hb.symm))⟩
    · have e : (ys.map Lay.enc).map (fun u => Value.agg u.toArray) = ys.map fun y => Value.agg (Lay.enc y).toArray := by simp
      rw [e] at hr
      have hm2 : (parts.toArray.map fun p => (p.1, a.eval p.2)) = (((ys.map fun y => Value.agg (Lay.enc y).toArray).zipIdx 0).map fun p => (p.2, p.1)).toArray := by rw [← hm]; simp
      simp only [execOp, hm2, hr, Sem.run_bind, Result.andThen_ok, Sem.run_pure]
    · have hp := Lay.pos (α := α)
      have hle : ys.length ≤ ys.length * Lay.sz α := Nat.le_mul_of_pos_right _ hp
      have := World.ownsRow_lit (base := w0.heap.size) (e := E) (size := Lay.sz α) w (cel ys).toArray ys.length hB (by simp only [maxLen]; omega) (by simp [cel_length])
      exact Or.inl (by simpa using this)

/-! ### maps -/
class MKey (κ : Type) [BEq κ] where
  ek : κ → Value
  kind : TypeDesc
  flat : (match kind with | .interface _ | .array _ _ | .struct _ => false | _ => true) = true
  same : ∀ a b, Instr.sameNow kind (ek a) (ek b) = some (a == b)
  bits : ∀ a b, (a == b) = true → Instr.sameBits 10000 (ek b) (ek a) = true
instance : MKey Int := ⟨fun a => I64 a, .int .i64, rfl, fun a b => by simp [Instr.sameNow], fun a b h => by have := eq_of_beq h; subst this; simp [Instr.sameBits]⟩
instance : MKey (BitVec 64) := ⟨fun a => U64 a, .int .u64, rfl, fun a b => by
  simp only [Instr.sameNow, if_true, Option.some.injEq]
  rw [Bool.eq_iff_iff, beq_iff_eq, beq_iff_eq]
  exact ⟨fun h => BitVec.eq_of_toNat_eq (by omega), fun h => by rw [h]⟩, fun a b h => by have := eq_of_beq h; subst this; simp [Instr.sameBits]⟩
/-- what a map's entries hold, in the order in which they came -/
def MapR {κ ν : Type} [BEq κ] [MKey κ] (ev : ν → Value) (es : List MapEntry) (m : List (κ × ν)) : Prop := es.map (fun e => (e.key, e.val)) = m.map fun p => (MKey.ek p.1, ev p.2)
theorem MapR.nil {κ ν : Type} [BEq κ] [MKey κ] {ev : ν → Value} : MapR ev [] ([] : List (κ × ν)) := rfl
theorem find_map {κ ν : Type} [BEq κ] [MKey κ] {ev : ν → Value} (k : κ) (v : ν) : ∀ (es : List MapEntry) (m : List (κ × ν)) (i : Nat), MapR ev es m →
    (Instr.findNow (MKey.kind κ) (MKey.ek k) es i = some none ∧ mget m k = none ∧ mset m k v = m ++ [(k, v)]) ∨
    (∃ t u e, Instr.findNow (MKey.kind κ) (MKey.ek k) es i = some (some (i + t, ev u)) ∧ mget m k = some u ∧ es[t]? = some e ∧ Instr.sameBits 10000 e.key (MKey.ek k) = true ∧
      MapR ev (es.modify t fun e => { e with key := MKey.ek k, val := ev v }) (mset m k v))
  | [], [], i, _ => .inl ⟨rfl, rfl, rfl⟩
  | [], _ :: _, i, h => by simp [MapR] at h
  | _ :: _, [], i, h => by simp [MapR] at h
  | e :: es, (a, w) :: m, i, h => by
    simp only [MapR, List.map_cons, List.cons.injEq, Prod.mk.injEq] at h
    obtain ⟨⟨h1, h2⟩, h3⟩ := h
    have hs : Instr.sameNow (MKey.kind κ) (MKey.ek k) e.key = some (k == a) := by rw [h1]; exact MKey.same k a
    by_cases hk : (k == a) = true
    · right
      refine ⟨0, w, e, ?_, ?_, rfl, ?_, ?_⟩
      · simp [Instr.findNow, hs, hk, h2]
      · simp [mget, hk]
      · rw [h1]; exact MKey.bits _ _ hk
      · simp only [MapR, List.modify_zero_cons, List.map_cons, mset, hk, if_true, List.cons.injEq]
        exact ⟨trivial, h3⟩
    · have hf : (k == a) = false := by simpa using hk
      rcases find_map k v es m (i + 1) h3 with ⟨g1, g2, g3⟩ | ⟨t, u, e', g1, g2, g3, g4, g5⟩
      · left
        refine ⟨by simp [Instr.findNow, hs, hf, g1], by simp [mget, hf, g2], by simp [mset, hf, g3]⟩
      · right
        refine ⟨t + 1, u, e', ?_, by simp [mget, hf, g2], by simpa using g3, g4, ?_⟩
        · simp only [Instr.findNow, hs, hf, g1]; congr 3; omega
        · simp only [MapR, List.modify_succ_cons, List.map_cons, mset, hf, Bool.false_eq_true, if_false, List.cons.injEq, Prod.mk.injEq]
          exact ⟨⟨h1, h2⟩, g5⟩
theorem run_checkKey1 {κ : Type} [BEq κ] [MKey κ] {t : TypeId} (ht : P.underlying t = some (MKey.kind κ)) (e : Bool) (v : Value) (n : Nat) (w : World) : (Instr.checkKey e (n + 1) t v).run P w = .ok () w := by
  have hf := MKey.flat (κ := κ)
  generalize MKey.kind κ = kd at ht hf
  cases kd <;> simp at hf <;> cases v <;> simp [Instr.checkKey, run_underlying ht]
theorem run_checkKey {κ : Type} [BEq κ] [MKey κ] {t : TypeId} (ht : P.underlying t = some (MKey.kind κ)) (e : Bool) (v : Value) (w : World) : (Instr.checkKey e 10000 t v).run P w = .ok () w := run_checkKey1 ht e v 9999 w
theorem run_getObj {w : World} {g : Nat} {es : Array MapEntry} {cl : Nat} (h : w.heap[g]? = some (.map es cl)) : (getObj g).run P w = .ok (.map es cl) w := by simp [getObj, Sem.run, h]
theorem run_setObj {w : World} {g : Nat} {es : Array MapEntry} {cl : Nat} (o' : Obj) (h : w.heap[g]? = some (.map es cl)) : (setObj g o').run P w = .ok () { w with heap := w.heap.setIfInBounds g o' } := by simp [setObj, Sem.run, h]
/-- an operation without a result that leaves one of some heaps -/
def Eff0R (P : Program) (N : Nat) (w0 : World) (env : Env) (H : Heap) (o : Oper) (R : Heap → Prop) : Prop :=
  ∀ a w (K : Act → World → Prop) (Q : Exit → Act → World → Prop), St N w0 env H a w →
    (∀ H' w', R H' → Below w0.heap.size w0 w' → HS w0.heap.size w' H' → K (a.put o.dst undef) w') → o.wp P a w K Q
theorem WL.eff0R {ops : Array Oper} {K : Act → World → Prop} {rest : List Oper} {op : Op} {ty : TypeId} {pos : String} {after : Array Edge} {R : Heap → Prop} (h : Eff0R P N w0 env H ⟨none, op, ty, pos, after, none⟩ R)
    (k : ∀ H', R H' → WL P N w0 ops K rest env H') : WL P N w0 ops K (⟨none, op, ty, pos, after, none⟩ :: rest) env H := by
  intro a w hs
  exact wpList_plain rfl fun K' hK => h a w K' _ hs fun H' w' hr hb hh => hK _ _ (k H' hr _ _ (hs.world hb hh))
theorem WS.eff0R {Hro : Heap} {fuel : Nat} {listed : Array Bool} {ops : Array Oper} {K : Act → World → Prop} {i : Nat} {op : Op} {ty : TypeId} {pos : String} {after : Array Edge} {R : Heap → Prop} (hi : ops[i]? = some ⟨none, op, ty, pos, after, none⟩)
    (h : Eff0R P N w0 env H ⟨none, op, ty, pos, after, none⟩ R)
    (k : ∀ H', R H' → Sub Hro H' ∧ WD P N w0 ops K Hro fuel (listed.setIfInBounds i true) env H') : WS P N w0 ops K Hro fuel listed env H i := by
  intro hsub a w hst
  unfold wpOp
  simp only [hi]
  rw [if_pos (show Region.wanted _ _ = true from rfl)]
  refine .inl (h a w _ _ hst fun H' w' hr hb hh => ?_)
  have hk := k H' hr
  have hst' := hst.world hb hh
  exact ⟨hst'.ss hk.1, hk.2 hk.1 _ _ hst'⟩
theorem Eff.makeMap (k : Nat) (hk : look H k = none) : Eff P N w0 env H ⟨d, .makeMap T none, ty, pos, after, g⟩ fun v H' => ∃ gb, v = .map (some gb) ∧ H' = (k, .obj gb (.map ([] : List MapEntry).toArray 0)) :: H :=
  eff_of_value fun a w hs => by
    have hB := hs.below.size
    refine ⟨_, w.alloc (.map #[] 0), _, ?_, ⟨w.heap.size, rfl, rfl⟩, hs.below.alloc hB _, hs.heap.new hB k hk _ _ ⟨hB, heap_alloc_new w _⟩ (fun g hg => (by simpa [HE.fp] using hg.symm))⟩
    simp [execOp, Instr.makeMap]
theorem Yld.lookupM {κ ν : Type} [BEq κ] [MKey κ] {ev : ν → Value} {es : List MapEntry} {m : List (κ × ν)} {cl gb k : Nat} {Tk : TypeId} {q : κ} {zv : ν} (hT : P.underlying T = some (.map Tk E)) (hk1 : P.underlying Tk = some (MKey.kind κ)) (hz : (P.info? E).map (·.zero) = some (some (ev zv)))
    (hx : evl env x = some (.map (some gb))) (hy : evl env y = some (MKey.ek q)) (hk : look H k = some (.obj gb (.map es.toArray cl))) (hm : MapR ev es m) : Yld P N w0 env H ⟨d, .lookup T x y false, ty, pos, after, g⟩ (ev ((mget m q).getD zv)) := fun a w hs => by
  obtain ⟨_, h2⟩ : w0.heap.size ≤ gb ∧ w.heap[gb]? = some (.map es.toArray cl) := hs.heap.sat k _ hk
  have hzero : (zeroValue E).run P w = .ok (ev zv) w := by
    cases hi : P.info? E with
    | none => simp [hi] at hz
    | some i => simp [hi] at hz; simp [zeroValue, typeInfo, hi, hz]
  rcases find_map q zv es m 0 hm with ⟨g1, g2, _⟩ | ⟨t, u, e, g1, g2, _⟩
  · simp [execOp, hs.eval hx, hs.eval hy, Instr.lookup, run_underlying hT, run_getObj h2, run_checkKey hk1, Instr.findKey, run_underlying hk1, g1, hzero, g2]
  · simp [execOp, hs.eval hx, hs.eval hy, Instr.lookup, run_underlying hT, run_getObj h2, run_checkKey hk1, Instr.findKey, run_underlying hk1, g1, g2]
theorem Yld.lookupM2 {κ ν : Type} [BEq κ] [MKey κ] {ev : ν → Value} {es : List MapEntry} {m : List (κ × ν)} {cl gb k : Nat} {Tk : TypeId} {q : κ} {zv : ν} (hT : P.underlying T = some (.map Tk E)) (hk1 : P.underlying Tk = some (MKey.kind κ)) (hz : (P.info? E).map (·.zero) = some (some (ev zv)))
    (hx : evl env x = some (.map (some gb))) (hy : evl env y = some (MKey.ek q)) (hk : look H k = some (.obj gb (.map es.toArray cl))) (hm : MapR ev es m) : Yld P N w0 env H ⟨d, .lookup T x y true, ty, pos, after, g⟩ (.tuple #[ev ((mget m q).getD zv), .bool (mget m q).isSome]) := fun a w hs => by
  obtain ⟨_, h2⟩ : w0.heap.size ≤ gb ∧ w.heap[gb]? = some (.map es.toArray cl) := hs.heap.sat k _ hk
  have hzero : (zeroValue E).run P w = .ok (ev zv) w := by
    cases hi : P.info? E with
    | none => simp [hi] at hz
    | some i => simp [hi] at hz; simp [zeroValue, typeInfo, hi, hz]
  rcases find_map q zv es m 0 hm with ⟨g1, g2, _⟩ | ⟨t, u, e, g1, g2, _⟩
  · simp [execOp, hs.eval hx, hs.eval hy, Instr.lookup, run_underlying hT, run_getObj h2, run_checkKey hk1, Instr.findKey, run_underlying hk1, g1, hzero, g2]
  · simp [execOp, hs.eval hx, hs.eval hy, Instr.lookup, run_underlying hT, run_getObj h2, run_checkKey hk1, Instr.findKey, run_underlying hk1, g1, g2]
theorem obj_set {B : Nat} {w : World} (h : HS B w H) {k gb : Nat} {o : Obj} (hk : look H k = some (.obj gb o)) (o' : Obj) : HS B { w with heap := w.heap.setIfInBounds gb o' } ((k, .obj gb o') :: H) := by
  obtain ⟨h1, h2⟩ : B ≤ gb ∧ w.heap[gb]? = some o := h.sat k _ hk
  have hlt : gb < w.heap.size := (Array.getElem?_eq_some_iff.1 h2).1
  refine h.set k _ (by simp) (fun i hi hne => by
    have : i ≠ gb := fun e => hne _ hk (by simp [HE.fp, e])
    simp [Array.getElem?_setIfInBounds_ne (Ne.symm this)]) ⟨h1, by simp [hlt]⟩ (fun i hi => .inl ⟨_, hk, hi⟩)
theorem below_set {w : World} (hb : Below w0.heap.size w0 w) {gb : Nat} (h : w0.heap.size ≤ gb) (o : Obj) : Below w0.heap.size w0 { w with heap := w.heap.setIfInBounds gb o } :=
  hb.trans ⟨rfl, rfl, rfl, by simp, fun i hi => by
    have : i ≠ gb := by omega
    simp [Array.getElem?_setIfInBounds_ne (Ne.symm this)]⟩
theorem Eff0R.mapUpd {κ ν : Type} [BEq κ] [MKey κ] {ev : ν → Value} {es : List MapEntry} {m : List (κ × ν)} {cl gb : Nat} {Tk : TypeId} {q : κ} {v : ν} {u : Operand} (k : Nat) (hT : P.underlying T = some (.map Tk E)) (hk1 : P.underlying Tk = some (MKey.kind κ))
    (hx : evl env x = some (.map (some gb))) (hy : evl env y = some (MKey.ek q)) (hu : evl env u = some (ev v)) (hk : look H k = some (.obj gb (.map es.toArray cl))) (hm : MapR ev es m) :
    Eff0R P N w0 env H ⟨none, .mapUpdate T x y u, ty, pos, after, g⟩ fun H' => ∃ es' cl', MapR ev es' (mset m q v) ∧ H' = (k, .obj gb (.map es'.toArray cl')) :: H := by
  intro a w K Q hs hK
  obtain ⟨h1, h2⟩ : w0.heap.size ≤ gb ∧ w.heap[gb]? = some (.map es.toArray cl) := hs.heap.sat k _ hk
  unfold Oper.wp
  rcases find_map q v es m 0 hm with ⟨g1, g2, g3⟩ | ⟨t, u', e, g1, g2, g3, g4, g5⟩
  · have hr : (execOp a.eval ⟨none, .mapUpdate T x y u, ty, pos, after, g⟩).run P w = .ok .skip { w with heap := w.heap.setIfInBounds gb (.map (es ++ [({ key := MKey.ek q, val := ev v, born := cl } : MapEntry)]).toArray (cl + 1)) } := by
      simp [execOp, hs.eval hx, hs.eval hy, hs.eval hu, Instr.mapUpdate, run_underlying hT, run_getObj h2, run_checkKey hk1, Instr.findKey, run_underlying hk1, g1, run_setObj _ h2]
    rw [hr]
    refine hK _ _ ⟨_, _, ?_, rfl⟩ (below_set hs.below h1 _) (obj_set hs.heap hk _)
    unfold MapR at hm ⊢
    rw [g3, List.map_append, hm, List.map_append]; rfl
  · have hkey : Instr.sameBits 10000 ((es[t]?.map (·.key)).getD (MKey.ek q)) (MKey.ek q) = true := by rw [g3]; exact g4
    have hr : (execOp a.eval ⟨none, .mapUpdate T x y u, ty, pos, after, g⟩).run P w = .ok .skip { w with heap := w.heap.setIfInBounds gb (.map (es.modify t fun e => { e with key := MKey.ek q, val := ev v }).toArray cl) } := by
      have e0 : (es.toArray.modify t fun e => { e with key := MKey.ek q, val := ev v }) = (es.modify t fun e => { e with key := MKey.ek q, val := ev v }).toArray := by simp
      simp only [Nat.zero_add] at g1
      simp [execOp, hs.eval hx, hs.eval hy, hs.eval hu, Instr.mapUpdate, run_underlying hT, run_getObj h2, run_checkKey hk1, Instr.findKey, run_underlying hk1, g1, Instr.keyThatStays, hkey, run_setObj _ h2]
    rw [hr]
    exact hK _ _ ⟨_, _, g5, rfl⟩ (below_set hs.below h1 _) (obj_set hs.heap hk _)
end
end Go.Proofs.Ytkcccenekglkoaa
