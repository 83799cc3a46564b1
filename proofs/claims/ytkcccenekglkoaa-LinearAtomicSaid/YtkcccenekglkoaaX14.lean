/-
 A small symbolic executor for the walk, part 14: pointers to elements, slices of aggregates, stores into their fields, maps.
 Conditions: none; plain lemmas over any program.
-/
import Derived.Test.YtkcccenekglkoaaX13
import Derived.Laws.Pointers
namespace Go.Proofs.Ytkcccenekglkoaa
open Go Go.RowKit
set_option linter.unusedVariables false
section
variable {P : Program} {N : Nat} {w0 : World} {env : Env} {H : Heap} {Q : Exit -> Act -> World -> Prop}
variable {d : Option Nat} {ty T T' E : TypeId} {pos : String} {after : Array Edge} {g : Option (Nat × Bool)} {x y : Operand}
variable {sz bytes : Nat} {z : Value} {A : Option Addr} {n c : Nat} {cs : List Value} {α : Type} [Lay α] {xs ys : List α}
def optp (A : Option Addr) (i : Int) (s : Nat) : Option Addr := if i < 0 then none else some ((adr A).add (i.toNat * s))
theorem optp_some {A : Option Addr} {i : Int} {s : Nat} (h : 0 <= i) : Value.pointer (some ((adr A).add (i.toNat * s))) = .pointer (optp A i s) := by unfold optp; rw [if_neg (by omega)]
theorem optp_isNone (A : Option Addr) (i : Int) (s : Nat) : (optp A i s).isNone = decide (i < 0) := by
 unfold optp; by_cases h : i < 0 <;> simp [h]
theorem Yld.eqlPN {i : Int} {s : Nat} {E' : TypeId} (hT : P.underlying T = some (.pointer E')) (hx : evl env x = some (.pointer (optp A i s))) (hy : evl env y = some (.pointer none)) : Yld P N w0 env H ⟨d, .binOp .eql T x y T', ty, pos, after, g⟩ (.bool (decide (i < 0))) := by
 have ht : P.underlying T = some (.pointer (P.pointee T)) := by rw [hT]; simp [Program.pointee, hT]
 have e := optp_isNone A i s
 refine yld_bin hx hy (fun w => by simp [eqGuard]) fun w => ?_
 rw [<- e]; exact run_eql_pointer_nil w T _ ht
theorem Yld.neqPN {i : Int} {s : Nat} {E' : TypeId} (hT : P.underlying T = some (.pointer E')) (hx : evl env x = some (.pointer (optp A i s))) (hy : evl env y = some (.pointer none)) : Yld P N w0 env H ⟨d, .binOp .neq T x y T', ty, pos, after, g⟩ (.bool (decide (0 <= i))) := by
 have ht : P.underlying T = some (.pointer (P.pointee T)) := by rw [hT]; simp [Program.pointee, hT]
 have e : (!(optp A i s).isNone) = decide (0 <= i) := by rw [optp_isNone]; by_cases h : i < 0 <;> simp [h] <;> omega
 refine yld_bin hx hy (fun w => by simp [eqGuard]) fun w => ?_
 rw [<- e]; exact run_neq_pointer_nil w T _ ht
theorem Yld.nilCheckQ {i : Int} {s : Nat} {β : Type} {bs : List β} {a : β} (hx : evl env x = some (.pointer (optp A i s))) (h : idx bs i = some a) : Yld P N w0 env H ⟨d, .nilCheck x, ty, pos, after, g⟩ (.pointer (some ((adr A).add (i.toNat * s)))) := by
 have e : optp A i s = some ((adr A).add (i.toNat * s)) := by unfold optp; rw [if_neg (by have := (idx_some h).1; omega)]
 rw [e] at hx
 exact Yld.nilCheckP hx
theorem ResIs.cellS {fn : Func} {a' : Tmp} {gb k : Nat} {t : TypeId} {u : Value} (h : fn.results = #[.cell a' T]) (hsc : scal P T = true) (he : look env a' = some (.pointer (some ⟨gb, 0, none⟩))) (hk : look H k = some (.blk gb t cs)) (hu : cs[0]? = some u) :
  ResIs P N w0 fn env H u := fun a w hs => by
 obtain ⟨_, h2⟩ : w0.heap.size <= gb /\ w.heap[gb]? = some (.cells cs.toArray t (0, 0)) := hs.heap.sat k _ hk
 have hc : w.cell? ⟨gb, 0, none⟩ = some u := by rw [cell_of_row w gb 0 _ _ _ h2]; simpa using hu
 have hv := hs.vals _ _ he
 simp only [Array.getD_eq_getD_getElem?] at hv
 simp [results, h, hv, asAddr, loadVar, isAgg_scal hsc, hc]
theorem WL.inlG {ops : Array Oper} {K : Act -> World -> Prop} {rest : List Oper} {d j : Nat} {want : Bool} {f : FuncId} {fn : Func} {xs : List Operand} {ts : Array TypeId} {vs : List Value} (hd : d < N) (hj : guardIs ops env j = some (.bool want))
  (hf : P.funcs[f]? = some fn) (hname : (fn.name == "runtime.NumGoroutine") = false) (hbody : fn.body.isNone = false) (hx : evls env xs = some vs)
  (h : Tri P f vs.toArray w0 H fun v H' => WL P N w0 ops K rest ((d, v) :: env) H') :
  WL P N w0 ops K (⟨some d, .call ⟨.value (.func f), xs.toArray, ts⟩, ty, pos, after, some (j, want)⟩ :: rest) env H :=
 WL.effG hd hj (Eff.callT rfl hf hname hbody hx h) fun _ _ h => h
def EqA (P : Program) (T : TypeId) (us vs : List Value) (b : Bool) : Prop :=
 P.eqGuardType P.depth T = false /\ ∀ w, (Op.equalIn 10000 T (.agg us.toArray) (.agg vs.toArray)).run P w = .ok b w
def EqV (P : Program) (T : TypeId) (u v : Value) (p : Prop) [Decidable p] : Prop := ∀ d w, (Op.equalIn (d + 1) T u v).run P w = .ok (decide p) w
theorem EqV.bv {n : Nat} {k k' : IntKind} {a b : BitVec n} (h : P.underlying T = some (.int k')) : EqV P T (.int k (a.toNat : Int)) (.int k (b.toNat : Int)) (a = b) := fun d w => by
 rw [run_equalIn_int w d T k k' _ _ h]
 congr 1
 rw [Bool.eq_iff_iff, beq_iff_eq, decide_eq_true_iff]
 exact ⟨fun e => BitVec.eq_of_toNat_eq (by omega), fun e => by rw [e]⟩
theorem EqV.bool {a b : Bool} (h : P.underlying T = some .bool) : EqV P T (.bool a) (.bool b) (a = b) := fun d w => (run_equalIn_bool w d T a b h).trans (by cases a <;> cases b <;> rfl)
def EqF (P : Program) (xs ys : Array Value) (fs : List Field) (r : Prop) [Decidable r] : Prop := ∀ d w, (Op.eqFields (d + 1) xs ys fs).run P w = .ok (decide r) w
theorem part_scal {xs : Array Value} {off : Nat} {u : Value} (w : World) (hs : scal P E = true) (hx : xs[off]? = some u) : (part E xs off).run P w = .ok u w := by
 simp [part, isAgg_scal hs, hx]
theorem EqF.nil {xs ys : Array Value} : EqF P xs ys [] True := fun d w => by simp [Op.eqFields]
theorem EqF.cons {xs ys : Array Value} {f : Field} {fs : List Field} {u v : Value} {p r : Prop} [Decidable p] [Decidable r] (hn : f.name ≠ "_") (hs : scal P f.type = true) (hx : xs[f.offset]? = some u) (hy : ys[f.offset]? = some v)
  (he : EqV P f.type u v p) (h : EqF P xs ys fs r) : EqF P xs ys (f :: fs) (p /\ r) := fun d w => by
 simp only [Op.eqFields, ne_eq, hn, not_false_eq_true, if_true, Sem.run_bind, part_scal w hs hx, part_scal w hs hy, he d w, Result.andThen_ok]
 by_cases hp : p
 ·simp [hp, h d w]
 ·simp [hp]
theorem EqA.struct {us vs : List Value} {fs : List Field} {r : Prop} [Decidable r] (hg : P.eqGuardType P.depth T = false) (ht : P.underlying T = some (.struct (P.fieldsOf T))) (hp : P.stoodInHeld T = false) (hf : (P.fieldsOf T).toList = fs)
  (h : EqF P us.toArray vs.toArray fs r) : EqA P T us vs (decide r) :=
 ⟨hg, fun w => by rw [show (10000 : Nat) = 9999 + 1 from rfl, run_equalIn_agg w 9999 T _ _ ht hp, hf]; exact h 9998 w⟩
theorem put_list (p : Nat) : ∀ (u : List Value) (k : Nat) (pre post : List Value), pre.length = p + k -> u.length <= post.length ->
  (u.zipIdx k).foldl (fun (cs : Array Value) (x : Value × Nat) => cs.setIfInBounds (p + x.2) x.1) (pre ++ post).toArray = (pre ++ u ++ post.drop u.length).toArray
 | [], k, pre, post, _, _ => by simp
 | v :: u, k, pre, post, hp, hl => by
  cases post with
  | nil => simp at hl
  | cons b post =>
   have ih := put_list p u (k + 1) (pre ++ [v]) post (by simp [hp]; omega) (by simpa using hl)
   rw [List.zipIdx_cons, List.foldl_cons]
   have e : ((pre ++ b :: post).toArray).setIfInBounds (p + k) v = (pre ++ [v] ++ post).toArray := by
    rw [<- hp]; simp
   simp only [e, ih]
   simp
theorem fill_agg (s : Nat) (hs : 0 < s) : ∀ (us : List (List Value)) (i : Nat) (pre post : List Value), pre.length = i * s -> post.length = us.length * s -> (∀ u ∈ us, u.length = s) ->
  Instr.fill (fun i => some (i * s, s)) (pre ++ post).toArray (((us.map fun u => Value.agg u.toArray).zipIdx i).map fun p => (p.2, p.1)) = some (pre ++ us.flatten).toArray
 | [], i, pre, post, hp, hq, _ => by
  have : post = [] := List.eq_nil_of_length_eq_zero (by simpa using hq)
  subst this; simp [Instr.fill]
 | u :: us, i, pre, post, hp, hq, hu => by
  have hul := hu u (List.mem_cons_self ..)
  have hq2 : post.length = us.length * s + s := by rw [hq, List.length_cons, Nat.add_mul, Nat.one_mul]
  have hq' : s <= post.length := by omega
  have ih := fill_agg s hs us (i + 1) (pre ++ u) (post.drop s) (by rw [List.length_append, hp, hul, Nat.add_mul, Nat.one_mul]) (by rw [List.length_drop]; omega) (fun v hv => hu v (List.mem_cons_of_mem _ hv))
  simp only [List.map_cons, List.zipIdx_cons, Instr.fill]
  have hcells : (Value.agg u.toArray).cells = u.toArray := rfl
  rw [hcells, if_neg (by simp [hul]; omega)]
  have e : u.toArray.zipIdx.foldl (fun (cs : Array Value) (x : Value × Nat) => cs.setIfInBounds (i * s + x.2) x.1) (pre ++ post).toArray = (pre ++ u ++ post.drop s).toArray := by
   have := put_list (i * s) u 0 pre post (by omega) (by omega)
   rw [hul] at this
   rw [<- Array.foldl_toList, Array.toList_zipIdx]; exact this
  rw [e, ih]; simp
theorem run_buildAgg (w : World) {us : List (List Value)} (hT : STy P T E z sz bytes) (hs : 0 < sz) (hu : ∀ u ∈ us, u.length = sz) (hlen : us.length * sz <= 16777216) :
  (Instr.buildSlice T us.length (((us.map fun u => Value.agg u.toArray).zipIdx 0).map fun p => (p.2, p.1)).toArray).run P w = .ok (.slice (some ⟨w.heap.size, 0, none⟩) us.length us.length) (w.alloc (.cells us.flatten.toArray E)) := by
 obtain ⟨i, hi, hzz, hsi, hb⟩ := hT.info
 have fin : ∀ zc : Array Value, Instr.fill (fun i => some (i * sz, sz)) ((Array.range (us.length * sz)).map (zc[· % zc.size]!)) (((us.map fun u => Value.agg u.toArray).zipIdx 0).map fun p => (p.2, p.1)) = some us.flatten.toArray := fun zc => by
  generalize hq : (Array.range (us.length * sz)).map (zc[· % zc.size]!) = base
  have hsz : base.size = us.length * sz := by rw [<- hq]; simp
  obtain ⟨post⟩ := base
  have := fill_agg sz hs us 0 [] post (by simp) (by simpa using hsz) hu
  rw [List.nil_append, List.nil_append] at this
  exact this
 simp only [Instr.buildSlice, Sem.run_bind, run_underlying hT.under, Result.andThen_ok, sizeOf_of hT.size]
 rw [if_neg (by omega)]
 by_cases h0 : us.length * sz = 0
 ·rw [if_pos h0]
  simp only [Sem.run_pure, Result.andThen_ok, fin, newRow, Sem.run_bind, run_newObj, World.alloc_eq]
 ·rw [if_neg h0]
  simp only [zeroValue, typeInfo, Sem.run_bind, run_program, Result.andThen_ok, hi, Sem.run_pure, hzz, fin, newRow, run_newObj, World.alloc_eq]
theorem cel_flat (ys : List α) : (ys.map Lay.enc).flatten = cel ys := by simp [cel, List.flatMap_def]
theorem Eff.buildCA (k : Nat) {len : Nat} {parts : List (Nat × Operand)} (ys : List α) (hT : STy P T E z (Lay.sz α) bytes) (hk : look H k = none) (hv : evlE env 0 parts = some (ys.map fun y => Value.agg (Lay.enc y).toArray)) (hl : ys.length = len) (hlen : len * Lay.sz α <= 16777216) :
  Eff P N w0 env H ⟨d, .buildSlice T len parts.toArray, ty, pos, after, g⟩ fun v H' => ∃ gb, v = .slice (some ⟨gb, 0, none⟩) ys.length ys.length /\ H' = (k, .own E (Lay.sz α) (some ⟨gb, 0, none⟩) ys.length ys.length (cel ys)) :: H :=
 eff_of_value fun a w hs => by
  subst hl
  have hB := hs.below.size
  have hr := run_buildAgg (P := P) w (us := ys.map Lay.enc) hT Lay.pos (fun u hu => by obtain ⟨y, _, rfl⟩ := List.mem_map.1 hu; exact Lay.len y) (by simpa using hlen)
  have hm := evlE_map hs hv
  rw [List.length_map, cel_flat] at hr
  refine ⟨_, w.alloc (.cells (cel ys).toArray E), _, ?_, ⟨w.heap.size, rfl, rfl⟩, hs.below.alloc hB _, hs.heap.new hB k hk _ _ ?_ (fun g hg => by first | exact hg.symm | (obtain ⟨_, a, ha, hb⟩ := hg; injection ha with ha; subst ha; exact hb.symm))⟩
  ·have e : (ys.map Lay.enc).map (fun u => Value.agg u.toArray) = ys.map fun y => Value.agg (Lay.enc y).toArray := by simp
   rw [e] at hr
   have hm2 : (parts.toArray.map fun p => (p.1, a.eval p.2)) = (((ys.map fun y => Value.agg (Lay.enc y).toArray).zipIdx 0).map fun p => (p.2, p.1)).toArray := by rw [<- hm]; simp
   simp only [execOp, hm2, hr, Sem.run_bind, Result.andThen_ok, Sem.run_pure]
  ·have hp := Lay.pos (α := α)
   have hle : ys.length <= ys.length * Lay.sz α := Nat.le_mul_of_pos_right _ hp
   have := World.ownsRow_lit (base := w0.heap.size) (e := E) (size := Lay.sz α) w (cel ys).toArray ys.length hB (by simp only [maxLen]; omega) (by simp [cel_length])
   exact Or.inl (by simpa using this)
class MKey (κ : Type) [BEq κ] where
 ek : κ -> Value
 kind : TypeDesc
 flat : (match kind with | .interface _ | .array _ _ | .struct _ => false | _ => true) = true
 same : ∀ a b, Instr.sameNow kind (ek a) (ek b) = some (a == b)
 bits : ∀ a b, (a == b) = true -> Instr.sameBits 10000 (ek b) (ek a) = true
instance : MKey Int := ⟨fun a => I64 a, .int .i64, rfl, fun a b => by simp [Instr.sameNow], fun a b h => by have := eq_of_beq h; subst this; simp [Instr.sameBits]⟩
instance : MKey (BitVec 64) := ⟨fun a => U64 a, .int .u64, rfl, fun a b => by
 simp only [Instr.sameNow, if_true, Option.some.injEq]
 rw [Bool.eq_iff_iff, beq_iff_eq, beq_iff_eq]
 exact ⟨fun h => BitVec.eq_of_toNat_eq (by omega), fun h => by rw [h]⟩, fun a b h => by have := eq_of_beq h; subst this; simp [Instr.sameBits]⟩
theorem run_checkKey1 {κ : Type} [BEq κ] [MKey κ] {t : TypeId} (ht : P.underlying t = some (MKey.kind κ)) (e : Bool) (v : Value) (n : Nat) (w : World) : (Instr.checkKey e (n + 1) t v).run P w = .ok () w := by
 have hf := MKey.flat (κ := κ)
 generalize MKey.kind κ = kd at ht hf
 cases kd <;> simp at hf <;> cases v <;> simp [Instr.checkKey, run_underlying ht]
theorem run_checkKey {κ : Type} [BEq κ] [MKey κ] {t : TypeId} (ht : P.underlying t = some (MKey.kind κ)) (e : Bool) (v : Value) (w : World) : (Instr.checkKey e 10000 t v).run P w = .ok () w := run_checkKey1 ht e v 9999 w
theorem run_getObj {w : World} {g : Nat} {es : Array MapEntry} {cl : Nat} (h : w.heap[g]? = some (.map es cl)) : (getObj g).run P w = .ok (.map es cl) w := by simp [getObj, Sem.run, h]
theorem run_setObj {w : World} {g : Nat} {es : Array MapEntry} {cl : Nat} (o' : Obj) (h : w.heap[g]? = some (.map es cl)) : (setObj g o').run P w = .ok () { w with heap := w.heap.setIfInBounds g o' } := by simp [setObj, Sem.run, h]
def Eff0R (P : Program) (N : Nat) (w0 : World) (env : Env) (H : Heap) (o : Oper) (R : Heap -> Prop) : Prop :=
 ∀ a w (K : Act -> World -> Prop) (Q : Exit -> Act -> World -> Prop), St N w0 env H a w ->
  (∀ H' w', R H' -> Below w0.heap.size w0 w' -> HS w0.heap.size w' H' -> K (a.put o.dst undef) w') -> o.wp P a w K Q
theorem WL.eff0R {ops : Array Oper} {K : Act -> World -> Prop} {rest : List Oper} {op : Op} {ty : TypeId} {pos : String} {after : Array Edge} {R : Heap -> Prop} (h : Eff0R P N w0 env H ⟨none, op, ty, pos, after, none⟩ R)
  (k : ∀ H', R H' -> WL P N w0 ops K rest env H') : WL P N w0 ops K (⟨none, op, ty, pos, after, none⟩ :: rest) env H := by
 intro a w hs
 exact wpList_plain rfl fun K' hK => h a w K' _ hs fun H' w' hr hb hh => hK _ _ (k H' hr _ _ (hs.world hb hh))
theorem Eff.makeMap (k : Nat) (hk : look H k = none) : Eff P N w0 env H ⟨d, .makeMap T none, ty, pos, after, g⟩ fun v H' => ∃ gb, v = .map (some gb) /\ H' = (k, .obj gb (.map ([] : List MapEntry).toArray 0)) :: H :=
 eff_of_value fun a w hs => by
  have hB := hs.below.size
  refine ⟨_, w.alloc (.map #[] 0), _, ?_, ⟨w.heap.size, rfl, rfl⟩, hs.below.alloc hB _, hs.heap.new hB k hk _ _ ⟨hB, heap_alloc_new w _⟩ (fun g hg => (by simpa [HE.fp] using hg.symm))⟩
  simp [execOp, Instr.makeMap]
theorem obj_set {B : Nat} {w : World} (h : HS B w H) {k gb : Nat} {o : Obj} (hk : look H k = some (.obj gb o)) (o' : Obj) : HS B { w with heap := w.heap.setIfInBounds gb o' } ((k, .obj gb o') :: H) := by
 obtain ⟨h1, h2⟩ : B <= gb /\ w.heap[gb]? = some o := h.sat k _ hk
 have hlt : gb < w.heap.size := (Array.getElem?_eq_some_iff.1 h2).1
 refine h.set k _ (by simp) (fun i hi hne => by
  have : i ≠ gb := fun e => hne _ hk (by simp [HE.fp, e])
  simp [Array.getElem?_setIfInBounds_ne (Ne.symm this)]) ⟨h1, by simp [hlt]⟩ (fun i hi => .inl ⟨_, hk, hi⟩)
theorem below_set {w : World} (hb : Below w0.heap.size w0 w) {gb : Nat} (h : w0.heap.size <= gb) (o : Obj) : Below w0.heap.size w0 { w with heap := w.heap.setIfInBounds gb o } :=
 hb.trans ⟨rfl, rfl, rfl, by simp, fun i hi => by
  have : i ≠ gb := by omega
  simp [Array.getElem?_setIfInBounds_ne (Ne.symm this)]⟩
end
end Go.Proofs.Ytkcccenekglkoaa
