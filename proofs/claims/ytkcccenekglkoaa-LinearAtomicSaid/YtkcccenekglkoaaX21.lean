/-
 A small symbolic executor for the walk, part 21: maps with keys of any comparable kind; delete; how many entries.
 Conditions: none; plain lemmas over any program.
-/
import Derived.Test.YtkcccenekglkoaaX20
namespace Go.Proofs.Ytkcccenekglkoaa
open Go Go.RowKit
set_option linter.unusedVariables false
def posE {κ : Type} [BEq κ] (q : κ) : List MapEntry -> List κ -> Nat -> Option (Nat × Value)
 | e :: es, a :: ms, i => if q == a then some (i, e.val) else posE q es ms (i + 1)
 | _, _, _ => none
structure KeyL (P : Program) (Tk : TypeId) {κ : Type} [BEq κ] (ek : κ -> Value) : Prop where
 chk : ∀ (e : Bool) (q : κ) (w : World), (Instr.checkKey e 10000 Tk (ek q)).run P w = .ok () w
 fnd : ∀ (q : κ) (es : List MapEntry) (ms : List κ) (w : World), es.map (·.key) = ms.map ek -> (Instr.findKey Tk (ek q) es).run P w = .ok (posE q es ms 0) w
 bits : ∀ a b : κ, (a == b) = true -> Instr.sameBits 10000 (ek b) (ek a) = true
theorem beq_bstr' (a b : List (BitVec 8)) : (bstr a == bstr b) = (a == b) := by
 show ((a.map UInt8.ofBitVec).toArray == (b.map UInt8.ofBitVec).toArray) = (a == b)
 rw [Bool.eq_iff_iff, beq_iff_eq, beq_iff_eq]
 exact ⟨fun h => map_ofBitVec_inj (by simpa using h), fun h => by rw [h]⟩
instance : MKey (List (BitVec 8)) := ⟨fun a => .string (bstr a), .string, rfl, fun a b => congrArg some (beq_bstr' a b), fun a b h => by have := eq_of_beq h; subst this; simp only [Instr.sameBits]; rw [beq_bstr']; simp⟩
section
variable {P : Program} {Tk : TypeId} {κ : Type} [BEq κ] {ek : κ -> Value}
theorem findNow_pos [MKey κ] (q : κ) : ∀ (es : List MapEntry) (ms : List κ) (i : Nat), es.map (·.key) = ms.map MKey.ek -> Instr.findNow (MKey.kind κ) (MKey.ek q) es i = some (posE q es ms i)
 | [], [], i, _ => rfl
 | [], _ :: _, i, h => by simp at h
 | _ :: _, [], i, h => by simp at h
 | e :: es, a :: ms, i, h => by
  simp only [List.map_cons, List.cons.injEq] at h
  have hs : Instr.sameNow (MKey.kind κ) (MKey.ek q) e.key = some (q == a) := by rw [h.1]; exact MKey.same q a
  unfold Instr.findNow posE
  rw [hs]
  cases hq : (q == a)
  ·simpa using findNow_pos q es ms (i + 1) h.2
  ·simp
theorem KeyL.flat [MKey κ] (hT : P.underlying Tk = some (MKey.kind κ)) : KeyL P Tk (MKey.ek : κ -> Value) where
 chk := fun e q w => run_checkKey hT e _ w
 fnd := fun q es ms w h => by simp [Instr.findKey, run_underlying hT, findNow_pos q es ms 0 h]
 bits := MKey.bits
theorem findAsking_pos {us : κ -> List Value} (heq : ∀ a b, EqA P Tk (us a) (us b) (a == b)) (q : κ) (w : World) : ∀ (es : List MapEntry) (ms : List κ) (i : Nat), es.map (·.key) = ms.map (fun a => Value.agg (us a).toArray) -> (Instr.findAsking Tk (.agg (us q).toArray) es i).run P w = .ok (posE q es ms i) w
 | [], [], i, _ => rfl
 | [], _ :: _, i, h => by simp at h
 | _ :: _, [], i, h => by simp at h
 | e :: es, a :: ms, i, h => by
  simp only [List.map_cons, List.cons.injEq] at h
  have hs : (Op.equal Tk (.agg (us q).toArray) e.key).run P w = .ok (q == a) w := by rw [h.1]; exact (heq q a).2 w
  unfold Instr.findAsking posE
  cases hq : (q == a)
  ·rw [hq] at hs
   simpa [hs] using findAsking_pos heq q w es ms (i + 1) h.2
  ·rw [hq] at hs
   simp [hs]
def flatK : TypeDesc -> Bool
 | .interface _ | .array _ _ | .struct _ => false
 | _ => true
def FlatF (P : Program) (n : Nat) (f : Field) : Prop := f.name ≠ "_" /\ scal P f.type = true /\ f.offset < n /\ ∃ kd, P.underlying f.type = some kd /\ flatK kd = true
theorem chk_flat {t : TypeId} {kd : TypeDesc} (ht : P.underlying t = some kd) (hf : flatK kd = true) (e : Bool) (v : Value) (n : Nat) (w : World) : (Instr.checkKey e (n + 1) t v).run P w = .ok () w := by
 cases kd <;> simp [flatK] at hf <;> cases v <;> simp [Instr.checkKey, run_underlying ht]
def flatFB (P : Program) (n : Nat) (f : Field) : Bool := f.name != "_" && scal P f.type && decide (f.offset < n) && (match P.underlying f.type with | some kd => flatK kd | none => false)
theorem flatFB_all {n : Nat} {fs : List Field} (h : fs.all (flatFB P n) = true) : ∀ f ∈ fs, FlatF P n f := by
 intro f hf
 have := List.all_eq_true.1 h f hf
 simp only [flatFB, Bool.and_eq_true, bne_iff_ne, ne_eq, decide_eq_true_eq] at this
 obtain ⟨⟨⟨h1, h2⟩, h3⟩, h4⟩ := this
 refine ⟨h1, h2, h3, ?_⟩
 cases hu : P.underlying f.type with
 | none => simp [hu] at h4
 | some kd => rw [hu] at h4; exact ⟨kd, rfl, h4⟩
theorem KeyL.struct {us : κ -> List Value} {fs : Array Field} {n : Nat} (hT : P.underlying Tk = some (.struct fs)) (hn : ∀ q, (us q).length = n) (hF : ∀ f ∈ fs.toList, FlatF P n f) (heq : ∀ a b, EqA P Tk (us a) (us b) (a == b))
  (hb : ∀ a b : κ, (a == b) = true -> us a = us b) (hsb : ∀ a : κ, (us a).all (fun v => Instr.sameBits 9999 v v) = true) : KeyL P Tk fun q => .agg (us q).toArray where
 chk := fun e q w => by
  rw [show (10000 : Nat) = 9999 + 1 from rfl, Instr.checkKey]
  simp only [Sem.run_bind, run_underlying hT, Result.andThen_ok]
  rw [<- Array.forIn_toList]
  generalize fs.toList = L at hF
  induction L with
  | nil => simp
  | cons f L ih =>
   obtain ⟨hn1, h1, h2, kd, h3, h4⟩ := hF f (List.mem_cons_self ..)
   have hp : (part f.type (us q).toArray f.offset).run P w = .ok ((us q)[f.offset]'(by rw [hn]; exact h2)) w := part_scal w h1 (by simp [hn, h2])
   have hc := chk_flat h3 h4 e ((us q)[f.offset]'(by rw [hn]; exact h2)) 9998 w
   simp only [List.forIn_cons, Sem.run_bind, hn1, ne_eq, not_false_eq_true, if_true, Result.andThen_ok, hp, hc, Sem.run_pure]
   exact ih (fun g hg => hF g (List.mem_cons_of_mem _ hg))
 fnd := fun q es ms w h => by
  have hN : ∀ es' : List MapEntry, es' = es -> Instr.findNow (.struct fs) (.agg (us q).toArray) es' 0 = match es' with | [] => some none | _ :: _ => none := by
   intro es' _
   cases es' with
   | nil => rfl
   | cons e l => simp [Instr.findNow, Instr.sameNow]
  have h1 := hN es rfl
  cases es with
  | nil =>
   cases ms with
   | nil => simp [Instr.findKey, run_underlying hT, h1, posE]
   | cons a l => simp at h
  | cons e l =>
   have := findAsking_pos heq q w (e :: l) ms 0 h
   simp only [Instr.findKey, Sem.run_bind, run_underlying hT, Result.andThen_ok, h1]
   exact this
 bits := fun a b h => by
  rw [<- hb a b h]
  simp only [show (10000 : Nat) = 9999 + 1 from rfl, Instr.sameBits, BEq.rfl, Bool.true_and]
  rw [List.all_eq_true]
  intro p hp
  obtain ⟨v, hv, rfl⟩ : ∃ v ∈ us a, p = (v, v) := by
   have : ∀ l : List Value, p ∈ l.zip l -> ∃ v ∈ l, p = (v, v) := by
    intro l
    induction l with
    | nil => intro h; simp at h
    | cons x l ih =>
     intro h
     rw [List.zip_cons_cons, List.mem_cons] at h
     rcases h with rfl | h
     ·exact ⟨x, List.mem_cons_self .., rfl⟩
     ·obtain ⟨v, hv, e⟩ := ih h; exact ⟨v, List.mem_cons_of_mem _ hv, e⟩
   exact this _ (by simpa using hp)
  have := List.all_eq_true.1 (hsb a) v hv
  exact this
end
def MapK {κ ν : Type} (ek : κ -> Value) (ev : ν -> Value) (es : List MapEntry) (m : List (κ × ν)) : Prop := es.map (fun e => (e.key, e.val)) = m.map fun p => (ek p.1, ev p.2)
section
variable {κ ν : Type} [BEq κ] {ek : κ -> Value} {ev : ν -> Value}
omit [BEq κ] in
theorem MapK.nil : MapK ek ev [] ([] : List (κ × ν)) := rfl
omit [BEq κ] in
theorem MapK.keys {es : List MapEntry} {m : List (κ × ν)} (h : MapK ek ev es m) : es.map (·.key) = (m.map Prod.fst).map ek := by
 have := congrArg (List.map Prod.fst) h
 simpa [List.map_map, Function.comp_def] using this
theorem find_mapK (q : κ) (v : ν) : ∀ (es : List MapEntry) (m : List (κ × ν)) (i : Nat), MapK ek ev es m ->
  (posE q es (m.map Prod.fst) i = none /\ mget m q = none /\ mset m q v = m ++ [(q, v)] /\ mdel m q = m) ∨
  (∃ t u e a, posE q es (m.map Prod.fst) i = some (i + t, ev u) /\ mget m q = some u /\ es[t]? = some e /\ e.key = ek a /\ (q == a) = true /\
   MapK ek ev (es.modify t fun e => { e with key := ek q, val := ev v }) (mset m q v) /\ MapK ek ev (es.eraseIdx t) (mdel m q))
 | [], [], i, _ => .inl ⟨rfl, rfl, rfl, rfl⟩
 | [], _ :: _, i, h => by simp [MapK] at h
 | _ :: _, [], i, h => by simp [MapK] at h
 | e :: es, (a, w) :: m, i, h => by
  simp only [MapK, List.map_cons, List.cons.injEq, Prod.mk.injEq] at h
  obtain ⟨⟨h1, h2⟩, h3⟩ := h
  by_cases hk : (q == a) = true
  ·right
   refine ⟨0, w, e, a, ?_, ?_, rfl, h1, hk, ?_, ?_⟩
   ·simp [posE, hk, h2]
   ·simp [mget, hk]
   ·simp only [MapK, List.modify_zero_cons, List.map_cons, mset, hk, if_true, List.cons.injEq]; exact ⟨trivial, h3⟩
   ·simp only [MapK, List.eraseIdx_cons_zero, mdel, hk, if_true]; exact h3
  ·have hf : (q == a) = false := by simpa using hk
   rcases find_mapK q v es m (i + 1) h3 with ⟨g1, g2, g3, g4⟩ | ⟨t, u, e', a', g1, g2, g3, g4, g5, g6, g7⟩
   ·left
    refine ⟨?_, ?_, ?_, ?_⟩
    ·simp [posE, hf, g1]
    ·simp [mget, hf, g2]
    ·simp [mset, hf, g3]
    ·simp [mdel, hf, g4]
   ·right
    refine ⟨t + 1, u, e', a', ?_, ?_, ?_, g4, g5, ?_, ?_⟩
    ·simp only [List.map_cons, posE, hf, Bool.false_eq_true, if_false, g1]; congr 2; omega
    ·simp [mget, hf, g2]
    ·simpa using g3
    ·simp only [MapK, List.modify_succ_cons, List.map_cons, mset, hf, Bool.false_eq_true, if_false, List.cons.injEq, Prod.mk.injEq]; exact ⟨⟨h1, h2⟩, g6⟩
    ·simp only [MapK, List.eraseIdx_cons_succ, List.map_cons, mdel, hf, Bool.false_eq_true, if_false, List.cons.injEq, Prod.mk.injEq]; exact ⟨⟨h1, h2⟩, g7⟩
end
section
variable {P : Program} {N : Nat} {w0 : World} {env : Env} {H : Heap} {d : Option Tmp} {ty T E Tk : TypeId} {pos : String} {after : Array Edge} {g : Option (Nat × Bool)} {x y : Operand}
variable {κ ν : Type} [BEq κ] {ek : κ -> Value} {ev : ν -> Value} {es : List MapEntry} {m : List (κ × ν)} {cl gb : Nat} {q : κ}
theorem Yld.lookupK {k : Nat} {zv : ν} (hT : P.underlying T = some (.map Tk E)) (hk1 : KeyL P Tk ek) (hz : (P.info? E).map (·.zero) = some (some (ev zv)))
  (hx : evl env x = some (.map (some gb))) (hy : evl env y = some (ek q)) (hk : look H k = some (.obj gb (.map es.toArray cl))) (hm : MapK ek ev es m) : Yld P N w0 env H ⟨d, .lookup T x y false, ty, pos, after, g⟩ (ev ((mget m q).getD zv)) := fun a w hs => by
 obtain ⟨_, h2⟩ : w0.heap.size <= gb /\ w.heap[gb]? = some (.map es.toArray cl) := hs.heap.sat k _ hk
 have hzero : (zeroValue E).run P w = .ok (ev zv) w := by
  cases hi : P.info? E with
  | none => simp [hi] at hz
  | some i => simp [hi] at hz; simp [zeroValue, typeInfo, hi, hz]
 have hc := fun e => hk1.chk e q w
 have hf := hk1.fnd q es (m.map Prod.fst) w hm.keys
 rcases find_mapK q zv es m 0 hm with ⟨g1, g2, _⟩ | ⟨t, u, e, a', g1, g2, _⟩
 ·simp [execOp, hs.eval hx, hs.eval hy, Instr.lookup, run_underlying hT, run_getObj h2, hc, hf, g1, hzero, g2]
 ·simp [execOp, hs.eval hx, hs.eval hy, Instr.lookup, run_underlying hT, run_getObj h2, hc, hf, g1, g2]
theorem Eff0R.mapUpdK {v : ν} {u : Operand} (k : Nat) (hT : P.underlying T = some (.map Tk E)) (hk1 : KeyL P Tk ek)
  (hx : evl env x = some (.map (some gb))) (hy : evl env y = some (ek q)) (hu : evl env u = some (ev v)) (hk : look H k = some (.obj gb (.map es.toArray cl))) (hm : MapK ek ev es m) :
  Eff0R P N w0 env H ⟨none, .mapUpdate T x y u, ty, pos, after, g⟩ fun H' => ∃ es' cl', MapK ek ev es' (mset m q v) /\ H' = (k, .obj gb (.map es'.toArray cl')) :: H := by
 intro a w K Q hs hK
 obtain ⟨h1, h2⟩ : w0.heap.size <= gb /\ w.heap[gb]? = some (.map es.toArray cl) := hs.heap.sat k _ hk
 have hc := fun e => hk1.chk e q w
 have hf := hk1.fnd q es (m.map Prod.fst) w hm.keys
 unfold Oper.wp
 rcases find_mapK q v es m 0 hm with ⟨g1, g2, g3, _⟩ | ⟨t, u', e, a', g1, g2, g3, g4, g5, g6, _⟩
 ·have hr : (execOp a.eval ⟨none, .mapUpdate T x y u, ty, pos, after, g⟩).run P w = .ok .skip { w with heap := w.heap.setIfInBounds gb (.map (es ++ [({ key := ek q, val := ev v, born := cl } : MapEntry)]).toArray (cl + 1)) } := by
   simp [execOp, hs.eval hx, hs.eval hy, hs.eval hu, Instr.mapUpdate, run_underlying hT, run_getObj h2, hc, hf, g1, run_setObj _ h2]
  rw [hr]
  refine hK _ _ ⟨_, _, ?_, rfl⟩ (below_set hs.below h1 _) (obj_set hs.heap hk _)
  unfold MapK at hm ⊢
  rw [g3, List.map_append, hm, List.map_append]; rfl
 ·have hb := hk1.bits q a' g5
  rw [<- g4] at hb
  have hr : (execOp a.eval ⟨none, .mapUpdate T x y u, ty, pos, after, g⟩).run P w = .ok .skip { w with heap := w.heap.setIfInBounds gb (.map (es.modify t fun e => { e with key := ek q, val := ev v }).toArray cl) } := by
   simp [execOp, hs.eval hx, hs.eval hy, hs.eval hu, Instr.mapUpdate, run_underlying hT, run_getObj h2, hc, hf, g1, g3, Instr.keyThatStays, hb, run_setObj _ h2]
  rw [hr]
  exact hK _ _ ⟨_, _, g6, rfl⟩ (below_set hs.below h1 _) (obj_set hs.heap hk _)
theorem Eff0R.delK {ts : TypeId} (k : Nat) (hT : P.underlying T = some (.map Tk E)) (hk1 : KeyL P Tk ek)
  (hx : evl env x = some (.map (some gb))) (hy : evl env y = some (ek q)) (hk : look H k = some (.obj gb (.map es.toArray cl))) (hm : MapK ek ev es m) :
  Eff0R P N w0 env H ⟨none, .call ⟨.builtin .delete, #[x, y], #[T, ts]⟩, ty, pos, after, g⟩ fun H' => ∃ es' cl', MapK ek ev es' (mdel m q) /\ H' = (k, .obj gb (.map es'.toArray cl')) :: H := by
 intro a w K Q hs hK
 obtain ⟨h1, h2⟩ : w0.heap.size <= gb /\ w.heap[gb]? = some (.map es.toArray cl) := hs.heap.sat k _ hk
 have hc := fun e => hk1.chk e q w
 have hf := hk1.fnd q es (m.map Prod.fst) w hm.keys
 cases m with
 | nil =>
  have he : es = [] := by
   have := hm.keys; simpa using this
  subst he
  have hr : (execOp a.eval ⟨none, .call ⟨.builtin .delete, #[x, y], #[T, ts]⟩, ty, pos, after, g⟩).run P w = .ok (.value (.tuple #[])) { w with heap := w.heap.setIfInBounds gb (.map #[] cl) } := by
   simp [execOp, resolve, invoke, builtin, hs.eval hx, hs.eval hy, Builtin.delete_, run_underlying hT, run_getObj h2, hc, hf, posE, run_setObj _ h2]
  unfold Oper.wp
  rw [hr]
  exact hK _ _ ⟨[], cl, MapK.nil, rfl⟩ (below_set hs.below h1 _) (obj_set hs.heap hk _)
 | cons p m' =>
  rcases find_mapK q p.2 es (p :: m') 0 hm with ⟨g1, g2, g3, g0⟩ | ⟨t, u', e, a', g1, g2, g3, g4, g5, g6, g7⟩
  ·have hr : (execOp a.eval ⟨none, .call ⟨.builtin .delete, #[x, y], #[T, ts]⟩, ty, pos, after, g⟩).run P w = .ok (.value (.tuple #[])) { w with heap := w.heap.setIfInBounds gb (.map es.toArray cl) } := by
    rw [g1] at hf
    simp [execOp, resolve, invoke, builtin, hs.eval hx, hs.eval hy, Builtin.delete_, run_underlying hT, run_getObj h2, hc, hf, run_setObj _ h2]
   unfold Oper.wp
   rw [hr]
   exact hK _ _ ⟨es, cl, by rw [g0]; exact hm, rfl⟩ (below_set hs.below h1 _) (obj_set hs.heap hk _)
  ·have hlt : t < es.length := (List.getElem?_eq_some_iff.1 g3).1
   have hr : (execOp a.eval ⟨none, .call ⟨.builtin .delete, #[x, y], #[T, ts]⟩, ty, pos, after, g⟩).run P w = .ok (.value (.tuple #[])) { w with heap := w.heap.setIfInBounds gb (.map (es.eraseIdx t).toArray cl) } := by
    rw [g1] at hf
    simp [execOp, resolve, invoke, builtin, hs.eval hx, hs.eval hy, Builtin.delete_, run_underlying hT, run_getObj h2, hc, hf, run_setObj _ h2, Array.eraseIdxIfInBounds, hlt]
   unfold Oper.wp
   rw [hr]
   exact hK _ _ ⟨_, cl, g7, rfl⟩ (below_set hs.below h1 _) (obj_set hs.heap hk _)
omit [BEq κ] in
theorem MapK.len (h : MapK ek ev es m) : es.length = m.length := by have := congrArg List.length h; simpa using this
omit [BEq κ] in
theorem Yld.lenMapK {k : Nat} (hT : P.underlying T = some (.map Tk E)) (hx : evl env x = some (.map (some gb))) (hk : look H k = some (.obj gb (.map es.toArray cl))) (hm : MapK ek ev es m) :
  Yld P N w0 env H ⟨d, .call ⟨.builtin .len, #[x], #[T]⟩, ty, pos, after, g⟩ (I64 (m.length : Int)) := fun a w hs => by
 obtain ⟨_, h2⟩ : w0.heap.size <= gb /\ w.heap[gb]? = some (.map es.toArray cl) := hs.heap.sat k _ hk
 simp [execOp, resolve, invoke, builtin, hs.eval hx, Builtin.len_, run_underlying hT, run_getObj h2, goInt, hm.len]
theorem EqV.str {a b : List (BitVec 8)} (h : P.underlying T = some .string) : EqV P T (.string (bstr a)) (.string (bstr b)) (a = b) := fun d w => by
 have e : (bstr a == bstr b) = decide (a = b) := by rw [beq_bstr', Bool.eq_iff_iff, beq_iff_eq, decide_eq_true_iff]
 rw [Op.equalIn]
 simp only [Sem.run_bind, run_underlying h, Result.andThen_ok, Sem.run_pure, e]
end
end Go.Proofs.Ytkcccenekglkoaa
