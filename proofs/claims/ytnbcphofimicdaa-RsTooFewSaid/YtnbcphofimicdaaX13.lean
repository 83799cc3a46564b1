/-
  A small symbolic executor for the walk, part 13: arrays as values, arrays out of slices.
  Conditions: none; plain lemmas over any program.
-/
import Derived.Test.YtnbcphofimicdaaX12
import Derived.Laws.StructEq
namespace Go.Proofs.Ytnbcphofimicdaa
open Go Go.RowKit
set_option linter.unusedVariables false

section
variable {P : Program} {N : Nat} {w0 : World} {env : Env} {H : Heap} {Q : Exit → Act → World → Prop}
variable {d : Option Nat} {ty T T' E : TypeId} {pos : String} {after : Array Edge} {g : Option (Nat × Bool)} {x y : Operand}
variable {sz bytes : Nat} {z : Value} {A : Option Addr} {n c : Nat} {cs : List Value} {α : Type} [Lay α] {xs ys : List α}

/-- an element of an array that is a value -/
theorem Yld.idxAggC {k : IntKind} {m : Int} {len : Nat} {a : α} {u : Value} (hT : P.underlying T = some (.array len E)) (hE : (P.info? E).map (·.size) = some 1) (h1 : Lay.sz α = 1) (hsc : scal P E = true)
    (hx : evl env x = some (.agg (cel xs).toArray)) (hy : evl env y = some (.int k m)) (hl : xs.length = len) (h : idx xs m = some a) (hu : (Lay.enc a)[0]? = some u) : Yld P N w0 env H ⟨d, .index T x y, ty, pos, after, g⟩ u := by
  obtain ⟨h2, h3, h4⟩ := idx_some h
  refine Yld.idxAgg hT hE hsc hx hy ⟨h2, by omega⟩ ?_
  have := cel_get h4 (j := 0) Lay.pos
  rw [h1, Nat.mul_one, Nat.add_zero] at this
  rw [this]; exact hu
/-- an array out of a slice -/
theorem Yld.arrayAtC {len : Nat} (hT : P.underlying T = some (.array len E)) (hx : evl env x = some (.slice A n c)) (hr : RdT w0 H A n c xs) (h : tka xs len = some ys) :
    Yld P N w0 env H ⟨d, .sliceToArrayPointer T x, ty, pos, after, g⟩ (.pointer A) := fun a w hs => by
  obtain ⟨h1, _⟩ := tka_some h
  have := RdT.len hr hs
  exact Yld.arrayAt hT hx (by omega) a w hs
theorem Yld.loadTk {len : Nat} (ha : Agg P T len) (h1 : Lay.sz α = 1) (h0 : 0 < len) (hx : evl env x = some (.pointer A)) (hr : RdT w0 H A n c xs) (h : tka xs len = some ys) :
    Yld P N w0 env H ⟨d, .load T x, ty, pos, after, g⟩ (.agg (cel ys).toArray) := fun a w hs => by
  obtain ⟨h2, rfl⟩ := tka_some h
  have hw := hr w hs.below hs.heap
  have hlt : 0 < (cel xs).length := by rw [cel_length, h1]; omega
  obtain ⟨hA, _⟩ := hw.cells 0 _ (List.getElem?_eq_getElem hlt)
  obtain ⟨ad, rfl⟩ := Option.isSome_iff_exists.1 hA
  refine Yld.loadRA (A := some ad) (j := 0) ha (by rw [hx]; simp [adr, add_zero_]) hr (by rw [cel_length, h1, List.length_take, Nat.mul_one]; omega) (fun i u hi => ?_) a w hs
  rw [Nat.zero_add]
  have e : cel (xs.take len) = (cel xs).take (len * Lay.sz α) := (cel_take xs len).symm
  rw [e, List.getElem?_take] at hi
  split at hi
  · exact hi
  · cases hi
/-! ### equality of arrays of bools -/
theorem all_range_eqB : ∀ (xs ys : List Bool), xs.length = ys.length → ((List.range xs.length).all fun i => xs.getD i false == ys.getD i false) = (xs == ys)
  | [], [], _ => rfl
  | x :: xs, y :: ys, h => by
    have ih := all_range_eqB xs ys (by simpa using h)
    rw [List.length_cons, List.range_succ_eq_map, List.all_cons, List.all_map]
    simp only [List.getD_cons_zero, Function.comp_def, List.getD_cons_succ, ih]
    simp [List.cons_beq_cons]
  | [], _ :: _, h => by simp at h
  | _ :: _, [], h => by simp at h
theorem run_equalIn_bools (w : World) (d : Nat) (t e : TypeId) (n : Nat) (ht : P.underlying t = some (.array n e)) (he : P.underlying e = some .bool) (hsz : ∀ w, (sizeOf e).run P w = .ok 1 w)
    (xs ys : List Bool) (hx : xs.length = n) (hy : ys.length = n) :
    (Op.equalIn (d + 2) t (.agg (xs.map Value.bool).toArray) (.agg (ys.map Value.bool).toArray)).run P w = .ok (xs == ys) w := by
  rw [← all_range_eqB xs ys (hx.trans hy.symm), hx, List.range_eq_range', Op.equalIn]
  simp only [Sem.run_bind, run_underlying ht, Result.andThen_ok, hsz, Std.Legacy.Range.forIn_eq_forIn_range', Std.Legacy.Range.size, Nat.sub_zero, Nat.add_sub_cancel, Nat.div_one]
  have hl : ∀ i ∈ List.range' 0 n 1, i < n := fun i hi => by simpa using (List.mem_range'_1.1 hi).2
  generalize List.range' 0 n 1 = l at hl ⊢
  induction l with
  | nil => simp
  | cons i l ih =>
    have hi : i < n := hl i (by simp)
    have px : (part e (xs.map Value.bool).toArray (i * 1)).run P w = .ok (.bool (xs.getD i false)) w := by
      simp [part, isAgg, run_underlying he, List.getD, List.getElem?_eq_getElem (show i < xs.length by omega)]
    have py : (part e (ys.map Value.bool).toArray (i * 1)).run P w = .ok (.bool (ys.getD i false)) w := by
      simp [part, isAgg, run_underlying he, List.getD, List.getElem?_eq_getElem (show i < ys.length by omega)]
    have pe : (Op.equalIn (d + 1) e (.bool (xs.getD i false)) (.bool (ys.getD i false))).run P w = .ok (xs.getD i false == ys.getD i false) w := run_equalIn_bool w d e _ _ he
    simp only [List.forIn_cons, Sem.run_bind, px, py, pe, Result.andThen_ok, List.all_cons]
    cases hb : (xs.getD i false == ys.getD i false)
    · simp
    · simp only [Bool.not_true, Bool.false_eq_true, if_false, Sem.run_pure, Result.andThen_ok, Bool.true_and]
      exact ih fun j hj => hl j (by simp [hj])
theorem Yld.eqlArrB {n : Nat} {us vs : List Bool} (hg : P.eqGuardType P.depth T = false) (ht : P.underlying T = some (.array n E)) (he : P.underlying E = some .bool) (hE : (P.info? E).map (·.size) = some 1) (hx : evl env x = some (.agg (cel us).toArray)) (hy : evl env y = some (.agg (cel vs).toArray))
    (hu : us.length = n) (hv : vs.length = n) : Yld P N w0 env H ⟨d, .binOp .eql T x y T', ty, pos, after, g⟩ (.bool (us == vs)) := by
  rw [cel_map Value.bool (fun _ => rfl)] at hx hy
  exact yld_bin hx hy (fun w => run_eqGuard_agg w .eql T x y _ _ hg) fun w => by
    rw [run_eql_struct, run_equalIn_bools w 9998 T E n ht he (fun w => sizeOf_of hE w) us vs hu hv]; rfl
/-! ### a call that reads a slice of the caller's own and hands back what does not lie in it -/
def Mem.less (M K : Mem) : Mem := fun g => match K g with
  | some _ => Option.none
  | Option.none => M g
theorem Mem.less_of {M K : Mem} {g : Nat} (h : K g = Option.none) : Mem.less M K g = M g := by simp [Mem.less, h]
theorem Mem.less_disj {M K : Mem} {g : Nat} (h : Mem.less M K g ≠ Option.none) : K g = Option.none := by
  cases hk : K g with
  | none => rfl
  | some o => simp [Mem.less, hk] at h
/-- as 'Fn', with memory Mr beside M that is read alone: what comes back lies in M and new blocks -/
def FnS (P : Program) (f : FuncId) (args : Array Value) (Mr M : Mem) (R : Value → Mem → List HE → Prop) : Prop :=
  ∀ w, Holds Mr w → Holds M w → (∀ g, Mr g ≠ Option.none → M g = Option.none) → Calls P f args w fun e w' => ∃ r M' es, e = .returned r ∧ R r M' es ∧ Ext w.heap.size M M' ∧ Below w.heap.size w w' ∧ Holds M' w' ∧ HSes w.heap.size w' es ∧ (∀ e ∈ es, ∀ g, e.fp g → M' g = Option.none)
theorem HS.mem2 {B : Nat} {w : World} {M Mr : Mem} (hM : Holds M w) (hr : Holds Mr w) (hd : ∀ g, Mr g ≠ Option.none → M g = Option.none) : HS B w [(0, .mem M), (7, .mem Mr)] := by
  refine ⟨fun k e he => ?_, fun i j e e' hi hj hne => ?_⟩
  · rw [look_cons, look_cons] at he
    split at he
    · injection he with he; subst he; exact hM
    · split at he
      · injection he with he; subst he; exact hr
      · cases he
  · have key : ∀ g, (HE.mem M).fp g → (HE.mem Mr).fp g → False := fun g h1 h2 => h1 (hd g h2)
    rw [look_cons, look_cons] at hi hj
    split at hi
    · split at hj
      · omega
      · split at hj
        · injection hi with hi; injection hj with hj; subst hi; subst hj; exact key
        · cases hj
    · split at hi
      · split at hj
        · injection hi with hi; injection hj with hj; subst hi; subst hj; exact fun g a b => key g b a
        · split at hj
          · omega
          · cases hj
      · cases hi
theorem FnS.intro {f : FuncId} {fn : Func} {c : Code} {args : List Value} {Mr M : Mem} {R : Value → Mem → List HE → Prop} (hf : P.funcs[f]? = some fn) (hb : fn.body = some c) (hN : fn.ntmps = N) (hle : args.length ≤ N)
    (h : ∀ w0, WC P N w0 c (bodyPost P fn fun e w' => ∃ r M' es, e = .returned r ∧ R r M' es ∧ Ext w0.heap.size M M' ∧ Below w0.heap.size w0 w' ∧ Holds M' w' ∧ HSes w0.heap.size w' es ∧ (∀ e ∈ es, ∀ g, e.fp g → M' g = Option.none)) (envOf 0 args) [(0, .mem M), (7, .mem Mr)]) :
    FnS P f args.toArray Mr M R :=
  fun w hr hM hd => calls_of_wp hf hb (h w _ w (st_enter hN hle (Below.refl _ _) (HS.mem2 hM hr hd)))
theorem Eff.callMS {o : Oper} {f : FuncId} {fn : Func} {l : List Operand} {ts : Array TypeId} {vs : List Value} {M : Mem} {R : Value → Mem → List HE → Prop} (k : Nat)
    (ho : o.op = .call ⟨.value (.func f), l.toArray, ts⟩) (hf : P.funcs[f]? = some fn) (hname : (fn.name == "runtime.NumGoroutine") = false) (hbody : fn.body.isNone = false)
    (hx : evls env l = some vs) (hM : look H 0 = some (.mem M))
    (hc : ∀ w, Below w0.heap.size w0 w → HS w0.heap.size w H → FnS P f vs.toArray ((Mem.snap w).less M) M R) : Eff P N w0 env H o fun r H' => ∃ M' es, R r M' es ∧ Ext w0.heap.size M M' ∧ H' = tag k es ((0, .mem M') :: H) := by
  intro a w K Q hs hK
  refine wp_callGo ho hf hname hbody (hs.evals hx) (R := fun r w' => ∃ M' es, R r M' es ∧ Ext w.heap.size M M' ∧ Below w.heap.size w w' ∧ Holds M' w' ∧ HSes w.heap.size w' es ∧ (∀ e ∈ es, ∀ g, e.fp g → M' g = Option.none))
    ((hc w hs.below hs.heap w (fun g o hg => by
      have h1 : M g = Option.none := Mem.less_disj (M := Mem.snap w) (by rw [hg]; simp)
      rw [Mem.less_of h1] at hg; exact hg) (hs.heap.sat 0 _ hM) (fun g hg => Mem.less_disj hg)).mono fun e w' ⟨r, M', es, he, hr, h1, h2, h3, h4, h5⟩ => ⟨r, he, M', es, hr, h1, h2, h3, h4, h5⟩) fun r w' ⟨M', es, hr, h1, hb, h3, hh, h5⟩ => ?_
  have hB : w0.heap.size ≤ w.heap.size := hs.below.size
  have hk : HS w0.heap.size w' H := hs.heap.keep fun g hg => hb.block g hg
  have hap : ∀ k' x g, k' ≠ 0 → look H k' = some x → x.fp g → M' g ≠ Option.none → False := by
    intro k' x g hne hx hg hm
    cases hmg : M' g with
    | none => exact hm hmg
    | some q =>
      rcases h1.new g q hmg with hq | hq
      · exact hs.heap.apart k' 0 x _ hx hM hne g hg (by simp [HE.fp, hq])
      · have := (hs.heap.sat k' x hx).lt g hg; omega
  have hk0 : HS w0.heap.size w' ((0, .mem M') :: H) := by
    refine ⟨fun i e he => ?_, fun i j e e' hi hj hne => ?_⟩
    · rw [look_cons] at he
      split at he
      · injection he with he; subst he; exact h3
      · exact hk.sat i e he
    · rw [look_cons] at hi hj
      split at hi <;> split at hj
      · omega
      · injection hi with hi; subst hi; rename_i a b; exact fun g h1 h2 => hap j e' g (fun e => b e.symm) hj h2 h1
      · injection hj with hj; subst hj; rename_i a b; exact fun g h1 h2 => hap i e g (fun e => a e.symm) hi h1 h2
      · exact hk.apart i j e e' hi hj hne
  refine hK r _ w' ⟨M', es, hr, h1.mono hB, rfl⟩ (hs.below.trans (hb.mono hB)) (HS.pushA es hk0 k (fun e he => (hh.sat e he).mono hB) hh.apart fun e he k' x hx g hg hg' => ?_)
  rw [look_cons] at hx
  split at hx
  · injection hx with hx; subst hx; exact hg' (h5 e he g hg)
  · have g1 := hh.ge e he g hg
    have g2 := (hs.heap.sat k' x hx).lt g hg'
    omega
theorem RdH.own_less {k : Nat} {M : Mem} (hk : look H k = some (.own E (Lay.sz α) A n c (cel xs))) (hM : look H 0 = some (.mem M)) (h0 : Nat.beq k 0 = false) (w : World) (hb : Below w0.heap.size w0 w) (hh : HS w0.heap.size w H) : SlT ((Mem.snap w).less M) A n c xs :=
  own_SlM (hh.sat k _ hk) fun g o hg hf => by
    have h1 : M g = Option.none := by
      cases hm : M g with
      | none => rfl
      | some q => exact (hh.apart k 0 _ _ hk hM (fun e => by subst e; simp at h0) g hf (by simp [HE.fp, hm])).elim
    rw [Mem.less_of h1]; exact hg
theorem RdH.mem_less {k : Nat} {M Mr : Mem} (hk : look H k = some (.mem Mr)) (hM : look H 0 = some (.mem M)) (h0 : Nat.beq k 0 = false) (h : SlT Mr A n c xs) (w : World) (hb : Below w0.heap.size w0 w) (hh : HS w0.heap.size w H) : SlT ((Mem.snap w).less M) A n c xs :=
  h.mono fun a v hc => by
    unfold Mem.cell? at hc ⊢
    cases hm : Mr a.block with
    | none => rw [hm] at hc; cases hc
    | some q =>
      have h1 : M a.block = Option.none := by
        cases hq : M a.block with
        | none => rfl
        | some q' => exact (hh.apart k 0 _ _ hk hM (fun e => by subst e; simp at h0) a.block (by simp [HE.fp, hm]) (by simp [HE.fp, hq])).elim
      have h2 : w.heap[a.block]? = some q := hh.sat k _ hk a.block q hm
      rw [hm] at hc
      rw [Mem.less_of h1]
      show (match w.heap[a.block]? with | some (.cells c _ _) => _ | _ => _) = _
      rw [h2]; exact hc
theorem len_le {M : Mem} (h : SlT M A n c xs) : xs.length ≤ 9223372036854775807 := by
  have h1 := len_of_cel h
  have h2 := h.le
  have h3 := h.cm
  unfold maxLen at h3; omega
theorem len_leD {M : Mem} {ρ β : Type} [Lay ρ] {R : ρ → β → Prop} {rs : List ρ} {as : List β} (h : SlT M A n c rs) (hq : Rels R rs as) : as.length ≤ 9223372036854775807 := by
  have := len_le h
  rw [← Rels.len hq]; exact this
end
end Go.Proofs.Ytnbcphofimicdaa
