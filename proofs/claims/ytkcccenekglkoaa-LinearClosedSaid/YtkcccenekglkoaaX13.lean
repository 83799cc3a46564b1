/-
  A small symbolic executor for the walk, parts 12 and 13: functions that change or cut a slice of the caller's own, arrays, scopes, calls that read an own slice.
  Conditions: none; plain lemmas over any program.
-/
import Derived.Test.YtkcccenekglkoaaX10
import Derived.Scope
import Derived.Laws.StructEq
namespace Go.Proofs.Ytkcccenekglkoaa
open Go Go.RowKit
set_option linter.unusedVariables false

section
variable {P : Program} {N : Nat} {w0 : World} {env : Env} {H : Heap} {Q : Exit → Act → World → Prop}
variable {d : Option Nat} {ty T T' E : TypeId} {pos : String} {after : Array Edge} {g : Option (Nat × Bool)} {x y : Operand}
variable {sz bytes : Nat} {z : Value} {A : Option Addr} {n c : Nat} {cs : List Value} {α : Type} [Lay α] {xs ys : List α}

/-! ### scopes that no goto leaves -/
theorem WC.scope {cd : Code} (h : WC P N w0 cd (Exit.noGoto Q) env H) : WC P N w0 (.scope cd) Q env H := fun a w hs => wp_scope_straight (h a w hs)
theorem WC.label {l : Nat} (h : QK N w0 Q .normal env H) : WC P N w0 (.label l) Q env H := fun a w hs => wp_label (h a w hs)
theorem QK.scopeN (h : QK N w0 Q .normal env H) : QK N w0 (Exit.noGoto Q) .normal env H := h
theorem QK.scopeE {id : Nat} (h : QK N w0 Q (.exit id) env H) : QK N w0 (Exit.noGoto Q) (.exit id) env H := h
theorem QK.scopeR (h : QK N w0 Q .ret env H) : QK N w0 (Exit.noGoto Q) .ret env H := h

/-! ### a function that changes one slice of the caller's own -/
def Mut (P : Program) (f : FuncId) (args : Array Value) (E : TypeId) (sz : Nat) (A : Option Addr) (n c : Nat) (cs : List Value) (R : Value → List Value → Prop) : Prop :=
  ∀ (w0 : World) (e0 : HE), Tri P f args w0 [(1, e0), (2, .own E sz A n c cs)] fun r H' => ∃ ds, R r ds ∧ H' = [(1, e0), (2, .own E sz A n c ds)]

theorem Mut.intro {f : FuncId} {fn : Func} {cd : Code} {args : List Value} {R : Value → List Value → Prop} (hf : P.funcs[f]? = some fn) (hb : fn.body = some cd) (hN : fn.ntmps = N) (hle : args.length ≤ N)
    (h : ∀ w0 e0, WC P N w0 cd (bodyPost P fn fun e w' => ∃ r H', e = .returned r ∧ (∃ ds, R r ds ∧ H' = [(1, e0), (2, .own E sz A n c ds)]) ∧ Below w0.heap.size w0 w' ∧ HS w0.heap.size w' H') (envOf 0 args) [(1, e0), (2, .own E sz A n c cs)]) :
    Mut P f args.toArray E sz A n c cs R := fun w0 e0 => Tri.intro hf hb hN hle (h w0 e0)

theorem Ret.mut {fn : Func} {R : Value → List Value → Prop} {r : Value} {e0 : HE} {ds : List Value} (hr : ResIs P N w0 fn env H r) (hsub : Sub [(1, e0), (2, .own E sz A n c ds)] H) (h : R r ds) :
    QK N w0 (bodyPost P fn fun e w' => ∃ r H', e = .returned r ∧ (∃ ds, R r ds ∧ H' = [(1, e0), (2, .own E sz A n c ds)]) ∧ Below w0.heap.size w0 w' ∧ HS w0.heap.size w' H') .ret env H :=
  Ret.tri _ hr hsub ⟨ds, h, rfl⟩

open Classical in
theorem Eff.callMut {o : Oper} {f : FuncId} {fn : Func} {l : List Operand} {ts : Array TypeId} {vs : List Value} {R : Value → List Value → Prop} (k : Nat)
    (ho : o.op = .call ⟨.value (.func f), l.toArray, ts⟩) (hf : P.funcs[f]? = some fn) (hname : (fn.name == "runtime.NumGoroutine") = false) (hbody : fn.body.isNone = false)
    (hx : evls env l = some vs) (hk : look H k = some (.own E sz A n c cs)) (hc : Mut P f vs.toArray E sz A n c cs R) :
    Eff P N w0 env H o fun r H' => ∃ ds, R r ds ∧ H' = (k, .own E sz A n c ds) :: H := by
  intro a w K Q hs hK
  let F : Nat → Prop := fun g => ∃ i e, look H i = some e ∧ i ≠ k ∧ e.fp g
  let M : Mem := fun g => if F g then w.heap[g]? else none
  have hM : Holds M w := fun g o h => by
    by_cases hF : F g
    · simpa [M, hF] using h
    · simp [M, hF] at h
  have hin : HS w0.heap.size w [(1, .mem M), (2, .own E sz A n c cs)] := by
    refine ⟨fun i e he => ?_, fun i j e e' hi hj hne => ?_⟩
    · rw [look_cons, look_cons] at he
      split at he
      · injection he with he; subst he; exact hM
      · split at he
        · injection he with he; subst he; exact hs.heap.sat k _ hk
        · cases he
    · rw [look_cons, look_cons] at hi hj
      have key : ∀ g, (HE.mem M).fp g → (HE.own E sz A n c cs).fp g → False := by
        intro g h1 h2
        have hF : F g := Classical.byContradiction fun hF => h1 (by simp [M, hF])
        obtain ⟨i, e, hl, hne, hg⟩ := hF
        exact hs.heap.apart i k e _ hl hk hne g hg h2
      split at hi
      · rename_i h1
        split at hj
        · omega
        · split at hj
          · injection hi with hi; injection hj with hj; subst hi; subst hj; exact key
          · cases hj
      · split at hi
        · rename_i h1 h2
          split at hj
          · injection hi with hi; injection hj with hj; subst hi; subst hj; exact fun g a b => key g b a
          · split at hj
            · omega
            · cases hj
        · cases hi
  refine wp_callGo ho hf hname hbody (hs.evals hx) (R := fun r w' => ∃ ds, R r ds ∧ Below w0.heap.size w0 w' ∧ HS w0.heap.size w' [(1, .mem M), (2, .own E sz A n c ds)])
    ((hc w0 (.mem M) w hs.below hin).mono fun e w' ⟨r, H', he, ⟨ds, hr, hH⟩, hb, hh⟩ => ⟨r, he, ds, hr, hb, hH ▸ hh⟩) fun r w' ⟨ds, hr, hb, hh⟩ => ?_
  refine hK r _ w' ⟨ds, hr, rfl⟩ hb ?_
  have hM' : Holds M w' := hh.sat 1 _ rfl
  have hkeep : ∀ i e, look H i = some e → i ≠ k → e.sat w0.heap.size w' := fun i e he hne =>
    (hs.heap.sat i e he).keep fun g hg => by
      have hlt := (hs.heap.sat i e he).lt g hg
      have hF : F g := ⟨i, e, he, hne, hg⟩
      obtain ⟨o, ho⟩ : ∃ o, w.heap[g]? = some o := ⟨_, Array.getElem?_eq_getElem hlt⟩
      rw [ho]
      exact hM' g o (by simp [M, hF, ho])
  refine ⟨fun i e he => ?_, fun i j e e' hi hj hne => ?_⟩
  · rw [look_cons] at he
    split at he
    · injection he with he; subst he; exact hh.sat 2 _ rfl
    · rename_i h1; exact hkeep i e he (fun e => h1 e.symm)
  · rw [look_cons] at hi hj
    split at hi
    · split at hj
      · omega
      · injection hi with hi; subst hi; subst k
        rename_i h2
        exact fun g h3 h4 => hs.heap.apart i j _ e' hk hj hne g h3 h4
    · split at hj
      · injection hj with hj; subst hj; subst k
        exact fun g h3 h4 => hs.heap.apart i j e _ hi hk hne g h3 h4
      · exact hs.heap.apart i j e e' hi hj hne

/-! ### parts of a slice of the call's own -/
theorem RdT.slcN {lo hi : Int} (h : RdT w0 H A n c xs) (hs : Go.Proofs.Ytkcccenekglkoaa.slc xs lo hi = some ys) : RdT w0 H (subA A c lo.toNat (Lay.sz α)) (hi.toNat - lo.toNat) (c - lo.toNat) ys := by
  have h1 := RdT.slc h hs
  obtain ⟨_, _, hl⟩ := slc_some hs
  rwa [hl] at h1
theorem SlT.slcN {M : Mem} {lo hi : Int} (h : SlT M A n c xs) (hs : Go.Proofs.Ytkcccenekglkoaa.slc xs lo hi = some ys) : SlT M (subA A c lo.toNat (Lay.sz α)) (hi.toNat - lo.toNat) (c - lo.toNat) ys := by
  have h1 := SlT.slc h hs
  obtain ⟨_, _, hl⟩ := slc_some hs
  rwa [hl] at h1
theorem SlT.slcB {M : Mem} {lo hi : Int} (h : SlT M A n c xs) (hs : Go.Proofs.Ytkcccenekglkoaa.slc xs lo hi = some ys) : 0 ≤ lo ∧ lo ≤ hi ∧ hi ≤ c := by
  obtain ⟨⟨h1, h2, h3⟩, _, _⟩ := slc_some hs
  have hn := len_of_cel h
  have := h.le
  exact ⟨h1, h2, by omega⟩
theorem Eff0.storeS (k : Nat) {lo hi m : Int} {a' : α} {u : Value} (hsz : (P.info? T).map (·.size) = some 1) (h1 : Lay.sz α = 1) (hx : evl env x = some (.pointer (some ((adr (subA A c lo.toNat (Lay.sz α))).add (m.toNat * Lay.sz α))))) (hy : evl env y = some u) (hu : u.oneCell' = true)
    (hk : look H k = some (.own E (Lay.sz α) A n c (cel xs))) (he : Lay.enc a' = [u]) (h : ups xs lo hi m a' = some ys) :
    Eff0 P N w0 env H ⟨none, .store T x y, ty, pos, after, g⟩ ((k, .own E (Lay.sz α) A n c (cel ys)) :: H) := by
  intro a w K Q hs hK
  obtain ⟨h2, rfl⟩ := ups_some h
  have ho := own_SlR (hs.heap.sat k _ hk)
  have hn := len_of_cel ho
  have hle := ho.le
  have hlt : (lo.toNat + m.toNat) < (cel xs).length := by rw [cel_length, h1]; omega
  obtain ⟨hA, _⟩ := ho.cells _ _ (List.getElem?_eq_getElem hlt)
  obtain ⟨ad, rfl⟩ := Option.isSome_iff_exists.1 hA
  have hne : c ≠ lo.toNat := by omega
  have hx' : evl env x = some (.pointer (some ((adr (some ad)).add ((lo + m).toNat * Lay.sz α)))) := by
    rw [hx]
    simp only [subA, if_neg hne, Option.map_some, adr, Option.getD_some, add_add_, h1, Nat.mul_one]
    rw [show (lo + m).toNat = lo.toNat + m.toNat by omega]
  exact Eff0.storeC1 k hsz h1 hx' hy hu hk he (upd_of (by omega)) a w K Q hs hK

/-! ### arrays in blocks of the call's own -/
theorem Yld.idxArrC {k : IntKind} {m : Int} {gb len : Nat} {a : α} (hT : P.underlying T = some (.array len E)) (hE : (P.info? E).map (·.size) = some (Lay.sz α)) (hx : evl env x = some (.pointer (some ⟨gb, 0, none⟩))) (hy : evl env y = some (.int k m)) (hl : xs.length = len) (h : idx xs m = some a) :
    Yld P N w0 env H ⟨d, .indexAddr T x y, ty, pos, after, g⟩ (.pointer (some ⟨gb, m.toNat * Lay.sz α, none⟩)) := by
  obtain ⟨h1, h2, _⟩ := idx_some h
  have := Yld.idxArr (P := P) (N := N) (w0 := w0) (H := H) (d := d) (ty := ty) (pos := pos) (after := after) (g := g) hT hE hx hy ⟨h1, by omega⟩
  rwa [Nat.zero_add] at this
theorem Yld.loadArrC {m : Int} {k gb : Nat} {t : TypeId} {a : α} {u : Value} (hsc : scal P T = true) (hx : evl env x = some (.pointer (some ⟨gb, m.toNat * Lay.sz α, none⟩))) (hk : look H k = some (.blk gb t (cel xs))) (h : idx xs m = some a) (hu : (Lay.enc a)[0]? = some u) :
    Yld P N w0 env H ⟨d, .load T x, ty, pos, after, g⟩ u := by
  obtain ⟨h1, h2, h3⟩ := idx_some h
  exact Yld.loadB hsc hx hk (by rw [← Nat.add_zero (m.toNat * Lay.sz α), cel_get h3 Lay.pos]; exact hu)
theorem Eff0.storeArrC (k : Nat) {m : Int} {gb : Nat} {t : TypeId} {a' : α} {u : Value} (hsz : (P.info? T).map (·.size) = some 1) (h1 : Lay.sz α = 1) (hx : evl env x = some (.pointer (some ⟨gb, m.toNat * Lay.sz α, none⟩))) (hy : evl env y = some u) (hu : u.oneCell' = true)
    (hk : look H k = some (.blk gb t (cel xs))) (he : Lay.enc a' = [u]) (h : upd xs m a' = some ys) :
    Eff0 P N w0 env H ⟨none, .store T x y, ty, pos, after, g⟩ ((k, .blk gb t (cel ys)) :: H) := by
  obtain ⟨h4, rfl⟩ := upd_some h
  obtain ⟨a, ha⟩ : ∃ a, xs[m.toNat]? = some a := ⟨_, List.getElem?_eq_getElem h4.2⟩
  have hlt : m.toNat * Lay.sz α < (cel xs).length := by rw [cel_length, h1]; omega
  refine (Eff0.storeB k hsz hx hy hu hk hlt).weaken' ?_
  have he' : (Lay.enc a).set 0 u = Lay.enc a' := by
    have hl := Lay.len a
    rw [h1] at hl
    rw [he]
    obtain ⟨v, hv⟩ := List.length_eq_one_iff.1 hl
    rw [hv]; rfl
  have := cel_set ha he' Lay.pos
  rw [Nat.add_zero] at this
  rw [this]
/-- copy over a slice of the call's own -/
theorem Eff.copyC (k : Nat) {s : Operand} {m c' : Nat} {A' : Option Addr} {zs : List α} (hT : STy P T E z 1 bytes) (h1 : Lay.sz α = 1) (hs1 : evl env s = some (.slice A n c)) (hk : look H k = some (.own E (Lay.sz α) A n c (cel xs)))
    (hx : evl env x = some (.slice A' m c')) (hr : RdT w0 H A' m c' ys) (h : cpw xs ys = some zs) :
    Eff P N w0 env H ⟨d, .call ⟨.builtin .copy, #[s, x], #[T, T]⟩, ty, pos, after, g⟩ fun v H' => v = I64 (Nat.min ys.length xs.length : Nat) ∧ H' = (k, .own E (Lay.sz α) A n c (cel zs)) :: H :=
  eff_of_value fun a w hs => by
    obtain rfl := cpw_some h
    have hsat := hs.heap.sat k _ hk
    have hsrc := hr w hs.below hs.heap
    have hxl : xs.length = n := (len_of_cel (own_SlR hsat)).symm
    have hyl : ys.length = m := (len_of_cel hsrc).symm
    rcases Nat.eq_zero_or_pos xs.length with h0 | h2
    · have hx0 : xs = [] := List.eq_nil_of_length_eq_zero h0
      subst hx0
      have hn0 : n = 0 := by rw [← hxl]; rfl
      subst hn0
      have hlc : ∀ ad : Addr, (loadCells ad 0).run P w = .ok #[] w := fun ad => run_loadCells_list (P := P) w ad [] (fun j v hj => by simp at hj)
      have hrun : (Builtin.copy_ #[T, T] ty #[.slice A 0 c, .slice A' m c']).run P w = .ok (I64 (Nat.min ys.length ([] : List α).length : Nat)) w := by
        have hsz := hT.size
        cases hq : P.info? E with
        | none => simp [hq] at hsz
        | some i => cases A <;> cases A' <;> simp [Builtin.copy_, run_underlying hT.under, Builtin.lenOf, Builtin.firstCells, sizeOf, typeInfo, hq, storeCells, goInt, hlc]
      refine ⟨_, w, _, ?_, ⟨rfl, rfl⟩, hs.below, hs.heap.set k _ (Nat.le_refl _) (fun _ _ _ => rfl) (by simpa using hsat) (fun i hi => .inl ⟨_, hk, by simpa using hi⟩)⟩
      simp [execOp, resolve, invoke, builtin, hs.eval hs1, hs.eval hx, hrun]
    have ho : w.ownsRow w0.heap.size E (Lay.sz α) (.slice A n c) n (cel xs) := by
      rcases hsat with h | ⟨h, _⟩
      · exact h
      · omega
    rcases ho.2 with ⟨_, h0⟩ | ⟨gb, cap, cur, hv, hb, hg, hnc, hcm, hcs, htk⟩
    · omega
    injection hv with hA hn hc
    subst hA; subst hc
    rw [h1] at htk hcs
    have hcl : cur.toList.length = c := by simpa using hcs
    have hlt : gb < w.heap.size := (Array.getElem?_eq_some_iff.1 hg).1
    have hmin : (cel (ys.take xs.length)).length = Nat.min m n := by rw [cel_length, h1, List.length_take, hxl, hyl, Nat.mul_one]; exact Nat.min_comm n m
    have hmin' : Nat.min ys.length xs.length = Nat.min m n := by rw [hxl, hyl]
    have hmle : Nat.min m n ≤ n := Nat.min_le_right _ _
    have hrun : (Builtin.copy_ #[T, T] ty #[.slice (some ⟨gb, 0, none⟩) n c, .slice A' m c']).run P w =
        .ok (I64 (Nat.min ys.length xs.length : Nat)) (w.setRow gb (cur.toList.take 0 ++ cel (ys.take xs.length) ++ cur.toList.drop (0 + (cel (ys.take xs.length)).length)).toArray) := by
      cases A' with
      | some ad =>
        have hrun := run_copy_row (P := P) w T T ty E gb 0 n c ad m c' cur E (cel (ys.take xs.length)) hT.under hT.size hg hmin
          (fun j v hj => (hsrc.cells j v (by
            have e : cel (ys.take xs.length) = (cel ys).take (xs.length * Lay.sz α) := (cel_take ys xs.length).symm
            rw [e, List.getElem?_take] at hj
            split at hj
            · exact hj
            · cases hj)).2) (by rw [hmin]; have := hcl; simp at this; omega) (cel_one _)
        rw [hrun, hmin, hmin']; rfl
      | none =>
        have hm0 : m = 0 := by
          rcases Nat.eq_zero_or_pos m with h | h
          · exact h
          · have hpos : 0 < (cel ys).length := by rw [cel_length, h1]; omega
            have := (hsrc.cells 0 _ (List.getElem?_eq_getElem hpos)).1
            simp at this
        have hys : ys = [] := List.length_eq_zero_iff.1 (by omega)
        subst hys
        have e0 : (cur.toList.take 0 ++ cel (([] : List α).take xs.length) ++ cur.toList.drop (0 + (cel (([] : List α).take xs.length)).length)).toArray = cur := by simp [cel]
        rw [e0, setRow_self w gb cur _ _ hg]
        have hsz := hT.size
        subst hm0
        cases hq : P.info? E with
        | none => simp [hq] at hsz
        | some i => simp [Builtin.copy_, run_underlying hT.under, Builtin.lenOf, Builtin.firstCells, sizeOf, typeInfo, hq, storeCells, goInt]
    refine ⟨_, w.setRow gb (cur.toList.take 0 ++ cel (ys.take xs.length) ++ cur.toList.drop (0 + (cel (ys.take xs.length)).length)).toArray, _, ?_, ⟨rfl, rfl⟩,
      hs.below.trans ⟨rfl, rfl, rfl, by simp, fun i hi => setRow_other w gb i _ (by omega)⟩,
      hs.heap.set k _ (by simp) (fun i hi hne => setRow_other w gb i _ (fun e => hne _ hk ⟨by omega, _, rfl, e.symm⟩)) (.inl ?_) (fun i hi => .inl ⟨_, hk, hi⟩)⟩
    · simp [execOp, resolve, invoke, builtin, hs.eval hs1, hs.eval hx, hrun]
    · have hzl : (ys.take xs.length ++ xs.drop ys.length).length = n := by simp; omega
      refine ⟨by rw [cel_length, hzl], .inr ⟨gb, c, _, rfl, hb, setRow_heap w gb _ _ E _ hg, hnc, hcm, ?_, ?_⟩⟩
      · rw [h1, Nat.mul_one]
        have : (cel (ys.take xs.length)).length ≤ n := by rw [hmin]; exact hmle
        simp at this ⊢; omega
      · rw [h1, Nat.mul_one, cel_append, List.take_zero, List.nil_append, Nat.zero_add, hmin]
        have hd : cel (xs.drop ys.length) = (cel xs).drop (ys.length * Lay.sz α) := (cel_drop xs ys.length).symm
        rw [hd, h1, Nat.mul_one, ← htk, Nat.mul_one, List.drop_take]
        rw [List.take_append, hmin]
        rw [List.take_of_length_le (by rw [hmin]; omega)]
        congr 1
        have e : Nat.min m n = min m n := rfl
        rw [e, hyl]
        by_cases hmn : m ≤ n
        · rw [Nat.min_eq_left hmn]
        · rw [Nat.min_eq_right (by omega)]
          simp; omega
theorem WS.freeze {Hro : Heap} {fuel i : Nat} {listed : Array Bool} {ops : Array Oper} {K : Act → World → Prop} {M : Mem} {cs : List Value} (k : Nat) (hk : look H k = some (.own E sz A n c cs)) (hM : look H 0 = some (.mem M)) (h0 : Nat.beq k 0 = false)
    (h1 : look Hro k = none) (h2 : look Hro 0 = none)
    (h : ∀ M', Ext w0.heap.size M M' → SlM M' sz A n c cs → WS P N w0 ops K Hro fuel listed env ((k, .emp) :: (0, .mem M') :: H) i) : WS P N w0 ops K Hro fuel listed env H i :=
  fun hs a w hst => let ⟨M', g1, g2, g3⟩ := hst.freeze k hk hM h0; h M' g1 g2 (Sub.push h1 (Sub.push h2 hs)) a w g3
theorem WS.nilOwn {Hro : Heap} {fuel i : Nat} {listed : Array Bool} {ops : Array Oper} {K : Act → World → Prop} (k : Nat) (E : TypeId) (sz : Nat) (A : Option Addr) (hk : look Hro k = none) (h : WS P N w0 ops K Hro fuel listed env ((k, .own E sz A 0 0 []) :: H) i) : WS P N w0 ops K Hro fuel listed env H i :=
  fun hs a w hst => h (Sub.push hk hs) a w (hst.nilOwn k E sz A)
theorem upd_len {β : Type} {as bs : List β} {m : Int} {a : β} {k : Nat} (h : upd as m a = some bs) (hl : as.length = k) : bs.length = k := by
  obtain ⟨_, rfl⟩ := upd_some h; simpa using hl
theorem cel_len1 {β : Type} [Lay β] {as : List β} {k : Nat} (h1 : Lay.sz β = 1) (hl : as.length = k) : (cel as).length = k := by rw [cel_length, h1, hl, Nat.mul_one]
theorem cel_all {β : Type} [Lay β] (as : List β) : (cel as).all (·.oneCell') = true := List.all_eq_true.2 (cel_one as)
theorem ResIs.cell2M {fn : Func} {a' b' : Tmp} {gb gb' k k' s s' : Nat} {t t' : TypeId} {ds : List Value} (h : fn.results = #[.cell a' T, .cell b' T']) (ha : Agg P T s) (ha' : Agg P T' s') (he : look env a' = some (.pointer (some ⟨gb, 0, none⟩))) (he' : look env b' = some (.pointer (some ⟨gb', 0, none⟩)))
    (hk : look H k = some (.blk gb t cs)) (hk' : look H k' = some (.blk gb' t' ds)) (hl : cs.length = s) (hl' : ds.length = s') : ResIs P N w0 fn env H (.tuple #[.agg cs.toArray, .agg ds.toArray]) := fun a w hs => by
  subst hl; subst hl'
  obtain ⟨_, h2⟩ : w0.heap.size ≤ gb ∧ w.heap[gb]? = some (.cells cs.toArray t (0, 0)) := hs.heap.sat k _ hk
  obtain ⟨_, h2'⟩ : w0.heap.size ≤ gb' ∧ w.heap[gb']? = some (.cells ds.toArray t' (0, 0)) := hs.heap.sat k' _ hk'
  have hv := hs.vals _ _ he
  have hw := hs.vals _ _ he'
  simp only [Array.getD_eq_getD_getElem?] at hv hw
  simp [results, h, hv, hw, asAddr, loadVar_blk ha h2, loadVar_blk ha' h2']
end
end Go.Proofs.Ytkcccenekglkoaa

namespace Go.Proofs.Ytkcccenekglkoaa
open Go Go.RowKit
set_option linter.unusedVariables false

section
variable {P : Program} {N : Nat} {w0 : World} {env : Env} {H : Heap} {Q : Exit → Act → World → Prop}
variable {d : Option Nat} {ty T T' E : TypeId} {pos : String} {after : Array Edge} {g : Option (Nat × Bool)} {x y : Operand}
variable {sz bytes : Nat} {z : Value} {A : Option Addr} {n c : Nat} {cs : List Value} {α : Type} [Lay α] {xs ys : List α}

/-- an element of an array that is a value -/
theorem Yld.idxAggC {k : IntKind} {m : Int} {len : Nat} {a : α} {u : Value} (hT : P.underlying T = some (.array len E)) (hE : (P.info? E).map (·.size) = some 1) (h1 : Lay.sz α = 1) (hsc : scal P E = true)
    (hx : evl env x = some (.agg (cel xs).toArray)) (hy : evl env y = some (.int k m)) (hl : xs.length = len) (h : idx xs m = some a) (hu : (Lay.enc a)[0]? = some u) : Yld P N w0 env H ⟨d, .index T x y, ty, pos, after, g⟩ u := by
  obtain ⟨h2, h3, h4⟩ := idx_some h
  refine Yld.idxAgg hT hE hsc hx hy ⟨h2, by omega⟩ ?_
  have := cel_get h4 (j := 0) Lay.pos
  rw [h1, Nat.mul_one, Nat.add_zero] at this
  rw [this]; exact hu
/-- an array out of a slice -/
theorem Yld.arrayAtC {len : Nat} (hT : P.underlying T = some (.array len E)) (hx : evl env x = some (.slice A n c)) (hr : RdT w0 H A n c xs) (h : tka xs len = some ys) :
    Yld P N w0 env H ⟨d, .sliceToArrayPointer T x, ty, pos, after, g⟩ (.pointer A) := fun a w hs => by
  obtain ⟨h1, _⟩ := tka_some h
  have := RdT.len hr hs
  exact Yld.arrayAt hT hx (by omega) a w hs
theorem Yld.loadTk {len : Nat} (ha : Agg P T len) (h1 : Lay.sz α = 1) (h0 : 0 < len) (hx : evl env x = some (.pointer A)) (hr : RdT w0 H A n c xs) (h : tka xs len = some ys) :
    Yld P N w0 env H ⟨d, .load T x, ty, pos, after, g⟩ (.agg (cel ys).toArray) := fun a w hs => by
  obtain ⟨h2, rfl⟩ := tka_some h
  have hw := hr w hs.below hs.heap
  have hlt : 0 < (cel xs).length := by rw [cel_length, h1]; omega
  obtain ⟨hA, _⟩ := hw.cells 0 _ (List.getElem?_eq_getElem hlt)
  obtain ⟨ad, rfl⟩ := Option.isSome_iff_exists.1 hA
  refine Yld.loadRA (A := some ad) (j := 0) ha (by rw [hx]; simp [adr, add_zero_]) hr (by rw [cel_length, h1, List.length_take, Nat.mul_one]; omega) (fun i u hi => ?_) a w hs
  rw [Nat.zero_add]
  have e : cel (xs.take len) = (cel xs).take (len * Lay.sz α) := (cel_take xs len).symm
  rw [e, List.getElem?_take] at hi
  split at hi
  · exact hi
  · cases hi
/-! ### equality of arrays of bools -/
theorem all_range_eqB : ∀ (xs ys : List Bool), xs.length = ys.length → ((List.range xs.length).all fun i => xs.getD i false == ys.getD i false) = (xs == ys)
  | [], [], _ => rfl
  | x :: xs, y :: ys, h => by
    have ih := all_range_eqB xs ys (by simpa using h)
    rw [List.length_cons, List.range_succ_eq_map, List.all_cons, List.all_map]
    simp only [List.getD_cons_zero, Function.comp_def, List.getD_cons_succ, ih]
    simp [List.cons_beq_cons]
  | [], _ :: _, h => by simp at h
  | _ :: _, [], h => by simp at h
theorem run_equalIn_bools (w : World) (d : Nat) (t e : TypeId) (n : Nat) (ht : P.underlying t = some (.array n e)) (he : P.underlying e = some .bool) (hsz : ∀ w, (sizeOf e).run P w = .ok 1 w)
    (xs ys : List Bool) (hx : xs.length = n) (hy : ys.length = n) :
    (Op.equalIn (d + 2) t (.agg (xs.map Value.bool).toArray) (.agg (ys.map Value.bool).toArray)).run P w = .ok (xs == ys) w := by
  rw [← all_range_eqB xs ys (hx.trans hy.symm), hx, List.range_eq_range', Op.equalIn]
  simp only [Sem.run_bind, run_underlying ht, Result.andThen_ok, hsz, Std.Legacy.Range.forIn_eq_forIn_range', Std.Legacy.Range.size, Nat.sub_zero, Nat.add_sub_cancel, Nat.div_one]
  have hl : ∀ i ∈ List.range' 0 n 1, i < n := fun i hi => by simpa using (List.mem_range'_1.1 hi).2
  generalize List.range' 0 n 1 = l at hl ⊢
  induction l with
  | nil => simp
  | cons i l ih =>
    have hi : i < n := hl i (by simp)
    have px : (part e (xs.map Value.bool).toArray (i * 1)).run P w = .ok (.bool (xs.getD i false)) w := by
      simp [part, isAgg, run_underlying he, List.getD, List.getElem?_eq_getElem (show i < xs.length by omega)]
    have py : (part e (ys.map Value.bool).toArray (i * 1)).run P w = .ok (.bool (ys.getD i false)) w := by
      simp [part, isAgg, run_underlying he, List.getD, List.getElem?_eq_getElem (show i < ys.length by omega)]
    have pe : (Op.equalIn (d + 1) e (.bool (xs.getD i false)) (.bool (ys.getD i false))).run P w = .ok (xs.getD i false == ys.getD i false) w := run_equalIn_bool w d e _ _ he
    simp only [List.forIn_cons, Sem.run_bind, px, py, pe, Result.andThen_ok, List.all_cons]
    cases hb : (xs.getD i false == ys.getD i false)
    · simp
    · simp only [Bool.not_true, Bool.false_eq_true, if_false, Sem.run_pure, Result.andThen_ok, Bool.true_and]
      exact ih fun j hj => hl j (by simp [hj])
theorem Yld.eqlArrB {n : Nat} {us vs : List Bool} (hg : P.eqGuardType P.depth T = false) (ht : P.underlying T = some (.array n E)) (he : P.underlying E = some .bool) (hE : (P.info? E).map (·.size) = some 1) (hx : evl env x = some (.agg (cel us).toArray)) (hy : evl env y = some (.agg (cel vs).toArray))
    (hu : us.length = n) (hv : vs.length = n) : Yld P N w0 env H ⟨d, .binOp .eql T x y T', ty, pos, after, g⟩ (.bool (us == vs)) := by
  rw [cel_map Value.bool (fun _ => rfl)] at hx hy
  exact yld_bin hx hy (fun w => run_eqGuard_agg w .eql T x y _ _ hg) fun w => by
    rw [run_eql_struct, run_equalIn_bools w 9998 T E n ht he (fun w => sizeOf_of hE w) us vs hu hv]; rfl
/-! ### a call that reads a slice of the caller's own and hands back what does not lie in it -/
def Mem.less (M K : Mem) : Mem := fun g => match K g with
  | some _ => Option.none
  | Option.none => M g
theorem Mem.less_of {M K : Mem} {g : Nat} (h : K g = Option.none) : Mem.less M K g = M g := by simp [Mem.less, h]
theorem Mem.less_disj {M K : Mem} {g : Nat} (h : Mem.less M K g ≠ Option.none) : K g = Option.none := by
  cases hk : K g with
  | none => rfl
  | some o => simp [Mem.less, hk] at h
/-- as 'Fn', with memory Mr beside M that is read alone: what comes back lies in M and new blocks -/
def FnS (P : Program) (f : FuncId) (args : Array Value) (Mr M : Mem) (R : Value → Mem → List HE → Prop) : Prop :=
  ∀ w, Holds Mr w → Holds M w → (∀ g, Mr g ≠ Option.none → M g = Option.none) → Calls P f args w fun e w' => ∃ r M' es, e = .returned r ∧ R r M' es ∧ Ext w.heap.size M M' ∧ Below w.heap.size w w' ∧ Holds M' w' ∧ HSes w.heap.size w' es ∧ (∀ e ∈ es, ∀ g, e.fp g → M' g = Option.none)
theorem HS.mem2 {B : Nat} {w : World} {M Mr : Mem} (hM : Holds M w) (hr : Holds Mr w) (hd : ∀ g, Mr g ≠ Option.none → M g = Option.none) : HS B w [(0, .mem M), (7, .mem Mr)] := by
  refine ⟨fun k e he => ?_, fun i j e e' hi hj hne => ?_⟩
  · rw [look_cons, look_cons] at he
    split at he
    · injection he with he; subst he; exact hM
    · split at he
      · injection he with he; subst he; exact hr
      · cases he
  · have key : ∀ g, (HE.mem M).fp g → (HE.mem Mr).fp g → False := fun g h1 h2 => h1 (hd g h2)
    rw [look_cons, look_cons] at hi hj
    split at hi
    · split at hj
      · omega
      · split at hj
        · injection hi with hi; injection hj with hj; subst hi; subst hj; exact key
        · cases hj
    · split at hi
      · split at hj
        · injection hi with hi; injection hj with hj; subst hi; subst hj; exact fun g a b => key g b a
        · split at hj
          · omega
          · cases hj
      · cases hi
theorem FnS.intro {f : FuncId} {fn : Func} {c : Code} {args : List Value} {Mr M : Mem} {R : Value → Mem → List HE → Prop} (hf : P.funcs[f]? = some fn) (hb : fn.body = some c) (hN : fn.ntmps = N) (hle : args.length ≤ N)
    (h : ∀ w0, WC P N w0 c (bodyPost P fn fun e w' => ∃ r M' es, e = .returned r ∧ R r M' es ∧ Ext w0.heap.size M M' ∧ Below w0.heap.size w0 w' ∧ Holds M' w' ∧ HSes w0.heap.size w' es ∧ (∀ e ∈ es, ∀ g, e.fp g → M' g = Option.none)) (envOf 0 args) [(0, .mem M), (7, .mem Mr)]) :
    FnS P f args.toArray Mr M R :=
  fun w hr hM hd => calls_of_wp hf hb (h w _ w (st_enter hN hle (Below.refl _ _) (HS.mem2 hM hr hd)))
theorem Eff.callMS {o : Oper} {f : FuncId} {fn : Func} {l : List Operand} {ts : Array TypeId} {vs : List Value} {M : Mem} {R : Value → Mem → List HE → Prop} (k : Nat)
    (ho : o.op = .call ⟨.value (.func f), l.toArray, ts⟩) (hf : P.funcs[f]? = some fn) (hname : (fn.name == "runtime.NumGoroutine") = false) (hbody : fn.body.isNone = false)
    (hx : evls env l = some vs) (hM : look H 0 = some (.mem M))
    (hc : ∀ w, Below w0.heap.size w0 w → HS w0.heap.size w H → FnS P f vs.toArray ((Mem.snap w).less M) M R) : Eff P N w0 env H o fun r H' => ∃ M' es, R r M' es ∧ Ext w0.heap.size M M' ∧ H' = tag k es ((0, .mem M') :: H) := by
  intro a w K Q hs hK
  refine wp_callGo ho hf hname hbody (hs.evals hx) (R := fun r w' => ∃ M' es, R r M' es ∧ Ext w.heap.size M M' ∧ Below w.heap.size w w' ∧ Holds M' w' ∧ HSes w.heap.size w' es ∧ (∀ e ∈ es, ∀ g, e.fp g → M' g = Option.none))
    ((hc w hs.below hs.heap w (fun g o hg => by
      have h1 : M g = Option.none := Mem.less_disj (M := Mem.snap w) (by rw [hg]; simp)
      rw [Mem.less_of h1] at hg; exact hg) (hs.heap.sat 0 _ hM) (fun g hg => Mem.less_disj hg)).mono fun e w' ⟨r, M', es, he, hr, h1, h2, h3, h4, h5⟩ => ⟨r, he, M', es, hr, h1, h2, h3, h4, h5⟩) fun r w' ⟨M', es, hr, h1, hb, h3, hh, h5⟩ => ?_
  have hB : w0.heap.size ≤ w.heap.size := hs.below.size
  have hk : HS w0.heap.size w' H := hs.heap.keep fun g hg => hb.block g hg
  have hap : ∀ k' x g, k' ≠ 0 → look H k' = some x → x.fp g → M' g ≠ Option.none → False := by
    intro k' x g hne hx hg hm
    cases hmg : M' g with
    | none => exact hm hmg
    | some q =>
      rcases h1.new g q hmg with hq | hq
      · exact hs.heap.apart k' 0 x _ hx hM hne g hg (by simp [HE.fp, hq])
      · have := (hs.heap.sat k' x hx).lt g hg; omega
  have hk0 : HS w0.heap.size w' ((0, .mem M') :: H) := by
    refine ⟨fun i e he => ?_, fun i j e e' hi hj hne => ?_⟩
    · rw [look_cons] at he
      split at he
      · injection he with he; subst he; exact h3
      · exact hk.sat i e he
    · rw [look_cons] at hi hj
      split at hi <;> split at hj
      · omega
      · injection hi with hi; subst hi; rename_i a b; exact fun g h1 h2 => hap j e' g (fun e => b e.symm) hj h2 h1
      · injection hj with hj; subst hj; rename_i a b; exact fun g h1 h2 => hap i e g (fun e => a e.symm) hi h1 h2
      · exact hk.apart i j e e' hi hj hne
  refine hK r _ w' ⟨M', es, hr, h1.mono hB, rfl⟩ (hs.below.trans (hb.mono hB)) (HS.pushA es hk0 k (fun e he => (hh.sat e he).mono hB) hh.apart fun e he k' x hx g hg hg' => ?_)
  rw [look_cons] at hx
  split at hx
  · injection hx with hx; subst hx; exact hg' (h5 e he g hg)
  · have g1 := hh.ge e he g hg
    have g2 := (hs.heap.sat k' x hx).lt g hg'
    omega
theorem RdH.own_less {k : Nat} {M : Mem} (hk : look H k = some (.own E (Lay.sz α) A n c (cel xs))) (hM : look H 0 = some (.mem M)) (h0 : Nat.beq k 0 = false) (w : World) (hb : Below w0.heap.size w0 w) (hh : HS w0.heap.size w H) : SlT ((Mem.snap w).less M) A n c xs :=
  own_SlM (hh.sat k _ hk) fun g o hg hf => by
    have h1 : M g = Option.none := by
      cases hm : M g with
      | none => rfl
      | some q => exact (hh.apart k 0 _ _ hk hM (fun e => by subst e; simp at h0) g hf (by simp [HE.fp, hm])).elim
    rw [Mem.less_of h1]; exact hg
theorem RdH.mem_less {k : Nat} {M Mr : Mem} (hk : look H k = some (.mem Mr)) (hM : look H 0 = some (.mem M)) (h0 : Nat.beq k 0 = false) (h : SlT Mr A n c xs) (w : World) (hb : Below w0.heap.size w0 w) (hh : HS w0.heap.size w H) : SlT ((Mem.snap w).less M) A n c xs :=
  h.mono fun a v hc => by
    unfold Mem.cell? at hc ⊢
    cases hm : Mr a.block with
    | none => rw [hm] at hc; cases hc
    | some q =>
      have h1 : M a.block = Option.none := by
        cases hq : M a.block with
        | none => rfl
        | some q' => exact (hh.apart k 0 _ _ hk hM (fun e => by subst e; simp at h0) a.block (by simp [HE.fp, hm]) (by simp [HE.fp, hq])).elim
      have h2 : w.heap[a.block]? = some q := hh.sat k _ hk a.block q hm
      rw [hm] at hc
      rw [Mem.less_of h1]
      show (match w.heap[a.block]? with | some (.cells c _ _) => _ | _ => _) = _
      rw [h2]; exact hc
theorem len_le {M : Mem} (h : SlT M A n c xs) : xs.length ≤ 9223372036854775807 := by
  have h1 := len_of_cel h
  have h2 := h.le
  have h3 := h.cm
  unfold maxLen at h3; omega
theorem len_leD {M : Mem} {ρ β : Type} [Lay ρ] {R : ρ → β → Prop} {rs : List ρ} {as : List β} (h : SlT M A n c rs) (hq : Rels R rs as) : as.length ≤ 9223372036854775807 := by
  have := len_le h
  rw [← Rels.len hq]; exact this
end
end Go.Proofs.Ytkcccenekglkoaa
