/-
  A small symbolic executor for the walk, part 18: a loop whose first round stands alone, copy into a part of an own slice or of a row, make with a capacity, cutting an own slice, sorting.
  Conditions: none; plain lemmas over any program.
-/
import Derived.Test.YtkcccenekglkoaaX17
import Derived.Lib.AppendZeros
import Derived.Maps.RangeRun
namespace Go.Proofs.Ytkcccenekglkoaa
open Go Go.RowKit
set_option linter.unusedVariables false

section
variable {P : Program} {N : Nat} {w0 : World} {env : Env} {H : Heap} {Q : Exit → Act → World → Prop}
/-- a loop whose first round begins otherwise than the later ones -/
theorem WC.loopPeel {c : Code} {σ : Type} (E : σ → Env) (G : σ → Heap) (I : σ → Prop) (μ : σ → Nat) (m0 : Nat)
    (first : ∀ K : Act → World → Prop, (∀ s' e h, I s' → μ s' < m0 + 1 → Sub (E s') e → Sub (G s') h → KK N w0 K e h) → WC P N w0 c (Exit.then K Q) env H)
    (round : ∀ s, I s → ∀ K : Act → World → Prop, (∀ s' e h, I s' → μ s' < μ s → Sub (E s') e → Sub (G s') h → KK N w0 K e h) → WC P N w0 c (Exit.then K Q) (E s) (G s)) :
    WC P N w0 (.loop c) Q env H := by
  intro a w hs
  refine wp_loop_ghost (fun n a w => (n = m0 + 1 ∧ St N w0 env H a w) ∨ ∃ s, I s ∧ μ s = n ∧ St N w0 (E s) (G s) a w) (m0 + 1) (.inl ⟨rfl, hs⟩) ?_
  rintro n a w (⟨rfl, hst⟩ | ⟨s, hI, rfl, hst⟩)
  · exact first _ (fun s' e h hI' hlt he hh a w hs' => ⟨μ s', hlt, .inr ⟨s', hI', rfl, hs'.weaken he hh⟩⟩) a w hst
  · exact round s hI _ (fun s' e h hI' hlt he hh a w hs' => ⟨μ s', hlt, .inr ⟨s', hI', rfl, hs'.weaken he hh⟩⟩) a w hst
end

section
variable {H : Heap} {E : TypeId} {sz : Nat} {A : Option Addr} {n c : Nat}
theorem HStep.cutOwn {n' : Nat} {us : List Value} (k : Nat) (hk : look H k = some (.own E sz A n c us)) (hn : n' ≤ n) : HStep H ((k, .own E sz A n' c (us.take (n' * sz))) :: H) := fun B w h => by
  refine h.set k _ (Nat.le_refl _) (fun _ _ _ => rfl) ?_ (fun i hi => .inl ⟨_, hk, hi⟩)
  rcases h.sat k _ hk with ⟨hl, h1⟩ | ⟨h1, h2, h3⟩
  · left
    have hmul : n' * sz ≤ n * sz := Nat.mul_le_mul_right _ hn
    refine ⟨by rw [List.length_take, hl]; omega, ?_⟩
    rcases h1 with ⟨hv, hx⟩ | ⟨g, cap, cur, hv, hb, hg, hnc, hcm, hcs, ht⟩
    · left
      obtain ⟨e1, e2, e3⟩ := Value.slice.inj hv
      have e0 : n' = 0 := by omega
      exact ⟨by rw [e1, e0, e3], e0⟩
    · right
      obtain ⟨e1, _, e3⟩ := Value.slice.inj hv
      subst e1; subst e3
      refine ⟨g, c, cur, rfl, hb, hg, by omega, hcm, hcs, ?_⟩
      rw [← ht, List.take_take, Nat.min_eq_left hmul]
  · right
    subst h1; subst h3
    obtain rfl : n' = 0 := by omega
    exact ⟨rfl, h2, by simp⟩
theorem HStep.cutZero {α : Type} [Lay α] {xs : List α} (k : Nat) (hk : look H k = some (.own E (Lay.sz α) A n c (cel xs))) : HStep H ((k, .own E (Lay.sz α) A 0 c (cel ([] : List α))) :: H) := by
  have := HStep.cutOwn (n' := 0) k hk (Nat.zero_le _)
  rwa [Nat.zero_mul, List.take_zero] at this
end

section
variable {P : Program} {N : Nat} {w0 : World} {env : Env} {H : Heap} {α : Type} [Lay α] {xs ys bs : List α} {A : Option Addr} {n c bytes : Nat} {z : Value}
variable {d : Option Tmp} {ty T E : TypeId} {pos : String} {after : Array Edge} {g : Option (Nat × Bool)} {x y : Operand}
/-- make with a capacity and no elements -/
theorem Eff.makeCap (k : Nat) (a0 : α) {m m0 : Int} {kl kc : IntKind} {u0 : Value} {ys : List α} (hT : STy P T E u0 1 bytes) (h1 : Lay.sz α = 1) (h0 : Lay.enc a0 = [u0]) (hk : look H k = none) (hx : evl env x = some (.int kl m0)) (hy : evl env y = some (.int kc m)) (hm0 : m0 = 0) (h : mks bytes m a0 = some ys) :
    Eff P N w0 env H ⟨d, .makeSlice T x y, ty, pos, after, g⟩ fun v H' => ∃ gb, v = .slice (some ⟨gb, 0, none⟩) 0 m.toNat ∧ H' = (k, .own E (Lay.sz α) (some ⟨gb, 0, none⟩) 0 m.toNat (cel ([] : List α))) :: H := by
  subst hm0
  obtain ⟨⟨h2, hb, hby⟩, rfl⟩ := mks_some h
  have hz : u0.oneCell' = true := Lay.one a0 u0 (by rw [h0]; exact List.mem_cons_self ..)
  refine eff_of_value fun a w hs => ?_
  have hB := hs.below.size
  obtain ⟨i, hi, hzz, hsz, hbb⟩ := hT.info
  have hcz : u0.cells = #[u0] := by cases u0 <;> simp [Value.oneCell'] at hz <;> rfl
  have hr := run_make (P := P) w T E i u0 hT.under hi hzz kl kc 0 m (Int.le_refl _) h2 (by
    rw [hbb]; have : ((bytes * m.toNat : Nat) : Int) ≤ 281474976710656 := by omega
    rw [Int.natCast_mul, Int.toNat_of_nonneg h2] at this; exact this) (by omega)
  rw [hsz, hcz, Nat.mul_one] at hr
  have e : madeCells #[u0] m.toNat = (List.replicate m.toNat u0).toArray := by
    apply Array.toList_inj.1; rw [toList_madeCells_one]
  rw [e] at hr
  refine ⟨_, w.alloc (.cells (List.replicate m.toNat u0).toArray E), _, ?_, ⟨w.heap.size, rfl, rfl⟩, hs.below.alloc hB _, hs.heap.new hB k hk _ _ ?_ (fun g hg => by first | exact hg.symm | (obtain ⟨_, a, ha, hb⟩ := hg; injection ha with ha; subst ha; exact hb.symm))⟩
  · simp [execOp, hs.eval hx, hs.eval hy, hr]
  · have := World.ownsRow_lit (base := w0.heap.size) (e := E) (size := 1) w (List.replicate m.toNat u0).toArray m.toNat hB (by simp only [maxLen]; omega) (by simp)
    refine Or.inl ⟨by simp [cel], ?_⟩
    rcases this.2 with ⟨hv, hx⟩ | ⟨g, cap, cur, hv, hb, hg, hnc, hcm, hcs, ht⟩
    · cases hv
    · right
      obtain ⟨e1, _, e3⟩ := Value.slice.inj hv
      injection e1 with e1; injection e1 with e1
      subst e1; subst e3
      refine ⟨_, _, cur, rfl, hb, hg, Nat.zero_le _, hcm, by rw [h1]; exact hcs, by simp [cel]⟩

theorem cpy_nil {α : Type} (xs ys : List α) (l : Nat) : cpy xs l l ys = xs := by
  unfold cpy; rw [Nat.sub_self]; simp
theorem take_mid {β : Type} (cur cs : List β) {lo n : Nat} (h : lo + cs.length ≤ n) (hn : n ≤ cur.length) : (cur.take lo ++ cs ++ cur.drop (lo + cs.length)).take n = (cur.take n).take lo ++ cs ++ (cur.take n).drop (lo + cs.length) := by
  have hl : (cur.take lo ++ cs).length = lo + cs.length := by simp; omega
  rw [List.take_append, hl, List.take_of_length_le (by omega), List.drop_take, List.take_take, Nat.min_eq_left (by omega)]
/-- copy into the part lo..hi of a slice of the call's own -/
theorem Eff.copyS (k : Nat) {lo hi : Int} {s : Operand} {m c' : Nat} {A' : Option Addr} (hT : STy P T E z 1 bytes) (h1 : Lay.sz α = 1)
    (hs1 : evl env s = some (.slice (subA A c lo.toNat (Lay.sz α)) bs.length (c - lo.toNat))) (hcut : slc xs lo hi = some bs) (hk : look H k = some (.own E (Lay.sz α) A n c (cel xs)))
    (hx : evl env x = some (.slice A' m c')) (hr : RdT w0 H A' m c' ys) :
    Eff P N w0 env H ⟨d, .call ⟨.builtin .copy, #[s, x], #[T, T]⟩, ty, pos, after, g⟩ fun v H' => v = I64 (Nat.min ys.length bs.length : Nat) ∧ H' = (k, .own E (Lay.sz α) A n c (cel (cpy xs lo.toNat hi.toNat ys))) :: H :=
  eff_of_value fun a w hs => by
    obtain ⟨⟨hl0, hlh, hhx⟩, hbs, hbl⟩ := slc_some hcut
    have hsat := hs.heap.sat k _ hk
    have hsrc := hr w hs.below hs.heap
    have hxl : xs.length = n := (len_of_cel (own_SlR hsat)).symm
    have hyl : ys.length = m := (len_of_cel hsrc).symm
    rcases Nat.eq_zero_or_pos bs.length with h0 | h2
    · have hlc : ∀ ad : Addr, (loadCells ad 0).run P w = .ok #[] w := fun ad => run_loadCells_list (P := P) w ad [] (fun j v hj => by simp at hj)
      have hrun : ∀ (A : Option Addr) (c : Nat), (Builtin.copy_ #[T, T] ty #[.slice A bs.length c, .slice A' m c']).run P w = .ok (I64 (Nat.min ys.length bs.length : Nat)) w := by
        intro A c
        rw [h0]
        have hsz := hT.size
        cases hq : P.info? E with
        | none => simp [hq] at hsz
        | some i => cases A <;> cases A' <;> simp [Builtin.copy_, run_underlying hT.under, Builtin.lenOf, Builtin.firstCells, sizeOf, typeInfo, hq, storeCells, goInt, hlc]
      have e : cpy xs lo.toNat hi.toNat ys = xs := by rw [show hi.toNat = lo.toNat from by omega]; exact cpy_nil xs ys _
      refine ⟨_, w, _, ?_, ⟨rfl, rfl⟩, hs.below, hs.heap.set k _ (Nat.le_refl _) (fun _ _ _ => rfl) (by rw [e]; exact hsat) (fun _ hf => .inl ⟨_, hk, hf⟩)⟩
      simp [execOp, resolve, invoke, builtin, hs.eval hs1, hs.eval hx, hrun]
    have ho : w.ownsRow w0.heap.size E (Lay.sz α) (.slice A n c) n (cel xs) := by
      rcases hsat with h | ⟨h, _⟩
      · exact h
      · omega
    rcases ho.2 with ⟨_, h0⟩ | ⟨gb, cap, cur, hv, hb, hg, hnc, hcm, hcs, htk⟩
    · omega
    injection hv with hA hn hc
    subst hA; subst hc
    rw [h1] at htk hcs
    have hcl : cur.toList.length = c := by simpa using hcs
    have hlt : gb < w.heap.size := (Array.getElem?_eq_some_iff.1 hg).1
    have hmin : (cel (ys.take bs.length)).length = Nat.min m bs.length := by rw [cel_length, h1, List.length_take, hyl, Nat.mul_one]; exact Nat.min_comm bs.length m
    have hmle : Nat.min m bs.length ≤ bs.length := Nat.min_le_right _ _
    have hsub : subA (some ⟨gb, 0, none⟩) c lo.toNat (Lay.sz α) = some ⟨gb, lo.toNat, none⟩ := by
      have hne : ¬ c = lo.toNat := by omega
      unfold subA; rw [if_neg hne, h1, Nat.mul_one, Option.map_some]; simp only [Addr.add, Nat.zero_add]
      split
      · rename_i e; rw [e]
      · rfl
    rw [hsub] at hs1
    have hrun : (Builtin.copy_ #[T, T] ty #[.slice (some ⟨gb, lo.toNat, none⟩) bs.length (c - lo.toNat), .slice A' m c']).run P w =
        .ok (I64 (Nat.min ys.length bs.length : Nat)) (w.setRow gb (cur.toList.take lo.toNat ++ cel (ys.take bs.length) ++ cur.toList.drop (lo.toNat + (cel (ys.take bs.length)).length)).toArray) := by
      cases A' with
      | some ad =>
        have hrun := run_copy_row (P := P) w T T ty E gb lo.toNat bs.length (c - lo.toNat) ad m c' cur E (cel (ys.take bs.length)) hT.under hT.size hg hmin
          (fun j v hj => (hsrc.cells j v (by
            have e : cel (ys.take bs.length) = (cel ys).take (bs.length * Lay.sz α) := (cel_take ys bs.length).symm
            rw [e, List.getElem?_take] at hj
            split at hj
            · exact hj
            · cases hj)).2) (by rw [hmin]; have := hcl; simp at this; omega) (cel_one _)
        rw [hrun, hmin, hyl]; rfl
      | none =>
        have hm0 : m = 0 := by
          rcases Nat.eq_zero_or_pos m with h | h
          · exact h
          · have hpos : 0 < (cel ys).length := by rw [cel_length, h1]; omega
            have := (hsrc.cells 0 _ (List.getElem?_eq_getElem hpos)).1
            simp at this
        have hys : ys = [] := List.length_eq_zero_iff.1 (by omega)
        subst hys
        have e0 : (cur.toList.take lo.toNat ++ cel (([] : List α).take bs.length) ++ cur.toList.drop (lo.toNat + (cel (([] : List α).take bs.length)).length)).toArray = cur := by simp [cel]
        rw [e0, setRow_self w gb cur _ _ hg]
        have hsz := hT.size
        cases hq : P.info? E with
        | none => simp [hq] at hsz
        | some i => simp [Builtin.copy_, run_underlying hT.under, Builtin.lenOf, Builtin.firstCells, sizeOf, typeInfo, hq, storeCells, goInt]; exact .inl hm0
    refine ⟨_, w.setRow gb (cur.toList.take lo.toNat ++ cel (ys.take bs.length) ++ cur.toList.drop (lo.toNat + (cel (ys.take bs.length)).length)).toArray, _, ?_, ⟨rfl, rfl⟩,
      hs.below.trans ⟨rfl, rfl, rfl, by simp, fun i hi => setRow_other w gb i _ (by omega)⟩,
      hs.heap.set k _ (by simp) (fun i hi hne => setRow_other w gb i _ (fun e => hne _ hk ⟨by omega, _, rfl, e.symm⟩)) (.inl ?_) (fun _ hf => .inl ⟨_, hk, hf⟩)⟩
    · simp [execOp, resolve, invoke, builtin, hs.eval hs1, hs.eval hx, hrun]
    · have hzl : (cpy xs lo.toNat hi.toNat ys).length = n := by simp only [cpy, List.length_append, List.length_take, List.length_drop]; omega
      refine ⟨by rw [cel_length, hzl], .inr ⟨gb, c, _, rfl, hb, setRow_heap w gb _ _ E _ hg, hnc, hcm, ?_, ?_⟩⟩
      · rw [h1, Nat.mul_one]
        simp only [List.size_toArray, List.length_append, List.length_take, List.length_drop, hmin]; omega
      · rw [Nat.mul_one] at htk
        rw [h1, Nat.mul_one, take_mid _ _ (by rw [hmin]; omega) (by omega), htk, hmin, cpy, cel_append, cel_append, ← cel_take xs lo.toNat, ← cel_drop xs, h1, Nat.mul_one, Nat.mul_one, ← hbl, hyl]
        rw [show Nat.min m bs.length = min bs.length m from Nat.min_comm m bs.length]
end

/-! ### a part of a row -/
section
variable {P : Program} {N : Nat} {w0 : World} {env : Env} {H : Heap} {α : Type} [Lay α] {hs : List Hdr} {e e' : List (List α)} {ys bs b : List α} {bytes : Nat} {z : Value}
variable {d : Option Tmp} {ty T E : TypeId} {pos : String} {after : Array Edge} {g : Option (Nat × Bool)} {x y : Operand}
theorem RdT.push {α : Type} [Lay α] {H' : Heap} {A : Option Addr} {n c : Nat} {xs : List α} (h : RdT w0 H A n c xs) (st : HStep H' H) : RdT w0 H' A n c xs := fun w hb hh => h w hb (st _ _ hh)
/-- copy into the part lo..hi of a row; what is copied lies elsewhere -/
theorem Eff.copyRow (k : Nat) {lo hi i : Int} {r : Hdr} {s : Operand} {m c' : Nat} {A' : Option Addr} {M : Mem} (hT : STy P T E z 1 bytes) (h1 : Lay.sz α = 1)
    (hs1 : evl env s = some (.slice (subA r.A r.c lo.toNat (Lay.sz α)) bs.length (r.c - lo.toNat))) (hcut : slc b lo hi = some bs)
    (hk : look H k = some (.rows E (Lay.sz α) (rws hs e))) (hr : idx hs i = some r) (hb : idx e i = some b) (hx : evl env x = some (.slice A' m c')) (h0 : Nat.beq k 0 = false) (hM : look H 0 = some (.mem M)) (hy : SlT M A' m c' ys)
    (h' : upd e i (cpy b lo.toNat hi.toNat ys) = some e') :
    Eff P N w0 env H ⟨d, .call ⟨.builtin .copy, #[s, x], #[T, T]⟩, ty, pos, after, g⟩ fun v H' => v = I64 (Nat.min ys.length bs.length : Nat) ∧ H' = (k, .rows E (Lay.sz α) (rws hs e')) :: H := by
  obtain ⟨kf, hf, hn⟩ := fresh_for H k
  refine Eff.via (HStep.rowOut hf hk hr hb) (Eff.copyS kf (n := r.n) (xs := b) hT h1 hs1 hcut (look_cons_same _ _ _) hx (RdH.memM (k := 0) (M := M) ?_ hy)) ?_
  · have e1 : k ≠ 0 := fun e => by subst e; simp at h0
    rw [look_cons_ne _ _ (by omega), look_cons_ne _ _ e1]; exact hM
  · rintro v H2 ⟨rfl, rfl⟩
    exact ⟨_, HStep.rowBack hf hn hr h', rfl, rfl⟩
/-- a slice of the call's own, cut: it is the slice from now on -/
theorem HStep.cutTo {E : TypeId} {A : Option Addr} {n c : Nat} {xs bs : List α} {hi : Int} (k : Nat) (hk : look H k = some (.own E (Lay.sz α) A n c (cel xs))) (h : slc xs 0 hi = some bs) : HStep H ((k, .own E (Lay.sz α) A bs.length c (cel bs)) :: H) := fun B w hh => by
  obtain ⟨h1, h2, h3⟩ := slc_some h
  have e1 : n = xs.length := len_of_cel (own_SlR (hh.sat k _ hk))
  have e3 : cel bs = (cel xs).take (bs.length * Lay.sz α) := by
    conv => lhs; rw [h2]
    rw [h3, Int.toNat_zero, Nat.sub_zero, List.drop_zero]; exact (cel_take xs _).symm
  rw [e3]; exact HStep.cutOwn k hk (by omega) B w hh
/-- append(nil, make([]T, n)...) -/
theorem Eff.appendNZ (k : Nat) (a0 : α) {Tn : TypeId} {m : Int} {kl kn : IntKind} {u0 : Value} {s : Operand} {vs : List α} (hT : STy P T E u0 1 bytes) (h1 : Lay.sz α = 1) (h0 : Lay.enc a0 = [u0]) (hTn : P.underlying Tn = some (.int kn)) (hk : look H k = none)
    (hs1 : evl env s = some (.slice none 0 0)) (hx : evl env x = some (.int kl m)) (hpos : 0 < m) (h : mks bytes m a0 = some vs) :
    Eff P N w0 env H ⟨d, .call ⟨.builtin .append, #[s, x], #[T, Tn]⟩, ty, pos, after, g⟩ fun v H' => ∃ A2 c2, v = .slice A2 vs.length c2 ∧ H' = (k, .own E (Lay.sz α) A2 vs.length c2 (cel vs)) :: H := by
  obtain ⟨⟨_, hb, hby⟩, rfl⟩ := mks_some h
  refine eff_of_value fun a w hs => ?_
  obtain ⟨i, hi, hzz, hsz, hbb⟩ := hT.info
  have hz : u0.oneCell' = true := Lay.one a0 u0 (by rw [h0]; exact List.mem_cons_self ..)
  have hcz : u0.cells = #[u0] := by cases u0 <;> simp [Value.oneCell'] at hz <;> rfl
  have hm : ((m.toNat : Nat) : Int) = m := Int.toNat_of_nonneg (by omega)
  have hrun := Lib.run_append_nil_zeros (P := P) w T Tn ty E i u0 kl kn hT.under hTn hi hzz m.toNat (by omega) (by omega) (by omega) (by rw [hbb, Nat.mul_comm]; exact hby)
  rw [hm] at hrun
  have hge := grownCap_ge w m.toNat 0 E
  have hcm : grownCap w m.toNat 0 E ≤ maxLen := grownCap_le_maxLen w m.toNat 0 E (by simp only [maxLen]; omega)
  have hB := hs.below.size
  have hdr : HS w0.heap.size w.drew H := hs.heap.keep fun _ _ => rfl
  have hzc : ∀ n, (Builtin.zeroCells u0.cells n).toList = List.replicate n u0 := fun n => by
    rw [hcz]
    refine List.ext_getElem (by simp [Builtin.zeroCells]) fun j h1 h2 => ?_
    simp [Builtin.zeroCells, Nat.mod_one]
  refine ⟨_, w.drew.alloc (.cells (Builtin.zeroCells u0.cells m.toNat ++ Builtin.zeroCells u0.cells (grownCap w m.toNat 0 E - m.toNat)) E), (k, .own E (Lay.sz α) (some ⟨w.heap.size, 0, none⟩) (List.replicate m.toNat a0).length (grownCap w m.toNat 0 E) (cel (List.replicate m.toNat a0))) :: H, ?_, ⟨some ⟨w.heap.size, 0, none⟩, grownCap w m.toNat 0 E, rfl, rfl⟩, (hs.below.drew).alloc hB _, hdr.set k _ (by simp) (fun g hg _ => Below.heap_alloc w.drew _ g hg) (.inl ?_) (fun g hg => .inr ?_)⟩
  rotate_left
  · refine ⟨by rw [cel_length], .inr ⟨w.heap.size, _, _, rfl, hB, heap_alloc_new w.drew _, by rw [List.length_replicate]; exact hge, hcm, ?_, ?_⟩⟩
    · rw [h1, Nat.mul_one, ← Array.length_toList, Array.toList_append, List.length_append, hzc, hzc, List.length_replicate, List.length_replicate]; omega
    · rw [h1, Nat.mul_one, Array.toList_append, hzc, hzc, cel_replicate1 _ _ h0, List.length_replicate]
      exact List.take_left' (List.length_replicate ..)
  · obtain ⟨_, a, ha, hb⟩ := hg
    injection ha with ha; subst ha
    have e1 : w.heap.size = g := hb
    have e2 : w.drew.heap.size = w.heap.size := rfl
    omega
  · rw [List.length_replicate]
    simp [execOp, resolve, invoke, builtin, hs.eval hs1, hs.eval hx, hrun]
theorem Yld.sliceNil {α : Type} [Lay α] {E : TypeId} {z : Value} {bytes : Nat} {h : Int} {kh : IntKind} {hi : Operand} (hT : STy P T E z (Lay.sz α) bytes) (hx : evl env x = some (.slice none 0 0)) (hh : evl env hi = some (.int kh 0)) :
    Yld P N w0 env H ⟨d, .slice T x none (some hi) none, ty, pos, after, g⟩ (.slice none 0 0) := Yld.sliceHC (xs := ([] : List α)) (ys := []) hT hx hh RdT.nil (by rw [slc_of (by simp)]; simp)
/-- cap of nil -/
theorem Yld.capNil {E : TypeId} (hT : P.underlying T = some (.slice E)) (hx : evl env x = some (.slice none 0 0)) : Yld P N w0 env H ⟨d, .call ⟨.builtin .cap, #[x], #[T]⟩, ty, pos, after, g⟩ (I64 0) := fun a w hs => by
  simp [execOp, resolve, invoke, builtin, hs.eval hx, Builtin.cap_, run_underlying hT, goInt, I64]
theorem Yld.lenNil {E : TypeId} (hT : P.underlying T = some (.slice E)) (hx : evl env x = some (.slice none 0 0)) : Yld P N w0 env H ⟨d, .call ⟨.builtin .len, #[x], #[T]⟩, ty, pos, after, g⟩ (I64 0) := fun a w hs => by
  simp [execOp, resolve, invoke, builtin, hs.eval hx, Builtin.len_, run_underlying hT, goInt, I64]
end

theorem HStep.rowsRepE {H : Heap} {rs : List ORow} {m : Nat} (k : Nat) (E : TypeId) (sz : Nat) (he : List.replicate m (none, 0, 0, []) = rs) : HStep H ((k, .rows E sz rs) :: H) := by subst he; exact HStep.rowsRep k E sz m
theorem HStep.rowsPutE {H : Heap} {E : TypeId} {sz n c : Nat} {A : Option Addr} {xs : List Value} {rs rs' : List ORow} (k k' i : Nat) (hne : Nat.beq k k' = false) (he : rs.set i (A, n, c, xs) = rs') (hk : look H k = some (.rows E sz rs)) (hk' : look H k' = some (.own E sz A n c xs)) :
    HStep H ((k, .rows E sz rs') :: (k', .emp) :: H) := by subst he; exact HStep.rowsPut k k' i hne hk hk'
theorem ckl {z x : Int} (h : z = x) (h2 : -9223372036854775808 ≤ x ∧ x ≤ 9223372036854775807) : ck z = some x := by subst h; exact ck_of h2
/-! ### ranges over maps -/
section
variable {P : Program} {N : Nat} {w0 : World} {env : Env} {H : Heap} {κ ν : Type} [BEq κ] [MKey κ] {ev : ν → Value} {es : List MapEntry} {m left : List (κ × ν)} {cl gb r : Nat} {seen : Array Nat}
variable {d : Option Tmp} {ty T E : TypeId} {pos : String} {after : Array Edge} {g : Option (Nat × Bool)} {x y : Operand}
/-- the model's stamps: all below the clock, no two alike -/
def Stamps (es : List MapEntry) (cl : Nat) : Prop := (∀ x ∈ es, x.born < cl) ∧ (es.map (·.born)).Nodup
def MapT {κ ν : Type} [BEq κ] [MKey κ] (ev : ν → Value) (es : List MapEntry) (cl : Nat) (m : List (κ × ν)) : Prop := MapR ev es m ∧ Stamps es cl
theorem MapT.nil : MapT ev [] cl ([] : List (κ × ν)) := ⟨MapR.nil, fun _ h => (by cases h), List.Pairwise.nil⟩
theorem Eff0R.mapUpdT {Tk : TypeId} {q : κ} {v : ν} {u : Operand} (k : Nat) (hT : P.underlying T = some (.map Tk E)) (hk1 : P.underlying Tk = some (MKey.kind κ))
    (hx : evl env x = some (.map (some gb))) (hy : evl env y = some (MKey.ek q)) (hu : evl env u = some (ev v)) (hk : look H k = some (.obj gb (.map es.toArray cl))) (hm : MapT ev es cl m) :
    Eff0R P N w0 env H ⟨none, .mapUpdate T x y u, ty, pos, after, g⟩ fun H' => ∃ es' cl', MapT ev es' cl' (mset m q v) ∧ H' = (k, .obj gb (.map es'.toArray cl')) :: H := by
  obtain ⟨hm, hs1, hs2⟩ := hm
  intro a w K Q hs hK
  obtain ⟨h1, h2⟩ : w0.heap.size ≤ gb ∧ w.heap[gb]? = some (.map es.toArray cl) := hs.heap.sat k _ hk
  unfold Oper.wp
  rcases find_map q v es m 0 hm with ⟨g1, g2, g3⟩ | ⟨t, u', e, g1, g2, g3, g4, g5⟩
  · have hr : (execOp a.eval ⟨none, .mapUpdate T x y u, ty, pos, after, g⟩).run P w = .ok .skip { w with heap := w.heap.setIfInBounds gb (.map (es ++ [({ key := MKey.ek q, val := ev v, born := cl } : MapEntry)]).toArray (cl + 1)) } := by
      simp [execOp, hs.eval hx, hs.eval hy, hs.eval hu, Instr.mapUpdate, run_underlying hT, run_getObj h2, run_checkKey hk1, Instr.findKey, run_underlying hk1, g1, run_setObj _ h2]
    rw [hr]
    refine hK _ _ ⟨_, _, ⟨?_, ?_, ?_⟩, rfl⟩ (below_set hs.below h1 _) (obj_set hs.heap hk _)
    · unfold MapR at hm ⊢
      rw [g3, List.map_append, hm, List.map_append]; rfl
    · intro z hz
      rcases List.mem_append.1 hz with hz | hz
      · have := hs1 z hz; omega
      · rw [List.mem_singleton] at hz; subst hz; exact Nat.lt_succ_self _
    · rw [List.map_append, List.nodup_append]
      refine ⟨hs2, by simp, ?_⟩
      intro a ha b hb
      obtain ⟨z, hz, rfl⟩ := List.mem_map.1 ha
      simp at hb; subst hb
      have := hs1 z hz; omega
  · have hkey : Instr.sameBits 10000 ((es[t]?.map (·.key)).getD (MKey.ek q)) (MKey.ek q) = true := by rw [g3]; exact g4
    have hr : (execOp a.eval ⟨none, .mapUpdate T x y u, ty, pos, after, g⟩).run P w = .ok .skip { w with heap := w.heap.setIfInBounds gb (.map (es.modify t fun e => { e with key := MKey.ek q, val := ev v }).toArray cl) } := by
      have e0 : (es.toArray.modify t fun e => { e with key := MKey.ek q, val := ev v }) = (es.modify t fun e => { e with key := MKey.ek q, val := ev v }).toArray := by simp
      simp only [Nat.zero_add] at g1
      simp [execOp, hs.eval hx, hs.eval hy, hs.eval hu, Instr.mapUpdate, run_underlying hT, run_getObj h2, run_checkKey hk1, Instr.findKey, run_underlying hk1, g1, Instr.keyThatStays, hkey, run_setObj _ h2]
    rw [hr]
    have hb : (es.modify t fun e => { e with key := MKey.ek q, val := ev v }).map (·.born) = es.map (·.born) := by
      refine List.ext_getElem? fun j => ?_
      simp only [List.getElem?_map, List.getElem?_modify]
      cases es[j]? with
      | none => rfl
      | some z => by_cases hj : t = j <;> simp [hj]
    refine hK _ _ ⟨_, _, ⟨g5, fun z hz => ?_, by rw [hb]; exact hs2⟩, rfl⟩ (below_set hs.below h1 _) (obj_set hs.heap hk _)
    have hz' : z.born ∈ es.map (·.born) := by rw [← hb]; exact List.mem_map.2 ⟨z, hz, rfl⟩
    obtain ⟨y', hy', e1⟩ := List.mem_map.1 hz'
    rw [← e1]; exact hs1 _ hy'
/-- what is still to come -/
def ItR {κ ν : Type} (es : List MapEntry) (m : List (κ × ν)) (seen : Array Nat) (left : List (κ × ν)) : Prop := (((es.zip m).filter fun x => !seen.contains x.1.born).map Prod.snd).Perm left
theorem MapR.len (h : MapR ev es m) : es.length = m.length := by have := congrArg List.length h; simpa using this
theorem ItR.start (h : MapT ev es cl m) : ItR es m #[] m := by
  unfold ItR
  rw [List.filter_eq_self.2 (fun _ _ => by simp), List.map_snd_zip (by rw [h.1.len]; exact Nat.le_refl _)]
/-- the entry that came last -/
def LastR {κ ν : Type} [BEq κ] [MKey κ] (ev : ν → Value) (es : List MapEntry) (seen : Array Nat) (p : κ × ν) : Prop := ∃ (e : MapEntry) (sn : Array Nat), e ∈ es ∧ seen = sn.push e.born ∧ e.key = MKey.ek p.1 ∧ e.val = ev p.2
theorem perm_without {α : Type} (f : α → Nat) : ∀ {L : List α} {x : α}, (L.map f).Nodup → x ∈ L → L.Perm (x :: L.filter fun y => !(f y == f x))
  | a :: L, x, hn, hx => by
    rw [List.map_cons, List.nodup_cons] at hn
    by_cases hax : f a = f x
    · have : x = a := by
        rcases List.mem_cons.1 hx with h | h
        · exact h
        · exact absurd (List.mem_map.2 ⟨x, h, hax.symm⟩) hn.1
      subst this
      have e : L.filter (fun y => !(f y == f x)) = L := List.filter_eq_self.2 fun y hy => by
        have : f y ≠ f x := fun e => hn.1 (List.mem_map.2 ⟨y, hy, e⟩)
        simpa using this
      rw [List.filter_cons_of_neg (by simp), e]
    · have hx' : x ∈ L := by
        rcases List.mem_cons.1 hx with h | h
        · exact absurd (by rw [h]) hax
        · exact h
      rw [List.filter_cons_of_pos (by simpa using hax)]
      exact ((perm_without f hn.2 hx').cons a).trans (List.Perm.swap x a _)
theorem perm_lt {α : Type} {l l' : List α} {p : α} (h : l.Perm (p :: l')) : l'.length < l.length := by rw [h.length_eq]; exact Nat.lt_succ_self _
theorem Eff.rangeM {Tk : TypeId} (k ki : Nat) (hT : P.underlying T = some (.map Tk E)) (hx : evl env x = some (.map (some gb))) (hk : look H k = some (.obj gb (.map es.toArray cl))) (hi : look H ki = none) :
    Eff P N w0 env H ⟨d, .range T x, ty, pos, after, g⟩ fun v H' => ∃ r, v = .pointer (some ⟨r, 0, none⟩) ∧ H' = (ki, .obj r (.mapIter (some gb) cl #[] cl)) :: H :=
  eff_of_value fun a w hs => by
    have hB := hs.below.size
    obtain ⟨h1, h2⟩ : w0.heap.size ≤ gb ∧ w.heap[gb]? = some (.map es.toArray cl) := hs.heap.sat k _ hk
    have hr := run_range_map (P := P) w T Tk E gb es.toArray cl hT h2
    refine ⟨_, w.alloc (.mapIter (some gb) cl #[] cl), _, ?_, ⟨w.heap.size, rfl, rfl⟩, hs.below.alloc hB _, hs.heap.new hB ki hi _ _ ⟨hB, heap_alloc_new w _⟩ (fun g hg => (by simpa [HE.fp] using hg.symm))⟩
    simp [execOp, hs.eval hx, hr]
theorem next_step (h : MapT ev es cl m) (hit : ItR es m seen left) {e : MapEntry} (he : e ∈ es) (hne : seen.contains e.born = false) :
    ∃ p left', left.Perm (p :: left') ∧ ItR es m (seen.push e.born) left' ∧ e.key = MKey.ek p.1 ∧ e.val = ev p.2 := by
  obtain ⟨j, hj⟩ := List.mem_iff_getElem?.1 he
  have hl := h.1.len
  have hlt : j < m.length := by have := (List.getElem?_eq_some_iff.1 hj).1; omega
  have hm := List.getElem?_eq_getElem hlt
  have hp := congrArg (fun l => l[j]?) h.1
  simp only [List.getElem?_map, hj, hm, Option.map_some, Option.some.injEq, Prod.mk.injEq] at hp
  have hz : (e, m[j]) ∈ (es.zip m).filter fun x => !seen.contains x.1.born := by
    refine List.mem_filter.2 ⟨List.mem_iff_getElem?.2 ⟨j, ?_⟩, by show (!seen.contains e.born) = true; rw [hne]; rfl⟩
    rw [List.getElem?_zip_eq_some]; exact ⟨hj, hm⟩
  have hn : (((es.zip m).filter fun x => !seen.contains x.1.born).map fun x => x.1.born).Nodup := by
    refine List.Nodup.sublist (List.Sublist.map _ List.filter_sublist) ?_
    have e1 : (es.zip m).map (fun x => x.1.born) = es.map (·.born) := by
      rw [show (fun x : MapEntry × (κ × ν) => x.1.born) = (fun x : MapEntry => x.born) ∘ Prod.fst from rfl, ← List.map_map, List.map_fst_zip (by rw [hl]; exact Nat.le_refl _)]
    rw [e1]; exact h.2.2
  have hpm := perm_without (fun x : MapEntry × (κ × ν) => x.1.born) hn hz
  refine ⟨m[j], (((es.zip m).filter fun x : MapEntry × (κ × ν) => !seen.contains x.1.born).filter fun y : MapEntry × (κ × ν) => !(y.1.born == e.born)).map Prod.snd, (hit.symm.trans (hpm.map Prod.snd)), ?_, hp.1, hp.2⟩
  unfold ItR
  rw [List.filter_filter]
  refine List.Perm.of_eq (congrArg _ (List.filter_congr fun z _ => ?_))
  rw [Array.contains_push]
  cases hc : seen.contains z.1.born <;> by_cases hb : z.1.born = e.born <;> simp [hb]
theorem WL.nextM {ops : Array Oper} {K : Act → World → Prop} {rest : List Oper} {d : Nat} (k ki : Nat) (hd : d < N) (hx : evl env x = some (.pointer (some ⟨r, 0, none⟩))) (hk : look H k = some (.obj gb (.map es.toArray cl))) (hi : look H ki = some (.obj r (.mapIter (some gb) cl seen cl))) (hm : MapT ev es cl m) (hit : ItR es m seen left)
    (h0 : left = [] → WL P N w0 ops K rest ((d, .tuple #[.bool false]) :: env) H)
    (h1 : ∀ p left' seen', left.Perm (p :: left') → ItR es m seen' left' → LastR ev es seen' p → WL P N w0 ops K rest ((d, .tuple #[.bool true, MKey.ek p.1, ev p.2]) :: env) ((ki, .obj r (.mapIter (some gb) cl seen' cl)) :: H)) :
    WL P N w0 ops K (⟨some d, .next x false, ty, pos, after, none⟩ :: rest) env H := by
  intro a w hs
  refine wpList_plain rfl fun K' hK => ?_
  unfold Oper.wp
  obtain ⟨g1, g2⟩ : w0.heap.size ≤ gb ∧ w.heap[gb]? = some (.map es.toArray cl) := hs.heap.sat k _ hk
  obtain ⟨g3, g4⟩ : w0.heap.size ≤ r ∧ w.heap[r]? = some (.mapIter (some gb) cl seen cl) := hs.heap.sat ki _ hi
  rcases run_next_at (P := P) w ty r gb cl cl seen es.toArray cl g4 g2 (by simpa using hm.2.1) (Nat.le_refl _) with ⟨hz, hrun⟩ | ⟨e, he, w1, hw1, hrun⟩
  · simp only [execOp, hs.eval hx, Sem.run_bind, hrun, Result.andThen_ok, Sem.run_pure]
    refine hK _ _ (h0 ?_ _ _ (hs.put hd _))
    have : ((es.zip m).filter fun x => !seen.contains x.1.born) = [] := by
      rw [List.filter_eq_nil_iff]
      rintro ⟨e, p⟩ hep hc
      have hmem := (List.of_mem_zip hep).1
      have h9 : leftOf es.toArray seen = #[] := Array.eq_empty_of_size_eq_zero hz
      have : e ∈ leftOf es.toArray seen := by unfold leftOf; exact Array.mem_filter.2 ⟨by simpa using hmem, hc⟩
      rw [h9] at this; simp at this
    have h2 := hit
    unfold ItR at h2
    rw [this] at h2
    exact h2.symm.eq_nil
  · have he' : e ∈ es ∧ seen.contains e.born = false := by
      have := (Array.mem_filter.1 (show e ∈ leftOf es.toArray seen by simpa using he))
      exact ⟨by simpa using this.1, by simpa using this.2⟩
    obtain ⟨p, left', q1, q2, q3, q4⟩ := next_step hm hit he'.1 he'.2
    simp only [execOp, hs.eval hx, Sem.run_bind, hrun, Result.andThen_ok, Sem.run_pure]
    rw [q3, q4]
    have hs1 : St N w0 env H a w1 := by
      rcases hw1 with rfl | rfl
      · exact hs
      · exact hs.drew
    refine hK _ _ (h1 p left' _ q1 q2 ⟨e, seen, he'.1, rfl, q3, q4⟩ _ _ ?_)
    exact hs1.putH hd _ (below_set hs1.below g3 _) (obj_set hs1.heap hi _)
theorem Yld.entryM {p : κ × ν} (k ki : Nat) (hx : evl env x = some (.pointer (some ⟨r, 0, none⟩))) (hk : look H k = some (.obj gb (.map es.toArray cl))) (hi : look H ki = some (.obj r (.mapIter (some gb) cl seen cl))) (hm : MapT ev es cl m) (hl : LastR ev es seen p) :
    Yld P N w0 env H ⟨d, .entry x, ty, pos, after, g⟩ (.tuple #[MKey.ek p.1, ev p.2]) := fun a w hs => by
  obtain ⟨g1, g2⟩ : w0.heap.size ≤ gb ∧ w.heap[gb]? = some (.map es.toArray cl) := hs.heap.sat k _ hk
  obtain ⟨g3, g4⟩ : w0.heap.size ≤ r ∧ w.heap[r]? = some (.mapIter (some gb) cl seen cl) := hs.heap.sat ki _ hi
  obtain ⟨e, sn, h1, rfl, h3, h4⟩ := hl
  have hr := run_entry_at (P := P) w r gb cl sn es.toArray cl e g4 g2 (by simpa using h1) (by simpa using hm.2.2)
  rw [h3, h4] at hr
  simp [execOp, hs.eval hx, hr]
end

/-! ### short forms inside fences -/
namespace Z
section
variable {P : Program} {N : Nat} {w0 : World} {env : Env} {H Hro : Heap} {ops : Array Oper} {r : Option Nat} {Q : Exit → Act → World → Prop}
theorem sd {id n : Nat} {y : Code} (Hro : Heap) (hm : P.follows .mixedOrders = true) (h : ∀ K : Act → World → Prop, (∀ e h, WC P N w0 r [] y Q e h → Go.Proofs.Ytkcccenekglkoaa.KK N w0 K e h) → WD P N w0 ops K Hro n (Array.replicate n false) env H) (hn : ops.size = n := by exact rfl) (hsub : Sub Hro H := by repeat (first | exact sn | refine sc ?_)) : WC P N w0 r [] (.seq (.region id ops true) y) Q env H := WC.seqRegionD Hro hn hm hsub h
theorem rd {id n : Nat} (Hro : Heap) (hm : P.follows .mixedOrders = true) (h : ∀ K : Act → World → Prop, (∀ e h, QK N w0 [] Q .normal e h → Go.Proofs.Ytkcccenekglkoaa.KK N w0 K e h) → WD P N w0 ops K Hro n (Array.replicate n false) env H) (hn : ops.size = n := by exact rfl) (hsub : Sub Hro H := by repeat (first | exact sn | refine sc ?_)) : WC P N w0 r [] (.region id ops true) Q env H := WC.regionD Hro hn hm hsub h
theorem ctd {id n : Nat} {y : Code} (Hro : Heap) {σ : Type} (E : σ → Env) (G : σ → Heap) (I : σ → Prop) (hm : P.follows .mixedOrders = true) (hx : ∀ K : Act → World → Prop, (∀ s, I s → Go.Proofs.Ytkcccenekglkoaa.KK N w0 K (E s) (G s)) → WD P N w0 ops K Hro n (Array.replicate n false) env H) (hy : ∀ s, I s → WC P N w0 r [] y Q (E s) (G s)) (hn : ops.size = n := by exact rfl) (hsub : Sub Hro H := by repeat (first | exact sn | refine sc ?_)) : WC P N w0 r [] (.seq (.region id ops true) y) Q env H :=
  WC.seqRegionDCut Hro E G I hn hm hsub (fun K hK => hx K fun s hi => fun a w hs => hK s _ _ hi (Sub.refl _) (Sub.refl _) a w hs) hy
end
end Z
end Go.Proofs.Ytkcccenekglkoaa
