/-
 A small symbolic executor for the walk, part 4: operations that make or change memory.
 Conditions: none; plain lemmas over any program.
-/
import Derived.Test.YtkcccenekglkoaaX3
import Derived.Maps.AppendAt
import Derived.Deep.DeepAppendWide
namespace Go.Proofs.Ytkcccenekglkoaa
open Go Go.RowKit
set_option linter.unusedVariables false
section
variable {P : Program} {N : Nat} {w0 : World} {env : Env} {H : Heap}
variable {sz : Nat} {A : Option Addr} {n c : Nat} {cs : List Value}
variable {d : Option Tmp} {ty T T' E : TypeId} {pos : String} {after : Array Edge} {g : Option (Nat × Bool)} {x y : Operand} {z : Value} {bytes : Nat}
theorem HS.new {B : Nat} {w : World} (h : HS B w H) (hB : B <= w.heap.size) (k : Nat) (hk : look H k = none) (o : Obj) (e : HE) (he : e.sat B (w.alloc o)) (hf : ∀ g, e.fp g -> g = w.heap.size) :
  HS B (w.alloc o) ((k, e) :: H) :=
 h.set k e (by simp) (fun g hg _ => Below.heap_alloc w o g hg) he (fun g hg => .inr (by have := hf g hg; omega))
theorem eff_of_value {o : Oper} {R : Value -> Heap -> Prop} (h : ∀ a w, St N w0 env H a w -> ∃ v w' H', (execOp a.eval o).run P w = .ok (.value v) w' /\ R v H' /\ Below w0.heap.size w0 w' /\ HS w0.heap.size w' H') :
  Eff P N w0 env H o R := fun a w K Q hs hK => by
 obtain ⟨v, w', H', hr, hR, hb, hh⟩ := h a w hs
 unfold Oper.wp
 rw [hr]
 exact hK v H' w' hR hb hh
theorem eff0_of_skip {o : Oper} {H' : Heap} (h : ∀ a w, St N w0 env H a w -> ∃ w', (execOp a.eval o).run P w = .ok .skip w' /\ Below w0.heap.size w0 w' /\ HS w0.heap.size w' H') :
  Eff0 P N w0 env H o H' := fun a w K Q hs hK => by
 obtain ⟨w', hr, hb, hh⟩ := h a w hs
 unfold Oper.wp
 rw [hr]
 exact hK w' hb hh
theorem Eff.alloc (k : Nat) {us : List Value} (hk : look H k = none) (hz : (P.info? T).map (fun i => i.zero.map (·.cells)) = some (some us.toArray)) :
  Eff P N w0 env H ⟨d, .alloc T, ty, pos, after, g⟩ fun v H' => ∃ gb, v = .pointer (some ⟨gb, 0, none⟩) /\ H' = (k, .blk gb T us) :: H :=
 eff_of_value fun a w hs => by
  cases hi : P.info? T with
  | none => simp [hi] at hz
  | some i =>
   cases hzz : i.zero with
   | none => simp [hi, hzz] at hz
   | some zv =>
    simp [hi, hzz] at hz
    have hB := hs.below.size
    refine ⟨_, w.alloc (.cells us.toArray T), _, ?_, ⟨w.heap.size, rfl, rfl⟩, hs.below.alloc hB _, hs.heap.new hB k hk _ _ ⟨hB, heap_alloc_new w _⟩ (fun g hg => by first | exact hg.symm | (obtain ⟨_, a, ha, hb⟩ := hg; injection ha with ha; subst ha; exact hb.symm))⟩
    simp [execOp, Instr.alloc, zeroValue, typeInfo, hi, hzz, newVar, newRow, hz]
theorem Eff.box (k : Nat) {u : Value} {us : List Value} (hk : look H k = none) (hx : evl env x = some u) (hu : u.cells.toList = us) :
  Eff P N w0 env H ⟨d, .box T x, ty, pos, after, g⟩ fun v H' => ∃ gb, v = .pointer (some ⟨gb, 0, none⟩) /\ H' = (k, .blk gb T us) :: H :=
 eff_of_value fun a w hs => by
  have hB := hs.below.size
  have hu' : u.cells = us.toArray := by rw [<- hu]
  refine ⟨_, w.alloc (.cells us.toArray T), _, ?_, ⟨w.heap.size, rfl, rfl⟩, hs.below.alloc hB _, hs.heap.new hB k hk _ _ ⟨hB, heap_alloc_new w _⟩ (fun g hg => by first | exact hg.symm | (obtain ⟨_, a, ha, hb⟩ := hg; injection ha with ha; subst ha; exact hb.symm))⟩
  simp [execOp, hs.eval hx, Instr.box, newVar, newRow, hu']
theorem blk_setCell {B : Nat} {w : World} (h : HS B w H) {k gb j : Nat} {t : TypeId} {u : Value} (hk : look H k = some (.blk gb t cs)) (hj : j < cs.length) :
  HS B (w.setCell ⟨gb, j, none⟩ u) ((k, .blk gb t (cs.set j u)) :: H) := by
 obtain ⟨h1, h2⟩ : B <= gb /\ w.heap[gb]? = some (.cells cs.toArray t (0, 0)) := h.sat k _ hk
 refine h.set k _ (by simp) (fun g hg hne => heap_setCell_other w ⟨gb, j, none⟩ g u (fun e => hne _ hk (by first | exact e | exact e.symm))) ⟨h1, ?_⟩ (fun g hg => .inl ⟨_, hk, by simpa [HE.fp] using hg⟩)
 have := heap_setCell_same w gb j _ t u h2
 simpa using this
theorem cell_blk {B : Nat} {w : World} (h : HS B w H) {k gb j : Nat} {t : TypeId} (hk : look H k = some (.blk gb t cs)) (hj : j < cs.length) : w.cell? ⟨gb, j, none⟩ = some cs[j] /\ w.frozen? ⟨gb, j, none⟩ = false := by
 obtain ⟨h1, h2⟩ : B <= gb /\ w.heap[gb]? = some (.cells cs.toArray t (0, 0)) := h.sat k _ hk
 exact ⟨by rw [cell_of_row w gb j _ _ _ h2]; simp [hj], frozen_of_row w gb j _ t h2⟩
theorem run_storeVar1 {w : World} {ad : Addr} {u old : Value} (hsz : (P.info? T).map (·.size) = some 1) (hu : u.oneCell' = true) (hc : w.cell? ad = some old) (hf : w.frozen? ad = false) :
  (storeVar T ad u).run P w = .ok () (w.setCell ad u) := by
 have hcells : u.cells = #[u] := by cases u <;> simp [Value.oneCell'] at hu <;> rfl
 have hst : (store ad u).run P w = .ok () (w.setCell ad u) := by rw [run_store P w ad u .plain hu]; simp [hc, hf]
 simp [storeVar, sizeOf_of hsz, hcells, storeCells, add_zero_, hst]
theorem below_setCell {w : World} (hb : Below w0.heap.size w0 w) {gb j : Nat} (h : w0.heap.size <= gb) (u : Value) : Below w0.heap.size w0 (w.setCell ⟨gb, j, none⟩ u) := hb.setCell h u
theorem Eff0.storeB (k : Nat) {gb j : Nat} {t : TypeId} {u : Value} (hsz : (P.info? T).map (·.size) = some 1) (hx : evl env x = some (.pointer (some ⟨gb, j, none⟩))) (hy : evl env y = some u) (hu : u.oneCell' = true)
  (hk : look H k = some (.blk gb t cs)) (hj : j < cs.length) : Eff0 P N w0 env H ⟨none, .store T x y, ty, pos, after, g⟩ ((k, .blk gb t (cs.set j u)) :: H) :=
 eff0_of_skip fun a w hs => by
  obtain ⟨h1, h2⟩ := cell_blk hs.heap hk hj
  obtain ⟨hge, _⟩ : w0.heap.size <= gb /\ w.heap[gb]? = some (.cells cs.toArray t (0, 0)) := hs.heap.sat k _ hk
  refine ⟨_, ?_, below_setCell hs.below hge u, blk_setCell hs.heap hk hj⟩
  simp [execOp, hs.eval hx, hs.eval hy, Instr.storeAt, Instr.sureAddr, run_storeVar1 hsz hu h1 h2]
theorem Eff0.storeBA (k : Nat) {gb : Nat} {t : TypeId} {us : List Value} (hsz : (P.info? T).map (·.size) = some us.length) (hx : evl env x = some (.pointer (some ⟨gb, 0, none⟩))) (hy : evl env y = some (.agg us.toArray))
  (hu : us.all (·.oneCell') = true) (hk : look H k = some (.blk gb t cs)) (hl : cs.length = us.length) : Eff0 P N w0 env H ⟨none, .store T x y, ty, pos, after, g⟩ ((k, .blk gb t us) :: H) :=
 eff0_of_skip fun a w hs => by
  obtain ⟨hge, h2⟩ : w0.heap.size <= gb /\ w.heap[gb]? = some (.cells cs.toArray t (0, 0)) := hs.heap.sat k _ hk
  have hr := run_storeVar_row (P := P) w gb t T cs.toArray us.toArray h2 (by simpa using hsz) (by simpa using hl) (by simpa using hu)
  refine ⟨w.setRow gb us.toArray, ?_, hs.below.trans ⟨rfl, rfl, rfl, by simp, fun i hi => setRow_other w gb i _ (by omega)⟩,
   hs.heap.set k _ (by simp) (fun i hi hne => setRow_other w gb i _ (fun e => hne _ hk (by first | exact e | exact e.symm))) ⟨hge, setRow_heap w gb _ _ t _ h2⟩ (fun i hi => .inl ⟨_, hk, by simpa [HE.fp] using hi⟩)⟩
  simp [execOp, hs.eval hx, hs.eval hy, Instr.storeAt, Instr.sureAddr, hr]
theorem own_some {B : Nat} {w : World} {A : Option Addr} {xs : List Value} (h : w.ownsRow B E sz (.slice A n c) n xs) (hpos : 0 < n) : ∃ gb, A = some ⟨gb, 0, none⟩ /\ B <= gb := by
 rcases h.2 with ⟨_, h2⟩ | ⟨gb, cap, cur, hv, hb, _⟩
 ·omega
 ·injection hv with hA _ _; exact ⟨gb, hA, hb⟩
theorem Eff0.storeO (k : Nat) {j : Nat} {u : Value} {xs : List Value} (hsz : (P.info? T).map (·.size) = some 1) (hx : evl env x = some (.pointer (some ((adr A).add j)))) (hy : evl env y = some u) (hu : u.oneCell' = true)
  (hk : look H k = some (.own E sz A n c xs)) (hj : j < xs.length) : Eff0 P N w0 env H ⟨none, .store T x y, ty, pos, after, g⟩ ((k, .own E sz A n c (xs.set j u)) :: H) :=
 eff0_of_skip fun a w hs => by
  have ho : w.ownsRow w0.heap.size E sz (.slice A n c) n xs := by
   rcases hs.heap.sat k _ hk with h | ⟨_, _, h⟩
   ·exact h
   ·subst h; simp at hj
  have hpos : 0 < n := by
   rcases Nat.eq_zero_or_pos n with h0 | h0
   ·have := ho.1; subst h0; simp at this; subst this; simp at hj
   ·exact h0
  have hc0 : c ≠ 0 := by have := (own_SlR (sz := sz) (.inl ho)).le; omega
  obtain ⟨gb, rfl, hge⟩ := own_some ho hpos
  have hjl : j < n * sz := by rw [<- ho.1]; exact hj
  have h1 := ho.cellAt j hjl
  rw [List.getElem?_eq_getElem hj] at h1
  have h2 := ho.frozenAt j
  obtain ⟨h3, h4⟩ := ho.stored j u
  have ead : (adr (some ⟨gb, 0, none⟩)).add j = ⟨gb, j, none⟩ := by simp [adr, add_lit_]
  refine ⟨w.setCell ⟨gb, j, none⟩ u, ?_, below_setCell hs.below hge u,
   hs.heap.set k _ (by simp) (fun i hi hne => heap_setCell_other w ⟨gb, j, none⟩ i u (fun e => hne _ hk (by first | exact ⟨hc0, _, rfl, e⟩ | exact ⟨hc0, _, rfl, e.symm⟩))) (.inl h3) (fun i hi => .inl ⟨_, hk, hi⟩)⟩
  rw [ead] at hx
  simp [execOp, hs.eval hx, hs.eval hy, Instr.storeAt, Instr.sureAddr, run_storeVar1 hsz hu h1 h2]
def evlE (env : Env) (i : Nat) : List (Nat × Operand) -> Option (List Value)
 | [] => some []
 | (j, x) :: xs => bif Nat.beq i j then (match evl env x, evlE env (i + 1) xs with
  | some v, some vs => some (v :: vs)
  | _, _ => none) else none
theorem evlE_map {a : Act} {w : World} (hs : St N w0 env H a w) : ∀ {ps : List (Nat × Operand)} {i : Nat} {us : List Value}, evlE env i ps = some us ->
  ps.map (fun p => (p.1, a.eval p.2)) = (us.zipIdx i).map fun p => (p.2, p.1)
 | [], i, us, h => by simp [evlE] at h; subst h; rfl
 | (j, x) :: ps, i, us, h => by
  unfold evlE at h
  by_cases hj : i = j
  ·subst hj
   simp only [Nat.beq_refl, cond_true] at h
   cases h1 : evl env x with
   | none => simp [h1] at h
   | some v =>
    cases h2 : evlE env (i + 1) ps with
    | none => simp [h1, h2] at h
    | some vs =>
     simp [h1, h2] at h
     subst h
     simp only [List.map_cons, List.zipIdx_cons]
     rw [hs.eval h1, evlE_map hs h2]
  ·have : Nat.beq i j = false := nbeq hj
   simp [this] at h
theorem fill_one : ∀ (us : List Value) (i : Nat) (pre : List Value) (z : Value), pre.length = i -> (∀ u ∈ us, u.oneCell' = true) ->
  Instr.fill (fun i => some (i, 1)) (pre ++ List.replicate us.length z).toArray ((us.zipIdx i).map fun p => (p.2, p.1)) = some (pre ++ us).toArray
 | [], i, pre, z, _, _ => by simp [Instr.fill]
 | u :: us, i, pre, z, hp, h1 => by
  have hu := h1 u (List.mem_cons_self ..)
  have hcells : u.cells = #[u] := by cases u <;> simp [Value.oneCell'] at hu <;> rfl
  have ih := fill_one us (i + 1) (pre ++ [u]) z (by simp [hp]) (fun v hv => h1 v (List.mem_cons_of_mem _ hv))
  simp only [List.zipIdx_cons, List.map_cons, Instr.fill, hcells]
  have e : ((#[u] : Array Value).zipIdx.foldl (fun cs (x : Value × Nat) => cs.setIfInBounds (i + x.2) x.1) (pre ++ List.replicate (us.length + 1) z).toArray) = (pre ++ [u] ++ List.replicate us.length z).toArray := by
   simp [Array.zipIdx, List.replicate_succ, <- hp]
  rw [if_neg (by simp; omega)]
  simp only [List.length_cons]
  rw [e, ih]
  simp
theorem run_buildSlice1 (w : World) {us : List Value} (hT : STy P T E z 1 bytes) (hz : z.oneCell' = true) (h1 : ∀ u ∈ us, u.oneCell' = true) (hlen : us.length <= 16777216) :
  (Instr.buildSlice T us.length ((us.zipIdx 0).map fun p => (p.2, p.1)).toArray).run P w = .ok (.slice (some ⟨w.heap.size, 0, none⟩) us.length us.length) (w.alloc (.cells us.toArray E)) := by
 obtain ⟨i, hi, hzz, hs, hb⟩ := hT.info
 have hcz : z.cells = #[z] := by cases z <;> simp [Value.oneCell'] at hz <;> rfl
 have hf := fill_one us 0 [] z rfl h1
 simp only [List.nil_append] at hf
 have hrep : (Array.range us.length).map (fun x => (#[z] : Array Value)[x % 1]!) = (List.replicate us.length z).toArray := by
  apply Array.ext
  ·simp
  ·intro j h1 h2; simp [Nat.mod_one]
 by_cases h0 : us.length = 0
 ·have : us = [] := List.eq_nil_of_length_eq_zero h0
  subst this
  simp [Instr.buildSlice, run_underlying hT.under, sizeOf_of hT.size, Instr.fill, newRow]
  congr 2
  apply Array.ext <;> simp
 ·simp only [Instr.buildSlice, Sem.run_bind, run_underlying hT.under, Result.andThen_ok, sizeOf_of hT.size, Nat.mul_one]
  rw [if_neg (by omega), if_neg h0]
  simp only [zeroValue, typeInfo, Sem.run_bind, run_program, Result.andThen_ok, hi, Sem.run_pure, hzz, hcz]
  simp only [show (#[z] : Array Value).size = 1 from rfl, hrep, hf, newRow, Sem.run_bind, run_newObj, Result.andThen_ok, Sem.run_pure, World.alloc_eq]
theorem Eff.buildSlice (k : Nat) {len : Nat} {parts : List (Nat × Operand)} {us : List Value} (hT : STy P T E z 1 bytes) (hz : z.oneCell' = true) (hk : look H k = none) (hv : evlE env 0 parts = some us) (hl : us.length = len)
  (h1 : us.all (·.oneCell') = true) (hlen : len <= 16777216) :
  Eff P N w0 env H ⟨d, .buildSlice T len parts.toArray, ty, pos, after, g⟩ fun v H' => ∃ gb, v = .slice (some ⟨gb, 0, none⟩) len len /\ H' = (k, .own E 1 (some ⟨gb, 0, none⟩) len len us) :: H :=
 eff_of_value fun a w hs => by
  subst hl
  have hB := hs.below.size
  have hr := run_buildSlice1 (P := P) w (us := us) hT hz (by simpa using h1) hlen
  have hm := evlE_map hs hv
  refine ⟨_, w.alloc (.cells us.toArray E), _, ?_, ⟨w.heap.size, rfl, rfl⟩, hs.below.alloc hB _, hs.heap.new hB k hk _ _ ?_ (fun g hg => by first | exact hg.symm | (obtain ⟨_, a, ha, hb⟩ := hg; injection ha with ha; subst ha; exact hb.symm))⟩
  ·simp [execOp, hm, hr]
  ·have := World.ownsRow_lit (base := w0.heap.size) (e := E) (size := 1) w us.toArray us.length hB (by simp only [maxLen]; omega) (by simp)
   refine Or.inl ?_
   show World.ownsRow _ _ _ _ _ _ _
   simpa using this
theorem St.nilOwn {a : Act} {w : World} (h : St N w0 env H a w) (k : Nat) (E : TypeId) (sz : Nat) (A : Option Addr) : St N w0 env ((k, .own E sz A 0 0 []) :: H) a w :=
 ⟨h.size, h.defers, h.vals, h.below, h.heap.set k _ (Nat.le_refl _) (fun _ _ _ => rfl) (Or.inr ⟨rfl, rfl, rfl⟩) (fun g hg => (hg.1 rfl).elim)⟩
theorem WL.nilOwn {ops : Array Oper} {K : Act -> World -> Prop} {rest : List Oper} (k : Nat) (E : TypeId) (sz : Nat) (A : Option Addr) (h : WL P N w0 ops K rest env ((k, .own E sz A 0 0 []) :: H)) : WL P N w0 ops K rest env H :=
 fun a w hs => h a w (hs.nilOwn k E sz A)
theorem WC.nilOwn {cd : Code} {Q : Exit -> Act -> World -> Prop} (k : Nat) (E : TypeId) (sz : Nat) (A : Option Addr) (h : WC P N w0 cd Q env ((k, .own E sz A 0 0 []) :: H)) : WC P N w0 cd Q env H :=
 fun a w hs => h a w (hs.nilOwn k E sz A)
theorem QK.nilOwn {Q : Exit -> Act -> World -> Prop} {e : Exit} (k : Nat) (E : TypeId) (sz : Nat) (A : Option Addr) (h : QK N w0 Q e env ((k, .own E sz A 0 0 []) :: H)) : QK N w0 Q e env H :=
 fun a w hs => h a w (hs.nilOwn k E sz A)
theorem KK.move {K : Act -> World -> Prop} (k k' : Nat) {e : HE} (hk : look H k = some e) (hne : Nat.beq k k' = false) (h : KK N w0 K env ((k', e) :: (k, .emp) :: H)) : KK N w0 K env H :=
 fun a w hs => h a w ⟨hs.size, hs.defers, hs.vals, hs.below, hs.heap.move hk (fun e => by subst e; simp at hne)⟩
theorem WC.move {cd : Code} {Q : Exit -> Act -> World -> Prop} (k k' : Nat) {e : HE} (hk : look H k = some e) (hne : Nat.beq k k' = false) (h : WC P N w0 cd Q env ((k', e) :: (k, .emp) :: H)) : WC P N w0 cd Q env H :=
 fun a w hs => h a w ⟨hs.size, hs.defers, hs.vals, hs.below, hs.heap.move hk (fun e => by subst e; simp at hne)⟩
theorem HS.freeze {w : World} {B : Nat} {M : Mem} (h : HS B w H) {k : Nat} {e : HE} (hk : look H k = some e) (hM : look H 0 = some (.mem M)) (h0 : k ≠ 0) (he : ∀ M, e ≠ .mem M) :
  ∃ M', Ext B M M' /\ (∀ g o, w.heap[g]? = some o -> e.fp g -> M' g = some o) /\ HS B w ((k, .emp) :: (0, .mem M') :: H) := by
 classical
 refine ⟨fun g => if e.fp g then w.heap[g]? else M g, ⟨fun g o hg => ?_, fun g o hg => ?_⟩, fun g o hg hf => ?_, ?_⟩
 ·have : ¬ e.fp g := fun hf => h.apart k 0 e _ hk hM h0 g hf (by simp [HE.fp, hg])
  simp [this, hg]
 ·by_cases hf : e.fp g
  ·exact .inr ((h.sat k e hk).ge he g hf)
  ·simp [hf] at hg; exact .inl hg
 ·simp [hf, hg]
 ·have hMh : Holds M w := h.sat 0 _ hM
  refine ⟨fun k1 e1 h1 => ?_, fun k1 k2 e1 e2 h1 h2 hne => ?_⟩
  ·rw [look_cons] at h1
   split at h1
   ·injection h1 with h1; subst h1; trivial
   ·rw [look_cons] at h1
    split at h1
    ·injection h1 with h1; subst h1
     intro g o hg
     by_cases hf : e.fp g
     ·simpa [hf] using hg
     ·simp [hf] at hg; exact hMh g o hg
    ·exact h.sat k1 e1 h1
  ·have key : ∀ k2 e2, k2 ≠ k -> k2 ≠ 0 -> look H k2 = some e2 -> ∀ g, e2.fp g -> (if e.fp g then w.heap[g]? else M g) ≠ Option.none -> False := by
    intro k2 e2 hne1 hne0 h2 g hg hm
    by_cases hf : e.fp g
    ·exact h.apart k k2 e e2 hk h2 (Ne.symm hne1) g hf hg
    ·simp only [hf, if_false] at hm
     exact h.apart k2 0 e2 _ h2 hM hne0 g hg (by simpa [HE.fp] using hm)
   rw [look_cons] at h1 h2
   split at h1
   ·injection h1 with h1; subst h1; exact fun g hg => hg.elim
   ·split at h2
    ·injection h2 with h2; subst h2; exact fun g _ hg => hg.elim
    ·rw [look_cons] at h1 h2
     split at h1 <;> split at h2
     ·omega
     ·injection h1 with h1; subst h1
      rename_i a b c d
      exact fun g h3 h4 => key k2 e2 (fun e => b e.symm) (fun e => d e.symm) h2 g h4 h3
     ·injection h2 with h2; subst h2
      rename_i a b c d
      exact fun g h3 h4 => key k1 e1 (fun e => a e.symm) (fun e => c e.symm) h1 g h3 h4
     ·exact h.apart k1 k2 e1 e2 h1 h2 hne
theorem own_SlM {w : World} {B E : Nat} {M' : Mem} {xs : List Value} (h : (HE.own E sz A n c xs).sat B w) (hm : ∀ g o, w.heap[g]? = some o -> (HE.own E sz A n c xs).fp g -> M' g = some o) : SlM M' sz A n c xs := by
 have hr : SlR w sz A n c xs := own_SlR h
 refine ⟨hr.len, hr.le, hr.cm, fun j u hj => ?_⟩
 obtain ⟨h1, h2⟩ := hr.cells j u hj
 refine ⟨h1, ?_⟩
 obtain ⟨ad, rfl⟩ := Option.isSome_iff_exists.1 h1
 have hc0 : c ≠ 0 := by
  have hlt : j < xs.length := (List.getElem?_eq_some_iff.1 hj).1
  have h3 := hr.len
  have h4 := hr.le
  intro e
  have h5 : n = 0 := by omega
  rw [h5, Nat.zero_mul] at h3; omega
 unfold World.cell? at h2
 unfold Mem.cell?
 have eb : ((adr (some ad)).add j).block = ad.block := by rw [add_block]; rfl
 rw [eb] at h2 ⊢
 cases hw : w.heap[ad.block]? with
 | none => rw [hw] at h2; cases h2
 | some o => rw [hw] at h2; rw [hm _ _ hw ⟨hc0, ad, rfl, rfl⟩]; exact h2
theorem St.freeze {a : Act} {w : World} {M : Mem} {E : TypeId} {xs : List Value} (h : St N w0 env H a w) (k : Nat) (hk : look H k = some (.own E sz A n c xs)) (hM : look H 0 = some (.mem M)) (h0 : Nat.beq k 0 = false) :
  ∃ M', Ext w0.heap.size M M' /\ SlM M' sz A n c xs /\ St N w0 env ((k, .emp) :: (0, .mem M') :: H) a w := by
 obtain ⟨M', h1, h2, h3⟩ := h.heap.freeze hk hM (fun e => by subst e; simp at h0) (fun _ e => by cases e)
 exact ⟨M', h1, own_SlM (h.heap.sat k _ hk) h2, ⟨h.size, h.defers, h.vals, h.below, h3⟩⟩
theorem WL.freeze {ops : Array Oper} {K : Act -> World -> Prop} {rest : List Oper} {M : Mem} {E : TypeId} {xs : List Value} (k : Nat) (hk : look H k = some (.own E sz A n c xs)) (hM : look H 0 = some (.mem M)) (h0 : Nat.beq k 0 = false)
  (h : ∀ M', Ext w0.heap.size M M' -> SlM M' sz A n c xs -> WL P N w0 ops K rest env ((k, .emp) :: (0, .mem M') :: H)) : WL P N w0 ops K rest env H :=
 fun a w hs => let ⟨M', h1, h2, h3⟩ := hs.freeze k hk hM h0; h M' h1 h2 a w h3
theorem QK.freeze {Q : Exit -> Act -> World -> Prop} {x : Exit} {M : Mem} {E : TypeId} {xs : List Value} (k : Nat) (hk : look H k = some (.own E sz A n c xs)) (hM : look H 0 = some (.mem M)) (h0 : Nat.beq k 0 = false)
  (h : ∀ M', Ext w0.heap.size M M' -> SlM M' sz A n c xs -> QK N w0 Q x env ((k, .emp) :: (0, .mem M') :: H)) : QK N w0 Q x env H :=
 fun a w hs => let ⟨M', h1, h2, h3⟩ := hs.freeze k hk hM h0; h M' h1 h2 a w h3
theorem run_append_src_nil {w : World} (hT : STy P T E z sz bytes) (hnc : n <= c) (c' : Nat) (ty : TypeId) :
  (Builtin.append_ #[T, T] ty #[.slice A n c, .slice none 0 c']).run P w = .ok (.slice A n c) w := by
 obtain ⟨i, hi, hz, hsz, hby⟩ := hT.info
 cases A with
 | none => simp [Builtin.append_, run_underlying hT.under, sizeOf, typeInfo, hi, Builtin.lenOf, Builtin.firstCells, hnc]
 | some ad => simp [Builtin.append_, run_underlying hT.under, sizeOf, typeInfo, hi, Builtin.lenOf, Builtin.firstCells, hnc, storeCells]
theorem append_block {a : Act} {w : World} (hs : St N w0 env H a w) (k : Nat) {m c0 : Nat} {xs news : List Value} (hT : STy P T E z sz bytes) (h1 : xs.length = n * sz) (h2 : news.length = m * sz) (hmax : n + m <= maxLen) :
  Below w0.heap.size w0 (w.drew.alloc (.cells (xs.toArray ++ news.toArray ++ Builtin.zeroCells z.cells (grownCap w (n + m) c0 E - (n + m))) E)) /\
  HS w0.heap.size (w.drew.alloc (.cells (xs.toArray ++ news.toArray ++ Builtin.zeroCells z.cells (grownCap w (n + m) c0 E - (n + m))) E)) ((k, .own E sz (some ⟨w.heap.size, 0, none⟩) (n + m) (grownCap w (n + m) c0 E) (xs ++ news)) :: H) := by
 have hge := grownCap_ge w (n + m) c0 E
 have hcm : grownCap w (n + m) c0 E <= maxLen := grownCap_le_maxLen w (n + m) c0 E hmax
 have hB := hs.below.size
 have hdr : HS w0.heap.size w.drew H := hs.heap.keep fun _ _ => rfl
 refine ⟨(hs.below.drew).alloc hB _, hdr.set k _ (by simp) (fun g hg _ => Below.heap_alloc w.drew _ g hg) (.inl ?_) (fun g hg => .inr ?_)⟩
 ·show World.ownsRow _ _ _ _ _ _ _
  refine ⟨by rw [List.length_append, h1, h2, Nat.add_mul], .inr ⟨w.heap.size, _, _, rfl, hB, heap_alloc_new w.drew _, hge, hcm, ?_, ?_⟩⟩
  ·simp only [Array.size_append, List.size_toArray, size_zeroCells, hT.zs, h1, h2, <- Nat.add_mul]
   congr 1; omega
  ·simp only [Array.toList_append, List.append_assoc]
   rw [<- List.append_assoc]
   have : (xs ++ news).length = (n + m) * sz := by rw [List.length_append, h1, h2, Nat.add_mul]
   rw [<- this]
   exact List.take_left
 ·obtain ⟨_, a, ha, hb⟩ := hg
  injection ha with ha; subst ha
  have e1 : w.heap.size = g := hb
  have e2 : w.drew.heap.size = w.heap.size := rfl
  omega
theorem Eff.append (k : Nat) {s : Operand} {m c' : Nat} {A' : Option Addr} {xs news : List Value} (hT : STy P T E z sz bytes) (hsz : 0 < sz) (hs1 : evl env s = some (.slice A n c)) (hk : look H k = some (.own E sz A n c xs))
  (hx : evl env x = some (.slice A' m c')) (hr : RdH w0 H sz A' m c' news) (h1 : ∀ u ∈ news, u.oneCell' = true) (hb : ((n + m) + (n + m) / 4 + 192) * bytes <= 281474976710656 /\ n + m <= maxLen) :
  Eff P N w0 env H ⟨d, .call ⟨.builtin .append, #[s, x], #[T, T]⟩, ty, pos, after, g⟩ fun v H' => ∃ A2 c2, v = .slice A2 (n + m) c2 /\ H' = (k, .own E sz A2 (n + m) c2 (xs ++ news)) :: H :=
 eff_of_value fun a w hs => by
  obtain ⟨i, hi, hz, hsz', hby⟩ := hT.info
  have hsat := hs.heap.sat k _ hk
  have hown : SlR w sz A n c xs := own_SlR hsat
  have hrd := hr w hs.below hs.heap
  have hmax := hb.2
  simp only [maxLen] at hmax
  have stay : m = 0 -> (Builtin.append_ #[T, T] ty #[.slice A n c, .slice A' m c']).run P w = .ok (.slice A n c) w -> ∃ v w' H', (execOp a.eval ⟨d, .call ⟨.builtin .append, #[s, x], #[T, T]⟩, ty, pos, after, g⟩).run P w = .ok (.value v) w' /\ (∃ A2 c2, v = .slice A2 (n + m) c2 /\ H' = (k, .own E sz A2 (n + m) c2 (xs ++ news)) :: H) /\ Below w0.heap.size w0 w' /\ HS w0.heap.size w' H' := by
   rintro rfl hrun
   have hn : news = [] := List.eq_nil_of_length_eq_zero (by rw [hrd.len]; simp)
   subst hn
   refine ⟨.slice A n c, w, (k, .own E sz A n c xs) :: H, ?_, ⟨A, c, rfl, by simp⟩, hs.below, hs.heap.set k _ (Nat.le_refl _) (fun _ _ _ => rfl) hsat (fun i hi => .inl ⟨_, hk, hi⟩)⟩
   simp [execOp, resolve, invoke, builtin, hs.eval hs1, hs.eval hx, hrun]
  have fresh : ∀ c0, (Builtin.append_ #[T, T] ty #[.slice A n c, .slice A' m c']).run P w = .ok (.slice (some ⟨w.heap.size, 0, none⟩) (n + m) (grownCap w (n + m) c0 E)) (w.drew.alloc (.cells (xs.toArray ++ news.toArray ++ Builtin.zeroCells z.cells (grownCap w (n + m) c0 E - (n + m))) E)) ->
    ∃ v w' H', (execOp a.eval ⟨d, .call ⟨.builtin .append, #[s, x], #[T, T]⟩, ty, pos, after, g⟩).run P w = .ok (.value v) w' /\ (∃ A2 c2, v = .slice A2 (n + m) c2 /\ H' = (k, .own E sz A2 (n + m) c2 (xs ++ news)) :: H) /\ Below w0.heap.size w0 w' /\ HS w0.heap.size w' H' := by
   intro c0 hrun
   obtain ⟨g1, g2⟩ := append_block hs k (c0 := c0) hT hown.len hrd.len hb.2
   refine ⟨_, _, _, ?_, ⟨_, _, rfl, rfl⟩, g1, g2⟩
   simp [execOp, resolve, invoke, builtin, hs.eval hs1, hs.eval hx, hrun]
  cases A' with
  | none =>
   have hm : m = 0 := by
    rcases Nat.eq_zero_or_pos m with h0 | h0
    ·exact h0
    ·have hlt : 0 < news.length := by rw [hrd.len]; exact Nat.mul_pos h0 hsz
     have := (hrd.cells 0 _ (List.getElem?_eq_getElem hlt)).1
     cases this
   subst hm
   exact stay rfl (run_append_src_nil hT hown.le _ _)
  | some ad =>
   cases A with
   | none =>
    have hxs : xs = [] := by
     cases xs with
     | nil => rfl
     | cons u us => have h9 := (hown.cells 0 u rfl).1; simp at h9
    have hn0 : n = 0 := by
     have h8 := hown.len
     rw [hxs, List.length_nil] at h8
     rcases Nat.eq_zero_or_pos n with h | h
     ·exact h
     ·have := Nat.mul_pos h hsz; omega
    have hc0 : c = 0 := by
     rcases hsat with h | ⟨_, h, _⟩
     ·rcases h.2 with ⟨hv, _⟩ | ⟨gb, _, _, hv, _⟩
      ·exact (Value.slice.inj hv).2.2
      ·have := (Value.slice.inj hv).1; cases this
     ·exact h
    subst hxs; subst hn0; subst hc0
    rcases Nat.eq_zero_or_pos m with h0 | h0
    ·subst h0
     exact stay rfl (by simp [Builtin.append_, run_underlying hT.under, sizeOf, typeInfo, hi, Builtin.lenOf, Builtin.firstCells, loadCells, loadCellsFrom])
    ·refine fresh 0 ?_
     have hr := run_append_nil (P := P) w T ty E i z hT.under hi hz ad m c' news (by rw [hsz']; exact hrd.len) (fun j u hj => (hrd.cells j u hj).2) h0 (by omega) (by rw [hby]; exact Nat.le_trans (Nat.mul_le_mul_right _ (by omega)) hb.1)
     simpa using hr
   | some ad0 =>
    by_cases hroom : n + m <= c
    ·rcases Nat.eq_zero_or_pos c with hc | hc
     ·subst hc
      have hn : n = 0 := by omega
      have hm : m = 0 := by omega
      subst hn; subst hm
      exact stay rfl (by simp [Builtin.append_, run_underlying hT.under, sizeOf, typeInfo, hi, Builtin.lenOf, Builtin.firstCells, storeCells, loadCells, loadCellsFrom])
     ·have ho : w.ownsRow w0.heap.size E sz (.slice (some ad0) n c) n xs := by
       rcases hsat with h | ⟨_, h, _⟩
       ·exact h
       ·omega
      rcases ho.2 with ⟨hv, _⟩ | ⟨gb, cap, cur, hv, hbg, hg, hnc, hcm, hcs, htake⟩
      ·cases hv
      obtain ⟨hA, _, hcc⟩ := Value.slice.inj hv
      have hA := Option.some.inj hA; subst hA; subst hcc
      have hlen : (xs ++ news).length = (n + m) * sz := by rw [List.length_append, hown.len, hrd.len, Nat.add_mul]
      have hfit : n * i.size + news.length <= cur.size := by rw [hsz', hrd.len, hcs, <- Nat.add_mul]; exact Nat.mul_le_mul_right _ hroom
      have hrun := run_append_room (P := P) w T ty E i hT.under hi gb n c cur hg ad m c' news (by rw [hsz']; exact hrd.len) (fun j u hj => (hrd.cells j u hj).2) h1 hroom hfit
      have key : ∀ v w2, (Builtin.append_ #[T, T] ty #[.slice (some ⟨gb, 0, none⟩) n c, .slice (some ad) m c']).run P w = .ok v w2 -> (execOp a.eval ⟨d, .call ⟨.builtin .append, #[s, x], #[T, T]⟩, ty, pos, after, g⟩).run P w = .ok (.value v) w2 := by
       intro v w2 h; simp [execOp, resolve, invoke, builtin, hs.eval hs1, hs.eval hx, h]
      refine ⟨_, _, (k, .own E sz (some ⟨gb, 0, none⟩) (n + m) c (xs ++ news)) :: H, key _ _ hrun, ⟨_, _, rfl, rfl⟩,
       hs.below.trans ⟨rfl, rfl, rfl, by simp, fun i hi => setRow_other w gb i _ (by omega)⟩,
       hs.heap.set k _ (by simp) (fun i hi hne => setRow_other w gb i _ (fun e => hne _ hk (by first | exact ⟨by omega, _, rfl, e⟩ | exact ⟨by omega, _, rfl, e.symm⟩))) (.inl ⟨hlen, .inr ⟨gb, c, _, rfl, hbg, setRow_heap w gb cur _ E _ hg, hroom, hcm, ?_, ?_⟩⟩) (fun i hi => .inl ⟨_, hk, hi⟩)⟩
      ·rw [hsz'] at hfit ⊢
       simp only [List.size_toArray, List.length_append, List.length_take, List.length_drop, Array.length_toList]
       omega
      ·rw [hsz', htake, <- hlen]
       exact List.take_left
    ·refine fresh c ?_
     exact run_append_grow (P := P) w T ty E i z hT.under hi hz ad0 n c xs (by rw [hsz']; exact hown.len) (fun j u hj => (hown.cells j u hj).2) ad m c' news (by rw [hsz']; exact hrd.len) (fun j u hj => (hrd.cells j u hj).2) (by omega) (by omega)
      (growslice_fits_wide (by omega) (by rw [hby]; exact hb.1))
end
end Go.Proofs.Ytkcccenekglkoaa
