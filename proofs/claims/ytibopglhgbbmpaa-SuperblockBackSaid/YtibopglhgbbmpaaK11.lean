/-
  Slice literals of aggregates; copy into a part of a slice of the call's own. No conditions.
-/
import Derived.Test.YtibopglhgbbmpaaK10
import Derived.Laws.CopyRow
namespace Go.Proofs.Ytibopglhgbbmpaa
open Go Go.RowKit
set_option linter.unusedVariables false
set_option linter.unusedSimpArgs false
section
variable {P : Program} {N : Nat} {w0 : World} {env : Env} {H : Heap}
variable {sz : Nat} {A : Option Addr} {n c : Nat} {cs : List Value}
variable {d : Option Tmp} {ty T T' E : TypeId} {pos : String} {after : Array Edge} {g : Option (Nat × Bool)} {x y : Operand} {z : Value} {bytes : Nat}

/-- a slice literal whose elements have several cells: the parts' values laid out are 'cs' -/
theorem Eff.buildSliceA (k : Nat) {len : Nat} {parts : List (Nat × Operand)} {us : List Value} (hT : STy P T E z sz bytes) (hk : look H k = none) (hv : evlE env 0 parts = some us) (hpos : 0 < len * sz ∧ len * sz ≤ 16777216)
    (hf : Instr.fill (fun i => some (i * sz, sz)) ((Array.range (len * sz)).map (z.cells[· % z.cells.size]!)) ((us.zipIdx 0).map fun p => (p.2, p.1)) = some cs.toArray) (hl : cs.length = len * sz) :
    Eff P N w0 env H ⟨d, .buildSlice T len parts.toArray, ty, pos, after, g⟩ fun v H' => ∃ gb, v = .slice (some ⟨gb, 0, none⟩) len len ∧ H' = (k, .own E sz (some ⟨gb, 0, none⟩) len len cs) :: H :=
  eff_of_value fun a w hs => by
    have hB := hs.below.size
    have hm := evlE_map hs hv
    obtain ⟨i, hi, hzz, hsz, hby⟩ := hT.info
    have hr : (Instr.buildSlice T len ((us.zipIdx 0).map fun p => (p.2, p.1)).toArray).run P w = .ok (.slice (some ⟨w.heap.size, 0, none⟩) len len) (w.alloc (.cells cs.toArray E)) := by
      simp only [Instr.buildSlice, Sem.run_bind, run_underlying hT.under, Result.andThen_ok, sizeOf_of hT.size]
      rw [if_neg (by omega), if_neg (by omega)]
      simp only [zeroValue, typeInfo, Sem.run_bind, run_program, Result.andThen_ok, hi, Sem.run_pure, hzz, hf, newRow, run_newObj, World.alloc_eq]
    refine ⟨_, w.alloc (.cells cs.toArray E), _, ?_, ⟨w.heap.size, rfl, rfl⟩, hs.below.alloc hB _, hs.heap.new hB k hk _ _ ?_ (fun g hg => by simp [HE.fp] at hg; omega)⟩
    · simp [execOp, hm, hr]
    · have hsz1 : 0 < sz := Nat.pos_of_ne_zero fun e => by subst e; omega
      have hlen : len ≤ len * sz := Nat.le_mul_of_pos_right _ hsz1
      have := World.ownsRow_lit (base := w0.heap.size) (e := E) (size := sz) w cs.toArray len hB (by simp only [maxLen]; omega) (by simpa using hl)
      show World.ownsRow _ _ _ _ _ _ _
      simpa using this
/-- an element that is an aggregate -/
theorem Yld.loadRD {j s : Nat} {us : List Value} (ha : Agg P T s) (hx : evl env x = some (.pointer (some ((adr A).add j)))) (hr : RdH w0 H sz A n c cs) (hu : us = (cs.drop j).take s) (hl : us.length = s) :
    Yld P N w0 env H ⟨d, .load T x, ty, pos, after, g⟩ (.agg us.toArray) :=
  Yld.loadRA ha hx hr hl fun i u h => by
    rw [hu] at h
    rw [List.getElem?_take] at h
    split at h
    · rw [List.getElem?_drop] at h; exact h
    · cases h
/-- copy into the rest of a slice of the call's own -/
theorem Eff.copyM (k : Nat) {α : Type} (f : α → Value) [One f] {s : Operand} {m c' lo : Nat} {A' : Option Addr} {xs ys : List α} (hT : STy P T E z 1 bytes) (hs1 : evl env s = some (.slice (subA A c lo 1) (n - lo) (c - lo))) (hk : look H k = some (.own E 1 A n c (xs.map f)))
    (hx : evl env x = some (.slice A' m c')) (hr : RdH w0 H 1 A' m c' (ys.map f)) (hm : m = n - lo ∧ lo < n) :
    Eff P N w0 env H ⟨d, .call ⟨.builtin .copy, #[s, x], #[T, T]⟩, ty, pos, after, g⟩ fun v H' => v = I64 (m : Nat) ∧ H' = (k, .own E 1 A n c ((xs.take lo ++ ys).map f)) :: H :=
  eff_of_value fun a w hs => by
    have ho : w.ownsRow w0.heap.size E 1 (.slice A n c) n (xs.map f) := hs.heap.sat k _ hk
    have hsrc := hr w hs.below hs.heap
    obtain ⟨hml, hlo⟩ := hm
    have hxl : xs.length = n := by have := ho.1; simpa using this
    have hyl : ys.length = m := by have := hsrc.len; simpa using this
    rcases ho.2 with ⟨_, h0⟩ | ⟨gb, cap, cur, hv, hb, hg, hnc, hcm, hcs, htk⟩
    · omega
    injection hv with hA hn hc
    subst hA; subst hc
    have hsub : subA (some ⟨gb, 0, none⟩) c lo 1 = some ⟨gb, lo, none⟩ := by
      rw [subA, if_neg (by omega)]; simp [add_lit_]
    rw [hsub] at hs1
    have hcell0 : 0 < (ys.map f).length := by simp; omega
    obtain ⟨hA', _⟩ := hsrc.cells 0 (ys.map f)[0] (List.getElem?_eq_getElem hcell0)
    obtain ⟨ad, rfl⟩ := Option.isSome_iff_exists.1 hA'
    have hrun := run_copy_row (P := P) w T T ty E gb lo (n - lo) (c - lo) ad m c' cur E (ys.map f) hT.under hT.size hg (by simp; rw [hyl, hml]; simp)
      (fun j v hj => (hsrc.cells j v hj).2) (by simp; rw [hyl]; omega) (one_map f ys)
    have hlt : gb < w.heap.size := (Array.getElem?_eq_some_iff.1 hg).1
    refine ⟨_, w.setRow gb (cur.toList.take lo ++ ys.map f ++ cur.toList.drop (lo + (ys.map f).length)).toArray, _, ?_, ⟨rfl, rfl⟩,
      hs.below.trans ⟨rfl, rfl, rfl, by simp, fun i hi => setRow_other w gb i _ (by omega)⟩,
      hs.heap.set k _ (by simp) (fun i hi hne => setRow_other w gb i _ (fun e => hne _ hk (by simp [HE.fp, e]))) ?_ (fun i hi => .inl ⟨_, hk, by simpa [HE.fp] using hi⟩)⟩
    · have e : goInt (ys.map f).length = I64 (m : Nat) := by simp [goInt, hyl]
      rw [e] at hrun
      simp [execOp, resolve, invoke, builtin, hs.eval hs1, hs.eval hx, hrun]
    · refine ⟨by simp; omega, .inr ⟨gb, c, _, rfl, hb, setRow_heap w gb _ _ E _ hg, hnc, hcm, ?_, ?_⟩⟩
      · have : cur.toList.length = c := by simpa using hcs
        simp; omega
      · have hcl : cur.toList.length = c := by simpa using hcs
        have htk2 : cur.toList.take lo = (xs.take lo).map f := by
          rw [List.map_take, ← htk, List.take_take, Nat.mul_one, Nat.min_eq_left (by omega)]
        simp only [Nat.mul_one, List.map_append]
        rw [htk2, List.take_append_of_le_length (by simp; omega), List.take_of_length_le (by simp; omega)]
end
end Go.Proofs.Ytibopglhgbbmpaa
