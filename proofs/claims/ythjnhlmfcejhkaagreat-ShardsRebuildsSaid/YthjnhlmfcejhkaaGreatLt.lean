/- A part of the proof. Conditions: as each theorem says. -/
import Derived.Test.YthjnhlmfcejhkaaGreatX13
import Derived.Shelf.Sort.Plain
import Derived.Shelf.Slices.In.SortNone
import Derived.Sort.OwnSortedInts
namespace Go.Proofs.YthjnhlmfcejhkaaGreat
open Go Go.RowKit Go.Shelf
set_option linter.unusedVariables false
theorem sort_mut {P : Program} {ρ : Ren} (L : Lays.n189 P ρ) {E : TypeId} {A : Option Addr} {n c : Nat} {zs : List Int} (hsz : zs.length < 4611686018427387904) :
  Mut P (ρ.f 189) #[.slice A n c] E 1 A n c (zs.map (Value.int .i64)) fun r ds => r = .tuple #[] /\ ds = (zs.mergeSort fun x y => decide (x <= y)).map (Value.int .i64) := by
 intro w0 e0 w hb hh
 have hs := hh.sat 2 _ rfl
 have nilcase : n = 0 -> zs = [] -> Calls P (ρ.f 189) #[.slice A n c] w fun e w' => ∃ r H', e = .returned r /\ (∃ ds, (r = .tuple #[] /\ ds = (zs.mergeSort fun x y => decide (x <= y)).map (Value.int .i64)) /\ H' = [(1, e0), (2, .own E 1 A n c ds)]) /\ Below w0.heap.size w0 w' /\ HS w0.heap.size w' H' := by
  rintro rfl rfl
  refine (Any.slices_Sort_int_none L A c w).mono fun e w' ⟨he, hw⟩ => ?_
  subst hw
  exact ⟨_, _, he, ⟨_, ⟨rfl, rfl⟩, rfl⟩, hb, by rw [List.mergeSort_nil]; exact hh⟩
 rcases (show ownSat w0.heap.size w E 1 A n c (zs.map (Value.int .i64)) from hs) with h | ⟨h1, _, h2⟩
 ·have hl : zs.length = n := by have := h.1; simpa using this
  rcases h.2 with ⟨h0, hn0⟩ | ⟨g, cap, cur, hv, hbase, hheap, h1, h2, h3, h4⟩
  ·exact nilcase hn0 (List.eq_nil_of_length_eq_zero (by omega))
  ·injection hv with e1 e2 e3
   subst e1; subst e3
   have hlt : g < w.heap.size := (Array.getElem?_eq_some_iff.1 hheap).1
   rw [Nat.mul_one] at h4
   subst hl
   by_cases hz : zs = []
   ·exact nilcase (by rw [hz]; rfl) hz
   have hpos : 0 < zs.length := List.length_pos_iff.2 hz
   refine (Any.slices_Sort_int L g 0 c zs w (holds_of_blockI hheap h4) hlt hsz).mono fun e w' ⟨he, k, os, hw⟩ => ?_
   subst hw
   have hm : (zs.mergeSort fun x y => decide (x <= y)).length = zs.length := List.length_mergeSort _
   obtain ⟨g1, g2, g3, g4, g5⟩ := grownBy_sortedI (w := w) (g := g) (n := k) (os := os) (zs.mergeSort fun x y => decide (x <= y)).toArray
   have ow := ownsRow_sortedI (w := w) (base := w0.heap.size) (g := g) (cap := c) (n := k) (e := E) (os := os) (cur := cur) (ss := zs) (ts := zs.mergeSort fun x y => decide (x <= y)) hm hbase hheap h1 h2 h3
   refine ⟨_, _, he, ⟨_, ⟨rfl, rfl⟩, rfl⟩, ⟨g1.trans hb.os, g2.trans hb.tape, g3.trans hb.output, Nat.le_trans hb.size g4, fun j hj => ?_⟩, ?_⟩
   ·rw [g5 j (by have := hb.size; omega) (fun e => by injection e with e; omega)]; exact hb.block j hj
   ·refine (HS.set hh 2 (.own E 1 (some ⟨g, 0, none⟩) zs.length c ((zs.mergeSort fun x y => decide (x <= y)).map (Value.int .i64))) g4 (fun j hj hn => ?_) (.inl ow) (fun j hj => .inl ⟨_, rfl, hj⟩)).sub (Sub.cons rfl (Sub.cons rfl (Sub.nil _)))
    refine g5 j hj fun e => ?_
    injection e with e
    exact hn _ rfl ⟨by omega, ⟨g, 0, none⟩, rfl, by show g = j; omega⟩
 ·exact nilcase h1 (by simpa using h2)
end Go.Proofs.YthjnhlmfcejhkaaGreat
