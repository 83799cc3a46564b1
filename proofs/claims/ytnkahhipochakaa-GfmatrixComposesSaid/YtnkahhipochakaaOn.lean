/-
  What readable arguments of the statements' types consist of. Printed by a program of ours (lawm.py). No conditions.
-/
import Derived.Test.YtnkahhipochakaaX11
import Derived.Test.YtnkahhipochakaaWka
import Derived.Test.YtnkahhipochakaaWkb
import Derived.Test.YtnkahhipochakaaWkc
import Derived.Test.YtnkahhipochakaaWkd
namespace Go.Proofs.Ytnkahhipochakaa
open Go Go.RowKit
set_option linter.unusedVariables false
set_option linter.unusedSimpArgs false

theorem opn_T3 {H : Type} {enc : TypeId × Value → H} {w : World} {base : Nat} {spare : Nat → Bool} {held : Bool} {fuel : Nat} {cs : List Value} {x : DataW H × List MemPlace} (h : DataW.trod enc Try.prog w base spare held fuel 3 cs = some x) : ∃ a : Int, cs = [I64 a] ∧ (-9223372036854775808 ≤ a ∧ a ≤ 9223372036854775807) := opn_i64 Try.underlying3 h
theorem opn_T5 {H : Type} {enc : TypeId × Value → H} {w : World} {base : Nat} {spare : Nat → Bool} {held : Bool} {fuel : Nat} {cs : List Value} {x : DataW H × List MemPlace} (h : DataW.trod enc Try.prog w base spare held fuel 5 cs = some x) : ∃ a : BitVec 8, cs = [U8 a] := opn_u8 Try.underlying5 h
theorem opn_T22 {H : Type} {enc : TypeId × Value → H} {w : World} {base : Nat} {spare : Nat → Bool} {held : Bool} {fuel : Nat} {cs : List Value} {x : DataW H × List MemPlace} (h : DataW.trod enc Try.prog w base spare held fuel 22 cs = some x) : ∃ (A : Option Addr) (n c : Nat) (a : List (BitVec 8)), cs = [.slice A n c] ∧ SlT (Mem.snap w) A n c a ∧ ∀ z ∈ a, True :=
  opn_slice (Q := fun z => True) Try.underlying22 (by kernel_rfl : Try.prog.cellsOf 5 = 1) (fun n cs y hy hl => let ⟨a, h1⟩ := opn_T5 hy; ⟨a, h1, trivial⟩) h
theorem opn_C24 {H : Type} {enc : TypeId × Value → H} {w : World} {base : Nat} {spare : Nat → Bool} {held : Bool} {fuel : Nat} {cs : List Value} {x : DataW H × List MemPlace} (h : DataW.trod enc Try.prog w base spare held fuel 24 cs = some x) : ∃ (a0 : Int) (a1 : Int) (A2 : Option Addr) (n2 : Nat) (c2 : Nat) (a2 : List (BitVec 8)), cs = [I64 a0, I64 a1, .slice A2 n2 c2] ∧ (-9223372036854775808 ≤ a0 ∧ a0 ≤ 9223372036854775807) ∧ (-9223372036854775808 ≤ a1 ∧ a1 ≤ 9223372036854775807) ∧ (SlT (Mem.snap w) A2 n2 c2 a2) ∧ (∀ z ∈ a2, True) := by
  obtain ⟨hlh, nh, hfh⟩ := opn_struct Try.underlying24 h
  rw [show Try.prog.cellsOf 24 = 3 by kernel_rfl] at hlh
  match cs, hlh with
  | [d0, d1, d2], _ =>
  obtain ⟨yh0_, h0_⟩ := hfh 0 _ rfl
  replace h0_ : DataW.trod enc Try.prog w base spare held nh 3 [d0] = some yh0_ := by
      have e : Try.prog.cellsOf 3 = 1 := by kernel_rfl
      have z := h0_
      change DataW.trod enc Try.prog w base spare held nh 3 (List.take (Try.prog.cellsOf 3) _) = some yh0_ at z
      rw [e] at z
      exact z
  obtain ⟨yh1_, h1_⟩ := hfh 1 _ rfl
  replace h1_ : DataW.trod enc Try.prog w base spare held nh 3 [d1] = some yh1_ := by
      have e : Try.prog.cellsOf 3 = 1 := by kernel_rfl
      have z := h1_
      change DataW.trod enc Try.prog w base spare held nh 3 (List.take (Try.prog.cellsOf 3) _) = some yh1_ at z
      rw [e] at z
      exact z
  obtain ⟨yh2_, h2_⟩ := hfh 2 _ rfl
  replace h2_ : DataW.trod enc Try.prog w base spare held nh 22 [d2] = some yh2_ := by
      have e : Try.prog.cellsOf 22 = 1 := by kernel_rfl
      have z := h2_
      change DataW.trod enc Try.prog w base spare held nh 22 (List.take (Try.prog.cellsOf 22) _) = some yh2_ at z
      rw [e] at z
      exact z
  obtain ⟨a0, e0, f0_0⟩ := opn_T3 h0_
  injection e0 with e0; subst e0
  obtain ⟨a1, e1, f1_0⟩ := opn_T3 h1_
  injection e1 with e1; subst e1
  obtain ⟨A2, n2, c2, a2, e2, f2_0, f2_1⟩ := opn_T22 h2_
  injection e2 with e2; subst e2
  exact ⟨a0, a1, A2, n2, c2, a2, rfl, f0_0, f1_0, f2_0, f2_1⟩
theorem opn_T50 {H : Type} {enc : TypeId × Value → H} {w : World} {base : Nat} {spare : Nat → Bool} {held : Bool} {fuel : Nat} {cs : List Value} {x : DataW H × List MemPlace} (h : DataW.trod enc Try.prog w base spare held fuel 50 cs = some x) : ∃ (A : Option Addr) (n c : Nat) (a : List (Int)), cs = [.slice A n c] ∧ SlT (Mem.snap w) A n c a ∧ ∀ z ∈ a, -9223372036854775808 ≤ z ∧ z ≤ 9223372036854775807 :=
  opn_slice (Q := fun z => -9223372036854775808 ≤ z ∧ z ≤ 9223372036854775807) Try.underlying50 (by kernel_rfl : Try.prog.cellsOf 3 = 1) (fun n cs y hy hl => let ⟨a, h1, h2⟩ := opn_T3 hy; ⟨a, h1, h2⟩) h
theorem opn_T44 {H : Type} {enc : TypeId × Value → H} {w : World} {base : Nat} {spare : Nat → Bool} {held : Bool} {fuel : Nat} {cs : List Value} {x : DataW H × List MemPlace} (h : DataW.trod enc Try.prog w base spare held fuel 44 cs = some x) : ∃ (A : Option Addr) (n c : Nat) (rs : List Hdr) (a : List (List (BitVec 8))), cs = [.slice A n c] ∧ SlT (Mem.snap w) A n c rs ∧ Rels ((RelB (α := BitVec 8)) (Mem.snap w)) rs a ∧ ∀ z ∈ a, True :=
  opn_deep (Q := fun z => True) Try.underlying44 (by kernel_rfl : Try.prog.cellsOf 22 = 1) (fun n cs y hy hl => let ⟨A, n, c, a, h1, h2, h3⟩ := opn_T22 hy; ⟨⟨A, n, c⟩, a, h1, h2, trivial⟩) h
end Go.Proofs.Ytnkahhipochakaa
