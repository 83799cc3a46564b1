/-
  What readable arguments of the statements' types consist of. Printed by a program of ours (lawm.py). No conditions.
-/
import Derived.Test.YtpebhdepmbnjbaaX11
import Derived.Test.YtpebhdepmbnjbaaWka
import Derived.Test.YtpebhdepmbnjbaaWkb
import Derived.Test.YtpebhdepmbnjbaaWkc
import Derived.Test.YtpebhdepmbnjbaaWkd
import Derived.Test.YtpebhdepmbnjbaaWkza
import Derived.Test.YtpebhdepmbnjbaaWkzb
import Derived.Test.YtpebhdepmbnjbaaWky
import Derived.Test.YtpebhdepmbnjbaaWke3
namespace Go.Proofs.Ytpebhdepmbnjbaa
open Go Go.RowKit
set_option linter.unusedVariables false
set_option linter.unusedSimpArgs false

theorem opn_T3 {H : Type} {enc : TypeId × Value → H} {w : World} {base : Nat} {spare : Nat → Bool} {held : Bool} {fuel : Nat} {cs : List Value} {x : DataW H × List MemPlace} (h : DataW.trod enc Try.prog w base spare held fuel 3 cs = some x) : ∃ a : Int, cs = [I64 a] ∧ (-9223372036854775808 ≤ a ∧ a ≤ 9223372036854775807) := opn_i64 Try.underlying3 h
theorem opn_T38 {H : Type} {enc : TypeId × Value → H} {w : World} {base : Nat} {spare : Nat → Bool} {held : Bool} {fuel : Nat} {cs : List Value} {x : DataW H × List MemPlace} (h : DataW.trod enc Try.prog w base spare held fuel 38 cs = some x) : ∃ a : BitVec 64, cs = [U64 a] := opn_u64 Try.underlying38 h
theorem opn_T39 {H : Type} {enc : TypeId × Value → H} {w : World} {base : Nat} {spare : Nat → Bool} {held : Bool} {fuel : Nat} {cs : List Value} {x : DataW H × List MemPlace} (h : DataW.trod enc Try.prog w base spare held fuel 39 cs = some x) : ∃ a : BitVec 32, cs = [U32 a] := opn_u32 Try.underlying39 h
theorem opn_T5 {H : Type} {enc : TypeId × Value → H} {w : World} {base : Nat} {spare : Nat → Bool} {held : Bool} {fuel : Nat} {cs : List Value} {x : DataW H × List MemPlace} (h : DataW.trod enc Try.prog w base spare held fuel 5 cs = some x) : ∃ a : BitVec 8, cs = [U8 a] := opn_u8 Try.underlying5 h
theorem opn_T40 {H : Type} {enc : TypeId × Value → H} {w : World} {base : Nat} {spare : Nat → Bool} {held : Bool} {fuel : Nat} {cs : List Value} {x : DataW H × List MemPlace} (h : DataW.trod enc Try.prog w base spare held fuel 40 cs = some x) : ∃ (A : Option Addr) (n c : Nat) (a : List (BitVec 8)), cs = [.slice A n c] ∧ SlT (Mem.snap w) A n c a ∧ ∀ z ∈ a, True :=
  opn_slice (Q := fun z => True) Try.underlying40 (by kernel_rfl : Try.prog.cellsOf 5 = 1) (fun n cs y hy hl => let ⟨a, h1⟩ := opn_T5 hy; ⟨a, h1, trivial⟩) h
theorem opn_T28 {H : Type} {enc : TypeId × Value → H} {w : World} {base : Nat} {spare : Nat → Bool} {held : Bool} {fuel : Nat} {cs : List Value} {x : DataW H × List MemPlace} (h : DataW.trod enc Try.prog w base spare held fuel 28 cs = some x) : ∃ a : Int, cs = [I64 a] ∧ (-9223372036854775808 ≤ a ∧ a ≤ 9223372036854775807) := opn_i64 Try.underlying28 h
set_option maxRecDepth 100000 in
theorem opn_C50 {H : Type} {enc : TypeId × Value → H} {w : World} {base : Nat} {spare : Nat → Bool} {held : Bool} {fuel : Nat} {cs : List Value} {x : DataW H × List MemPlace} (h : DataW.trod enc Try.prog w base spare held fuel 50 cs = some x) : ∃ (a0 : Int) (a1 : Int) (a2 : Int) (a3 : BitVec 64) (a4 : BitVec 32) (A5 : Option Addr) (n5 : Nat) (c5 : Nat) (a5 : List (BitVec 8)) (a6 : Int), cs = [I64 a0, I64 a1, I64 a2, U64 a3, U32 a4, .slice A5 n5 c5, I64 a6] ∧ (-9223372036854775808 ≤ a0 ∧ a0 ≤ 9223372036854775807) ∧ (-9223372036854775808 ≤ a1 ∧ a1 ≤ 9223372036854775807) ∧ (-9223372036854775808 ≤ a2 ∧ a2 ≤ 9223372036854775807) ∧ (SlT (Mem.snap w) A5 n5 c5 a5) ∧ (∀ z ∈ a5, True) ∧ (-9223372036854775808 ≤ a6 ∧ a6 ≤ 9223372036854775807) := by
  obtain ⟨hlh, nh, hfh⟩ := opn_struct Try.underlying50 h
  rw [show Try.prog.cellsOf 50 = 7 by kernel_rfl] at hlh
  match cs, hlh with
  | [d0, d1, d2, d3, d4, d5, d6], _ =>
  obtain ⟨yh0_, h0_⟩ := hfh 0 _ rfl
  replace h0_ : DataW.trod enc Try.prog w base spare held nh 3 [d0] = some yh0_ := by
      have e : Try.prog.cellsOf 3 = 1 := by kernel_rfl
      have z := h0_
      change DataW.trod enc Try.prog w base spare held nh 3 (List.take (Try.prog.cellsOf 3) _) = some yh0_ at z
      rw [e] at z
      exact z
  obtain ⟨yh1_, h1_⟩ := hfh 1 _ rfl
  replace h1_ : DataW.trod enc Try.prog w base spare held nh 3 [d1] = some yh1_ := by
      have e : Try.prog.cellsOf 3 = 1 := by kernel_rfl
      have z := h1_
      change DataW.trod enc Try.prog w base spare held nh 3 (List.take (Try.prog.cellsOf 3) _) = some yh1_ at z
      rw [e] at z
      exact z
  obtain ⟨yh2_, h2_⟩ := hfh 2 _ rfl
  replace h2_ : DataW.trod enc Try.prog w base spare held nh 3 [d2] = some yh2_ := by
      have e : Try.prog.cellsOf 3 = 1 := by kernel_rfl
      have z := h2_
      change DataW.trod enc Try.prog w base spare held nh 3 (List.take (Try.prog.cellsOf 3) _) = some yh2_ at z
      rw [e] at z
      exact z
  obtain ⟨yh3_, h3_⟩ := hfh 3 _ rfl
  replace h3_ : DataW.trod enc Try.prog w base spare held nh 38 [d3] = some yh3_ := by
      have e : Try.prog.cellsOf 38 = 1 := by kernel_rfl
      have z := h3_
      change DataW.trod enc Try.prog w base spare held nh 38 (List.take (Try.prog.cellsOf 38) _) = some yh3_ at z
      rw [e] at z
      exact z
  obtain ⟨yh4_, h4_⟩ := hfh 4 _ rfl
  replace h4_ : DataW.trod enc Try.prog w base spare held nh 39 [d4] = some yh4_ := by
      have e : Try.prog.cellsOf 39 = 1 := by kernel_rfl
      have z := h4_
      change DataW.trod enc Try.prog w base spare held nh 39 (List.take (Try.prog.cellsOf 39) _) = some yh4_ at z
      rw [e] at z
      exact z
  obtain ⟨yh5_, h5_⟩ := hfh 5 _ rfl
  replace h5_ : DataW.trod enc Try.prog w base spare held nh 40 [d5] = some yh5_ := by
      have e : Try.prog.cellsOf 40 = 1 := by kernel_rfl
      have z := h5_
      change DataW.trod enc Try.prog w base spare held nh 40 (List.take (Try.prog.cellsOf 40) _) = some yh5_ at z
      rw [e] at z
      exact z
  obtain ⟨yh6_, h6_⟩ := hfh 6 _ rfl
  replace h6_ : DataW.trod enc Try.prog w base spare held nh 28 [d6] = some yh6_ := by
      have e : Try.prog.cellsOf 28 = 1 := by kernel_rfl
      have z := h6_
      change DataW.trod enc Try.prog w base spare held nh 28 (List.take (Try.prog.cellsOf 28) _) = some yh6_ at z
      rw [e] at z
      exact z
  obtain ⟨a0, e0, f0_0⟩ := opn_T3 h0_
  injection e0 with e0; subst e0
  obtain ⟨a1, e1, f1_0⟩ := opn_T3 h1_
  injection e1 with e1; subst e1
  obtain ⟨a2, e2, f2_0⟩ := opn_T3 h2_
  injection e2 with e2; subst e2
  obtain ⟨a3, e3⟩ := opn_T38 h3_
  injection e3 with e3; subst e3
  obtain ⟨a4, e4⟩ := opn_T39 h4_
  injection e4 with e4; subst e4
  obtain ⟨A5, n5, c5, a5, e5, f5_0, f5_1⟩ := opn_T40 h5_
  injection e5 with e5; subst e5
  obtain ⟨a6, e6, f6_0⟩ := opn_T28 h6_
  injection e6 with e6; subst e6
  exact ⟨a0, a1, a2, a3, a4, A5, n5, c5, a5, a6, rfl, f0_0, f1_0, f2_0, f5_0, f5_1, f6_0⟩
theorem opn_S50 {H : Type} {enc : TypeId × Value → H} {w : World} {base : Nat} {spare : Nat → Bool} {held : Bool} {fuel : Nat} {cs : List Value} {x : DataW H × List MemPlace} (h : DataW.trod enc Try.prog w base spare held fuel 50 cs = some x) : ∃ (r : Rneedlestoreref24_Event) (a : Sneedlestoreref24_Event), cs = Lay.enc r ∧ rel_needlestoreref24_Event (Mem.snap w) r a ∧ ((-9223372036854775808 ≤ a.fKind ∧ a.fKind ≤ 9223372036854775807) ∧ (-9223372036854775808 ≤ a.fClient ∧ a.fClient ≤ 9223372036854775807) ∧ (-9223372036854775808 ≤ a.fOp ∧ a.fOp ≤ 9223372036854775807) ∧ (-9223372036854775808 ≤ a.fResult ∧ a.fResult ≤ 9223372036854775807)) := by
  obtain ⟨a0, a1, a2, a3, a4, A5, n5, c5, a5, a6, e, f0, f1, f2, f3, f4, f5⟩ := opn_C50 h
  exact ⟨⟨(Sneedlestoreref24_Event.mk a0 a1 a2 a3 a4 a5 a6), ⟨A5, n5, c5⟩⟩, (Sneedlestoreref24_Event.mk a0 a1 a2 a3 a4 a5 a6), e, ⟨rfl, f3⟩, ⟨f0, f1, f2, f5⟩⟩
theorem opn_T22 {H : Type} {enc : TypeId × Value → H} {w : World} {base : Nat} {spare : Nat → Bool} {held : Bool} {fuel : Nat} {cs : List Value} {x : DataW H × List MemPlace} (h : DataW.trod enc Try.prog w base spare held fuel 22 cs = some x) : ∃ (A : Option Addr) (n c : Nat) (rs : List Rneedlestoreref24_Event) (a : List (Sneedlestoreref24_Event)), cs = [.slice A n c] ∧ SlT (Mem.snap w) A n c rs ∧ Rels (rel_needlestoreref24_Event (Mem.snap w)) rs a ∧ ∀ z ∈ a, (-9223372036854775808 ≤ z.fKind ∧ z.fKind ≤ 9223372036854775807) ∧ (-9223372036854775808 ≤ z.fClient ∧ z.fClient ≤ 9223372036854775807) ∧ (-9223372036854775808 ≤ z.fOp ∧ z.fOp ≤ 9223372036854775807) ∧ (-9223372036854775808 ≤ z.fResult ∧ z.fResult ≤ 9223372036854775807) :=
  opn_deep (Q := fun z => (-9223372036854775808 ≤ z.fKind ∧ z.fKind ≤ 9223372036854775807) ∧ (-9223372036854775808 ≤ z.fClient ∧ z.fClient ≤ 9223372036854775807) ∧ (-9223372036854775808 ≤ z.fOp ∧ z.fOp ≤ 9223372036854775807) ∧ (-9223372036854775808 ≤ z.fResult ∧ z.fResult ≤ 9223372036854775807)) Try.underlying22 (by kernel_rfl : Try.prog.cellsOf 50 = 7) (fun n cs y hy hl => let ⟨r, a, h1, h2, h3⟩ := opn_S50 hy; ⟨r, a, h1, h2, h3⟩) h
end Go.Proofs.Ytpebhdepmbnjbaa
