/-
 What readable arguments of the statements' types consist of. Printed by a program of ours (lawm.py). No conditions.
-/
import Derived.Test.YtkcccenekglkoaaX11
import Derived.Test.YtkcccenekglkoaaWka
import Derived.Test.YtkcccenekglkoaaWkd
import Derived.Test.YtkcccenekglkoaaWkza
import Derived.Test.YtkcccenekglkoaaWkzb
import Derived.Test.YtkcccenekglkoaaWky
import Derived.Test.YtkcccenekglkoaaWkb
import Derived.Test.YtkcccenekglkoaaWkf
import Derived.Test.YtkcccenekglkoaaWkg
import Derived.Test.YtkcccenekglkoaaWkh
import Derived.Test.YtkcccenekglkoaaWki
namespace Go.Proofs.Ytkcccenekglkoaa
set_option maxRecDepth 100000
open Go Go.RowKit
set_option linter.unusedVariables false
set_option linter.unusedSimpArgs false
theorem opn_T4 {H : Type} {enc : TypeId × Value -> H} {w : World} {base : Nat} {spare : Nat -> Bool} {held : Bool} {fuel : Nat} {cs : List Value} {x : DataW H × List MemPlace} (h : DataW.trod enc Try.prog w base spare held fuel 4 cs = some x) : ∃ a : Bool, cs = [.bool a] := opn_bool Try.underlying4 h
theorem opn_T22 {H : Type} {enc : TypeId × Value -> H} {w : World} {base : Nat} {spare : Nat -> Bool} {held : Bool} {fuel : Nat} {cs : List Value} {x : DataW H × List MemPlace} (h : DataW.trod enc Try.prog w base spare held fuel 22 cs = some x) : ∃ a : BitVec 32, cs = [U32 a] := opn_u32 Try.underlying22 h
theorem opn_T5 {H : Type} {enc : TypeId × Value -> H} {w : World} {base : Nat} {spare : Nat -> Bool} {held : Bool} {fuel : Nat} {cs : List Value} {x : DataW H × List MemPlace} (h : DataW.trod enc Try.prog w base spare held fuel 5 cs = some x) : ∃ a : BitVec 8, cs = [U8 a] := opn_u8 Try.underlying5 h
theorem opn_T23 {H : Type} {enc : TypeId × Value -> H} {w : World} {base : Nat} {spare : Nat -> Bool} {held : Bool} {fuel : Nat} {cs : List Value} {x : DataW H × List MemPlace} (h : DataW.trod enc Try.prog w base spare held fuel 23 cs = some x) : ∃ (A : Option Addr) (n c : Nat) (a : List (BitVec 8)), cs = [.slice A n c] /\ SlT (Mem.snap w) A n c a /\ ∀ z ∈ a, True :=
 opn_slice (Q := fun z => True) Try.underlying23 (by kernel_rfl : Try.prog.cellsOf 5 = 1) (fun n cs y hy hl => let ⟨a, h1⟩ := opn_T5 hy; ⟨a, h1, trivial⟩) h
theorem opn_T3 {H : Type} {enc : TypeId × Value -> H} {w : World} {base : Nat} {spare : Nat -> Bool} {held : Bool} {fuel : Nat} {cs : List Value} {x : DataW H × List MemPlace} (h : DataW.trod enc Try.prog w base spare held fuel 3 cs = some x) : ∃ a : Int, cs = [I64 a] /\ (-9223372036854775808 <= a /\ a <= 9223372036854775807) := opn_i64 Try.underlying3 h
theorem opn_T26 {H : Type} {enc : TypeId × Value -> H} {w : World} {base : Nat} {spare : Nat -> Bool} {held : Bool} {fuel : Nat} {cs : List Value} {x : DataW H × List MemPlace} (h : DataW.trod enc Try.prog w base spare held fuel 26 cs = some x) : ∃ a : BitVec 64, cs = [U64 a] := opn_u64 Try.underlying26 h
theorem opn_C72 {H : Type} {enc : TypeId × Value -> H} {w : World} {base : Nat} {spare : Nat -> Bool} {held : Bool} {fuel : Nat} {cs : List Value} {x : DataW H × List MemPlace} (h : DataW.trod enc Try.prog w base spare held fuel 72 cs = some x) : ∃ (a0 : Int) (a1 : Int) (a2 : BitVec 64) (a3 : BitVec 32) (a4 : BitVec 8) (a5 : Int) (a6 : Bool) (a7 : Bool), cs = [I64 a0, I64 a1, U64 a2, U32 a3, U8 a4, I64 a5, .bool a6, .bool a7] /\ (-9223372036854775808 <= a0 /\ a0 <= 9223372036854775807) /\ (-9223372036854775808 <= a1 /\ a1 <= 9223372036854775807) /\ (-9223372036854775808 <= a5 /\ a5 <= 9223372036854775807) := by
 obtain ⟨hlh, nh, hfh⟩ := opn_struct Try.underlying72 h
 rw [show Try.prog.cellsOf 72 = 8 by kernel_rfl] at hlh
 match cs, hlh with
 | [d0, d1, d2, d3, d4, d5, d6, d7], _ =>
 obtain ⟨yh0_, h0_⟩ := hfh 0 _ rfl
 replace h0_ : DataW.trod enc Try.prog w base spare held nh 3 [d0] = some yh0_ := by
   have e : Try.prog.cellsOf 3 = 1 := by kernel_rfl
   have z := h0_
   change DataW.trod enc Try.prog w base spare held nh 3 (List.take (Try.prog.cellsOf 3) _) = some yh0_ at z
   rw [e] at z
   exact z
 obtain ⟨yh1_, h1_⟩ := hfh 1 _ rfl
 replace h1_ : DataW.trod enc Try.prog w base spare held nh 3 [d1] = some yh1_ := by
   have e : Try.prog.cellsOf 3 = 1 := by kernel_rfl
   have z := h1_
   change DataW.trod enc Try.prog w base spare held nh 3 (List.take (Try.prog.cellsOf 3) _) = some yh1_ at z
   rw [e] at z
   exact z
 obtain ⟨yh2_, h2_⟩ := hfh 2 _ rfl
 replace h2_ : DataW.trod enc Try.prog w base spare held nh 26 [d2] = some yh2_ := by
   have e : Try.prog.cellsOf 26 = 1 := by kernel_rfl
   have z := h2_
   change DataW.trod enc Try.prog w base spare held nh 26 (List.take (Try.prog.cellsOf 26) _) = some yh2_ at z
   rw [e] at z
   exact z
 obtain ⟨yh3_, h3_⟩ := hfh 3 _ rfl
 replace h3_ : DataW.trod enc Try.prog w base spare held nh 22 [d3] = some yh3_ := by
   have e : Try.prog.cellsOf 22 = 1 := by kernel_rfl
   have z := h3_
   change DataW.trod enc Try.prog w base spare held nh 22 (List.take (Try.prog.cellsOf 22) _) = some yh3_ at z
   rw [e] at z
   exact z
 obtain ⟨yh4_, h4_⟩ := hfh 4 _ rfl
 replace h4_ : DataW.trod enc Try.prog w base spare held nh 5 [d4] = some yh4_ := by
   have e : Try.prog.cellsOf 5 = 1 := by kernel_rfl
   have z := h4_
   change DataW.trod enc Try.prog w base spare held nh 5 (List.take (Try.prog.cellsOf 5) _) = some yh4_ at z
   rw [e] at z
   exact z
 obtain ⟨yh5_, h5_⟩ := hfh 5 _ rfl
 replace h5_ : DataW.trod enc Try.prog w base spare held nh 3 [d5] = some yh5_ := by
   have e : Try.prog.cellsOf 3 = 1 := by kernel_rfl
   have z := h5_
   change DataW.trod enc Try.prog w base spare held nh 3 (List.take (Try.prog.cellsOf 3) _) = some yh5_ at z
   rw [e] at z
   exact z
 obtain ⟨yh6_, h6_⟩ := hfh 6 _ rfl
 replace h6_ : DataW.trod enc Try.prog w base spare held nh 4 [d6] = some yh6_ := by
   have e : Try.prog.cellsOf 4 = 1 := by kernel_rfl
   have z := h6_
   change DataW.trod enc Try.prog w base spare held nh 4 (List.take (Try.prog.cellsOf 4) _) = some yh6_ at z
   rw [e] at z
   exact z
 obtain ⟨yh7_, h7_⟩ := hfh 7 _ rfl
 replace h7_ : DataW.trod enc Try.prog w base spare held nh 4 [d7] = some yh7_ := by
   have e : Try.prog.cellsOf 4 = 1 := by kernel_rfl
   have z := h7_
   change DataW.trod enc Try.prog w base spare held nh 4 (List.take (Try.prog.cellsOf 4) _) = some yh7_ at z
   rw [e] at z
   exact z
 obtain ⟨a0, e0, f0_0⟩ := opn_T3 h0_
 injection e0 with e0; subst e0
 obtain ⟨a1, e1, f1_0⟩ := opn_T3 h1_
 injection e1 with e1; subst e1
 obtain ⟨a2, e2⟩ := opn_T26 h2_
 injection e2 with e2; subst e2
 obtain ⟨a3, e3⟩ := opn_T22 h3_
 injection e3 with e3; subst e3
 obtain ⟨a4, e4⟩ := opn_T5 h4_
 injection e4 with e4; subst e4
 obtain ⟨a5, e5, f5_0⟩ := opn_T3 h5_
 injection e5 with e5; subst e5
 obtain ⟨a6, e6⟩ := opn_T4 h6_
 injection e6 with e6; subst e6
 obtain ⟨a7, e7⟩ := opn_T4 h7_
 injection e7 with e7; subst e7
 exact ⟨a0, a1, a2, a3, a4, a5, a6, a7, rfl, f0_0, f1_0, f5_0⟩
theorem opn_S72 {H : Type} {enc : TypeId × Value -> H} {w : World} {base : Nat} {spare : Nat -> Bool} {held : Bool} {fuel : Nat} {cs : List Value} {x : DataW H × List MemPlace} (h : DataW.trod enc Try.prog w base spare held fuel 72 cs = some x) : ∃ a : Sneedlestorelaw25_Act, cs = Lay.enc a /\ ((-9223372036854775808 <= a.fClient /\ a.fClient <= 9223372036854775807) /\ (-9223372036854775808 <= a.fKind /\ a.fKind <= 9223372036854775807) /\ (-9223372036854775808 <= a.fResult /\ a.fResult <= 9223372036854775807)) := by
 obtain ⟨a0, a1, a2, a3, a4, a5, a6, a7, e, f0, f1, f2⟩ := opn_C72 h
 exact ⟨(Sneedlestorelaw25_Act.mk a0 a1 a2 a3 a4 a5 a6 a7), e, ⟨f0, f1, f2⟩⟩
theorem opn_T30 {H : Type} {enc : TypeId × Value -> H} {w : World} {base : Nat} {spare : Nat -> Bool} {held : Bool} {fuel : Nat} {cs : List Value} {x : DataW H × List MemPlace} (h : DataW.trod enc Try.prog w base spare held fuel 30 cs = some x) : ∃ (A : Option Addr) (n c : Nat) (a : List (Sneedlestorelaw25_Act)), cs = [.slice A n c] /\ SlT (Mem.snap w) A n c a /\ ∀ z ∈ a, (-9223372036854775808 <= z.fClient /\ z.fClient <= 9223372036854775807) /\ (-9223372036854775808 <= z.fKind /\ z.fKind <= 9223372036854775807) /\ (-9223372036854775808 <= z.fResult /\ z.fResult <= 9223372036854775807) :=
 opn_slice (Q := fun z => (-9223372036854775808 <= z.fClient /\ z.fClient <= 9223372036854775807) /\ (-9223372036854775808 <= z.fKind /\ z.fKind <= 9223372036854775807) /\ (-9223372036854775808 <= z.fResult /\ z.fResult <= 9223372036854775807)) Try.underlying30 (by kernel_rfl : Try.prog.cellsOf 72 = 8) (fun n cs y hy hl => let ⟨a, h1, h2⟩ := opn_S72 hy; ⟨a, h1, h2⟩) h
end Go.Proofs.Ytkcccenekglkoaa
