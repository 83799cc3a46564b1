/-
  What readable arguments of the statements' types consist of. Printed by a program of ours (lawm.py). No conditions.
-/
import Derived.Test.YtnbcphofimicdaaX11
import Derived.Test.YtnbcphofimicdaaWka
import Derived.Test.YtnbcphofimicdaaWkb
import Derived.Test.YtnbcphofimicdaaWkc
import Derived.Test.YtnbcphofimicdaaWkd
import Derived.Test.YtnbcphofimicdaaWke
import Derived.Test.YtnbcphofimicdaaWkf
namespace Go.Proofs.Ytnbcphofimicdaa
open Go Go.RowKit
set_option linter.unusedVariables false
set_option linter.unusedSimpArgs false

theorem opn_T3 {H : Type} {enc : TypeId × Value → H} {w : World} {base : Nat} {spare : Nat → Bool} {held : Bool} {fuel : Nat} {cs : List Value} {x : DataW H × List MemPlace} (h : DataW.trod enc Try.prog w base spare held fuel 3 cs = some x) : ∃ a : Int, cs = [I64 a] ∧ (-9223372036854775808 ≤ a ∧ a ≤ 9223372036854775807) := opn_i64 Try.underlying3 h
theorem opn_T5 {H : Type} {enc : TypeId × Value → H} {w : World} {base : Nat} {spare : Nat → Bool} {held : Bool} {fuel : Nat} {cs : List Value} {x : DataW H × List MemPlace} (h : DataW.trod enc Try.prog w base spare held fuel 5 cs = some x) : ∃ a : BitVec 8, cs = [U8 a] := opn_u8 Try.underlying5 h
theorem opn_T22 {H : Type} {enc : TypeId × Value → H} {w : World} {base : Nat} {spare : Nat → Bool} {held : Bool} {fuel : Nat} {cs : List Value} {x : DataW H × List MemPlace} (h : DataW.trod enc Try.prog w base spare held fuel 22 cs = some x) : ∃ (A : Option Addr) (n c : Nat) (a : List (BitVec 8)), cs = [.slice A n c] ∧ SlT (Mem.snap w) A n c a ∧ ∀ z ∈ a, True :=
  opn_slice (Q := fun z => True) Try.underlying22 (by kernel_rfl : Try.prog.cellsOf 5 = 1) (fun n cs y hy hl => let ⟨a, h1⟩ := opn_T5 hy; ⟨a, h1, trivial⟩) h
theorem opn_T35 {H : Type} {enc : TypeId × Value → H} {w : World} {base : Nat} {spare : Nat → Bool} {held : Bool} {fuel : Nat} {cs : List Value} {x : DataW H × List MemPlace} (h : DataW.trod enc Try.prog w base spare held fuel 35 cs = some x) : ∃ (A : Option Addr) (n c : Nat) (rs : List Hdr) (a : List (List (BitVec 8))), cs = [.slice A n c] ∧ SlT (Mem.snap w) A n c rs ∧ Rels ((RelB (α := BitVec 8)) (Mem.snap w)) rs a ∧ ∀ z ∈ a, True :=
  opn_deep (Q := fun z => True) Try.underlying35 (by kernel_rfl : Try.prog.cellsOf 22 = 1) (fun n cs y hy hl => let ⟨A, n, c, a, h1, h2, h3⟩ := opn_T22 hy; ⟨⟨A, n, c⟩, a, h1, h2, trivial⟩) h
theorem opn_T4 {H : Type} {enc : TypeId × Value → H} {w : World} {base : Nat} {spare : Nat → Bool} {held : Bool} {fuel : Nat} {cs : List Value} {x : DataW H × List MemPlace} (h : DataW.trod enc Try.prog w base spare held fuel 4 cs = some x) : ∃ a : Bool, cs = [.bool a] := opn_bool Try.underlying4 h
theorem opn_T36 {H : Type} {enc : TypeId × Value → H} {w : World} {base : Nat} {spare : Nat → Bool} {held : Bool} {fuel : Nat} {cs : List Value} {x : DataW H × List MemPlace} (h : DataW.trod enc Try.prog w base spare held fuel 36 cs = some x) : ∃ (A : Option Addr) (n c : Nat) (a : List (Bool)), cs = [.slice A n c] ∧ SlT (Mem.snap w) A n c a ∧ ∀ z ∈ a, True :=
  opn_slice (Q := fun z => True) Try.underlying36 (by kernel_rfl : Try.prog.cellsOf 4 = 1) (fun n cs y hy hl => let ⟨a, h1⟩ := opn_T4 hy; ⟨a, h1, trivial⟩) h
theorem opn_T28 {H : Type} {enc : TypeId × Value → H} {w : World} {base : Nat} {spare : Nat → Bool} {held : Bool} {fuel : Nat} {cs : List Value} {x : DataW H × List MemPlace} (h : DataW.trod enc Try.prog w base spare held fuel 28 cs = some x) : ∃ (A : Option Addr) (n c : Nat) (a : List (Int)), cs = [.slice A n c] ∧ SlT (Mem.snap w) A n c a ∧ ∀ z ∈ a, -9223372036854775808 ≤ z ∧ z ≤ 9223372036854775807 :=
  opn_slice (Q := fun z => -9223372036854775808 ≤ z ∧ z ≤ 9223372036854775807) Try.underlying28 (by kernel_rfl : Try.prog.cellsOf 3 = 1) (fun n cs y hy hl => let ⟨a, h1, h2⟩ := opn_T3 hy; ⟨a, h1, h2⟩) h
end Go.Proofs.Ytnbcphofimicdaa
