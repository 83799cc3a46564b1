/-
  What readable arguments of the statements' types consist of. Printed by a program of ours (lawm.py). No conditions.
-/
import Derived.Test.YtkcccenekglkoaaX11
import Derived.Test.YtkcccenekglkoaaWka
import Derived.Test.YtkcccenekglkoaaWkd
import Derived.Test.YtkcccenekglkoaaWkza
import Derived.Test.YtkcccenekglkoaaWkzb
import Derived.Test.YtkcccenekglkoaaWky
import Derived.Test.YtkcccenekglkoaaWkb
import Derived.Test.YtkcccenekglkoaaWkf
import Derived.Test.YtkcccenekglkoaaWkg
import Derived.Test.YtkcccenekglkoaaWkh
import Derived.Test.YtkcccenekglkoaaWki
namespace Go.Proofs.Ytkcccenekglkoaa
open Go Go.RowKit
set_option linter.unusedVariables false
set_option linter.unusedSimpArgs false

theorem opn_T22 {H : Type} {enc : TypeId × Value → H} {w : World} {base : Nat} {spare : Nat → Bool} {held : Bool} {fuel : Nat} {cs : List Value} {x : DataW H × List MemPlace} (h : DataW.trod enc Try.prog w base spare held fuel 22 cs = some x) : ∃ a : BitVec 32, cs = [U32 a] := opn_u32 Try.underlying22 h
theorem opn_T5 {H : Type} {enc : TypeId × Value → H} {w : World} {base : Nat} {spare : Nat → Bool} {held : Bool} {fuel : Nat} {cs : List Value} {x : DataW H × List MemPlace} (h : DataW.trod enc Try.prog w base spare held fuel 5 cs = some x) : ∃ a : BitVec 8, cs = [U8 a] := opn_u8 Try.underlying5 h
theorem opn_T23 {H : Type} {enc : TypeId × Value → H} {w : World} {base : Nat} {spare : Nat → Bool} {held : Bool} {fuel : Nat} {cs : List Value} {x : DataW H × List MemPlace} (h : DataW.trod enc Try.prog w base spare held fuel 23 cs = some x) : ∃ (A : Option Addr) (n c : Nat) (a : List (BitVec 8)), cs = [.slice A n c] ∧ SlT (Mem.snap w) A n c a ∧ ∀ z ∈ a, True :=
  opn_slice (Q := fun z => True) Try.underlying23 (by kernel_rfl : Try.prog.cellsOf 5 = 1) (fun n cs y hy hl => let ⟨a, h1⟩ := opn_T5 hy; ⟨a, h1, trivial⟩) h
theorem opn_T4 {H : Type} {enc : TypeId × Value → H} {w : World} {base : Nat} {spare : Nat → Bool} {held : Bool} {fuel : Nat} {cs : List Value} {x : DataW H × List MemPlace} (h : DataW.trod enc Try.prog w base spare held fuel 4 cs = some x) : ∃ a : Bool, cs = [.bool a] := opn_bool Try.underlying4 h
end Go.Proofs.Ytkcccenekglkoaa
