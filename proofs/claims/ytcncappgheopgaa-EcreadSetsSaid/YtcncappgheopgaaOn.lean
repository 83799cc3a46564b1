/-
  What readable arguments of the statements' types consist of. Printed by a program of ours (lawm.py). No conditions.
-/
import Derived.Test.YtcncappgheopgaaX11
import Derived.Test.YtcncappgheopgaaWka
import Derived.Test.YtcncappgheopgaaWkb
import Derived.Test.YtcncappgheopgaaWkc
import Derived.Test.YtcncappgheopgaaWkd
namespace Go.Proofs.Ytcncappgheopgaa
open Go Go.RowKit
set_option linter.unusedVariables false
set_option linter.unusedSimpArgs false

theorem opn_T3 {H : Type} {enc : TypeId × Value → H} {w : World} {base : Nat} {spare : Nat → Bool} {held : Bool} {fuel : Nat} {cs : List Value} {x : DataW H × List MemPlace} (h : DataW.trod enc Try.prog w base spare held fuel 3 cs = some x) : ∃ a : Int, cs = [I64 a] ∧ (-9223372036854775808 ≤ a ∧ a ≤ 9223372036854775807) := opn_i64 Try.underlying3 h
end Go.Proofs.Ytcncappgheopgaa
