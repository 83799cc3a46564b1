/-
 Walks (j): what a function's model gives, the function returns. Printed by a program of ours (vcm.py) from the function's operations. Conditions: as each theorem says.
-/
import Derived.Test.YtcncappgheopgaaGreatWki
import Derived.Test.YtcncappgheopgaaGreatMdj
namespace Go.Proofs.YtcncappgheopgaaGreat
open Go Go.RowKit
set_option linter.unusedVariables false
theorem agg_28 : Agg Tryz.prog 28 11 := ⟨⟨_, Tryz.underlying28, rfl⟩, by kernel_rfl⟩
end Go.Proofs.YtcncappgheopgaaGreat
