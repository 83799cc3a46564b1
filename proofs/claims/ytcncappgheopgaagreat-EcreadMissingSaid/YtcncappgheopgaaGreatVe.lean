/-
  The sets of shards that are left out. Conditions: as each theorem says.
-/
import Derived.Test.YtcncappgheopgaaGreatMdj
import Derived.KernelRfl
namespace Go.Proofs.YtcncappgheopgaaGreat
set_option linter.unusedVariables false
set_option linter.unusedSimpArgs false
/-- the sets -/
def sL : List (List Int) := [[], [0], [1], [2], [3], [4], [5], [0, 1], [0, 2], [0, 3], [0, 4], [0, 5], [1, 2], [1, 3], [1, 4], [1, 5], [2, 3], [2, 4], [2, 5], [3, 4], [3, 5], [4, 5]]
end Go.Proofs.YtcncappgheopgaaGreat
