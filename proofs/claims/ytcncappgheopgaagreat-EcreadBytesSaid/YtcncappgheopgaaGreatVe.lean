/-
 The sets of shards that are left out. Conditions: as each theorem says.
-/
import Derived.Test.YtcncappgheopgaaGreatMdj
import Derived.KernelRfl
namespace Go.Proofs.YtcncappgheopgaaGreat
set_option linter.unusedVariables false
set_option linter.unusedSimpArgs false
end Go.Proofs.YtcncappgheopgaaGreat
