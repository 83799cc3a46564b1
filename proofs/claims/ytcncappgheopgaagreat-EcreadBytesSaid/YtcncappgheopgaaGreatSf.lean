/-
 Needles of a sealed generation: what Candidate and Read compute, in the program and in the reference; ranges of intact shards. Conditions: as each theorem says.
-/
import Derived.Test.YtcncappgheopgaaGreatSe
import Derived.Test.YtcncappgheopgaaGreatVe
namespace Go.Proofs.YtcncappgheopgaaGreat
set_option linter.unusedVariables false
set_option linter.unusedSimpArgs false
end Go.Proofs.YtcncappgheopgaaGreat
