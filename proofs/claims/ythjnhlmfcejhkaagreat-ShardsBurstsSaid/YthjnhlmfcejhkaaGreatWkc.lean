/- A part of the proof. Conditions: as each theorem says. -/
import Derived.Test.YthjnhlmfcejhkaaGreatWkb
import Derived.Test.YthjnhlmfcejhkaaGreatMdr
namespace Go.Proofs.YthjnhlmfcejhkaaGreat
open Go Go.RowKit Yld
set_option linter.unusedVariables false
end Go.Proofs.YthjnhlmfcejhkaaGreat
