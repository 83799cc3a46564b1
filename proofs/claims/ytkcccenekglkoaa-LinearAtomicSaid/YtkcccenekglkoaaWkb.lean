/-
 Walks (b): what a function's model gives, the function returns. Printed by a program of ours (vcm.py) from the function's operations. Conditions: as each theorem says.
-/
import Derived.Test.YtkcccenekglkoaaWky
import Derived.Test.YtkcccenekglkoaaMdb
namespace Go.Proofs.Ytkcccenekglkoaa
open Go Go.RowKit
set_option linter.unusedVariables false
end Go.Proofs.Ytkcccenekglkoaa
