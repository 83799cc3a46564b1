/-
 Walks (h): what a function's model gives, the function returns. Printed by a program of ours (vcm.py) from the function's operations. Conditions: as each theorem says.
-/
import Derived.Test.YtkcccenekglkoaaWkg
import Derived.Test.YtkcccenekglkoaaMdh
namespace Go.Proofs.Ytkcccenekglkoaa
open Go Go.RowKit
set_option linter.unusedVariables false
theorem nm_13 : (Try.f13.name == "runtime.NumGoroutine") = false := by kernel_rfl
theorem nm_15 : (Try.f15.name == "runtime.NumGoroutine") = false := by kernel_rfl
end Go.Proofs.Ytkcccenekglkoaa
