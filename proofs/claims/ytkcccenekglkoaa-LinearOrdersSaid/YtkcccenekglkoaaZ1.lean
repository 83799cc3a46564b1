/-
 A small symbolic executor for the walk, part Z1: the same rules within rounds of a range over a function, in its iterator, and behind it.
 Conditions: none; plain lemmas over any program.
-/
import Derived.Test.YtkcccenekglkoaaX14
import Derived.RangeFuncRecord
import Derived.Sort.LoopGhostIn
import Derived.TacticsIn
namespace Go.Proofs.Ytkcccenekglkoaa
open Go Go.RowKit
set_option linter.unusedVariables false
namespace Z
end Z
end Go.Proofs.Ytkcccenekglkoaa
