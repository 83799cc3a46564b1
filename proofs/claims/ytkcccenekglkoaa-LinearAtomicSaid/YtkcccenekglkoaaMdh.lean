/-
  Models of functions of the program (h): what each computes, as an option. Printed by a program of ours (vcm.py). No conditions.
-/
import Derived.Test.YtkcccenekglkoaaMdg
namespace Go.Proofs.Ytkcccenekglkoaa
set_option linter.unusedVariables false
end Go.Proofs.Ytkcccenekglkoaa
