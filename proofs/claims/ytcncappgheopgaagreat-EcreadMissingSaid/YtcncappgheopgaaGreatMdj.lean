/-
  Models of functions of the program (j): what each computes, as an option. Printed by a program of ours (vcm.py). No conditions.
-/
import Derived.Test.YtcncappgheopgaaGreatMdi
namespace Go.Proofs.YtcncappgheopgaaGreat
set_option linter.unusedVariables false
end Go.Proofs.YtcncappgheopgaaGreat
