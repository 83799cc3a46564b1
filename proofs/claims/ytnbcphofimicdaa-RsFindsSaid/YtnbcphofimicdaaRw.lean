/-
  The sanity check of the statements on rs: the model is evaluated. No conditions.
-/
import Derived.Test.YtnbcphofimicdaaMdf
namespace Go.Proofs.Ytnbcphofimicdaa
set_option maxRecDepth 100000 in
theorem awake_ok : m_law04_awake = some true := by decide +kernel
end Go.Proofs.Ytnbcphofimicdaa
