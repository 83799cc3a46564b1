/-
  The sanity check of the statements on gfmatrix: the model is evaluated. No conditions.
-/
import Derived.Test.YtnkahhipochakaaMdd
namespace Go.Proofs.Ytnkahhipochakaa
set_option maxRecDepth 100000 in
theorem awake_ok : m_law03_awake = some true := by decide +kernel
end Go.Proofs.Ytnkahhipochakaa
