/- A part of the proof. Conditions: as each theorem says. -/
import Derived.Test.YthjnhlmfcejhkaaGreatWkd
import Derived.Test.YthjnhlmfcejhkaaGreatMdr
namespace Go.Proofs.YthjnhlmfcejhkaaGreat
open Go Go.RowKit Yld
set_option linter.unusedVariables false
theorem sty_91 : STy Tryz.prog 91 4 (.bool false) 1 1 := STy.of und_91 (by kernel_rfl) rfl
end Go.Proofs.YthjnhlmfcejhkaaGreat
