/-
  One more partial operation of the models: clear of a slice's end. No conditions.
-/
import Derived.Test.YtpebhdepmbnjbaaMo
namespace Go.Proofs.Ytpebhdepmbnjbaa
/-- what clear leaves: from lo on zeros -/
def clr {α : Type} (xs : List α) (lo : Int) (z : α) : List α := xs.take lo.toNat ++ List.replicate (xs.length - lo.toNat) z
end Go.Proofs.Ytpebhdepmbnjbaa
