/-
 More operations of the models: clear of a slice's end; delete; two strings one after the other. No conditions.
-/
import Derived.Test.YtkcccenekglkoaaMo
namespace Go.Proofs.Ytkcccenekglkoaa
def clr {α : Type} (xs : List α) (lo : Int) (z : α) : List α := xs.take lo.toNat ++ List.replicate (xs.length - lo.toNat) z
def mdel {κ ν : Type} [BEq κ] : List (κ × ν) -> κ -> List (κ × ν)
 | [], _ => []
 | (a, w) :: m, k => if k == a then m else (a, w) :: mdel m k
end Go.Proofs.Ytkcccenekglkoaa
