/-
 More operations of the models: clear of a slice's end; delete; two strings one after the other. No conditions.
-/
import Derived.Test.YtkcccenekglkoaaMo
namespace Go.Proofs.Ytkcccenekglkoaa
def clr {α : Type} (xs : List α) (lo : Int) (z : α) : List α := xs.take lo.toNat ++ List.replicate (xs.length - lo.toNat) z
def mdel {κ ν : Type} [BEq κ] : List (κ × ν) -> κ -> List (κ × ν)
 | [], _ => []
 | (a, w) :: m, k => if k == a then m else (a, w) :: mdel m k
def cat (xs ys : List (BitVec 8)) : Option (List (BitVec 8)) := if xs.length + ys.length <= 9223372036854775807 then some (xs ++ ys) else none
theorem cat_some {xs ys zs : List (BitVec 8)} (h : cat xs ys = some zs) : xs.length + ys.length <= 9223372036854775807 /\ zs = xs ++ ys := by
 unfold cat at h; split at h
 ·rename_i h1; exact ⟨h1, (Option.some.inj h).symm⟩
 ·cases h
theorem cat_of {xs ys : List (BitVec 8)} (h : xs.length + ys.length <= 9223372036854775807) : cat xs ys = some (xs ++ ys) := if_pos h
end Go.Proofs.Ytkcccenekglkoaa
