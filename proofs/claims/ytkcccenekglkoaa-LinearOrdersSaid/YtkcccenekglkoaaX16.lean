/-
 A small symbolic executor for the walk, part 16: rows of the call's own that hang on a slice of slices of the call's own.
 Conditions: none; plain lemmas over any program.
-/
import Derived.Test.YtkcccenekglkoaaX15
namespace Go.Proofs.Ytkcccenekglkoaa
open Go Go.RowKit
set_option linter.unusedVariables false
def HStep (H H' : Heap) : Prop := ∀ B w, HS B w H -> HS B w H'
section
variable {P : Program} {N : Nat} {w0 : World} {env : Env} {H H' H1 H2 H3 : Heap} {ops : Array Oper} {K : Act -> World -> Prop} {rest : List Oper}
variable {Hro : Heap} {fuel : Nat} {listed : Array Bool}
theorem St.hs {a : Act} {w : World} (hst : HStep H H') (h : St N w0 env H a w) : St N w0 env H' a w := ⟨h.size, h.defers, h.vals, h.below, hst _ _ h.heap⟩
theorem WL.hs (hst : HStep H H') (h : WL P N w0 ops K rest env H') : WL P N w0 ops K rest env H := fun a w hs => h a w (hs.hs hst)
variable {R : Mem -> Prop} {F : Mem -> Heap}
end
namespace Z
end Z
end Go.Proofs.Ytkcccenekglkoaa
