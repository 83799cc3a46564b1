/-
 A small symbolic executor for the walk, part 15: short forms of the steps that walks take most often; what a step asks besides is found by itself.
 Conditions: none; plain lemmas over any program.
-/
import Derived.Test.YtkcccenekglkoaaZ2
import Derived.KernelRfl
namespace Go.Proofs.Ytkcccenekglkoaa
open Go Go.RowKit
set_option linter.unusedVariables false
section
variable {P : Program} {N : Nat} {w0 : World} {env : Env} {H : Heap} {ops : Array Oper} {K : Act -> World -> Prop} {rest : List Oper}
variable {d j : Nat} {want : Bool} {op : Op} {ty : TypeId} {pos : String} {after : Array Edge} {v : Value} {x : Operand} {Hro : Heap} {fuel : Nat} {listed : Array Bool}
theorem sc {α : Type} {E env : List (Nat × α)} {k : Nat} {v : α} (hs : Sub E env) (h : look env k = some v := by exact rfl) : Sub ((k, v) :: E) env := Sub.cons h hs
theorem sn {α : Type} {E : List (Nat × α)} : Sub [] E := Sub.nil _
theorem ya (h : Yld P N w0 env H ⟨some d, op, ty, pos, after, none⟩ v) (k : WL P N w0 ops K rest ((d, v) :: env) H) (hd : d < N := by decide) : WL P N w0 ops K (⟨some d, op, ty, pos, after, none⟩ :: rest) env H := WL.yld hd h k
theorem yg (h : Yld P N w0 env H ⟨some d, op, ty, pos, after, some (j, want)⟩ v) (k : WL P N w0 ops K rest ((d, v) :: env) H) (hj : guardIs ops env j = some (.bool want) := by exact rfl) (hd : d < N := by decide) : WL P N w0 ops K (⟨some d, op, ty, pos, after, some (j, want)⟩ :: rest) env H := WL.yldG hd hj h k
theorem sk {b : Bool} (k : WL P N w0 ops K rest ((d, undef) :: env) H) (hj : guardIs ops env j = some (.bool b) := by exact rfl) (hb : (b == want) = false := by exact rfl) (hd : d < N := by decide) : WL P N w0 ops K (⟨some d, op, ty, pos, after, some (j, want)⟩ :: rest) env H := WL.skip hd hj hb k
end
namespace Z
section
variable {P : Program} {N : Nat} {w0 : World} {env : Env} {H : Heap} {ops : Array Oper} {K : Act -> World -> Prop} {rest : List Oper} {r : Option Nat} {ds : List Deferred}
variable {d j : Nat} {want : Bool} {op : Op} {ty : TypeId} {pos : String} {after : Array Edge} {v : Value} {x : Operand}
theorem ya (h : Yld P N w0 env H ⟨some d, op, ty, pos, after, none⟩ v) (k : WL P N w0 r ds ops K rest ((d, v) :: env) H) (hd : d < N := by decide) : WL P N w0 r ds ops K (⟨some d, op, ty, pos, after, none⟩ :: rest) env H := WL.yld hd h k
end
end Z
end Go.Proofs.Ytkcccenekglkoaa
