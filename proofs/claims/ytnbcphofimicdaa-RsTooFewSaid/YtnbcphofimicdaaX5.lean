/-
  A small symbolic executor for the walk, part 5: respelling the newest value; parting a bool; drawn regions likewise.
  Conditions: none; plain lemmas over any program.
-/
import Derived.Test.YtnbcphofimicdaaX4
namespace Go.Proofs.Ytnbcphofimicdaa
open Go Go.RowKit
set_option linter.unusedVariables false

theorem neq_str_t {α : Type} [BEq α] [LawfulBEq α] {a b : α} (h : (!(a == b)) = true) : a ≠ b := by
  intro e; subst e; simp at h
theorem neq_str_f {α : Type} [BEq α] [LawfulBEq α] {a b : α} (h : (!(a == b)) = false) : a = b := by
  by_cases e : a = b
  · exact e
  · simp [e] at h

section
variable {P : Program} {N : Nat} {w0 : World} {env : Env} {H : Heap} {ops : Array Oper} {K : Act → World → Prop} {rest : List Oper}

theorem WL.new {d : Nat} {v v' : Value} (e : v = v') (h : WL P N w0 ops K rest ((d, v') :: env) H) : WL P N w0 ops K rest ((d, v) :: env) H := by subst e; exact h
theorem WL.bool {d : Nat} {b : Bool} (ht : b = true → WL P N w0 ops K rest ((d, .bool true) :: env) H) (hf : b = false → WL P N w0 ops K rest ((d, .bool false) :: env) H) : WL P N w0 ops K rest ((d, .bool b) :: env) H := by
  cases b
  · exact hf rfl
  · exact ht rfl
theorem WD.new {Hro : Heap} {fuel : Nat} {listed : Array Bool} {d : Nat} {v v' : Value} (e : v = v') (h : WD P N w0 ops K Hro fuel listed ((d, v') :: env) H) : WD P N w0 ops K Hro fuel listed ((d, v) :: env) H := by subst e; exact h
theorem WD.bool {Hro : Heap} {fuel : Nat} {listed : Array Bool} {d : Nat} {b : Bool} (ht : b = true → WD P N w0 ops K Hro fuel listed ((d, .bool true) :: env) H) (hf : b = false → WD P N w0 ops K Hro fuel listed ((d, .bool false) :: env) H) :
    WD P N w0 ops K Hro fuel listed ((d, .bool b) :: env) H := by
  cases b
  · exact hf rfl
  · exact ht rfl
theorem WC.new {cd : Code} {Q : Exit → Act → World → Prop} {d : Nat} {v v' : Value} (e : v = v') (h : WC P N w0 cd Q ((d, v') :: env) H) : WC P N w0 cd Q ((d, v) :: env) H := by subst e; exact h

/-- in a drawn region: behind an effect -/
theorem Eff.weaken {o : Oper} {R R' : Value → Heap → Prop} (h : Eff P N w0 env H o R) (hr : ∀ v H', R v H' → R' v H') : Eff P N w0 env H o R' :=
  fun a w K Q hs hK => h a w K Q hs fun v H' w' hR hb hh => hK v H' w' (hr v H' hR) hb hh
theorem Eff0.weaken' {o : Oper} {H1 H2 : Heap} (h : Eff0 P N w0 env H o H1) (e : H1 = H2) : Eff0 P N w0 env H o H2 := by subst e; exact h
theorem WC.condTe {Q : Exit → Act → World → Prop} {c : Operand} {x y : Code} {b : Bool} (hc : evl env c = some (.bool b)) (hb : b = true) (h : WC P N w0 x Q env H) : WC P N w0 (.cond c x y) Q env H := by
  subst hb; exact WC.condT hc h
theorem WC.condFe {Q : Exit → Act → World → Prop} {c : Operand} {x y : Code} {b : Bool} (hc : evl env c = some (.bool b)) (hb : b = false) (h : WC P N w0 y Q env H) : WC P N w0 (.cond c x y) Q env H := by
  subst hb; exact WC.condF hc h
end
end Go.Proofs.Ytnbcphofimicdaa
