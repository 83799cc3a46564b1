/-
  Function values: made of a function and bound arguments, called; the check for nil. No conditions.
-/
import Derived.Test.YtnbcphofimicdaaX7
namespace Go.Proofs.Ytnbcphofimicdaa
open Go Go.RowKit
set_option linter.unusedVariables false
set_option linter.unusedSimpArgs false
section
variable {P : Program} {N : Nat} {w0 : World} {env : Env} {H : Heap}
variable {d : Option Tmp} {ty T T' E : TypeId} {pos : String} {after : Array Edge} {g : Option (Nat × Bool)} {x y : Operand} {z : Value}

theorem Yld.makeFunc {fn : Go.Fn} {fs gs : List Operand} {us vs : List Value} (hf : evls env fs = some us) (hg : evls env gs = some vs) :
    Yld P N w0 env H ⟨d, .makeFunc fn fs.toArray gs.toArray, ty, pos, after, g⟩ (.func fn us.toArray vs.toArray) := fun a w hs => by
  have e1 := hs.evals hf
  have e2 := hs.evals hg
  simp [execOp, Instr.makeFunc, e1, e2]
theorem Yld.nilCheckP {a : Addr} (hx : evl env x = some (.pointer (some a))) : Yld P N w0 env H ⟨d, .nilCheck x, ty, pos, after, g⟩ (.pointer (some a)) := fun ac w hs => by
  simp [execOp, hs.eval hx]
/-- a call of a function value -/
theorem wp_callV {o : Oper} {a : Act} {w : World} {K : Act → World → Prop} {Q : Exit → Act → World → Prop} {f : FuncId} {fn : Func} {xs : List Operand} {ts : Array TypeId} {us vs cs : List Value}
    (ho : o.op = .call ⟨.value y, xs.toArray, ts⟩) (hy : a.eval y = .func (.func f) us.toArray cs.toArray) (hf : P.funcs[f]? = some fn) (hname : (fn.name == "runtime.NumGoroutine") = false) (hbody : fn.body.isNone = false)
    (hx : xs.map a.eval = vs) {R : Value → World → Prop} (h : Calls P f (us ++ vs ++ cs).toArray w fun e w' => ∃ r, e = .returned r ∧ R r w') (k : ∀ r w', R r w' → K (a.put o.dst r) w') : o.wp P a w K Q := by
  unfold Oper.wp
  have hrun : (execOp a.eval o).run P w = .ok (.enter f (us ++ vs ++ cs).toArray) w := by
    obtain ⟨dst, op, ty, pos, after, guard⟩ := o
    simp only at ho
    subst ho
    have h1 : fn.name ≠ "runtime.NumGoroutine" := by simpa using hname
    have h2 : fn.body ≠ none := by intro e; rw [e] at hbody; cases hbody
    simp [execOp, resolve, hy, Deferred.ofValue, invoke, callFunc, hf, h1, h2, hx]
  rw [hrun, Oper.upon_enter]
  refine h.mono fun e w' hR => ?_
  obtain ⟨r, rfl, hr⟩ := hR
  exact k r w' hr
theorem Eff.callVT {o : Oper} {f : FuncId} {fn : Func} {xs : List Operand} {ts : Array TypeId} {us vs cs : List Value} {R : Value → Heap → Prop}
    (ho : o.op = .call ⟨.value y, xs.toArray, ts⟩) (hy : evl env y = some (.func (.func f) us.toArray cs.toArray)) (hf : P.funcs[f]? = some fn) (hname : (fn.name == "runtime.NumGoroutine") = false) (hbody : fn.body.isNone = false)
    (hx : evls env xs = some vs) (hc : Tri P f (us ++ vs ++ cs).toArray w0 H R) : Eff P N w0 env H o R := by
  intro a w K Q hs hK
  refine wp_callV ho (hs.eval hy) hf hname hbody (hs.evals hx) (R := fun r w' => ∃ H', R r H' ∧ Below w0.heap.size w0 w' ∧ HS w0.heap.size w' H')
    ((hc w hs.below hs.heap).mono fun e w' ⟨r, H', he, hr, hb, hh⟩ => ⟨r, he, H', hr, hb, hh⟩) fun r w' ⟨H', hr, hb, hh⟩ => hK r H' w' hr hb hh
theorem WL.inlV {ops : Array Oper} {K : Act → World → Prop} {rest : List Oper} {d : Nat} {f : FuncId} {fn : Func} {xs : List Operand} {ts : Array TypeId} {us vs cs : List Value} (hd : d < N)
    (hy : evl env y = some (.func (.func f) us.toArray cs.toArray)) (hf : P.funcs[f]? = some fn) (hname : (fn.name == "runtime.NumGoroutine") = false) (hbody : fn.body.isNone = false) (hx : evls env xs = some vs)
    (h : Tri P f (us ++ vs ++ cs).toArray w0 H fun v H' => WL P N w0 ops K rest ((d, v) :: env) H') :
    WL P N w0 ops K (⟨some d, .call ⟨.value y, xs.toArray, ts⟩, ty, pos, after, none⟩ :: rest) env H :=
  WL.eff hd (Eff.callVT rfl hy hf hname hbody hx h) fun _ _ h => h
end
end Go.Proofs.Ytnbcphofimicdaa
