/- A part of the proof. Conditions: as each theorem says. -/
import Derived.Test.YthjnhlmfcejhkaaGreatX18
namespace Go.Proofs.YthjnhlmfcejhkaaGreat
open Go Go.RowKit
set_option linter.unusedVariables false
section
variable {P : Program} {N : Nat} {w0 : World} {env : Env} {H : Heap}
theorem Eff.callQ {o : Oper} {f : FuncId} {fn : Func} {xs : List Operand} {ts : Array TypeId} {vs : List Value} {M : Mem} {R : Value -> List HE -> Prop} (k : Nat)
  (ho : o.op = .call ⟨.value (.func f), xs.toArray, ts⟩) (hf : P.funcs[f]? = some fn) (hname : (fn.name == "runtime.NumGoroutine") = false) (hbody : fn.body.isNone = false)
  (hx : evls env xs = some vs) (hM : look H 0 = some (.mem M))
  (hc : Fn P f vs.toArray M fun r M' es => R r es) : Eff P N w0 env H o fun r H' => ∃ es, R r es /\ H' = tag k es H := by
 intro a w K Q hs hK
 refine wp_callGo ho hf hname hbody (hs.evals hx) (R := fun r w' => ∃ es, R r es /\ Below w.heap.size w w' /\ HSes w.heap.size w' es)
  ((hc w (hs.heap.sat 0 _ hM)).mono fun e w' ⟨r, M', es, he, hr, h1, h2, h3, h4, h5⟩ => ⟨r, he, es, hr, h2, h4⟩) fun r w' ⟨es, hr, hb, hh⟩ => ?_
 have hk : HS w0.heap.size w' H := hs.heap.keep fun g hg => hb.block g hg
 exact hK r _ w' ⟨es, hr, rfl⟩ (hs.below.trans (hb.mono hs.below.size)) (hk.push es k hh hs.below.size fun k' e g hk' hg => (hs.heap.sat k' e hk').lt g hg)
end
end Go.Proofs.YthjnhlmfcejhkaaGreat
