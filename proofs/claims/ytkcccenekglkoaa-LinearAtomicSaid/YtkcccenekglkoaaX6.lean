/-
 A small symbolic executor for the walk, parts 5 and 6: respelling the newest value; composite literals, results that lie in a block, bytes of a constant string.
 Conditions: none; plain lemmas over any program.
-/
import Derived.Test.YtkcccenekglkoaaX4
namespace Go.Proofs.Ytkcccenekglkoaa
open Go Go.RowKit
set_option linter.unusedVariables false
section
variable {P : Program} {N : Nat} {w0 : World} {env : Env} {H : Heap} {ops : Array Oper} {K : Act -> World -> Prop} {rest : List Oper}
theorem WD.new {Hro : Heap} {fuel : Nat} {listed : Array Bool} {d : Nat} {v v' : Value} (e : v = v') (h : WD P N w0 ops K Hro fuel listed ((d, v') :: env) H) : WD P N w0 ops K Hro fuel listed ((d, v) :: env) H := by subst e; exact h
theorem Eff.weaken {o : Oper} {R R' : Value -> Heap -> Prop} (h : Eff P N w0 env H o R) (hr : ∀ v H', R v H' -> R' v H') : Eff P N w0 env H o R' :=
 fun a w K Q hs hK => h a w K Q hs fun v H' w' hR hb hh => hK v H' w' (hr v H' hR) hb hh
theorem Eff0.weaken' {o : Oper} {H1 H2 : Heap} (h : Eff0 P N w0 env H o H1) (e : H1 = H2) : Eff0 P N w0 env H o H2 := by subst e; exact h
theorem WC.condTe {Q : Exit -> Act -> World -> Prop} {c : Operand} {x y : Code} {b : Bool} (hc : evl env c = some (.bool b)) (hb : b = true) (h : WC P N w0 x Q env H) : WC P N w0 (.cond c x y) Q env H := by
 subst hb; exact WC.condT hc h
theorem WC.condFe {Q : Exit -> Act -> World -> Prop} {c : Operand} {x y : Code} {b : Bool} (hc : evl env c = some (.bool b)) (hb : b = false) (h : WC P N w0 y Q env H) : WC P N w0 (.cond c x y) Q env H := by
 subst hb; exact WC.condF hc h
end
end Go.Proofs.Ytkcccenekglkoaa
namespace Go.Proofs.Ytkcccenekglkoaa
open Go Go.RowKit
set_option linter.unusedVariables false
section
variable {P : Program} {N : Nat} {w0 : World} {env : Env} {H : Heap}
variable {sz : Nat} {A : Option Addr} {n c : Nat} {cs : List Value}
variable {d : Option Tmp} {ty T T' E : TypeId} {pos : String} {after : Array Edge} {g : Option (Nat × Bool)} {x y : Operand} {z : Value} {bytes : Nat}
def evlP (env : Env) : List (Nat × Operand) -> Option (List (Nat × Value))
 | [] => some []
 | (j, x) :: xs => match evl env x, evlP env xs with
  | some v, some vs => some ((j, v) :: vs)
  | _, _ => none
theorem evlP_map {a : Act} {w : World} (hs : St N w0 env H a w) : ∀ {ps : List (Nat × Operand)} {us : List (Nat × Value)}, evlP env ps = some us -> ps.map (fun p => (p.1, a.eval p.2)) = us
 | [], us, h => by simp [evlP] at h; subst h; rfl
 | (j, x) :: ps, us, h => by
  unfold evlP at h
  cases h1 : evl env x with
  | none => simp [h1] at h
  | some v =>
   cases h2 : evlP env ps with
   | none => simp [h1, h2] at h
   | some vs =>
    simp [h1, h2] at h
    subst h
    simp [hs.eval h1, evlP_map hs h2]
theorem Yld.build {parts : List (Nat × Operand)} {vs : List (Nat × Value)} {us : List Value} (hv : evlP env parts = some vs) (hb : P.built T vs = some us.toArray) :
  Yld P N w0 env H ⟨d, .build T parts.toArray, ty, pos, after, g⟩ (.agg us.toArray) := fun a w hs => by
 have hm := evlP_map hs hv
 have hr := run_build (P := P) w T vs.toArray us.toArray (by simpa using hb)
 simp [execOp, hm, hr]
theorem loadVar_blk {w : World} {gb : Nat} {t : TypeId} (ha : Agg P T cs.length) (h2 : w.heap[gb]? = some (.cells cs.toArray t (0, 0))) : (loadVar T ⟨gb, 0, none⟩).run P w = .ok (.agg cs.toArray) w := by
 obtain ⟨dd, hu, hd⟩ := ha.agg
 exact run_loadVar_row (P := P) w gb t T cs.toArray (0, 0) dd h2 hu (by cases dd <;> first | rfl | simp at hd) (by simpa using ha.size)
theorem ResIs.cellTmp {fn : Func} {a' u : Tmp} {v : Value} {gb k : Nat} {t : TypeId} (h : fn.results = #[.cell a' T, .tmp u]) (ha : Agg P T cs.length) (he : look env a' = some (.pointer (some ⟨gb, 0, none⟩))) (hk : look H k = some (.blk gb t cs))
  (hu : look env u = some v) : ResIs P N w0 fn env H (.tuple #[.agg cs.toArray, v]) := fun a w hs => by
 obtain ⟨_, h2⟩ : w0.heap.size <= gb /\ w.heap[gb]? = some (.cells cs.toArray t (0, 0)) := hs.heap.sat k _ hk
 have hv := hs.vals _ _ he
 have hw := hs.vals _ _ hu
 simp only [Array.getD_eq_getD_getElem?] at hv hw
 simp [results, h, hv, hw, asAddr, loadVar_blk ha h2]
end
end Go.Proofs.Ytkcccenekglkoaa
