/-
 A small symbolic executor for the walk, parts 12 and 13: functions that change or cut a slice of the caller's own, arrays, scopes, calls that read an own slice.
 Conditions: none; plain lemmas over any program.
-/
import Derived.Test.YtkcccenekglkoaaX10
import Derived.Scope
import Derived.Laws.StructEq
namespace Go.Proofs.Ytkcccenekglkoaa
open Go Go.RowKit
set_option linter.unusedVariables false
section
variable {P : Program} {N : Nat} {w0 : World} {env : Env} {H : Heap} {Q : Exit -> Act -> World -> Prop}
variable {d : Option Nat} {ty T T' E : TypeId} {pos : String} {after : Array Edge} {g : Option (Nat × Bool)} {x y : Operand}
variable {sz bytes : Nat} {z : Value} {A : Option Addr} {n c : Nat} {cs : List Value} {α : Type} [Lay α] {xs ys : List α}
def Mut (P : Program) (f : FuncId) (args : Array Value) (E : TypeId) (sz : Nat) (A : Option Addr) (n c : Nat) (cs : List Value) (R : Value -> List Value -> Prop) : Prop :=
 ∀ (w0 : World) (e0 : HE), Tri P f args w0 [(1, e0), (2, .own E sz A n c cs)] fun r H' => ∃ ds, R r ds /\ H' = [(1, e0), (2, .own E sz A n c ds)]
theorem Mut.intro {f : FuncId} {fn : Func} {cd : Code} {args : List Value} {R : Value -> List Value -> Prop} (hf : P.funcs[f]? = some fn) (hb : fn.body = some cd) (hN : fn.ntmps = N) (hle : args.length <= N)
  (h : ∀ w0 e0, WC P N w0 cd (bodyPost P fn fun e w' => ∃ r H', e = .returned r /\ (∃ ds, R r ds /\ H' = [(1, e0), (2, .own E sz A n c ds)]) /\ Below w0.heap.size w0 w' /\ HS w0.heap.size w' H') (envOf 0 args) [(1, e0), (2, .own E sz A n c cs)]) :
  Mut P f args.toArray E sz A n c cs R := fun w0 e0 => Tri.intro hf hb hN hle (h w0 e0)
theorem Ret.mut {fn : Func} {R : Value -> List Value -> Prop} {r : Value} {e0 : HE} {ds : List Value} (hr : ResIs P N w0 fn env H r) (hsub : Sub [(1, e0), (2, .own E sz A n c ds)] H) (h : R r ds) :
  QK N w0 (bodyPost P fn fun e w' => ∃ r H', e = .returned r /\ (∃ ds, R r ds /\ H' = [(1, e0), (2, .own E sz A n c ds)]) /\ Below w0.heap.size w0 w' /\ HS w0.heap.size w' H') .ret env H :=
 Ret.tri _ hr hsub ⟨ds, h, rfl⟩
open Classical in
theorem Eff.callMut {o : Oper} {f : FuncId} {fn : Func} {l : List Operand} {ts : Array TypeId} {vs : List Value} {R : Value -> List Value -> Prop} (k : Nat)
  (ho : o.op = .call ⟨.value (.func f), l.toArray, ts⟩) (hf : P.funcs[f]? = some fn) (hname : (fn.name == "runtime.NumGoroutine") = false) (hbody : fn.body.isNone = false)
  (hx : evls env l = some vs) (hk : look H k = some (.own E sz A n c cs)) (hc : Mut P f vs.toArray E sz A n c cs R) :
  Eff P N w0 env H o fun r H' => ∃ ds, R r ds /\ H' = (k, .own E sz A n c ds) :: H := by
 intro a w K Q hs hK
 let F : Nat -> Prop := fun g => ∃ i e, look H i = some e /\ i ≠ k /\ e.fp g
 let M : Mem := fun g => if F g then w.heap[g]? else none
 have hM : Holds M w := fun g o h => by
  by_cases hF : F g
  ·simpa [M, hF] using h
  ·simp [M, hF] at h
 have hin : HS w0.heap.size w [(1, .mem M), (2, .own E sz A n c cs)] := by
  refine ⟨fun i e he => ?_, fun i j e e' hi hj hne => ?_⟩
  ·rw [look_cons, look_cons] at he
   split at he
   ·injection he with he; subst he; exact hM
   ·split at he
    ·injection he with he; subst he; exact hs.heap.sat k _ hk
    ·cases he
  ·rw [look_cons, look_cons] at hi hj
   have key : ∀ g, (HE.mem M).fp g -> (HE.own E sz A n c cs).fp g -> False := by
    intro g h1 h2
    have hF : F g := Classical.byContradiction fun hF => h1 (by simp [M, hF])
    obtain ⟨i, e, hl, hne, hg⟩ := hF
    exact hs.heap.apart i k e _ hl hk hne g hg h2
   split at hi
   ·rename_i h1
    split at hj
    ·omega
    ·split at hj
     ·injection hi with hi; injection hj with hj; subst hi; subst hj; exact key
     ·cases hj
   ·split at hi
    ·rename_i h1 h2
     split at hj
     ·injection hi with hi; injection hj with hj; subst hi; subst hj; exact fun g a b => key g b a
     ·split at hj
      ·omega
      ·cases hj
    ·cases hi
 refine wp_callGo ho hf hname hbody (hs.evals hx) (R := fun r w' => ∃ ds, R r ds /\ Below w0.heap.size w0 w' /\ HS w0.heap.size w' [(1, .mem M), (2, .own E sz A n c ds)])
  ((hc w0 (.mem M) w hs.below hin).mono fun e w' ⟨r, H', he, ⟨ds, hr, hH⟩, hb, hh⟩ => ⟨r, he, ds, hr, hb, hH ▸ hh⟩) fun r w' ⟨ds, hr, hb, hh⟩ => ?_
 refine hK r _ w' ⟨ds, hr, rfl⟩ hb ?_
 have hM' : Holds M w' := hh.sat 1 _ rfl
 have hkeep : ∀ i e, look H i = some e -> i ≠ k -> e.sat w0.heap.size w' := fun i e he hne =>
  (hs.heap.sat i e he).keep fun g hg => by
   have hlt := (hs.heap.sat i e he).lt g hg
   have hF : F g := ⟨i, e, he, hne, hg⟩
   obtain ⟨o, ho⟩ : ∃ o, w.heap[g]? = some o := ⟨_, Array.getElem?_eq_getElem hlt⟩
   rw [ho]
   exact hM' g o (by simp [M, hF, ho])
 refine ⟨fun i e he => ?_, fun i j e e' hi hj hne => ?_⟩
 ·rw [look_cons] at he
  split at he
  ·injection he with he; subst he; exact hh.sat 2 _ rfl
  ·rename_i h1; exact hkeep i e he (fun e => h1 e.symm)
 ·rw [look_cons] at hi hj
  split at hi
  ·split at hj
   ·omega
   ·injection hi with hi; subst hi; subst k
    rename_i h2
    exact fun g h3 h4 => hs.heap.apart i j _ e' hk hj hne g h3 h4
  ·split at hj
   ·injection hj with hj; subst hj; subst k
    exact fun g h3 h4 => hs.heap.apart i j e _ hi hk hne g h3 h4
   ·exact hs.heap.apart i j e e' hi hj hne
theorem RdT.slcN {lo hi : Int} (h : RdT w0 H A n c xs) (hs : Go.Proofs.Ytkcccenekglkoaa.slc xs lo hi = some ys) : RdT w0 H (subA A c lo.toNat (Lay.sz α)) (hi.toNat - lo.toNat) (c - lo.toNat) ys := by
 have h1 := RdT.slc h hs
 obtain ⟨_, _, hl⟩ := slc_some hs
 rwa [hl] at h1
theorem WS.freeze {Hro : Heap} {fuel i : Nat} {listed : Array Bool} {ops : Array Oper} {K : Act -> World -> Prop} {M : Mem} {cs : List Value} (k : Nat) (hk : look H k = some (.own E sz A n c cs)) (hM : look H 0 = some (.mem M)) (h0 : Nat.beq k 0 = false)
  (h1 : look Hro k = none) (h2 : look Hro 0 = none)
  (h : ∀ M', Ext w0.heap.size M M' -> SlM M' sz A n c cs -> WS P N w0 ops K Hro fuel listed env ((k, .emp) :: (0, .mem M') :: H) i) : WS P N w0 ops K Hro fuel listed env H i :=
 fun hs a w hst => let ⟨M', g1, g2, g3⟩ := hst.freeze k hk hM h0; h M' g1 g2 (Sub.push h1 (Sub.push h2 hs)) a w g3
end
end Go.Proofs.Ytkcccenekglkoaa
namespace Go.Proofs.Ytkcccenekglkoaa
open Go Go.RowKit
set_option linter.unusedVariables false
end Go.Proofs.Ytkcccenekglkoaa
