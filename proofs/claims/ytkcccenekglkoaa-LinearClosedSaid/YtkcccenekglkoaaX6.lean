/-
  A small symbolic executor for the walk, parts 5 and 6: respelling the newest value; composite literals, results that lie in a block, bytes of a constant string.
  Conditions: none; plain lemmas over any program.
-/
import Derived.Test.YtkcccenekglkoaaX4
namespace Go.Proofs.Ytkcccenekglkoaa
open Go Go.RowKit
set_option linter.unusedVariables false

theorem neq_str_t {α : Type} [BEq α] [LawfulBEq α] {a b : α} (h : (!(a == b)) = true) : a ≠ b := by
  intro e; subst e; simp at h
theorem neq_str_f {α : Type} [BEq α] [LawfulBEq α] {a b : α} (h : (!(a == b)) = false) : a = b := by
  by_cases e : a = b
  · exact e
  · simp [e] at h

section
variable {P : Program} {N : Nat} {w0 : World} {env : Env} {H : Heap} {ops : Array Oper} {K : Act → World → Prop} {rest : List Oper}

theorem WL.new {d : Nat} {v v' : Value} (e : v = v') (h : WL P N w0 ops K rest ((d, v') :: env) H) : WL P N w0 ops K rest ((d, v) :: env) H := by subst e; exact h
theorem WL.bool {d : Nat} {b : Bool} (ht : b = true → WL P N w0 ops K rest ((d, .bool true) :: env) H) (hf : b = false → WL P N w0 ops K rest ((d, .bool false) :: env) H) : WL P N w0 ops K rest ((d, .bool b) :: env) H := by
  cases b
  · exact hf rfl
  · exact ht rfl
theorem WD.new {Hro : Heap} {fuel : Nat} {listed : Array Bool} {d : Nat} {v v' : Value} (e : v = v') (h : WD P N w0 ops K Hro fuel listed ((d, v') :: env) H) : WD P N w0 ops K Hro fuel listed ((d, v) :: env) H := by subst e; exact h
theorem WD.bool {Hro : Heap} {fuel : Nat} {listed : Array Bool} {d : Nat} {b : Bool} (ht : b = true → WD P N w0 ops K Hro fuel listed ((d, .bool true) :: env) H) (hf : b = false → WD P N w0 ops K Hro fuel listed ((d, .bool false) :: env) H) :
    WD P N w0 ops K Hro fuel listed ((d, .bool b) :: env) H := by
  cases b
  · exact hf rfl
  · exact ht rfl
theorem WC.new {cd : Code} {Q : Exit → Act → World → Prop} {d : Nat} {v v' : Value} (e : v = v') (h : WC P N w0 cd Q ((d, v') :: env) H) : WC P N w0 cd Q ((d, v) :: env) H := by subst e; exact h

/-- in a drawn region: behind an effect -/
theorem Eff.weaken {o : Oper} {R R' : Value → Heap → Prop} (h : Eff P N w0 env H o R) (hr : ∀ v H', R v H' → R' v H') : Eff P N w0 env H o R' :=
  fun a w K Q hs hK => h a w K Q hs fun v H' w' hR hb hh => hK v H' w' (hr v H' hR) hb hh
theorem Eff0.weaken' {o : Oper} {H1 H2 : Heap} (h : Eff0 P N w0 env H o H1) (e : H1 = H2) : Eff0 P N w0 env H o H2 := by subst e; exact h
theorem WC.condTe {Q : Exit → Act → World → Prop} {c : Operand} {x y : Code} {b : Bool} (hc : evl env c = some (.bool b)) (hb : b = true) (h : WC P N w0 x Q env H) : WC P N w0 (.cond c x y) Q env H := by
  subst hb; exact WC.condT hc h
theorem WC.condFe {Q : Exit → Act → World → Prop} {c : Operand} {x y : Code} {b : Bool} (hc : evl env c = some (.bool b)) (hb : b = false) (h : WC P N w0 y Q env H) : WC P N w0 (.cond c x y) Q env H := by
  subst hb; exact WC.condF hc h
end
end Go.Proofs.Ytkcccenekglkoaa

namespace Go.Proofs.Ytkcccenekglkoaa
open Go Go.RowKit
set_option linter.unusedVariables false

section
variable {P : Program} {N : Nat} {w0 : World} {env : Env} {H : Heap}
variable {sz : Nat} {A : Option Addr} {n c : Nat} {cs : List Value}
variable {d : Option Tmp} {ty T T' E : TypeId} {pos : String} {after : Array Edge} {g : Option (Nat × Bool)} {x y : Operand} {z : Value} {bytes : Nat}

def evlP (env : Env) : List (Nat × Operand) → Option (List (Nat × Value))
  | [] => some []
  | (j, x) :: xs => match evl env x, evlP env xs with
    | some v, some vs => some ((j, v) :: vs)
    | _, _ => none
theorem evlP_map {a : Act} {w : World} (hs : St N w0 env H a w) : ∀ {ps : List (Nat × Operand)} {us : List (Nat × Value)}, evlP env ps = some us → ps.map (fun p => (p.1, a.eval p.2)) = us
  | [], us, h => by simp [evlP] at h; subst h; rfl
  | (j, x) :: ps, us, h => by
    unfold evlP at h
    cases h1 : evl env x with
    | none => simp [h1] at h
    | some v =>
      cases h2 : evlP env ps with
      | none => simp [h1, h2] at h
      | some vs =>
        simp [h1, h2] at h
        subst h
        simp [hs.eval h1, evlP_map hs h2]
theorem Yld.build {parts : List (Nat × Operand)} {vs : List (Nat × Value)} {us : List Value} (hv : evlP env parts = some vs) (hb : P.built T vs = some us.toArray) :
    Yld P N w0 env H ⟨d, .build T parts.toArray, ty, pos, after, g⟩ (.agg us.toArray) := fun a w hs => by
  have hm := evlP_map hs hv
  have hr := run_build (P := P) w T vs.toArray us.toArray (by simpa using hb)
  simp [execOp, hm, hr]

/-! ### results -/
theorem loadVar_blk {w : World} {gb : Nat} {t : TypeId} (ha : Agg P T cs.length) (h2 : w.heap[gb]? = some (.cells cs.toArray t (0, 0))) : (loadVar T ⟨gb, 0, none⟩).run P w = .ok (.agg cs.toArray) w := by
  obtain ⟨dd, hu, hd⟩ := ha.agg
  exact run_loadVar_row (P := P) w gb t T cs.toArray (0, 0) dd h2 hu (by cases dd <;> first | rfl | simp at hd) (by simpa using ha.size)
theorem ResIs.cell {fn : Func} {a' : Tmp} {gb k : Nat} {t : TypeId} (h : fn.results = #[.cell a' T]) (ha : Agg P T cs.length) (he : look env a' = some (.pointer (some ⟨gb, 0, none⟩))) (hk : look H k = some (.blk gb t cs)) :
    ResIs P N w0 fn env H (.agg cs.toArray) := fun a w hs => by
  obtain ⟨_, h2⟩ : w0.heap.size ≤ gb ∧ w.heap[gb]? = some (.cells cs.toArray t (0, 0)) := hs.heap.sat k _ hk
  have hv := hs.vals _ _ he
  simp only [Array.getD_eq_getD_getElem?] at hv
  simp [results, h, hv, asAddr, loadVar_blk ha h2]
theorem ResIs.cellTmp {fn : Func} {a' u : Tmp} {v : Value} {gb k : Nat} {t : TypeId} (h : fn.results = #[.cell a' T, .tmp u]) (ha : Agg P T cs.length) (he : look env a' = some (.pointer (some ⟨gb, 0, none⟩))) (hk : look H k = some (.blk gb t cs))
    (hu : look env u = some v) : ResIs P N w0 fn env H (.tuple #[.agg cs.toArray, v]) := fun a w hs => by
  obtain ⟨_, h2⟩ : w0.heap.size ≤ gb ∧ w.heap[gb]? = some (.cells cs.toArray t (0, 0)) := hs.heap.sat k _ hk
  have hv := hs.vals _ _ he
  have hw := hs.vals _ _ hu
  simp only [Array.getD_eq_getD_getElem?] at hv hw
  simp [results, h, hv, hw, asAddr, loadVar_blk ha h2]
theorem ResIs.cellTmp2 {fn : Func} {a' u u' : Tmp} {v v' : Value} {gb k : Nat} {t : TypeId} (h : fn.results = #[.cell a' T, .tmp u, .tmp u']) (ha : Agg P T cs.length) (he : look env a' = some (.pointer (some ⟨gb, 0, none⟩))) (hk : look H k = some (.blk gb t cs))
    (hu : look env u = some v) (hu' : look env u' = some v') : ResIs P N w0 fn env H (.tuple #[.agg cs.toArray, v, v']) := fun a w hs => by
  obtain ⟨_, h2⟩ : w0.heap.size ≤ gb ∧ w.heap[gb]? = some (.cells cs.toArray t (0, 0)) := hs.heap.sat k _ hk
  have hv := hs.vals _ _ he
  have hw := hs.vals _ _ hu
  have hw' := hs.vals _ _ hu'
  simp only [Array.getD_eq_getD_getElem?] at hv hw hw'
  simp [results, h, hv, hw, hw', asAddr, loadVar_blk ha h2]
theorem ResIs.three {fn : Func} {t u s : Tmp} {v x y : Value} (h : fn.results = #[.tmp t, .tmp u, .tmp s]) (ht : look env t = some v) (hu : look env u = some x) (hs' : look env s = some y) : ResIs P N w0 fn env H (.tuple #[v, x, y]) :=
  fun a w hs => by
    have h1 := hs.vals _ _ ht
    have h2 := hs.vals _ _ hu
    have h3 := hs.vals _ _ hs'
    simp only [Array.getD_eq_getD_getElem?] at h1 h2 h3
    simp [results, h, h1, h2, h3]

/-! ### '[]byte("..")' of a constant: the literal's row gets a mark -/
theorem Eff.mark (k : Nat) {gb n c : Nat} {xs : List Value} (hs1 : P.underlying T = some (.slice E)) (hE : P.underlying E = some (.int .u8)) (hx : evl env x = some (.slice (some ⟨gb, 0, none⟩) n c)) (hk : look H k = some (.own E 1 (some ⟨gb, 0, none⟩) n c xs)) (hnc : n = c) (hpos : 0 < n) :
    Eff P N w0 env H ⟨d, .convert T T x, ty, pos, after, g⟩ fun v H' => v = .slice (some ⟨gb, 0, none⟩) n c ∧ H' = (k, .ro gb E xs) :: H :=
  eff_of_value fun a w hs => by
    have ho : w.ownsRow w0.heap.size E 1 (.slice (some ⟨gb, 0, none⟩) n c) n xs := by
      rcases hs.heap.sat k _ hk with h | ⟨h, _, _⟩
      · exact h
      · omega
    have hc0 : c ≠ 0 := by omega
    subst hnc
    obtain ⟨hl, ho2⟩ := ho
    rcases ho2 with ⟨h1, _⟩ | ⟨g', cap, cur, hv, hge, hg, hnc, hcm, hcs, htake⟩
    · cases h1
    · injection hv with hA _ hc
      injection hA with hA; injection hA with hA; subst hA; subst hc
      have hcur : cur = xs.toArray := by
        apply Array.toList_inj.1
        rw [← htake, List.take_of_length_le (by simp [hcs])]
      subst hcur
      have hcl : xs.length = n := by simpa using hcs
      have hfr : w.freeze ⟨gb, n, none⟩ 1 = { w with heap := w.heap.modify gb fun | .cells c elem (lo, hi) => .cells c elem (if lo == hi then (n, n + 1) else (min lo n, max hi (n + 1))) | o => o } := rfl
      have hcell : (w.freeze ⟨gb, n, none⟩ 1).heap[gb]? = some (.cells xs.toArray E (n, n + 1)) := by
        rw [hfr]; simp [Array.getElem?_modify, hg]
      have hoth : ∀ i, i ≠ gb → (w.freeze ⟨gb, n, none⟩ 1).heap[i]? = w.heap[i]? := fun i hi => by
        rw [hfr]; simp only [Array.getElem?_modify]; rw [if_neg (fun e => hi e.symm)]
      have hsz : (w.freeze ⟨gb, n, none⟩ 1).heap.size = w.heap.size := by rw [hfr]; simp
      refine ⟨.slice (some ⟨gb, 0, none⟩) n n, w.freeze ⟨gb, n, none⟩ 1, _, ?_, ⟨rfl, rfl⟩, hs.below.trans ⟨rfl, rfl, rfl, by rw [hsz]; exact Nat.le_refl _, fun i hi => hoth i (by omega)⟩,
        hs.heap.set k _ (by rw [hsz]; exact Nat.le_refl _) (fun i hi hne => hoth i (fun e => hne _ hk ⟨by omega, _, rfl, e.symm⟩)) ⟨hge, _, hcell⟩ (fun i hi => .inl ⟨_, hk, by omega, _, rfl, hi⟩)⟩
      have hshape : w.shape? gb = some (E, n) := by simp [World.shape?, hg, hcl]
      simp [execOp, hs.eval hx, convert, run_underlying hs1, run_underlying hE, markStringish, hshape]

end
end Go.Proofs.Ytkcccenekglkoaa
