/-
  Small additions for the printed walks. No conditions.
-/
import Derived.Test.YtnbcphofimicdaaX8
import Derived.Lib.LazyBuf
namespace Go.Proofs.Ytnbcphofimicdaa
open Go Go.RowKit
set_option linter.unusedVariables false
set_option linter.unusedSimpArgs false
theorem not_t {b : Bool} (h : b = false) : (!b) = true := by rw [h]; rfl
theorem not_f {b : Bool} (h : b = true) : (!b) = false := by rw [h]; rfl
theorem neq_of_ne {α : Type} [BEq α] [LawfulBEq α] {a b : α} (h : ¬ a = b) : (!(a == b)) = true := not_t (beq_eq_false_iff_ne.2 h)
theorem neq_of_eq {α : Type} [BEq α] [LawfulBEq α] {a b : α} (h : a = b) : (!(a == b)) = false := not_f (beq_iff_eq.2 h)
theorem Mem.snap_cellf (w : World) : (Mem.snap w).cell? = w.cell? := by funext a; rfl
section
variable {P : Program} {N : Nat} {w0 : World} {env : Env} {H : Heap} {ops : Array Oper} {K : Act → World → Prop}
variable {A : Option Addr} {n c sz : Nat} {cs : List Value}
variable {d : Option Tmp} {ty T T' E : TypeId} {pos : String} {after : Array Edge} {g : Option (Nat × Bool)} {x y : Operand} {z : Value} {bytes : Nat}
theorem RdH.sn (h : RdH w0 H sz A n c cs) (w : World) (hb : Below w0.heap.size w0 w) (hh : HS w0.heap.size w H) : SlM (Mem.snap w) sz A n c cs := by
  unfold SlM; rw [Mem.snap_cellf]; exact h w hb hh
theorem Yld.sliceAll (hT : STy P T E z sz bytes) (hx : evl env x = some (.slice A n c)) : Yld P N w0 env H ⟨d, .slice T x none none none, ty, pos, after, g⟩ (.slice A n c) := fun a w hs => by
  have ht : P.underlying T = some (.slice E) := hT.under
  simp [execOp, hs.eval hx, Instr.sliceAt, run_underlying ht, Instr.slice, Instr.sliceBounds, sizeOf_of hT.size]
  cases A <;> simp [add_zero_]
theorem Yld.eqlNil (hT : P.underlying T = some (.slice E)) (hx : evl env x = some (.slice A n c)) (hy : evl env y = some (.slice none 0 0)) : Yld P N w0 env H ⟨d, .binOp .eql T x y T', ty, pos, after, g⟩ (.bool A.isNone) :=
  yld_bin hx hy (fun w => by simp [eqGuard]) fun w => run_eql_slice_nil w T E A n c hT
theorem Yld.neqNil (hT : P.underlying T = some (.slice E)) (hx : evl env x = some (.slice A n c)) (hy : evl env y = some (.slice none 0 0)) : Yld P N w0 env H ⟨d, .binOp .neq T x y T', ty, pos, after, g⟩ (.bool (!A.isNone)) :=
  yld_bin hx hy (fun w => by simp [eqGuard]) fun w => run_neq_slice_nil w T E A n c hT
theorem nil_of {M : Mem} {α : Type} [Lay α] {xs : List α} (h : SlT M A n c xs) (hA : A = none) : xs = [] := by
  have hl := h.len
  rw [cel_length] at hl
  cases xs with
  | nil => rfl
  | cons a xs =>
    have hp : 0 < (cel (a :: xs)).length := by rw [cel_length]; exact Nat.mul_pos (by simp) Lay.pos
    have := (h.cells 0 _ (List.getElem?_eq_getElem hp)).1
    rw [hA] at this; cases this
theorem isNone_ne {α : Type} {A : Option α} (h : ¬ A = none) : A.isNone = false := by cases A <;> simp at *
theorem Sub.push {α : Type} {E F : List (Nat × α)} {k : Nat} {e : α} (hk : look E k = none) (h : Sub E F) : Sub E ((k, e) :: F) := fun k' v hv => by
  rw [look_cons]
  split
  · rename_i e'; subst e'; rw [hk] at hv; cases hv
  · exact h k' v hv
theorem WD.nilOwn {Hro : Heap} {fuel : Nat} {listed : Array Bool} (k : Nat) (E : TypeId) (sz : Nat) (A : Option Addr) (hk : look Hro k = none) (h : WD P N w0 ops K Hro fuel listed env ((k, .own E sz A 0 0 []) :: H)) : WD P N w0 ops K Hro fuel listed env H :=
  fun hs a w hst => h (Sub.push hk hs) a w (hst.nilOwn k E sz A)
theorem WS.yldG {Hro : Heap} {fuel : Nat} {listed : Array Bool} {i d j : Nat} {want : Bool} {op : Op} {ty : TypeId} {pos : String} {after : Array Edge} {v : Value} (hi : ops[i]? = some ⟨some d, op, ty, pos, after, some (j, want)⟩) (hd : d < N) (hj : guardIs ops env j = some (.bool want))
    (h : Yld P N w0 env H ⟨some d, op, ty, pos, after, some (j, want)⟩ v)
    (k : WD P N w0 ops K Hro fuel (listed.setIfInBounds i true) ((d, v) :: env) H) : WS P N w0 ops K Hro fuel listed env H i := by
  intro hsub a w hst
  unfold wpOp
  simp only [hi]
  rw [if_pos (by rw [wanted_of hst rfl hj]; simp)]
  refine .inl ?_
  unfold Oper.wp
  rw [h a w hst]
  have hst' := hst.put hd v
  exact ⟨hst'.ss hsub, k hsub _ _ hst'⟩
theorem ResIs.cellTmpM {fn : Func} {a' u : Tmp} {v : Value} {gb k s : Nat} {t : TypeId} (h : fn.results = #[.cell a' T, .tmp u]) (ha : Agg P T s) (he : look env a' = some (.pointer (some ⟨gb, 0, none⟩))) (hk : look H k = some (.blk gb t cs)) (hl : cs.length = s)
    (hu : look env u = some v) : ResIs P N w0 fn env H (.tuple #[.agg cs.toArray, v]) := by
  subst hl; exact ResIs.cellTmp h ha he hk hu
theorem ResIs.cellTmp2M {fn : Func} {a' u u' : Tmp} {v v' : Value} {gb k s : Nat} {t : TypeId} (h : fn.results = #[.cell a' T, .tmp u, .tmp u']) (ha : Agg P T s) (he : look env a' = some (.pointer (some ⟨gb, 0, none⟩))) (hk : look H k = some (.blk gb t cs)) (hl : cs.length = s)
    (hu : look env u = some v) (hu' : look env u' = some v') : ResIs P N w0 fn env H (.tuple #[.agg cs.toArray, v, v']) := by
  subst hl; exact ResIs.cellTmp2 h ha he hk hu hu'
theorem Eff0.storeBAM (k : Nat) {gb s : Nat} {t : TypeId} {us : List Value} (ha : Agg P T s) (hx : evl env x = some (.pointer (some ⟨gb, 0, none⟩))) (hy : evl env y = some (.agg us.toArray))
    (hk : look H k = some (.blk gb t cs)) (hl : us.length = s ∧ cs.length = s) (hu : us.all (·.oneCell') = true) : Eff0 P N w0 env H ⟨none, .store T x y, ty, pos, after, g⟩ ((k, .blk gb t us) :: H) := by
  obtain ⟨h1, h2⟩ := hl
  subst h1
  exact Eff0.storeBA k ha.size hx hy hu hk h2
theorem Yld.loadBM {k gb s : Nat} {t : TypeId} (ha : Agg P T s) (hx : evl env x = some (.pointer (some ⟨gb, 0, none⟩))) (hk : look H k = some (.blk gb t cs)) (hl : cs.length = s) :
    Yld P N w0 env H ⟨d, .load T x, ty, pos, after, g⟩ (.agg cs.toArray) := by
  subst hl; exact Yld.loadBA ha hx hk
theorem ResIs.cellM {fn : Func} {a' : Tmp} {gb k s : Nat} {t : TypeId} (h : fn.results = #[.cell a' T]) (ha : Agg P T s) (he : look env a' = some (.pointer (some ⟨gb, 0, none⟩))) (hk : look H k = some (.blk gb t cs)) (hl : cs.length = s) :
    ResIs P N w0 fn env H (.agg cs.toArray) := by
  subst hl; exact ResIs.cell h ha he hk
end
end Go.Proofs.Ytnbcphofimicdaa
