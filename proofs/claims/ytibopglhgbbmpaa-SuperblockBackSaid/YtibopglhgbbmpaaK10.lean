/-
  '==' of structs and of arrays of bytes; slice literals of aggregates. No conditions.
-/
import Derived.Test.YtibopglhgbbmpaaK9
import Derived.Laws.StructEq
import Derived.Stop.BytesEq
namespace Go.Proofs.Ytibopglhgbbmpaa
open Go Go.RowKit
set_option linter.unusedVariables false
set_option linter.unusedSimpArgs false
section
variable {P : Program} {N : Nat} {w0 : World} {env : Env} {H : Heap}
variable {sz : Nat} {A : Option Addr} {n c : Nat} {cs : List Value}
variable {d : Option Tmp} {ty T T' E : TypeId} {pos : String} {after : Array Edge} {g : Option (Nat × Bool)} {x y : Operand} {z : Value} {bytes : Nat}

/-- what '==' says of two aggregates -/
def EqA (P : Program) (T : TypeId) (us vs : List Value) (b : Bool) : Prop :=
  P.eqGuardType P.depth T = false ∧ ∀ w, (Op.equalIn 10000 T (.agg us.toArray) (.agg vs.toArray)).run P w = .ok b w
theorem Yld.eqlA {us vs : List Value} {b : Bool} (h : EqA P T us vs b) (hx : evl env x = some (.agg us.toArray)) (hy : evl env y = some (.agg vs.toArray)) : Yld P N w0 env H ⟨d, .binOp .eql T x y T', ty, pos, after, g⟩ (.bool b) :=
  yld_bin hx hy (fun w => run_eqGuard_agg w .eql T x y _ _ h.1) fun w => by rw [run_eql_struct, h.2]; rfl
theorem Yld.neqA {us vs : List Value} {b : Bool} (h : EqA P T us vs b) (hx : evl env x = some (.agg us.toArray)) (hy : evl env y = some (.agg vs.toArray)) : Yld P N w0 env H ⟨d, .binOp .neq T x y T', ty, pos, after, g⟩ (.bool (!b)) :=
  yld_bin hx hy (fun w => run_eqGuard_agg w .neq T x y _ _ h.1) fun w => by rw [run_neq_struct, h.2]; rfl

def EqV (P : Program) (T : TypeId) (u v : Value) (b : Bool) : Prop := ∀ d w, (Op.equalIn (d + 1) T u v).run P w = .ok b w
theorem EqV.int {k k' : IntKind} {a b : Int} (h : P.underlying T = some (.int k')) : EqV P T (.int k a) (.int k b) (a == b) := fun d w => run_equalIn_int w d T k k' a b h
theorem EqV.bool {a b : Bool} (h : P.underlying T = some .bool) : EqV P T (.bool a) (.bool b) (a == b) := fun d w => run_equalIn_bool w d T a b h
def EqF (P : Program) (xs ys : Array Value) (fs : List Field) (r : Bool) : Prop := ∀ d w, (Op.eqFields (d + 1) xs ys fs).run P w = .ok r w
theorem part_scal {xs : Array Value} {off : Nat} {u : Value} (w : World) (hs : scal P E = true) (hx : xs[off]? = some u) : (part E xs off).run P w = .ok u w := by
  simp [part, isAgg_scal hs, hx]
theorem EqF.nil {xs ys : Array Value} : EqF P xs ys [] true := fun d w => by simp [Op.eqFields]
theorem EqF.cons {xs ys : Array Value} {f : Field} {fs : List Field} {u v : Value} {b r : Bool} (hn : f.name ≠ "_") (hs : scal P f.type = true) (hx : xs[f.offset]? = some u) (hy : ys[f.offset]? = some v)
    (he : EqV P f.type u v b) (h : EqF P xs ys fs r) : EqF P xs ys (f :: fs) (b && r) := fun d w => by
  simp only [Op.eqFields, ne_eq, hn, not_false_eq_true, if_true, Sem.run_bind, part_scal w hs hx, part_scal w hs hy, he d w, Result.andThen_ok]
  cases b
  · simp
  · simp [h d w]
theorem EqA.struct {us vs : List Value} {fs : List Field} {r : Bool} (hg : P.eqGuardType P.depth T = false) (ht : P.underlying T = some (.struct (P.fieldsOf T))) (hp : P.stoodInHeld T = false) (hf : (P.fieldsOf T).toList = fs)
    (h : EqF P us.toArray vs.toArray fs r) : EqA P T us vs r :=
  ⟨hg, fun w => by rw [show (10000 : Nat) = 9999 + 1 from rfl, run_equalIn_agg w 9999 T _ _ ht hp, hf]; exact h 9998 w⟩
theorem map_cell (xs : List (BitVec 8)) : (xs.map UInt8.ofBitVec).map Extern.Stop.cell = xs.map U8 := by
  rw [List.map_map]; apply List.map_congr_left; intro b _; rfl
theorem EqA.row8 {n : Nat} (hg : P.eqGuardType P.depth T = false) (ht : P.underlying T = some (.array n E)) (he : P.underlying E = some (.int .u8)) (hE : (P.info? E).map (·.size) = some 1) (xs ys : List (BitVec 8)) (hx : xs.length = n) (hy : ys.length = n) :
    EqA P T (xs.map U8) (ys.map U8) (xs == ys) := ⟨hg, fun w => by
  have h := run_equalIn_bytes w 9998 T E n ht he (fun w => sizeOf_of hE w) (xs.map UInt8.ofBitVec) (ys.map UInt8.ofBitVec) (by simpa using hx) (by simpa using hy)
  rw [map_cell, map_cell] at h
  have e : (xs.map UInt8.ofBitVec == ys.map UInt8.ofBitVec) = (xs == ys) := by
    rw [Bool.eq_iff_iff, beq_iff_eq, beq_iff_eq]
    exact ⟨fun h => (List.map_inj_right (fun a b hab => by injection hab)).1 h, fun h => by rw [h]⟩
  rw [e] at h
  exact h⟩
theorem ResIs.cellTmpM {fn : Func} {a' u : Tmp} {v : Value} {gb k s : Nat} {t : TypeId} (h : fn.results = #[.cell a' T, .tmp u]) (ha : Agg P T s) (he : look env a' = some (.pointer (some ⟨gb, 0, none⟩))) (hk : look H k = some (.blk gb t cs)) (hl : cs.length = s)
    (hu : look env u = some v) : ResIs P N w0 fn env H (.tuple #[.agg cs.toArray, v]) := by
  subst hl; exact ResIs.cellTmp h ha he hk hu
theorem RdH.roM {α : Type} {f : α → Value} {k gb m : Nat} {t : TypeId} {xs : List α} (hk : look H k = some (.ro gb t (xs.map f))) (hl : xs.length = m) (hm : m ≤ 9223372036854775807) : RdH w0 H 1 (some ⟨gb, 0, none⟩) m m (xs.map f) := by
  subst hl; exact (RdH.ro hk (by unfold maxLen; simpa using hm)).eq rfl (by simp) (by simp) rfl
theorem RdH.blkM {α : Type} {f : α → Value} {k gb m : Nat} {t : TypeId} {xs : List α} (hk : look H k = some (.blk gb t (xs.map f))) (hl : xs.length = m) (hm : m ≤ 9223372036854775807) : RdH w0 H 1 (some ⟨gb, 0, none⟩) m m (xs.map f) := by
  subst hl; exact (RdH.blk hk (by unfold maxLen; simpa using hm)).eq rfl (by simp) (by simp) rfl
/-- the array that lies at a slice's beginning -/
theorem Yld.loadArr {α : Type} {f : α → Value} {s : Nat} {xs : List α} (ha : Agg P T s) (hx : evl env x = some (.pointer A)) (hr : RdH w0 H 1 A n c (xs.map f)) (hl : xs.length = s) (h0 : 0 < s) :
    Yld P N w0 env H ⟨d, .load T x, ty, pos, after, g⟩ (.agg (xs.map f).toArray) := fun a w hs => by
  have h := hr w hs.below hs.heap
  have hlt : 0 < (xs.map f).length := by simp; omega
  obtain ⟨hA, _⟩ := h.cells 0 (xs.map f)[0] (List.getElem?_eq_getElem hlt)
  obtain ⟨ad, rfl⟩ := Option.isSome_iff_exists.1 hA
  have hx2 : evl env x = some (.pointer (some ((adr (some ad)).add 0))) := by rw [hx]; simp [adr, add_zero_]
  exact Yld.loadRA (j := 0) (P := P) (N := N) (d := d) (ty := ty) (pos := pos) (after := after) (g := g) ha hx2 hr (by simpa using hl) (fun i u hu => by simpa using hu) a w hs
end
end Go.Proofs.Ytibopglhgbbmpaa
