/-
 A small symbolic executor for the walk, part 7: elements as typed values; each operation after the model's own (Mo).
 Conditions: none; plain lemmas over any program.
-/
import Derived.Test.YtkcccenekglkoaaX6
import Derived.Test.YtkcccenekglkoaaMo
namespace Go.Proofs.Ytkcccenekglkoaa
open Go Go.RowKit
set_option linter.unusedVariables false
set_option linter.unusedSimpArgs false
class Lay (α : Type) where
 sz : Nat
 enc : α -> List Value
 len : ∀ a, (enc a).length = sz
 one : ∀ a, ∀ u ∈ enc a, u.oneCell' = true
 pos : 0 < sz
structure Hdr where
 A : Option Addr
 n : Nat
 c : Nat
instance : Lay (BitVec 8) := ⟨1, fun a => [U8 a], fun _ => rfl, fun _ u h => by simp at h; subst h; rfl, by decide⟩
instance : Lay (BitVec 16) := ⟨1, fun a => [U16 a], fun _ => rfl, fun _ u h => by simp at h; subst h; rfl, by decide⟩
instance : Lay (BitVec 32) := ⟨1, fun a => [U32 a], fun _ => rfl, fun _ u h => by simp at h; subst h; rfl, by decide⟩
instance : Lay (BitVec 64) := ⟨1, fun a => [U64 a], fun _ => rfl, fun _ u h => by simp at h; subst h; rfl, by decide⟩
instance : Lay Int := ⟨1, fun a => [I64 a], fun _ => rfl, fun _ u h => by simp at h; subst h; rfl, by decide⟩
instance : Lay Bool := ⟨1, fun a => [.bool a], fun _ => rfl, fun _ u h => by simp at h; subst h; rfl, by decide⟩
instance : Lay Hdr := ⟨1, fun a => [.slice a.A a.n a.c], fun _ => rfl, fun _ u h => by simp at h; subst h; rfl, by decide⟩
def cel {α : Type} [Lay α] (xs : List α) : List Value := xs.flatMap Lay.enc
theorem cel_cons {α : Type} [Lay α] (a : α) (xs : List α) : cel (a :: xs) = Lay.enc a ++ cel xs := rfl
theorem cel_append {α : Type} [Lay α] (xs ys : List α) : cel (xs ++ ys) = cel xs ++ cel ys := List.flatMap_append
theorem cel_length {α : Type} [Lay α] (xs : List α) : (cel xs).length = xs.length * Lay.sz α := by
 induction xs with
 | nil => simp [cel]
 | cons a xs ih => rw [cel_cons, List.length_append, ih, Lay.len, List.length_cons, Nat.add_mul, Nat.one_mul, Nat.add_comm]
theorem cel_one {α : Type} [Lay α] (xs : List α) : ∀ u ∈ cel xs, u.oneCell' = true := fun u hu => by
 obtain ⟨a, _, h⟩ := List.mem_flatMap.1 hu; exact Lay.one a u h
theorem cel_drop {α : Type} [Lay α] : ∀ (xs : List α) (k : Nat), (cel xs).drop (k * Lay.sz α) = cel (xs.drop k)
 | xs, 0 => by simp
 | [], k + 1 => by simp [cel]
 | a :: xs, k + 1 => by
  rw [cel_cons, Nat.add_mul, Nat.one_mul, List.drop_append, List.drop_of_length_le (by rw [Lay.len]; omega), Lay.len, show k * Lay.sz α + Lay.sz α - Lay.sz α = k * Lay.sz α by omega, cel_drop xs k]
  rfl
theorem cel_take {α : Type} [Lay α] : ∀ (xs : List α) (k : Nat), (cel xs).take (k * Lay.sz α) = cel (xs.take k)
 | xs, 0 => by simp [cel]
 | [], k + 1 => by simp [cel]
 | a :: xs, k + 1 => by
  rw [cel_cons, Nat.add_mul, Nat.one_mul, List.take_append, List.take_of_length_le (by rw [Lay.len]; omega), Lay.len, show k * Lay.sz α + Lay.sz α - Lay.sz α = k * Lay.sz α by omega, cel_take xs k]
  rfl
theorem cel_get {α : Type} [Lay α] {xs : List α} {i j : Nat} {a : α} (h : xs[i]? = some a) (hj : j < Lay.sz α) : (cel xs)[i * Lay.sz α + j]? = (Lay.enc a)[j]? := by
 rw [<- List.getElem?_drop, cel_drop]
 obtain ⟨hi, rfl⟩ := List.getElem?_eq_some_iff.1 h
 rw [List.drop_eq_getElem_cons hi, cel_cons, List.getElem?_append_left (by rw [Lay.len]; exact hj)]
theorem cel_set {α : Type} [Lay α] : ∀ {xs : List α} {i j : Nat} {a a' : α} {u : Value}, xs[i]? = some a -> (Lay.enc a).set j u = Lay.enc a' -> j < Lay.sz α -> (cel xs).set (i * Lay.sz α + j) u = cel (xs.set i a')
 | [], i, j, a, a', u, h, _, _ => by simp at h
 | x :: xs, 0, j, a, a', u, h, he, hj => by
  simp at h; subst h
  rw [cel_cons, Nat.zero_mul, Nat.zero_add, List.set_append_left _ _ (by rw [Lay.len]; exact hj), he]; rfl
 | x :: xs, i + 1, j, a, a', u, h, he, hj => by
  simp at h
  rw [cel_cons, Nat.add_mul, Nat.one_mul, List.set_append_right _ _ (by rw [Lay.len]; omega), Lay.len, show i * Lay.sz α + Lay.sz α + j - Lay.sz α = i * Lay.sz α + j by omega, cel_set h he hj]; rfl
theorem cel_replicate {α : Type} [Lay α] (n : Nat) (a : α) : cel (List.replicate n a) = (List.replicate n (Lay.enc a)).flatten := by
 simp [cel, List.flatMap_def]
theorem cel_replicate1 {α : Type} [Lay α] (n : Nat) (a : α) {u : Value} (h : Lay.enc a = [u]) : cel (List.replicate n a) = List.replicate n u := by
 rw [cel_replicate, h]
 induction n with
 | zero => rfl
 | succ n ih => simp [List.replicate_succ, ih]
theorem cel_map {α : Type} [Lay α] (f : α -> Value) (h : ∀ a : α, Lay.enc a = [f a]) (xs : List α) : cel xs = xs.map f := by
 induction xs with
 | nil => rfl
 | cons a xs ih => rw [cel_cons, h, ih]; rfl
theorem cel_u8 (xs : List (BitVec 8)) : cel xs = xs.map U8 := cel_map U8 (fun _ => rfl) xs
theorem blt_of {j k : Nat} (h : Nat.blt j k = true) : j < k := by simp [Nat.blt] at h; omega
section
variable {P : Program} {N : Nat} {w0 : World} {env : Env} {H : Heap} {ops : Array Oper} {K : Act -> World -> Prop} {rest : List Oper}
variable {A : Option Addr} {n c : Nat} {cs : List Value} {α : Type} [Lay α] {xs ys zs : List α}
variable {d : Option Tmp} {ty T T' E : TypeId} {pos : String} {after : Array Edge} {g : Option (Nat × Bool)} {x y : Operand} {z : Value} {bytes : Nat}
theorem Yld.addC {m n z : Int} (hx : evl env x = some (I64 m)) (hy : evl env y = some (I64 n)) (h : ck (m + n) = some z) : Yld P N w0 env H ⟨d, .binOp .add T x y T', ty, pos, after, g⟩ (I64 z) := by
 obtain ⟨rfl, hb⟩ := ck_some h; exact Yld.add hx hy hb
theorem Yld.subC {m n z : Int} (hx : evl env x = some (I64 m)) (hy : evl env y = some (I64 n)) (h : ck (m - n) = some z) : Yld P N w0 env H ⟨d, .binOp .sub T x y T', ty, pos, after, g⟩ (I64 z) := by
 obtain ⟨rfl, hb⟩ := ck_some h; exact Yld.sub hx hy hb
theorem Yld.mulC {m n z : Int} (hx : evl env x = some (I64 m)) (hy : evl env y = some (I64 n)) (h : ck (m * n) = some z) : Yld P N w0 env H ⟨d, .binOp .mul T x y T', ty, pos, after, g⟩ (I64 z) := by
 obtain ⟨rfl, hb⟩ := ck_some h; exact Yld.mul hx hy hb
theorem Yld.quoC {m n z : Int} (hx : evl env x = some (I64 m)) (hy : evl env y = some (I64 n)) (h : dvi m n = some z) : Yld P N w0 env H ⟨d, .binOp .quo T x y T', ty, pos, after, g⟩ (I64 z) := by
 obtain ⟨h0, rfl, hb⟩ := dvi_some h
 have := Yld.quoW (P := P) (N := N) (w0 := w0) (H := H) (d := d) (ty := ty) (T := T) (T' := T') (pos := pos) (after := after) (g := g) hx hy h0
 rwa [wrap_i64_in hb.1 hb.2] at this
theorem Yld.remC {m n z : Int} (hx : evl env x = some (I64 m)) (hy : evl env y = some (I64 n)) (h : rmi m n = some z) : Yld P N w0 env H ⟨d, .binOp .rem T x y T', ty, pos, after, g⟩ (I64 z) := by
 obtain ⟨h0, rfl⟩ := rmi_some h
 exact Yld.remT hx hy h0
theorem Yld.shrC {m s z : Int} {yk : IntKind} (hx : evl env x = some (I64 m)) (hy : evl env y = some (.int yk s)) (h : shri m s = some z) : Yld P N w0 env H ⟨d, .binOp .shr T x y T', ty, pos, after, g⟩ (I64 z) := by
 obtain ⟨hs, rfl⟩ := shri_some h
 exact Yld.shr_i64 hx hy hs.1 (by omega)
theorem wrap_toInt (b : BitVec 64) : IntKind.i64.wrap (b.toNat : Int) = b.toInt := by
 rw [wrap_i64, BitVec.toInt_eq_toNat_cond]; have := b.isLt
 simp only [Nat.reducePow] at *
 split <;> split <;> omega
theorem Yld.andC {m n : Int} (hx : evl env x = some (I64 m)) (hy : evl env y = some (I64 n)) : Yld P N w0 env H ⟨d, .binOp .and T x y T', ty, pos, after, g⟩ (I64 (andi m n)) :=
 yld_bin hx hy (guard_int _ _ _ _ _ _ _ _) fun w => by
  simp only [binOp, ne_eq, not_true_eq_false, if_false, Op.intBits]
  show Result.ok (Value.int .i64 (IntKind.i64.wrap ((BitVec.ofInt 64 m &&& BitVec.ofInt 64 n).toNat : Int))) w = _
  rw [wrap_toInt]; rfl
theorem Yld.eqlI {m n : Int} (hx : evl env x = some (I64 m)) (hy : evl env y = some (I64 n)) : Yld P N w0 env H ⟨d, .binOp .eql T x y T', ty, pos, after, g⟩ (.bool (m == n)) := Yld.eql hx hy
theorem Yld.neqI {m n : Int} (hx : evl env x = some (I64 m)) (hy : evl env y = some (I64 n)) : Yld P N w0 env H ⟨d, .binOp .neq T x y T', ty, pos, after, g⟩ (.bool (m != n)) := Yld.neq hx hy
theorem Yld.lss_u8 {a b : BitVec 8} (hx : evl env x = some (U8 a)) (hy : evl env y = some (U8 b)) : Yld P N w0 env H ⟨d, .binOp .lss T x y T', ty, pos, after, g⟩ (.bool (decide (a < b))) := by
 have := Yld.lss (P := P) (N := N) (w0 := w0) (H := H) (d := d) (ty := ty) (T := T) (T' := T') (pos := pos) (after := after) (g := g) hx hy
 have e : decide ((a.toNat : Int) < b.toNat) = decide (a < b) := by rw [decide_eq_decide]; simp only [BitVec.lt_def, BitVec.le_def]; omega
 rwa [e] at this
theorem Yld.shlC_u32 {a z : BitVec 32} {yk : IntKind} {m : Int} (hx : evl env x = some (U32 a)) (hy : evl env y = some (.int yk m)) (h : shlu a m = some z) : Yld P N w0 env H ⟨d, .binOp .shl T x y T', ty, pos, after, g⟩ (U32 z) := by
 obtain ⟨hm, rfl⟩ := shlu_some h; exact Yld.shl_u32 hx hy hm
theorem Yld.shrC_u32 {a z : BitVec 32} {yk : IntKind} {m : Int} (hx : evl env x = some (U32 a)) (hy : evl env y = some (.int yk m)) (h : shru a m = some z) : Yld P N w0 env H ⟨d, .binOp .shr T x y T', ty, pos, after, g⟩ (U32 z) := by
 obtain ⟨hm, rfl⟩ := shru_some h; exact Yld.shr_u32 hx hy hm
theorem Yld.sub_u64 {a b : BitVec 64} (hx : evl env x = some (U64 a)) (hy : evl env y = some (U64 b)) : Yld P N w0 env H ⟨d, .binOp .sub T x y T', ty, pos, after, g⟩ (U64 (a - b)) := by
 have := Yld.subW (P := P) (N := N) (w0 := w0) (H := H) (d := d) (ty := ty) (T := T) (T' := T') (pos := pos) (after := after) (g := g) hx hy
 have e : IntKind.u64.wrap ((a.toNat : Int) - b.toNat) = ((a - b).toNat : Int) := by
  rw [wrap_u64, BitVec.toNat_sub]; have := a.isLt; have := b.isLt; simp only [Nat.reducePow] at *; omega
 rwa [e] at this
theorem Yld.lss_u64 {a b : BitVec 64} (hx : evl env x = some (U64 a)) (hy : evl env y = some (U64 b)) : Yld P N w0 env H ⟨d, .binOp .lss T x y T', ty, pos, after, g⟩ (.bool (decide (a < b))) := by
 have := Yld.lss (P := P) (N := N) (w0 := w0) (H := H) (d := d) (ty := ty) (T := T) (T' := T') (pos := pos) (after := after) (g := g) hx hy
 have e : decide ((a.toNat : Int) < b.toNat) = decide (a < b) := by rw [decide_eq_decide]; simp only [BitVec.lt_def, BitVec.le_def]; omega
 rwa [e] at this
theorem Yld.geq_u64 {a b : BitVec 64} (hx : evl env x = some (U64 a)) (hy : evl env y = some (U64 b)) : Yld P N w0 env H ⟨d, .binOp .geq T x y T', ty, pos, after, g⟩ (.bool (decide (b <= a))) := by
 have := Yld.geq (P := P) (N := N) (w0 := w0) (H := H) (d := d) (ty := ty) (T := T) (T' := T') (pos := pos) (after := after) (g := g) hx hy
 have e : decide ((b.toNat : Int) <= a.toNat) = decide (b <= a) := by rw [decide_eq_decide]; simp only [BitVec.lt_def, BitVec.le_def]; omega
 rwa [e] at this
theorem Yld.shlC_u64 {a z : BitVec 64} {yk : IntKind} {m : Int} (hx : evl env x = some (U64 a)) (hy : evl env y = some (.int yk m)) (h : shlu a m = some z) : Yld P N w0 env H ⟨d, .binOp .shl T x y T', ty, pos, after, g⟩ (U64 z) := by
 obtain ⟨hm, rfl⟩ := shlu_some h; exact Yld.shl_u64 hx hy hm
theorem Yld.shlU_u64 {a : BitVec 64} {yk : IntKind} {m : Nat} (hx : evl env x = some (U64 a)) (hy : evl env y = some (.int yk (m : Int))) : Yld P N w0 env H ⟨d, .binOp .shl T x y T', ty, pos, after, g⟩ (U64 (a <<< m)) := by
 have := Yld.shl_u64 (P := P) (N := N) (w0 := w0) (H := H) (d := d) (ty := ty) (T := T) (T' := T') (pos := pos) (after := after) (g := g) hx hy (Int.natCast_nonneg m)
 rwa [Int.toNat_natCast] at this
theorem Yld.shrU_u64 {a : BitVec 64} {yk : IntKind} {m : Nat} (hx : evl env x = some (U64 a)) (hy : evl env y = some (.int yk (m : Int))) : Yld P N w0 env H ⟨d, .binOp .shr T x y T', ty, pos, after, g⟩ (U64 (a >>> m)) := by
 have := Yld.shr_u64 (P := P) (N := N) (w0 := w0) (H := H) (d := d) (ty := ty) (T := T) (T' := T') (pos := pos) (after := after) (g := g) hx hy (Int.natCast_nonneg m)
 rwa [Int.toNat_natCast] at this
abbrev RdT (w0 : World) (H : Heap) (A : Option Addr) (n c : Nat) {α : Type} [Lay α] (xs : List α) : Prop := RdH w0 H (Lay.sz α) A n c (cel xs)
abbrev SlT (M : Mem) (A : Option Addr) (n c : Nat) {α : Type} [Lay α] (xs : List α) : Prop := SlM M (Lay.sz α) A n c (cel xs)
theorem len_of_cel {cell : Addr -> Option Value} (h : SlRc cell (Lay.sz α) A n c (cel xs)) : n = xs.length := by
 have := h.len
 rw [cel_length] at this
 exact (Nat.eq_of_mul_eq_mul_right Lay.pos this).symm
theorem RdT.len (h : RdT w0 H A n c xs) {a : Act} {w : World} (hs : St N w0 env H a w) : n = xs.length := len_of_cel (h w hs.below hs.heap)
theorem RdT.slc {lo hi : Int} (h : RdT w0 H A n c xs) (hs : Go.Proofs.Ytkcccenekglkoaa.slc xs lo hi = some ys) : RdT w0 H (subA A c lo.toNat (Lay.sz α)) ys.length (c - lo.toNat) ys := by
 obtain ⟨⟨h1, h2, h3⟩, rfl, hl⟩ := slc_some hs
 intro w hb hh
 have hw := h w hb hh
 have hn := len_of_cel hw
 subst hn
 have hc := SlRc.cut hw (lo := lo.toNat) (hi := hi.toNat) (by omega) h3
 rw [hl]; rw [cel_drop, cel_take] at hc; exact hc
theorem RdT.slc0 {hi : Int} (h : RdT w0 H A n c xs) (hs : Go.Proofs.Ytkcccenekglkoaa.slc xs 0 hi = some ys) : RdT w0 H A ys.length c ys := by
 have := RdT.slc h hs
 simpa [subA_zero] using this
theorem SlT.slc {M : Mem} {lo hi : Int} (h : SlT M A n c xs) (hs : Go.Proofs.Ytkcccenekglkoaa.slc xs lo hi = some ys) : SlT M (subA A c lo.toNat (Lay.sz α)) ys.length (c - lo.toNat) ys := by
 obtain ⟨⟨h1, h2, h3⟩, rfl, hl⟩ := slc_some hs
 have hn := len_of_cel h
 subst hn
 have hc := SlRc.cut h (lo := lo.toNat) (hi := hi.toNat) (by omega) h3
 unfold SlT SlM
 rw [hl]; rw [cel_drop, cel_take] at hc; exact hc
theorem SlT.slc0 {M : Mem} {hi : Int} (h : SlT M A n c xs) (hs : Go.Proofs.Ytkcccenekglkoaa.slc xs 0 hi = some ys) : SlT M A ys.length c ys := by
 have := SlT.slc h hs
 simpa [subA_zero] using this
theorem SlT.nil {M : Mem} : SlT M none 0 0 ([] : List α) := SlRc.nil _ _
theorem RdT.nil : RdT w0 H none 0 0 ([] : List α) := RdH.nil
theorem Yld.lenC (hT : P.underlying T = some (.slice E)) (hx : evl env x = some (.slice A n c)) (hr : RdT w0 H A n c xs) : Yld P N w0 env H ⟨d, .call ⟨.builtin .len, #[x], #[T]⟩, ty, pos, after, g⟩ (I64 (xs.length : Int)) := fun a w hs => by
 have h := Yld.len (d := d) (ty := ty) (pos := pos) (after := after) (g := g) hT hx a w hs
 rw [RdT.len hr hs] at h; exact h
theorem Yld.idxC {k : IntKind} {m : Int} {a : α} (hT : STy P T E z (Lay.sz α) bytes) (hx : evl env x = some (.slice A n c)) (hy : evl env y = some (.int k m)) (hr : RdT w0 H A n c xs) (h : idx xs m = some a) :
  Yld P N w0 env H ⟨d, .indexAddr T x y, ty, pos, after, g⟩ (.pointer (some ((adr A).add (m.toNat * Lay.sz α)))) := fun ac w hs => by
 obtain ⟨h1, h2, _⟩ := idx_some h
 have := RdT.len hr hs; subst this
 exact Yld.idxAddr hT hx hy hr Lay.pos ⟨h1, h2⟩ ac w hs
theorem Yld.loadC {m : Int} {j : Nat} {a : α} {u : Value} (hsc : scal P T = true) (hx : evl env x = some (.pointer (some ((adr A).add (m.toNat * Lay.sz α + j))))) (hr : RdT w0 H A n c xs) (h : idx xs m = some a) (hj : Nat.blt j (Lay.sz α) = true) (hu : (Lay.enc a)[j]? = some u) :
  Yld P N w0 env H ⟨d, .load T x, ty, pos, after, g⟩ u := by
 obtain ⟨h1, h2, h3⟩ := idx_some h
 exact Yld.loadR hsc hx hr (by rw [cel_get h3 (blt_of hj)]; exact hu)
theorem Yld.loadC0 {m : Int} {a : α} {u : Value} (hsc : scal P T = true) (hx : evl env x = some (.pointer (some ((adr A).add (m.toNat * Lay.sz α))))) (hr : RdT w0 H A n c xs) (h : idx xs m = some a) (hu : (Lay.enc a)[0]? = some u) :
  Yld P N w0 env H ⟨d, .load T x, ty, pos, after, g⟩ u := by
 obtain ⟨h1, h2, h3⟩ := idx_some h
 exact Yld.loadR hsc hx hr (by rw [<- Nat.add_zero (m.toNat * Lay.sz α), cel_get h3 Lay.pos]; exact hu)
theorem Yld.loadA {m : Int} {a : α} {us : List Value} (ha : Agg P T (Lay.sz α)) (hx : evl env x = some (.pointer (some ((adr A).add (m.toNat * Lay.sz α))))) (hr : RdT w0 H A n c xs) (h : idx xs m = some a) (hu : Lay.enc a = us) :
  Yld P N w0 env H ⟨d, .load T x, ty, pos, after, g⟩ (.agg us.toArray) := by
 obtain ⟨h1, h2, h3⟩ := idx_some h
 subst hu
 refine Yld.loadRA ha hx hr (Lay.len a) fun i u hi => ?_
 rw [cel_get h3 (by have := (List.getElem?_eq_some_iff.1 hi).1; rw [Lay.len] at this; exact this)]; exact hi
theorem Yld.fieldAddrC {q f off : Nat} {fs : Array Field} {fd : Field} (hT : P.underlying T = some (.struct fs)) (hf : fs[f]? = some fd) (hsz : (P.info? fd.type).map (fun i => decide (i.size = 0)) = some false) (hoff : fd.offset = off)
  (hx : evl env x = some (.pointer (some ((adr A).add q)))) : Yld P N w0 env H ⟨d, .fieldAddr T x f, ty, pos, after, g⟩ (.pointer (some ((adr A).add (q + off)))) := fun a w hs => by
 subst hoff
 cases hi : P.info? fd.type with
 | none => simp [hi] at hsz
 | some i =>
  simp [hi] at hsz
  simp [execOp, hs.eval hx, Instr.fieldAt, run_underlying hT, hf, Instr.sureAddr, fieldPlace, sizeOf, typeInfo, hi, hsz, add_add_]
theorem Yld.sliceHC {h : Int} {kh : IntKind} {hi : Operand} (hT : STy P T E z (Lay.sz α) bytes) (hx : evl env x = some (.slice A n c)) (hh : evl env hi = some (.int kh h)) (hr : RdT w0 H A n c xs) (hm : slc xs 0 h = some ys) :
  Yld P N w0 env H ⟨d, .slice T x none (some hi) none, ty, pos, after, g⟩ (.slice A ys.length c) := by
 obtain ⟨⟨h1, h2, h3⟩, _, hlen⟩ := slc_some hm
 have e : ys.length = h.toNat := by rw [hlen]; simp
 rw [e]
 exact fun a w hs => Yld.sliceH hT hx hh ⟨h2, by have := (hr w hs.below hs.heap).le; have := RdT.len hr hs; omega⟩ a w hs
theorem Yld.sliceLC {l : Int} {kl : IntKind} {lo : Operand} (hT : STy P T E z (Lay.sz α) bytes) (hx : evl env x = some (.slice A n c)) (hl : evl env lo = some (.int kl l)) (hr : RdT w0 H A n c xs) (hm : slc xs l (xs.length : Int) = some ys) :
  Yld P N w0 env H ⟨d, .slice T x (some lo) none none, ty, pos, after, g⟩ (.slice (subA A c l.toNat (Lay.sz α)) ys.length (c - l.toNat)) := fun a w hs => by
 obtain ⟨⟨h1, h2, h3⟩, _, hlen⟩ := slc_some hm
 have := RdT.len hr hs; subst this
 have e : ys.length = xs.length - l.toNat := by rw [hlen]; simp
 rw [e]
 exact Yld.sliceL hT hx hl ⟨h1, h2⟩ a w hs
theorem Yld.b2sC {xs : List (BitVec 8)} (hs1 : P.underlying T = some (.slice E)) (hE : P.underlying E = some (.int .u8)) (hd : P.underlying T' = some .string) (hx : evl env x = some (.slice A n c)) (hr : RdT w0 H A n c xs) :
  Yld P N w0 env H ⟨d, .convert T T' x, ty, pos, after, g⟩ (.string (bstr xs)) :=
 Yld.b2s hs1 hE hd hx (by rw [<- cel_u8]; exact hr)
theorem Eff.appendC (k : Nat) {s : Operand} {m c' : Nat} {A' : Option Addr} (hT : STy P T E z (Lay.sz α) bytes) (hs1 : evl env s = some (.slice A n c)) (hk : look H k = some (.own E (Lay.sz α) A n c (cel xs)))
  (hx : evl env x = some (.slice A' m c')) (hr : RdT w0 H A' m c' ys) (h : apd bytes xs ys = some zs) :
  Eff P N w0 env H ⟨d, .call ⟨.builtin .append, #[s, x], #[T, T]⟩, ty, pos, after, g⟩ fun v H' => ∃ A2 c2, v = .slice A2 zs.length c2 /\ H' = (k, .own E (Lay.sz α) A2 zs.length c2 (cel zs)) :: H := by
 obtain ⟨hb, rfl⟩ := apd_some h
 intro a w K Q hs hK
 have e1 : n = xs.length := len_of_cel (own_SlR (hs.heap.sat k _ hk))
 have e2 : m = ys.length := RdT.len hr hs
 subst e1; subst e2
 refine ((Eff.append k hT Lay.pos hs1 hk hx hr (cel_one ys) ⟨hb.1, by unfold maxLen; exact hb.2⟩).weaken fun v H' ⟨A2, c2, h1, h2⟩ => ⟨A2, c2, ?_, ?_⟩) a w K Q hs hK
 ·rw [h1, List.length_append]
 ·rw [h2, List.length_append, cel_append]
theorem Eff.buildC (k : Nat) {len : Nat} {parts : List (Nat × Operand)} (ys : List α) (hT : STy P T E z 1 bytes) (h1 : Lay.sz α = 1) (hz : z.oneCell' = true) (hk : look H k = none) (hv : evlE env 0 parts = some (cel ys)) (hl : ys.length = len) (hlen : len <= 16777216) :
  Eff P N w0 env H ⟨d, .buildSlice T len parts.toArray, ty, pos, after, g⟩ fun v H' => ∃ gb, v = .slice (some ⟨gb, 0, none⟩) ys.length ys.length /\ H' = (k, .own E (Lay.sz α) (some ⟨gb, 0, none⟩) ys.length ys.length (cel ys)) :: H := by
 subst hl
 refine (Eff.buildSlice k hT hz hk hv (by rw [cel_length, h1, Nat.mul_one]) (by rw [List.all_eq_true]; exact cel_one ys) hlen).weaken fun v H' ⟨gb, h2, h3⟩ => ⟨gb, h2, by rw [h3, h1]⟩
theorem Eff0.storeC (k : Nat) {m : Int} {j : Nat} {a a' : α} {u : Value} (hsz : (P.info? T).map (·.size) = some 1) (hx : evl env x = some (.pointer (some ((adr A).add (m.toNat * Lay.sz α + j))))) (hy : evl env y = some u) (hu : u.oneCell' = true)
  (hk : look H k = some (.own E (Lay.sz α) A n c (cel xs))) (hi : idx xs m = some a) (he : (Lay.enc a).set j u = Lay.enc a') (hj : Nat.blt j (Lay.sz α) = true) (h : upd xs m a' = some ys) :
  Eff0 P N w0 env H ⟨none, .store T x y, ty, pos, after, g⟩ ((k, .own E (Lay.sz α) A n c (cel ys)) :: H) := by
 obtain ⟨h1, h2, h3⟩ := idx_some hi
 obtain ⟨h4, rfl⟩ := upd_some h
 have hj' : j < Lay.sz α := blt_of hj
 have hlt : m.toNat * Lay.sz α + j < (cel xs).length := by
  rw [cel_length]
  have : (m.toNat + 1) * Lay.sz α <= xs.length * Lay.sz α := Nat.mul_le_mul_right _ (by omega)
  rw [Nat.add_mul] at this; omega
 refine (Eff0.storeO k hsz hx hy hu hk hlt).weaken' ?_
 rw [cel_set h3 he hj']
theorem Eff0.storeC1 (k : Nat) {m : Int} {a' : α} {u : Value} (hsz : (P.info? T).map (·.size) = some 1) (h1 : Lay.sz α = 1) (hx : evl env x = some (.pointer (some ((adr A).add (m.toNat * Lay.sz α))))) (hy : evl env y = some u) (hu : u.oneCell' = true)
  (hk : look H k = some (.own E (Lay.sz α) A n c (cel xs))) (he : Lay.enc a' = [u]) (h : upd xs m a' = some ys) :
  Eff0 P N w0 env H ⟨none, .store T x y, ty, pos, after, g⟩ ((k, .own E (Lay.sz α) A n c (cel ys)) :: H) := by
 obtain ⟨h4, rfl⟩ := upd_some h
 obtain ⟨a, ha⟩ : ∃ a, xs[m.toNat]? = some a := ⟨_, List.getElem?_eq_getElem h4.2⟩
 have hlt : m.toNat * Lay.sz α < (cel xs).length := by rw [cel_length, h1]; omega
 refine (Eff0.storeO k hsz hx hy hu hk hlt).weaken' ?_
 have he' : (Lay.enc a).set 0 u = Lay.enc a' := by
  have hl := Lay.len a
  rw [h1] at hl
  rw [he]
  obtain ⟨v, hv⟩ := List.length_eq_one_iff.1 hl
  rw [hv]; rfl
 have := cel_set ha he' (by omega)
 rw [Nat.add_zero] at this
 rw [this]
theorem WL.inl {d : Nat} {ty : TypeId} {pos : String} {after : Array Edge} {f : FuncId} {fn : Func} {xs : List Operand} {ts : Array TypeId} {vs : List Value} (hd : d < N)
  (hf : P.funcs[f]? = some fn) (hname : (fn.name == "runtime.NumGoroutine") = false) (hbody : fn.body.isNone = false) (hx : evls env xs = some vs)
  (h : Tri P f vs.toArray w0 H fun v H' => WL P N w0 ops K rest ((d, v) :: env) H') :
  WL P N w0 ops K (⟨some d, .call ⟨.value (.func f), xs.toArray, ts⟩, ty, pos, after, none⟩ :: rest) env H :=
 WL.eff hd (Eff.callT rfl hf hname hbody hx h) fun _ _ h => h
theorem Ret.go {fn : Func} {R : Value -> Heap -> Prop} {r : Value} (hr : ResIs P N w0 fn env H r) (h : R r H) :
  QK N w0 (bodyPost P fn fun e w' => ∃ r H', e = .returned r /\ R r H' /\ Below w0.heap.size w0 w' /\ HS w0.heap.size w' H') .ret env H := Ret.tri H hr (Sub.refl _) h
theorem Ret.goN {fn : Func} {R : Value -> Heap -> Prop} {r : Value} (hr : ResIs P N w0 fn env H r) (h : R r H) :
  QK N w0 (bodyPost P fn fun e w' => ∃ r H', e = .returned r /\ R r H' /\ Below w0.heap.size w0 w' /\ HS w0.heap.size w' H') .normal env H := Ret.tri H hr (Sub.refl _) h
end
end Go.Proofs.Ytkcccenekglkoaa
