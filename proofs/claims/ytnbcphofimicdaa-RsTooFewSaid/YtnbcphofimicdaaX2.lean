/-
  A small symbolic executor for the walk, part 2: the operations on integers and bools. Unsigned numbers are read as bit vectors.
  Conditions: none; plain lemmas over any program. Printed by gen_K2.py.
-/
import Derived.Test.YtnbcphofimicdaaX1
import Derived.Laws.BitsAllLaws
namespace Go.Proofs.Ytnbcphofimicdaa
open Go Go.RowKit
set_option linter.unusedVariables false

abbrev I64 (n : Int) : Value := .int .i64 n
abbrev U8 (x : BitVec 8) : Value := .int .u8 (x.toNat : Int)
abbrev U16 (x : BitVec 16) : Value := .int .u16 (x.toNat : Int)
abbrev U32 (x : BitVec 32) : Value := .int .u32 (x.toNat : Int)
abbrev U64 (x : BitVec 64) : Value := .int .u64 (x.toNat : Int)

theorem wrapK (k : IntKind) (n : Int) : k.wrap n = if k.signed && n % (2 ^ k.bits : Int) ≥ (2 ^ (k.bits - 1) : Int) then n % (2 ^ k.bits : Int) - (2 ^ k.bits : Int) else n % (2 ^ k.bits : Int) := rfl
theorem wrap_u8 (n : Int) : IntKind.u8.wrap n = n % 256 := by simp [wrapK, IntKind.signed, IntKind.bits]
theorem wrap_u16 (n : Int) : IntKind.u16.wrap n = n % 65536 := by simp [wrapK, IntKind.signed, IntKind.bits]
theorem wrap_u32 (n : Int) : IntKind.u32.wrap n = n % 4294967296 := by simp [wrapK, IntKind.signed, IntKind.bits]
theorem wrap_u64 (n : Int) : IntKind.u64.wrap n = n % 18446744073709551616 := by simp [wrapK, IntKind.signed, IntKind.bits]
theorem wrap_i64 (n : Int) : IntKind.i64.wrap n = if n % 18446744073709551616 ≥ 9223372036854775808 then n % 18446744073709551616 - 18446744073709551616 else n % 18446744073709551616 := by
  simp [wrapK, IntKind.signed, IntKind.bits]
theorem wrap_i64_in {n : Int} (h0 : -9223372036854775808 ≤ n) (h1 : n ≤ 9223372036854775807) : IntKind.i64.wrap n = n := by
  rw [wrap_i64]; split <;> omega

section
variable {P : Program} {N : Nat} {w0 : World} {env : Env} {H : Heap}
variable {d : Option Tmp} {ty T T' : TypeId} {pos : String} {after : Array Edge} {g : Option (Nat × Bool)} {x y : Operand}

theorem Yld.move {v : Value} (hx : evl env x = some v) : Yld P N w0 env H ⟨d, .move x, ty, pos, after, g⟩ v := fun a w hs => by
  simp [execOp, hs.eval hx]
theorem Yld.assign {v : Value} (hx : evl env x = some v) : Yld P N w0 env H ⟨d, .assign x, ty, pos, after, g⟩ v := fun a w hs => by
  simp [execOp, hs.eval hx]
theorem Yld.pick {c : Operand} {t : Bool} {u v : Value} (hc : evl env c = some (.bool t)) (hx : evl env x = some u) (hy : evl env y = some v) :
    Yld P N w0 env H ⟨d, .pick c x y, ty, pos, after, g⟩ (if t then u else v) := fun a w hs => by
  simp [execOp, hs.eval hc, hs.eval hx, hs.eval hy, asBool]
theorem Yld.pickT {c : Operand} {u : Value} (hc : evl env c = some (.bool true)) (hx : evl env x = some u) : Yld P N w0 env H ⟨d, .pick c x y, ty, pos, after, g⟩ u := fun a w hs => by
  simp [execOp, hs.eval hc, hs.eval hx, asBool]
theorem Yld.pickF {c : Operand} {v : Value} (hc : evl env c = some (.bool false)) (hy : evl env y = some v) : Yld P N w0 env H ⟨d, .pick c x y, ty, pos, after, g⟩ v := fun a w hs => by
  simp [execOp, hs.eval hc, hs.eval hy, asBool]
theorem Yld.extract {vs : Array Value} {i : Nat} {v : Value} (hx : evl env x = some (.tuple vs)) (hi : vs[i]? = some v) : Yld P N w0 env H ⟨d, .extract x i, ty, pos, after, g⟩ v := fun a w hs => by
  simp [execOp, hs.eval hx, Instr.extract, hi]

theorem guard_int (op : BinOp) (t : TypeId) (x y : Operand) (k k' : IntKind) (m n : Int) (w : World) : (eqGuard op t x y (.int k m) (.int k' n)).run P w = .ok () w := by
  cases op <;> simp [eqGuard]
theorem guard_bool (op : BinOp) (t : TypeId) (x y : Operand) (m n : Bool) (w : World) : (eqGuard op t x y (.bool m) (.bool n)).run P w = .ok () w := by
  cases op <;> simp [eqGuard]
theorem guard_string (op : BinOp) (t : TypeId) (x y : Operand) (m n : ByteArray) (w : World) : (eqGuard op t x y (.string m) (.string n)).run P w = .ok () w := by
  cases op <;> simp [eqGuard]

theorem yld_bin {op : BinOp} {u v r : Value} (hx : evl env x = some u) (hy : evl env y = some v) (hg : ∀ w, (eqGuard op T x y u v).run P w = .ok () w) (hr : ∀ w, (binOp op T u v).run P w = .ok r w) :
    Yld P N w0 env H ⟨d, .binOp op T x y T', ty, pos, after, g⟩ r := fun a w hs => by
  simp [execOp, hs.eval hx, hs.eval hy, hg, hr]

/-! int -/
theorem Yld.addW {k : IntKind} {m n : Int} (hx : evl env x = some (.int k m)) (hy : evl env y = some (.int k n)) : Yld P N w0 env H ⟨d, .binOp .add T x y T', ty, pos, after, g⟩ (.int k (k.wrap (m + n))) :=
  yld_bin hx hy (guard_int _ _ _ _ _ _ _ _) fun w => by simp [binOp, Op.intArith]
theorem Yld.subW {k : IntKind} {m n : Int} (hx : evl env x = some (.int k m)) (hy : evl env y = some (.int k n)) : Yld P N w0 env H ⟨d, .binOp .sub T x y T', ty, pos, after, g⟩ (.int k (k.wrap (m - n))) :=
  yld_bin hx hy (guard_int _ _ _ _ _ _ _ _) fun w => by simp [binOp, Op.intArith]
theorem Yld.mulW {k : IntKind} {m n : Int} (hx : evl env x = some (.int k m)) (hy : evl env y = some (.int k n)) : Yld P N w0 env H ⟨d, .binOp .mul T x y T', ty, pos, after, g⟩ (.int k (k.wrap (m * n))) :=
  yld_bin hx hy (guard_int _ _ _ _ _ _ _ _) fun w => by simp [binOp, Op.intArith]
theorem Yld.add {m n : Int} (hx : evl env x = some (.int .i64 m)) (hy : evl env y = some (.int .i64 n)) (h : -9223372036854775808 ≤ m + n ∧ m + n ≤ 9223372036854775807) :
    Yld P N w0 env H ⟨d, .binOp .add T x y T', ty, pos, after, g⟩ (.int .i64 (m + n)) := by
  have := Yld.addW (P := P) (N := N) (w0 := w0) (H := H) (d := d) (ty := ty) (T := T) (T' := T') (pos := pos) (after := after) (g := g) hx hy
  rwa [wrap_i64_in h.1 h.2] at this
theorem Yld.sub {m n : Int} (hx : evl env x = some (.int .i64 m)) (hy : evl env y = some (.int .i64 n)) (h : -9223372036854775808 ≤ m - n ∧ m - n ≤ 9223372036854775807) :
    Yld P N w0 env H ⟨d, .binOp .sub T x y T', ty, pos, after, g⟩ (.int .i64 (m - n)) := by
  have := Yld.subW (P := P) (N := N) (w0 := w0) (H := H) (d := d) (ty := ty) (T := T) (T' := T') (pos := pos) (after := after) (g := g) hx hy
  rwa [wrap_i64_in h.1 h.2] at this
theorem Yld.mul {m n : Int} (hx : evl env x = some (.int .i64 m)) (hy : evl env y = some (.int .i64 n)) (h : -9223372036854775808 ≤ m * n ∧ m * n ≤ 9223372036854775807) :
    Yld P N w0 env H ⟨d, .binOp .mul T x y T', ty, pos, after, g⟩ (.int .i64 (m * n)) := by
  have := Yld.mulW (P := P) (N := N) (w0 := w0) (H := H) (d := d) (ty := ty) (T := T) (T' := T') (pos := pos) (after := after) (g := g) hx hy
  rwa [wrap_i64_in h.1 h.2] at this
theorem Yld.quoW {k : IntKind} {m n : Int} (hx : evl env x = some (.int k m)) (hy : evl env y = some (.int k n)) (hn : n ≠ 0) : Yld P N w0 env H ⟨d, .binOp .quo T x y T', ty, pos, after, g⟩ (.int k (k.wrap (m.tdiv n))) :=
  yld_bin hx hy (guard_int _ _ _ _ _ _ _ _) fun w => by simp [binOp, Op.intDiv, hn]
theorem Yld.quo {m n : Int} (hx : evl env x = some (.int .i64 m)) (hy : evl env y = some (.int .i64 n)) (h : 0 ≤ m ∧ 0 < n ∧ m ≤ 9223372036854775807) : Yld P N w0 env H ⟨d, .binOp .quo T x y T', ty, pos, after, g⟩ (.int .i64 (m / n)) := by
  have := Yld.quoW (P := P) (N := N) (w0 := w0) (H := H) (d := d) (ty := ty) (T := T) (T' := T') (pos := pos) (after := after) (g := g) hx hy (by omega)
  rw [Int.tdiv_eq_ediv_of_nonneg h.1] at this
  have h1 : 0 ≤ m / n := Int.ediv_nonneg h.1 (by omega)
  have h2 : m / n ≤ m := Int.ediv_le_self n h.1
  rwa [wrap_i64_in (by omega) (by omega)] at this
theorem Yld.remT {k : IntKind} {m n : Int} (hx : evl env x = some (.int k m)) (hy : evl env y = some (.int k n)) (hn : n ≠ 0) : Yld P N w0 env H ⟨d, .binOp .rem T x y T', ty, pos, after, g⟩ (.int k (m.tmod n)) :=
  yld_bin hx hy (guard_int _ _ _ _ _ _ _ _) fun w => by simp [binOp, Op.intDiv, hn]
theorem Yld.rem {k : IntKind} {m n : Int} (hx : evl env x = some (.int k m)) (hy : evl env y = some (.int k n)) (h : 0 ≤ m ∧ 0 < n) : Yld P N w0 env H ⟨d, .binOp .rem T x y T', ty, pos, after, g⟩ (.int k (m % n)) := by
  have := Yld.remT (P := P) (N := N) (w0 := w0) (H := H) (d := d) (ty := ty) (T := T) (T' := T') (pos := pos) (after := after) (g := g) hx hy (by omega)
  rwa [Int.tmod_eq_emod_of_nonneg h.1] at this

theorem Yld.eql {k : IntKind} {m n : Int} (hx : evl env x = some (.int k m)) (hy : evl env y = some (.int k n)) : Yld P N w0 env H ⟨d, .binOp .eql T x y T', ty, pos, after, g⟩ (.bool (m == n)) :=
  yld_bin hx hy (guard_int _ _ _ _ _ _ _ _) fun w => by simp [binOp, Op.intCmp]
theorem Yld.neq {k : IntKind} {m n : Int} (hx : evl env x = some (.int k m)) (hy : evl env y = some (.int k n)) : Yld P N w0 env H ⟨d, .binOp .neq T x y T', ty, pos, after, g⟩ (.bool (m != n)) :=
  yld_bin hx hy (guard_int _ _ _ _ _ _ _ _) fun w => by simp [binOp, Op.intCmp]
theorem Yld.lss {k : IntKind} {m n : Int} (hx : evl env x = some (.int k m)) (hy : evl env y = some (.int k n)) : Yld P N w0 env H ⟨d, .binOp .lss T x y T', ty, pos, after, g⟩ (.bool (decide (m < n))) :=
  yld_bin hx hy (guard_int _ _ _ _ _ _ _ _) fun w => by simp [binOp, Op.intCmp]
theorem Yld.leq {k : IntKind} {m n : Int} (hx : evl env x = some (.int k m)) (hy : evl env y = some (.int k n)) : Yld P N w0 env H ⟨d, .binOp .leq T x y T', ty, pos, after, g⟩ (.bool (decide (m ≤ n))) :=
  yld_bin hx hy (guard_int _ _ _ _ _ _ _ _) fun w => by simp [binOp, Op.intCmp]
theorem Yld.gtr {k : IntKind} {m n : Int} (hx : evl env x = some (.int k m)) (hy : evl env y = some (.int k n)) : Yld P N w0 env H ⟨d, .binOp .gtr T x y T', ty, pos, after, g⟩ (.bool (decide (n < m))) :=
  yld_bin hx hy (guard_int _ _ _ _ _ _ _ _) fun w => by simp [binOp, Op.intCmp]
theorem Yld.geq {k : IntKind} {m n : Int} (hx : evl env x = some (.int k m)) (hy : evl env y = some (.int k n)) : Yld P N w0 env H ⟨d, .binOp .geq T x y T', ty, pos, after, g⟩ (.bool (decide (n ≤ m))) :=
  yld_bin hx hy (guard_int _ _ _ _ _ _ _ _) fun w => by simp [binOp, Op.intCmp]

theorem Yld.eqlB {m n : Bool} (hT : P.underlying T = some .bool) (hx : evl env x = some (.bool m)) (hy : evl env y = some (.bool n)) : Yld P N w0 env H ⟨d, .binOp .eql T x y T', ty, pos, after, g⟩ (.bool (m == n)) :=
  yld_bin hx hy (guard_bool _ _ _ _ _ _) fun w => run_eql_bool w T m n hT
theorem Yld.neqB {m n : Bool} (hT : P.underlying T = some .bool) (hx : evl env x = some (.bool m)) (hy : evl env y = some (.bool n)) : Yld P N w0 env H ⟨d, .binOp .neq T x y T', ty, pos, after, g⟩ (.bool (!(m == n))) :=
  yld_bin hx hy (guard_bool _ _ _ _ _ _) fun w => run_neq_bool w T m n hT
theorem Yld.notB {m : Bool} (hx : evl env x = some (.bool m)) : Yld P N w0 env H ⟨d, .unOp .not T x, ty, pos, after, g⟩ (.bool (!m)) := fun a w hs => by
  simp [execOp, hs.eval hx, Op.unary]
theorem Yld.negI {m : Int} (hx : evl env x = some (.int .i64 m)) (h : -9223372036854775807 ≤ m ∧ m ≤ 9223372036854775807) : Yld P N w0 env H ⟨d, .unOp .neg T x, ty, pos, after, g⟩ (.int .i64 (-m)) := fun a w hs => by
  simp [execOp, hs.eval hx, Op.unary, Op.intArith]
  exact wrap_i64_in (by omega) (by omega)
theorem Yld.eqlS {m n : ByteArray} (hx : evl env x = some (.string m)) (hy : evl env y = some (.string n)) : Yld P N w0 env H ⟨d, .binOp .eql T x y T', ty, pos, after, g⟩ (.bool (m.toList == n.toList)) :=
  yld_bin hx hy (guard_string _ _ _ _ _ _) fun w => by simp [binOp, Op.stringOp]
theorem Yld.neqS {m n : ByteArray} (hx : evl env x = some (.string m)) (hy : evl env y = some (.string n)) : Yld P N w0 env H ⟨d, .binOp .neq T x y T', ty, pos, after, g⟩ (.bool (!(m.toList == n.toList))) :=
  yld_bin hx hy (guard_string _ _ _ _ _ _) fun w => by simp [binOp, Op.stringOp]

/-! unsigned kinds as bit vectors -/
theorem toNat_back {n : Nat} (b : BitVec n) : ((b.toNat : Int)) % (2 ^ n : Int) = (b.toNat : Int) := by
  have h : (b.toNat : Int) < (2 ^ n : Int) := by exact_mod_cast b.isLt
  exact Int.emod_eq_of_lt (by omega) h
theorem ofInt_toNat {n : Nat} (b : BitVec n) : BitVec.ofInt n (b.toNat : Int) = b := by
  rw [BitVec.ofInt_natCast]; simp
theorem wrap_bv_u8 (b : BitVec 8) : IntKind.u8.wrap (b.toNat : Int) = b.toNat := by rw [wrap_u8]; have := b.isLt; omega
theorem wrap_bv_u16 (b : BitVec 16) : IntKind.u16.wrap (b.toNat : Int) = b.toNat := by rw [wrap_u16]; have := b.isLt; omega
theorem wrap_bv_u32 (b : BitVec 32) : IntKind.u32.wrap (b.toNat : Int) = b.toNat := by rw [wrap_u32]; have := b.isLt; omega
theorem wrap_bv_u64 (b : BitVec 64) : IntKind.u64.wrap (b.toNat : Int) = b.toNat := by rw [wrap_u64]; have := b.isLt; omega
theorem shr_bv {n : Nat} (a : BitVec n) (m : Nat) : ((a.toNat : Int)).fdiv (2 ^ min m n) = ((a >>> m).toNat : Int) := by
  have e : ((2 : Int) ^ min m n) = ((2 ^ min m n : Nat) : Int) := by simp
  rw [e, Int.fdiv_eq_ediv_of_nonneg _ (Int.natCast_nonneg _), ← Int.natCast_ediv, BitVec.toNat_ushiftRight, Nat.shiftRight_eq_div_pow]
  by_cases h : m ≤ n
  · rw [Nat.min_eq_left h]
  · have h1 : a.toNat / 2 ^ n = 0 := Nat.div_eq_of_lt a.isLt
    have h2 : a.toNat / 2 ^ m = 0 := Nat.div_eq_of_lt (Nat.lt_of_lt_of_le a.isLt (Nat.pow_le_pow_right (by omega) (by omega)))
    rw [Nat.min_eq_right (by omega), h1, h2]
theorem shl_bv {n : Nat} (a : BitVec n) (m : Nat) : ((a.toNat : Int) * 2 ^ min m n) % (2 ^ n : Int) = ((a <<< m).toNat : Int) := by
  have e : ((a.toNat : Int) * 2 ^ min m n) % (2 ^ n : Int) = ((a.toNat * 2 ^ min m n % 2 ^ n : Nat) : Int) := by push_cast; rfl
  rw [e, BitVec.toNat_shiftLeft, Nat.shiftLeft_eq]
  by_cases h : m ≤ n
  · rw [Nat.min_eq_left h]
  · rw [Nat.min_eq_right (by omega), Nat.mul_mod_left]
    have : 2 ^ m = 2 ^ (m - n) * 2 ^ n := by rw [← Nat.pow_add]; congr 1; omega
    rw [this, ← Nat.mul_assoc, Nat.mul_mod_left]

theorem Yld.xor_u8 {a b : BitVec 8} (hx : evl env x = some (U8 a)) (hy : evl env y = some (U8 b)) : Yld P N w0 env H ⟨d, .binOp .xor T x y T', ty, pos, after, g⟩ (U8 (a ^^^ b)) :=
  yld_bin hx hy (guard_int _ _ _ _ _ _ _ _) fun w => by
    have h : ∀ z : BitVec 8, IntKind.u8.wrap (z.toNat : Int) = z.toNat := wrap_bv_u8
    have ha : BitVec.ofInt (IntKind.u8.bits) (a.toNat : Int) = a := ofInt_toNat a
    have hb : BitVec.ofInt (IntKind.u8.bits) (b.toNat : Int) = b := ofInt_toNat b
    simp only [binOp, ne_eq, not_true_eq_false, if_false, Op.intBits, ha, hb]
    show Result.ok (Value.int .u8 (IntKind.u8.wrap ((a ^^^ b : BitVec 8).toNat : Int))) w = _
    rw [h]
theorem Yld.and_u8 {a b : BitVec 8} (hx : evl env x = some (U8 a)) (hy : evl env y = some (U8 b)) : Yld P N w0 env H ⟨d, .binOp .and T x y T', ty, pos, after, g⟩ (U8 (a &&& b)) :=
  yld_bin hx hy (guard_int _ _ _ _ _ _ _ _) fun w => by
    have h : ∀ z : BitVec 8, IntKind.u8.wrap (z.toNat : Int) = z.toNat := wrap_bv_u8
    have ha : BitVec.ofInt (IntKind.u8.bits) (a.toNat : Int) = a := ofInt_toNat a
    have hb : BitVec.ofInt (IntKind.u8.bits) (b.toNat : Int) = b := ofInt_toNat b
    simp only [binOp, ne_eq, not_true_eq_false, if_false, Op.intBits, ha, hb]
    show Result.ok (Value.int .u8 (IntKind.u8.wrap ((a &&& b : BitVec 8).toNat : Int))) w = _
    rw [h]
theorem Yld.or_u8 {a b : BitVec 8} (hx : evl env x = some (U8 a)) (hy : evl env y = some (U8 b)) : Yld P N w0 env H ⟨d, .binOp .or T x y T', ty, pos, after, g⟩ (U8 (a ||| b)) :=
  yld_bin hx hy (guard_int _ _ _ _ _ _ _ _) fun w => by
    have h : ∀ z : BitVec 8, IntKind.u8.wrap (z.toNat : Int) = z.toNat := wrap_bv_u8
    have ha : BitVec.ofInt (IntKind.u8.bits) (a.toNat : Int) = a := ofInt_toNat a
    have hb : BitVec.ofInt (IntKind.u8.bits) (b.toNat : Int) = b := ofInt_toNat b
    simp only [binOp, ne_eq, not_true_eq_false, if_false, Op.intBits, ha, hb]
    show Result.ok (Value.int .u8 (IntKind.u8.wrap ((a ||| b : BitVec 8).toNat : Int))) w = _
    rw [h]
theorem Yld.shr_u8 {a : BitVec 8} {yk : IntKind} {m : Int} (hx : evl env x = some (U8 a)) (hy : evl env y = some (.int yk m)) (hm : 0 ≤ m) : Yld P N w0 env H ⟨d, .binOp .shr T x y T', ty, pos, after, g⟩ (U8 (a >>> m.toNat)) :=
  yld_bin hx hy (guard_int _ _ _ _ _ _ _ _) fun w => by
    simp only [binOp, Op.shift, if_neg (Int.not_lt.2 hm)]
    show Result.ok (Value.int .u8 (((a.toNat : Int)).fdiv (2 ^ min m.toNat 8))) w = _
    rw [shr_bv a m.toNat]
theorem Yld.shl_u8 {a : BitVec 8} {yk : IntKind} {m : Int} (hx : evl env x = some (U8 a)) (hy : evl env y = some (.int yk m)) (hm : 0 ≤ m) : Yld P N w0 env H ⟨d, .binOp .shl T x y T', ty, pos, after, g⟩ (U8 (a <<< m.toNat)) :=
  yld_bin hx hy (guard_int _ _ _ _ _ _ _ _) fun w => by
    simp only [binOp, Op.shift, if_neg (Int.not_lt.2 hm)]
    show Result.ok (Value.int .u8 (IntKind.u8.wrap ((a.toNat : Int) * 2 ^ min m.toNat 8))) w = _
    have h := shl_bv a m.toNat
    rw [wrap_u8]
    simp only [Int.reducePow] at h
    rw [h]
theorem Yld.not_u8 {a : BitVec 8} (hx : evl env x = some (U8 a)) : Yld P N w0 env H ⟨d, .unOp .xor T x, ty, pos, after, g⟩ (U8 (~~~a)) := fun ac w hs => by
    have ha : BitVec.ofInt (IntKind.u8.bits) (a.toNat : Int) = a := ofInt_toNat a
    have hm : BitVec.ofInt (IntKind.u8.bits) (if IntKind.u8.signed = true then -1 else IntKind.u8.max) = BitVec.allOnes 8 := by rfl
    simp only [execOp, hs.eval hx, Op.unary, Op.intBits, ha, hm]
    show Result.ok (Next.value (Value.int .u8 (IntKind.u8.wrap ((BitVec.allOnes 8 ^^^ a : BitVec 8).toNat : Int)))) w = _
    rw [BitVec.allOnes_xor, wrap_bv_u8]
theorem Yld.eql_u8 {a b : BitVec 8} (hx : evl env x = some (U8 a)) (hy : evl env y = some (U8 b)) : Yld P N w0 env H ⟨d, .binOp .eql T x y T', ty, pos, after, g⟩ (.bool (a == b)) := by
  have h := Yld.eql (P := P) (N := N) (w0 := w0) (H := H) (d := d) (ty := ty) (T := T) (T' := T') (pos := pos) (after := after) (g := g) hx hy
  have e : ((a.toNat : Int) == (b.toNat : Int)) = (a == b) := by
    rw [Bool.eq_iff_iff, beq_iff_eq, beq_iff_eq, ← BitVec.toNat_inj]; omega
  rwa [e] at h
theorem Yld.neq_u8 {a b : BitVec 8} (hx : evl env x = some (U8 a)) (hy : evl env y = some (U8 b)) : Yld P N w0 env H ⟨d, .binOp .neq T x y T', ty, pos, after, g⟩ (.bool (a != b)) := by
  have h := Yld.neq (P := P) (N := N) (w0 := w0) (H := H) (d := d) (ty := ty) (T := T) (T' := T') (pos := pos) (after := after) (g := g) hx hy
  have e : ((a.toNat : Int) != (b.toNat : Int)) = (a != b) := by
    rw [Bool.eq_iff_iff, bne_iff_ne, bne_iff_ne, ne_eq, ne_eq, ← BitVec.toNat_inj]; omega
  rwa [e] at h
theorem Yld.xor_u32 {a b : BitVec 32} (hx : evl env x = some (U32 a)) (hy : evl env y = some (U32 b)) : Yld P N w0 env H ⟨d, .binOp .xor T x y T', ty, pos, after, g⟩ (U32 (a ^^^ b)) :=
  yld_bin hx hy (guard_int _ _ _ _ _ _ _ _) fun w => by
    have h : ∀ z : BitVec 32, IntKind.u32.wrap (z.toNat : Int) = z.toNat := wrap_bv_u32
    have ha : BitVec.ofInt (IntKind.u32.bits) (a.toNat : Int) = a := ofInt_toNat a
    have hb : BitVec.ofInt (IntKind.u32.bits) (b.toNat : Int) = b := ofInt_toNat b
    simp only [binOp, ne_eq, not_true_eq_false, if_false, Op.intBits, ha, hb]
    show Result.ok (Value.int .u32 (IntKind.u32.wrap ((a ^^^ b : BitVec 32).toNat : Int))) w = _
    rw [h]
theorem Yld.and_u32 {a b : BitVec 32} (hx : evl env x = some (U32 a)) (hy : evl env y = some (U32 b)) : Yld P N w0 env H ⟨d, .binOp .and T x y T', ty, pos, after, g⟩ (U32 (a &&& b)) :=
  yld_bin hx hy (guard_int _ _ _ _ _ _ _ _) fun w => by
    have h : ∀ z : BitVec 32, IntKind.u32.wrap (z.toNat : Int) = z.toNat := wrap_bv_u32
    have ha : BitVec.ofInt (IntKind.u32.bits) (a.toNat : Int) = a := ofInt_toNat a
    have hb : BitVec.ofInt (IntKind.u32.bits) (b.toNat : Int) = b := ofInt_toNat b
    simp only [binOp, ne_eq, not_true_eq_false, if_false, Op.intBits, ha, hb]
    show Result.ok (Value.int .u32 (IntKind.u32.wrap ((a &&& b : BitVec 32).toNat : Int))) w = _
    rw [h]
theorem Yld.or_u32 {a b : BitVec 32} (hx : evl env x = some (U32 a)) (hy : evl env y = some (U32 b)) : Yld P N w0 env H ⟨d, .binOp .or T x y T', ty, pos, after, g⟩ (U32 (a ||| b)) :=
  yld_bin hx hy (guard_int _ _ _ _ _ _ _ _) fun w => by
    have h : ∀ z : BitVec 32, IntKind.u32.wrap (z.toNat : Int) = z.toNat := wrap_bv_u32
    have ha : BitVec.ofInt (IntKind.u32.bits) (a.toNat : Int) = a := ofInt_toNat a
    have hb : BitVec.ofInt (IntKind.u32.bits) (b.toNat : Int) = b := ofInt_toNat b
    simp only [binOp, ne_eq, not_true_eq_false, if_false, Op.intBits, ha, hb]
    show Result.ok (Value.int .u32 (IntKind.u32.wrap ((a ||| b : BitVec 32).toNat : Int))) w = _
    rw [h]
theorem Yld.shr_u32 {a : BitVec 32} {yk : IntKind} {m : Int} (hx : evl env x = some (U32 a)) (hy : evl env y = some (.int yk m)) (hm : 0 ≤ m) : Yld P N w0 env H ⟨d, .binOp .shr T x y T', ty, pos, after, g⟩ (U32 (a >>> m.toNat)) :=
  yld_bin hx hy (guard_int _ _ _ _ _ _ _ _) fun w => by
    simp only [binOp, Op.shift, if_neg (Int.not_lt.2 hm)]
    show Result.ok (Value.int .u32 (((a.toNat : Int)).fdiv (2 ^ min m.toNat 32))) w = _
    rw [shr_bv a m.toNat]
theorem Yld.shl_u32 {a : BitVec 32} {yk : IntKind} {m : Int} (hx : evl env x = some (U32 a)) (hy : evl env y = some (.int yk m)) (hm : 0 ≤ m) : Yld P N w0 env H ⟨d, .binOp .shl T x y T', ty, pos, after, g⟩ (U32 (a <<< m.toNat)) :=
  yld_bin hx hy (guard_int _ _ _ _ _ _ _ _) fun w => by
    simp only [binOp, Op.shift, if_neg (Int.not_lt.2 hm)]
    show Result.ok (Value.int .u32 (IntKind.u32.wrap ((a.toNat : Int) * 2 ^ min m.toNat 32))) w = _
    have h := shl_bv a m.toNat
    rw [wrap_u32]
    simp only [Int.reducePow] at h
    rw [h]
theorem Yld.not_u32 {a : BitVec 32} (hx : evl env x = some (U32 a)) : Yld P N w0 env H ⟨d, .unOp .xor T x, ty, pos, after, g⟩ (U32 (~~~a)) := fun ac w hs => by
    have ha : BitVec.ofInt (IntKind.u32.bits) (a.toNat : Int) = a := ofInt_toNat a
    have hm : BitVec.ofInt (IntKind.u32.bits) (if IntKind.u32.signed = true then -1 else IntKind.u32.max) = BitVec.allOnes 32 := by rfl
    simp only [execOp, hs.eval hx, Op.unary, Op.intBits, ha, hm]
    show Result.ok (Next.value (Value.int .u32 (IntKind.u32.wrap ((BitVec.allOnes 32 ^^^ a : BitVec 32).toNat : Int)))) w = _
    rw [BitVec.allOnes_xor, wrap_bv_u32]
theorem Yld.eql_u32 {a b : BitVec 32} (hx : evl env x = some (U32 a)) (hy : evl env y = some (U32 b)) : Yld P N w0 env H ⟨d, .binOp .eql T x y T', ty, pos, after, g⟩ (.bool (a == b)) := by
  have h := Yld.eql (P := P) (N := N) (w0 := w0) (H := H) (d := d) (ty := ty) (T := T) (T' := T') (pos := pos) (after := after) (g := g) hx hy
  have e : ((a.toNat : Int) == (b.toNat : Int)) = (a == b) := by
    rw [Bool.eq_iff_iff, beq_iff_eq, beq_iff_eq, ← BitVec.toNat_inj]; omega
  rwa [e] at h
theorem Yld.neq_u32 {a b : BitVec 32} (hx : evl env x = some (U32 a)) (hy : evl env y = some (U32 b)) : Yld P N w0 env H ⟨d, .binOp .neq T x y T', ty, pos, after, g⟩ (.bool (a != b)) := by
  have h := Yld.neq (P := P) (N := N) (w0 := w0) (H := H) (d := d) (ty := ty) (T := T) (T' := T') (pos := pos) (after := after) (g := g) hx hy
  have e : ((a.toNat : Int) != (b.toNat : Int)) = (a != b) := by
    rw [Bool.eq_iff_iff, bne_iff_ne, bne_iff_ne, ne_eq, ne_eq, ← BitVec.toNat_inj]; omega
  rwa [e] at h
theorem Yld.xor_u64 {a b : BitVec 64} (hx : evl env x = some (U64 a)) (hy : evl env y = some (U64 b)) : Yld P N w0 env H ⟨d, .binOp .xor T x y T', ty, pos, after, g⟩ (U64 (a ^^^ b)) :=
  yld_bin hx hy (guard_int _ _ _ _ _ _ _ _) fun w => by
    have h : ∀ z : BitVec 64, IntKind.u64.wrap (z.toNat : Int) = z.toNat := wrap_bv_u64
    have ha : BitVec.ofInt (IntKind.u64.bits) (a.toNat : Int) = a := ofInt_toNat a
    have hb : BitVec.ofInt (IntKind.u64.bits) (b.toNat : Int) = b := ofInt_toNat b
    simp only [binOp, ne_eq, not_true_eq_false, if_false, Op.intBits, ha, hb]
    show Result.ok (Value.int .u64 (IntKind.u64.wrap ((a ^^^ b : BitVec 64).toNat : Int))) w = _
    rw [h]
theorem Yld.and_u64 {a b : BitVec 64} (hx : evl env x = some (U64 a)) (hy : evl env y = some (U64 b)) : Yld P N w0 env H ⟨d, .binOp .and T x y T', ty, pos, after, g⟩ (U64 (a &&& b)) :=
  yld_bin hx hy (guard_int _ _ _ _ _ _ _ _) fun w => by
    have h : ∀ z : BitVec 64, IntKind.u64.wrap (z.toNat : Int) = z.toNat := wrap_bv_u64
    have ha : BitVec.ofInt (IntKind.u64.bits) (a.toNat : Int) = a := ofInt_toNat a
    have hb : BitVec.ofInt (IntKind.u64.bits) (b.toNat : Int) = b := ofInt_toNat b
    simp only [binOp, ne_eq, not_true_eq_false, if_false, Op.intBits, ha, hb]
    show Result.ok (Value.int .u64 (IntKind.u64.wrap ((a &&& b : BitVec 64).toNat : Int))) w = _
    rw [h]
theorem Yld.or_u64 {a b : BitVec 64} (hx : evl env x = some (U64 a)) (hy : evl env y = some (U64 b)) : Yld P N w0 env H ⟨d, .binOp .or T x y T', ty, pos, after, g⟩ (U64 (a ||| b)) :=
  yld_bin hx hy (guard_int _ _ _ _ _ _ _ _) fun w => by
    have h : ∀ z : BitVec 64, IntKind.u64.wrap (z.toNat : Int) = z.toNat := wrap_bv_u64
    have ha : BitVec.ofInt (IntKind.u64.bits) (a.toNat : Int) = a := ofInt_toNat a
    have hb : BitVec.ofInt (IntKind.u64.bits) (b.toNat : Int) = b := ofInt_toNat b
    simp only [binOp, ne_eq, not_true_eq_false, if_false, Op.intBits, ha, hb]
    show Result.ok (Value.int .u64 (IntKind.u64.wrap ((a ||| b : BitVec 64).toNat : Int))) w = _
    rw [h]
theorem Yld.shr_u64 {a : BitVec 64} {yk : IntKind} {m : Int} (hx : evl env x = some (U64 a)) (hy : evl env y = some (.int yk m)) (hm : 0 ≤ m) : Yld P N w0 env H ⟨d, .binOp .shr T x y T', ty, pos, after, g⟩ (U64 (a >>> m.toNat)) :=
  yld_bin hx hy (guard_int _ _ _ _ _ _ _ _) fun w => by
    simp only [binOp, Op.shift, if_neg (Int.not_lt.2 hm)]
    show Result.ok (Value.int .u64 (((a.toNat : Int)).fdiv (2 ^ min m.toNat 64))) w = _
    rw [shr_bv a m.toNat]
theorem Yld.shl_u64 {a : BitVec 64} {yk : IntKind} {m : Int} (hx : evl env x = some (U64 a)) (hy : evl env y = some (.int yk m)) (hm : 0 ≤ m) : Yld P N w0 env H ⟨d, .binOp .shl T x y T', ty, pos, after, g⟩ (U64 (a <<< m.toNat)) :=
  yld_bin hx hy (guard_int _ _ _ _ _ _ _ _) fun w => by
    simp only [binOp, Op.shift, if_neg (Int.not_lt.2 hm)]
    show Result.ok (Value.int .u64 (IntKind.u64.wrap ((a.toNat : Int) * 2 ^ min m.toNat 64))) w = _
    have h := shl_bv a m.toNat
    rw [wrap_u64]
    simp only [Int.reducePow] at h
    rw [h]
theorem Yld.not_u64 {a : BitVec 64} (hx : evl env x = some (U64 a)) : Yld P N w0 env H ⟨d, .unOp .xor T x, ty, pos, after, g⟩ (U64 (~~~a)) := fun ac w hs => by
    have ha : BitVec.ofInt (IntKind.u64.bits) (a.toNat : Int) = a := ofInt_toNat a
    have hm : BitVec.ofInt (IntKind.u64.bits) (if IntKind.u64.signed = true then -1 else IntKind.u64.max) = BitVec.allOnes 64 := by rfl
    simp only [execOp, hs.eval hx, Op.unary, Op.intBits, ha, hm]
    show Result.ok (Next.value (Value.int .u64 (IntKind.u64.wrap ((BitVec.allOnes 64 ^^^ a : BitVec 64).toNat : Int)))) w = _
    rw [BitVec.allOnes_xor, wrap_bv_u64]
theorem Yld.eql_u64 {a b : BitVec 64} (hx : evl env x = some (U64 a)) (hy : evl env y = some (U64 b)) : Yld P N w0 env H ⟨d, .binOp .eql T x y T', ty, pos, after, g⟩ (.bool (a == b)) := by
  have h := Yld.eql (P := P) (N := N) (w0 := w0) (H := H) (d := d) (ty := ty) (T := T) (T' := T') (pos := pos) (after := after) (g := g) hx hy
  have e : ((a.toNat : Int) == (b.toNat : Int)) = (a == b) := by
    rw [Bool.eq_iff_iff, beq_iff_eq, beq_iff_eq, ← BitVec.toNat_inj]; omega
  rwa [e] at h
theorem Yld.neq_u64 {a b : BitVec 64} (hx : evl env x = some (U64 a)) (hy : evl env y = some (U64 b)) : Yld P N w0 env H ⟨d, .binOp .neq T x y T', ty, pos, after, g⟩ (.bool (a != b)) := by
  have h := Yld.neq (P := P) (N := N) (w0 := w0) (H := H) (d := d) (ty := ty) (T := T) (T' := T') (pos := pos) (after := after) (g := g) hx hy
  have e : ((a.toNat : Int) != (b.toNat : Int)) = (a != b) := by
    rw [Bool.eq_iff_iff, bne_iff_ne, bne_iff_ne, ne_eq, ne_eq, ← BitVec.toNat_inj]; omega
  rwa [e] at h

/-! conversions between integers -/
theorem yld_conv {k : IntKind} {n : Int} {sk : IntKind} {m : Int} (hs : (P.underlying T).isSome = true) (hd : P.underlying T' = some (.int k)) (hx : evl env x = some (.int sk n)) (hm : k.wrap n = m) :
    Yld P N w0 env H ⟨d, .convert T T' x, ty, pos, after, g⟩ (.int k m) := fun a w hst => by
  have hk : P.intKind T' = k := by simp [Program.intKind, hd]
  have hr := run_convert_int w T T' sk n hs (by rw [hk]; exact hd)
  rw [hk, hm] at hr
  simp [execOp, hst.eval hx, hr]

theorem Yld.conv_u8_u8 {a : BitVec 8} (hs : (P.underlying T).isSome = true) (hd : P.underlying T' = some (.int .u8)) (hx : evl env x = some (U8 a)) :
    Yld P N w0 env H ⟨d, .convert T T' x, ty, pos, after, g⟩ (U8 (a.setWidth 8)) :=
  yld_conv hs hd hx (by rw [wrap_u8, BitVec.toNat_setWidth]; have := a.isLt; simp only [Nat.reducePow]; omega)
theorem Yld.conv_u8_u32 {a : BitVec 8} (hs : (P.underlying T).isSome = true) (hd : P.underlying T' = some (.int .u32)) (hx : evl env x = some (U8 a)) :
    Yld P N w0 env H ⟨d, .convert T T' x, ty, pos, after, g⟩ (U32 (a.setWidth 32)) :=
  yld_conv hs hd hx (by rw [wrap_u32, BitVec.toNat_setWidth]; have := a.isLt; simp only [Nat.reducePow]; omega)
theorem Yld.conv_u8_u64 {a : BitVec 8} (hs : (P.underlying T).isSome = true) (hd : P.underlying T' = some (.int .u64)) (hx : evl env x = some (U8 a)) :
    Yld P N w0 env H ⟨d, .convert T T' x, ty, pos, after, g⟩ (U64 (a.setWidth 64)) :=
  yld_conv hs hd hx (by rw [wrap_u64, BitVec.toNat_setWidth]; have := a.isLt; simp only [Nat.reducePow]; omega)
theorem Yld.conv_i64_u8 {n : Int} (hs : (P.underlying T).isSome = true) (hd : P.underlying T' = some (.int .u8)) (hx : evl env x = some (.int .i64 n)) :
    Yld P N w0 env H ⟨d, .convert T T' x, ty, pos, after, g⟩ (U8 (BitVec.ofInt 8 n)) :=
  yld_conv hs hd hx (by rw [wrap_u8, BitVec.toNat_ofInt]; simp only [Nat.reducePow]; omega)
theorem Yld.conv_u8_i64 {a : BitVec 8} (hs : (P.underlying T).isSome = true) (hd : P.underlying T' = some (.int .i64)) (hx : evl env x = some (U8 a)) :
    Yld P N w0 env H ⟨d, .convert T T' x, ty, pos, after, g⟩ (.int .i64 (a.toNat : Int)) :=
  yld_conv hs hd hx (by have := a.isLt; exact wrap_i64_in (by omega) (by simp only [Nat.reducePow] at this; omega))
theorem Yld.conv_u32_u8 {a : BitVec 32} (hs : (P.underlying T).isSome = true) (hd : P.underlying T' = some (.int .u8)) (hx : evl env x = some (U32 a)) :
    Yld P N w0 env H ⟨d, .convert T T' x, ty, pos, after, g⟩ (U8 (a.setWidth 8)) :=
  yld_conv hs hd hx (by rw [wrap_u8, BitVec.toNat_setWidth]; have := a.isLt; simp only [Nat.reducePow]; omega)
theorem Yld.conv_u32_u32 {a : BitVec 32} (hs : (P.underlying T).isSome = true) (hd : P.underlying T' = some (.int .u32)) (hx : evl env x = some (U32 a)) :
    Yld P N w0 env H ⟨d, .convert T T' x, ty, pos, after, g⟩ (U32 (a.setWidth 32)) :=
  yld_conv hs hd hx (by rw [wrap_u32, BitVec.toNat_setWidth]; have := a.isLt; simp only [Nat.reducePow]; omega)
theorem Yld.conv_u32_u64 {a : BitVec 32} (hs : (P.underlying T).isSome = true) (hd : P.underlying T' = some (.int .u64)) (hx : evl env x = some (U32 a)) :
    Yld P N w0 env H ⟨d, .convert T T' x, ty, pos, after, g⟩ (U64 (a.setWidth 64)) :=
  yld_conv hs hd hx (by rw [wrap_u64, BitVec.toNat_setWidth]; have := a.isLt; simp only [Nat.reducePow]; omega)
theorem Yld.conv_i64_u32 {n : Int} (hs : (P.underlying T).isSome = true) (hd : P.underlying T' = some (.int .u32)) (hx : evl env x = some (.int .i64 n)) :
    Yld P N w0 env H ⟨d, .convert T T' x, ty, pos, after, g⟩ (U32 (BitVec.ofInt 32 n)) :=
  yld_conv hs hd hx (by rw [wrap_u32, BitVec.toNat_ofInt]; simp only [Nat.reducePow]; omega)
theorem Yld.conv_u32_i64 {a : BitVec 32} (hs : (P.underlying T).isSome = true) (hd : P.underlying T' = some (.int .i64)) (hx : evl env x = some (U32 a)) :
    Yld P N w0 env H ⟨d, .convert T T' x, ty, pos, after, g⟩ (.int .i64 (a.toNat : Int)) :=
  yld_conv hs hd hx (by have := a.isLt; exact wrap_i64_in (by omega) (by simp only [Nat.reducePow] at this; omega))
theorem Yld.conv_u64_u8 {a : BitVec 64} (hs : (P.underlying T).isSome = true) (hd : P.underlying T' = some (.int .u8)) (hx : evl env x = some (U64 a)) :
    Yld P N w0 env H ⟨d, .convert T T' x, ty, pos, after, g⟩ (U8 (a.setWidth 8)) :=
  yld_conv hs hd hx (by rw [wrap_u8, BitVec.toNat_setWidth]; have := a.isLt; simp only [Nat.reducePow]; omega)
theorem Yld.conv_u64_u32 {a : BitVec 64} (hs : (P.underlying T).isSome = true) (hd : P.underlying T' = some (.int .u32)) (hx : evl env x = some (U64 a)) :
    Yld P N w0 env H ⟨d, .convert T T' x, ty, pos, after, g⟩ (U32 (a.setWidth 32)) :=
  yld_conv hs hd hx (by rw [wrap_u32, BitVec.toNat_setWidth]; have := a.isLt; simp only [Nat.reducePow]; omega)
theorem Yld.conv_u64_u64 {a : BitVec 64} (hs : (P.underlying T).isSome = true) (hd : P.underlying T' = some (.int .u64)) (hx : evl env x = some (U64 a)) :
    Yld P N w0 env H ⟨d, .convert T T' x, ty, pos, after, g⟩ (U64 (a.setWidth 64)) :=
  yld_conv hs hd hx (by rw [wrap_u64, BitVec.toNat_setWidth]; have := a.isLt; simp only [Nat.reducePow]; omega)
theorem Yld.conv_i64_u64 {n : Int} (hs : (P.underlying T).isSome = true) (hd : P.underlying T' = some (.int .u64)) (hx : evl env x = some (.int .i64 n)) :
    Yld P N w0 env H ⟨d, .convert T T' x, ty, pos, after, g⟩ (U64 (BitVec.ofInt 64 n)) :=
  yld_conv hs hd hx (by rw [wrap_u64, BitVec.toNat_ofInt]; simp only [Nat.reducePow]; omega)
theorem Yld.conv_u64_i64 {a : BitVec 64} (hs : (P.underlying T).isSome = true) (hd : P.underlying T' = some (.int .i64)) (hx : evl env x = some (U64 a)) :
    Yld P N w0 env H ⟨d, .convert T T' x, ty, pos, after, g⟩ (.int .i64 a.toInt) :=
  yld_conv hs hd hx (by
    rw [wrap_i64, BitVec.toInt_eq_toNat_cond]; have := a.isLt
    simp only [Nat.reducePow] at *
    split <;> split <;> omega)
theorem Yld.conv_i64_i64 {n : Int} (hs : (P.underlying T).isSome = true) (hd : P.underlying T' = some (.int .i64)) (hx : evl env x = some (.int .i64 n)) (h : -9223372036854775808 ≤ n ∧ n ≤ 9223372036854775807) :
    Yld P N w0 env H ⟨d, .convert T T' x, ty, pos, after, g⟩ (.int .i64 n) :=
  yld_conv hs hd hx (wrap_i64_in h.1 h.2)

/-! int as a natural number: bits -/
theorem ofInt_nat64 (a : Nat) (ha : a < 9223372036854775808) : (BitVec.ofInt 64 (a : Int)).toNat = a := by
  rw [BitVec.ofInt_natCast, BitVec.toNat_ofNat]; exact Nat.mod_eq_of_lt (by omega)

theorem Yld.xor_i64 {a b : Nat} (hx : evl env x = some (.int .i64 (a : Int))) (hy : evl env y = some (.int .i64 (b : Int))) (h : a < 9223372036854775808 ∧ b < 9223372036854775808) :
    Yld P N w0 env H ⟨d, .binOp .xor T x y T', ty, pos, after, g⟩ (.int .i64 ((a ^^^ b : Nat) : Int)) :=
  yld_bin hx hy (guard_int _ _ _ _ _ _ _ _) fun w => by
    have hz : a ^^^ b < 2 ^ 63 := Nat.xor_lt_two_pow (by omega) (by omega)
    simp only [binOp, ne_eq, not_true_eq_false, if_false, Op.intBits]
    show Result.ok (Value.int .i64 (IntKind.i64.wrap ((BitVec.ofInt 64 (a : Int) ^^^ BitVec.ofInt 64 (b : Int)).toNat : Int))) w = _
    rw [BitVec.toNat_xor, ofInt_nat64 a h.1, ofInt_nat64 b h.2, wrap_i64_in (by omega) (by omega)]
theorem Yld.or_i64 {a b : Nat} (hx : evl env x = some (.int .i64 (a : Int))) (hy : evl env y = some (.int .i64 (b : Int))) (h : a < 9223372036854775808 ∧ b < 9223372036854775808) :
    Yld P N w0 env H ⟨d, .binOp .or T x y T', ty, pos, after, g⟩ (.int .i64 ((a ||| b : Nat) : Int)) :=
  yld_bin hx hy (guard_int _ _ _ _ _ _ _ _) fun w => by
    have hz : a ||| b < 2 ^ 63 := Nat.or_lt_two_pow (by omega) (by omega)
    simp only [binOp, ne_eq, not_true_eq_false, if_false, Op.intBits]
    show Result.ok (Value.int .i64 (IntKind.i64.wrap ((BitVec.ofInt 64 (a : Int) ||| BitVec.ofInt 64 (b : Int)).toNat : Int))) w = _
    rw [BitVec.toNat_or, ofInt_nat64 a h.1, ofInt_nat64 b h.2, wrap_i64_in (by omega) (by omega)]
theorem Yld.and_i64 {a b : Nat} (hx : evl env x = some (.int .i64 (a : Int))) (hy : evl env y = some (.int .i64 (b : Int))) (h : a < 9223372036854775808 ∧ b < 9223372036854775808) :
    Yld P N w0 env H ⟨d, .binOp .and T x y T', ty, pos, after, g⟩ (.int .i64 ((a &&& b : Nat) : Int)) :=
  yld_bin hx hy (guard_int _ _ _ _ _ _ _ _) fun w => by
    have hz : a &&& b < 2 ^ 63 := Nat.and_lt_two_pow _ (by omega)
    simp only [binOp, ne_eq, not_true_eq_false, if_false, Op.intBits]
    show Result.ok (Value.int .i64 (IntKind.i64.wrap ((BitVec.ofInt 64 (a : Int) &&& BitVec.ofInt 64 (b : Int)).toNat : Int))) w = _
    rw [BitVec.toNat_and, ofInt_nat64 a h.1, ofInt_nat64 b h.2, wrap_i64_in (by omega) (by omega)]
theorem Yld.shl_i64 {a : Nat} {yk : IntKind} {m : Int} (hx : evl env x = some (.int .i64 (a : Int))) (hy : evl env y = some (.int yk m)) (hm : 0 ≤ m) (h : a * 2 ^ m.toNat < 9223372036854775808 ∧ m ≤ 63) :
    Yld P N w0 env H ⟨d, .binOp .shl T x y T', ty, pos, after, g⟩ (.int .i64 ((a <<< m.toNat : Nat) : Int)) :=
  yld_bin hx hy (guard_int _ _ _ _ _ _ _ _) fun w => by
    simp only [binOp, Op.shift, if_neg (Int.not_lt.2 hm)]
    show Result.ok (Value.int .i64 (IntKind.i64.wrap ((a : Int) * 2 ^ min m.toNat 64))) w = _
    rw [Nat.min_eq_left (by omega)]
    have e : (a : Int) * 2 ^ m.toNat = ((a * 2 ^ m.toNat : Nat) : Int) := by push_cast; rfl
    rw [e, Nat.shiftLeft_eq, wrap_i64_in (by omega) (by omega)]
theorem Yld.shr_i64 {a : Int} {yk : IntKind} {m : Int} (hx : evl env x = some (.int .i64 a)) (hy : evl env y = some (.int yk m)) (hm : 0 ≤ m) (h : m ≤ 64) :
    Yld P N w0 env H ⟨d, .binOp .shr T x y T', ty, pos, after, g⟩ (.int .i64 (a / 2 ^ m.toNat)) :=
  yld_bin hx hy (guard_int _ _ _ _ _ _ _ _) fun w => by
    simp only [binOp, Op.shift, if_neg (Int.not_lt.2 hm)]
    show Result.ok (Value.int .i64 (a.fdiv (2 ^ min m.toNat 64))) w = _
    rw [Nat.min_eq_left (by omega), Int.fdiv_eq_ediv_of_nonneg _ (Int.le_of_lt (Int.pow_pos (by omega)))]
theorem Yld.mask_i64 {a : Int} (k : Nat) {c : Int} (hx : evl env x = some (.int .i64 a)) (hy : evl env y = some (.int .i64 c)) (hc : c = 2 ^ k - 1) (hk : k < 63) :
    Yld P N w0 env H ⟨d, .binOp .and T x y T', ty, pos, after, g⟩ (.int .i64 (a % 2 ^ k)) :=
  yld_bin hx hy (guard_int _ _ _ _ _ _ _ _) fun w => by
    simp only [binOp, ne_eq, not_true_eq_false, if_false, Op.intBits]
    show Result.ok (Value.int .i64 (IntKind.i64.wrap ((BitVec.ofInt 64 a &&& BitVec.ofInt 64 c).toNat : Int))) w = _
    have hp : (2 : Nat) ^ k < 2 ^ 63 := Nat.pow_lt_pow_right (by omega) hk
    have hp0 : 0 < (2 : Nat) ^ k := Nat.two_pow_pos k
    have hc' : c = ((2 ^ k - 1 : Nat) : Int) := by
      rw [hc, Int.natCast_sub (by omega)]; push_cast; rfl
    have h1 : (BitVec.ofInt 64 a &&& BitVec.ofInt 64 c).toNat = (BitVec.ofInt 64 a).toNat % 2 ^ k := by
      rw [BitVec.toNat_and, hc', ofInt_nat64 _ (by omega), Nat.and_two_pow_sub_one_eq_mod]
    rw [h1, BitVec.toNat_ofInt]
    have h2 : ((((a % ((2 ^ 64 : Nat) : Int)).toNat % 2 ^ k : Nat)) : Int) = a % 2 ^ k := by
      have hnn : 0 ≤ a % ((2 ^ 64 : Nat) : Int) := Int.emod_nonneg _ (by decide)
      rw [Int.natCast_emod, Int.toNat_of_nonneg hnn]
      have hd : ((2 ^ k : Nat) : Int) ∣ ((2 ^ 64 : Nat) : Int) := Int.natCast_dvd_natCast.2 (Nat.pow_dvd_pow 2 (by omega))
      rw [Int.emod_emod_of_dvd _ hd]; push_cast; rfl
    rw [h2]
    have h3 : 0 ≤ a % 2 ^ k := Int.emod_nonneg _ (by have := Int.pow_pos (n := 2) (m := k) (by omega); omega)
    have h4 : a % 2 ^ k < 2 ^ k := Int.emod_lt_of_pos _ (Int.pow_pos (by omega))
    have h5 : (2 : Int) ^ k < 2 ^ 63 := by exact_mod_cast hp
    rw [wrap_i64_in (by omega) (by omega)]
end
end Go.Proofs.Ytnbcphofimicdaa

