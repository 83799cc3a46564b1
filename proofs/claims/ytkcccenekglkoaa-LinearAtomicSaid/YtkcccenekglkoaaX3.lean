/-
 A small symbolic executor for the walk, parts 2 and 3: numbers; reading memory (slices, blocks of the call's own), strings.
 Conditions: none; plain lemmas over any program.
-/
import Derived.Test.YtkcccenekglkoaaX1
import Derived.Laws.BitsAllLaws
namespace Go.Proofs.Ytkcccenekglkoaa
open Go Go.RowKit
set_option linter.unusedVariables false
abbrev I64 (n : Int) : Value := .int .i64 n
abbrev U8 (x : BitVec 8) : Value := .int .u8 (x.toNat : Int)
abbrev U16 (x : BitVec 16) : Value := .int .u16 (x.toNat : Int)
abbrev U32 (x : BitVec 32) : Value := .int .u32 (x.toNat : Int)
abbrev U64 (x : BitVec 64) : Value := .int .u64 (x.toNat : Int)
theorem wrapK (k : IntKind) (n : Int) : k.wrap n = if k.signed && n % (2 ^ k.bits : Int) ≥ (2 ^ (k.bits - 1) : Int) then n % (2 ^ k.bits : Int) - (2 ^ k.bits : Int) else n % (2 ^ k.bits : Int) := rfl
theorem wrap_u8 (n : Int) : IntKind.u8.wrap n = n % 256 := by simp [wrapK, IntKind.signed, IntKind.bits]
theorem wrap_u32 (n : Int) : IntKind.u32.wrap n = n % 4294967296 := by simp [wrapK, IntKind.signed, IntKind.bits]
theorem wrap_u64 (n : Int) : IntKind.u64.wrap n = n % 18446744073709551616 := by simp [wrapK, IntKind.signed, IntKind.bits]
theorem wrap_i64 (n : Int) : IntKind.i64.wrap n = if n % 18446744073709551616 ≥ 9223372036854775808 then n % 18446744073709551616 - 18446744073709551616 else n % 18446744073709551616 := by
 simp [wrapK, IntKind.signed, IntKind.bits]
theorem wrap_i64_in {n : Int} (h0 : -9223372036854775808 <= n) (h1 : n <= 9223372036854775807) : IntKind.i64.wrap n = n := by
 rw [wrap_i64]; split <;> omega
section
variable {P : Program} {N : Nat} {w0 : World} {env : Env} {H : Heap}
variable {d : Option Tmp} {ty T T' : TypeId} {pos : String} {after : Array Edge} {g : Option (Nat × Bool)} {x y : Operand}
theorem Yld.move {v : Value} (hx : evl env x = some v) : Yld P N w0 env H ⟨d, .move x, ty, pos, after, g⟩ v := fun a w hs => by
 simp [execOp, hs.eval hx]
theorem Yld.assign {v : Value} (hx : evl env x = some v) : Yld P N w0 env H ⟨d, .assign x, ty, pos, after, g⟩ v := fun a w hs => by
 simp [execOp, hs.eval hx]
theorem Yld.pickT {c : Operand} {u : Value} (hc : evl env c = some (.bool true)) (hx : evl env x = some u) : Yld P N w0 env H ⟨d, .pick c x y, ty, pos, after, g⟩ u := fun a w hs => by
 simp [execOp, hs.eval hc, hs.eval hx, asBool]
theorem Yld.pickF {c : Operand} {v : Value} (hc : evl env c = some (.bool false)) (hy : evl env y = some v) : Yld P N w0 env H ⟨d, .pick c x y, ty, pos, after, g⟩ v := fun a w hs => by
 simp [execOp, hs.eval hc, hs.eval hy, asBool]
theorem Yld.extract {vs : Array Value} {i : Nat} {v : Value} (hx : evl env x = some (.tuple vs)) (hi : vs[i]? = some v) : Yld P N w0 env H ⟨d, .extract x i, ty, pos, after, g⟩ v := fun a w hs => by
 simp [execOp, hs.eval hx, Instr.extract, hi]
theorem guard_int (op : BinOp) (t : TypeId) (x y : Operand) (k k' : IntKind) (m n : Int) (w : World) : (eqGuard op t x y (.int k m) (.int k' n)).run P w = .ok () w := by
 cases op <;> simp [eqGuard]
theorem guard_string (op : BinOp) (t : TypeId) (x y : Operand) (m n : ByteArray) (w : World) : (eqGuard op t x y (.string m) (.string n)).run P w = .ok () w := by
 cases op <;> simp [eqGuard]
theorem yld_bin {op : BinOp} {u v r : Value} (hx : evl env x = some u) (hy : evl env y = some v) (hg : ∀ w, (eqGuard op T x y u v).run P w = .ok () w) (hr : ∀ w, (binOp op T u v).run P w = .ok r w) :
  Yld P N w0 env H ⟨d, .binOp op T x y T', ty, pos, after, g⟩ r := fun a w hs => by
 simp [execOp, hs.eval hx, hs.eval hy, hg, hr]
theorem Yld.addW {k : IntKind} {m n : Int} (hx : evl env x = some (.int k m)) (hy : evl env y = some (.int k n)) : Yld P N w0 env H ⟨d, .binOp .add T x y T', ty, pos, after, g⟩ (.int k (k.wrap (m + n))) :=
 yld_bin hx hy (guard_int _ _ _ _ _ _ _ _) fun w => by simp [binOp, Op.intArith]
theorem Yld.subW {k : IntKind} {m n : Int} (hx : evl env x = some (.int k m)) (hy : evl env y = some (.int k n)) : Yld P N w0 env H ⟨d, .binOp .sub T x y T', ty, pos, after, g⟩ (.int k (k.wrap (m - n))) :=
 yld_bin hx hy (guard_int _ _ _ _ _ _ _ _) fun w => by simp [binOp, Op.intArith]
theorem Yld.mulW {k : IntKind} {m n : Int} (hx : evl env x = some (.int k m)) (hy : evl env y = some (.int k n)) : Yld P N w0 env H ⟨d, .binOp .mul T x y T', ty, pos, after, g⟩ (.int k (k.wrap (m * n))) :=
 yld_bin hx hy (guard_int _ _ _ _ _ _ _ _) fun w => by simp [binOp, Op.intArith]
theorem Yld.add {m n : Int} (hx : evl env x = some (.int .i64 m)) (hy : evl env y = some (.int .i64 n)) (h : -9223372036854775808 <= m + n /\ m + n <= 9223372036854775807) :
  Yld P N w0 env H ⟨d, .binOp .add T x y T', ty, pos, after, g⟩ (.int .i64 (m + n)) := by
 have := Yld.addW (P := P) (N := N) (w0 := w0) (H := H) (d := d) (ty := ty) (T := T) (T' := T') (pos := pos) (after := after) (g := g) hx hy
 rwa [wrap_i64_in h.1 h.2] at this
theorem Yld.sub {m n : Int} (hx : evl env x = some (.int .i64 m)) (hy : evl env y = some (.int .i64 n)) (h : -9223372036854775808 <= m - n /\ m - n <= 9223372036854775807) :
  Yld P N w0 env H ⟨d, .binOp .sub T x y T', ty, pos, after, g⟩ (.int .i64 (m - n)) := by
 have := Yld.subW (P := P) (N := N) (w0 := w0) (H := H) (d := d) (ty := ty) (T := T) (T' := T') (pos := pos) (after := after) (g := g) hx hy
 rwa [wrap_i64_in h.1 h.2] at this
theorem Yld.mul {m n : Int} (hx : evl env x = some (.int .i64 m)) (hy : evl env y = some (.int .i64 n)) (h : -9223372036854775808 <= m * n /\ m * n <= 9223372036854775807) :
  Yld P N w0 env H ⟨d, .binOp .mul T x y T', ty, pos, after, g⟩ (.int .i64 (m * n)) := by
 have := Yld.mulW (P := P) (N := N) (w0 := w0) (H := H) (d := d) (ty := ty) (T := T) (T' := T') (pos := pos) (after := after) (g := g) hx hy
 rwa [wrap_i64_in h.1 h.2] at this
theorem Yld.quoW {k : IntKind} {m n : Int} (hx : evl env x = some (.int k m)) (hy : evl env y = some (.int k n)) (hn : n ≠ 0) : Yld P N w0 env H ⟨d, .binOp .quo T x y T', ty, pos, after, g⟩ (.int k (k.wrap (m.tdiv n))) :=
 yld_bin hx hy (guard_int _ _ _ _ _ _ _ _) fun w => by simp [binOp, Op.intDiv, hn]
theorem Yld.remT {k : IntKind} {m n : Int} (hx : evl env x = some (.int k m)) (hy : evl env y = some (.int k n)) (hn : n ≠ 0) : Yld P N w0 env H ⟨d, .binOp .rem T x y T', ty, pos, after, g⟩ (.int k (m.tmod n)) :=
 yld_bin hx hy (guard_int _ _ _ _ _ _ _ _) fun w => by simp [binOp, Op.intDiv, hn]
theorem Yld.eql {k : IntKind} {m n : Int} (hx : evl env x = some (.int k m)) (hy : evl env y = some (.int k n)) : Yld P N w0 env H ⟨d, .binOp .eql T x y T', ty, pos, after, g⟩ (.bool (m == n)) :=
 yld_bin hx hy (guard_int _ _ _ _ _ _ _ _) fun w => by simp [binOp, Op.intCmp]
theorem Yld.neq {k : IntKind} {m n : Int} (hx : evl env x = some (.int k m)) (hy : evl env y = some (.int k n)) : Yld P N w0 env H ⟨d, .binOp .neq T x y T', ty, pos, after, g⟩ (.bool (m != n)) :=
 yld_bin hx hy (guard_int _ _ _ _ _ _ _ _) fun w => by simp [binOp, Op.intCmp]
theorem Yld.lss {k : IntKind} {m n : Int} (hx : evl env x = some (.int k m)) (hy : evl env y = some (.int k n)) : Yld P N w0 env H ⟨d, .binOp .lss T x y T', ty, pos, after, g⟩ (.bool (decide (m < n))) :=
 yld_bin hx hy (guard_int _ _ _ _ _ _ _ _) fun w => by simp [binOp, Op.intCmp]
theorem Yld.leq {k : IntKind} {m n : Int} (hx : evl env x = some (.int k m)) (hy : evl env y = some (.int k n)) : Yld P N w0 env H ⟨d, .binOp .leq T x y T', ty, pos, after, g⟩ (.bool (decide (m <= n))) :=
 yld_bin hx hy (guard_int _ _ _ _ _ _ _ _) fun w => by simp [binOp, Op.intCmp]
theorem Yld.gtr {k : IntKind} {m n : Int} (hx : evl env x = some (.int k m)) (hy : evl env y = some (.int k n)) : Yld P N w0 env H ⟨d, .binOp .gtr T x y T', ty, pos, after, g⟩ (.bool (decide (n < m))) :=
 yld_bin hx hy (guard_int _ _ _ _ _ _ _ _) fun w => by simp [binOp, Op.intCmp]
theorem Yld.geq {k : IntKind} {m n : Int} (hx : evl env x = some (.int k m)) (hy : evl env y = some (.int k n)) : Yld P N w0 env H ⟨d, .binOp .geq T x y T', ty, pos, after, g⟩ (.bool (decide (n <= m))) :=
 yld_bin hx hy (guard_int _ _ _ _ _ _ _ _) fun w => by simp [binOp, Op.intCmp]
theorem Yld.notB {m : Bool} (hx : evl env x = some (.bool m)) : Yld P N w0 env H ⟨d, .unOp .not T x, ty, pos, after, g⟩ (.bool (!m)) := fun a w hs => by
 simp [execOp, hs.eval hx, Op.unary]
theorem Yld.eqlS {m n : ByteArray} (hx : evl env x = some (.string m)) (hy : evl env y = some (.string n)) : Yld P N w0 env H ⟨d, .binOp .eql T x y T', ty, pos, after, g⟩ (.bool (m.toList == n.toList)) :=
 yld_bin hx hy (guard_string _ _ _ _ _ _) fun w => by simp [binOp, Op.stringOp]
theorem ofInt_toNat {n : Nat} (b : BitVec n) : BitVec.ofInt n (b.toNat : Int) = b := by
 rw [BitVec.ofInt_natCast]; simp
theorem wrap_bv_u8 (b : BitVec 8) : IntKind.u8.wrap (b.toNat : Int) = b.toNat := by rw [wrap_u8]; have := b.isLt; omega
theorem wrap_bv_u32 (b : BitVec 32) : IntKind.u32.wrap (b.toNat : Int) = b.toNat := by rw [wrap_u32]; have := b.isLt; omega
theorem wrap_bv_u64 (b : BitVec 64) : IntKind.u64.wrap (b.toNat : Int) = b.toNat := by rw [wrap_u64]; have := b.isLt; omega
theorem shr_bv {n : Nat} (a : BitVec n) (m : Nat) : ((a.toNat : Int)).fdiv (2 ^ min m n) = ((a >>> m).toNat : Int) := by
 have e : ((2 : Int) ^ min m n) = ((2 ^ min m n : Nat) : Int) := by simp
 rw [e, Int.fdiv_eq_ediv_of_nonneg _ (Int.natCast_nonneg _), <- Int.natCast_ediv, BitVec.toNat_ushiftRight, Nat.shiftRight_eq_div_pow]
 by_cases h : m <= n
 ·rw [Nat.min_eq_left h]
 ·have h1 : a.toNat / 2 ^ n = 0 := Nat.div_eq_of_lt a.isLt
  have h2 : a.toNat / 2 ^ m = 0 := Nat.div_eq_of_lt (Nat.lt_of_lt_of_le a.isLt (Nat.pow_le_pow_right (by omega) (by omega)))
  rw [Nat.min_eq_right (by omega), h1, h2]
theorem shl_bv {n : Nat} (a : BitVec n) (m : Nat) : ((a.toNat : Int) * 2 ^ min m n) % (2 ^ n : Int) = ((a <<< m).toNat : Int) := by
 have e : ((a.toNat : Int) * 2 ^ min m n) % (2 ^ n : Int) = ((a.toNat * 2 ^ min m n % 2 ^ n : Nat) : Int) := by push_cast; rfl
 rw [e, BitVec.toNat_shiftLeft, Nat.shiftLeft_eq]
 by_cases h : m <= n
 ·rw [Nat.min_eq_left h]
 ·rw [Nat.min_eq_right (by omega), Nat.mul_mod_left]
  have : 2 ^ m = 2 ^ (m - n) * 2 ^ n := by rw [<- Nat.pow_add]; congr 1; omega
  rw [this, <- Nat.mul_assoc, Nat.mul_mod_left]
theorem Yld.and_u8 {a b : BitVec 8} (hx : evl env x = some (U8 a)) (hy : evl env y = some (U8 b)) : Yld P N w0 env H ⟨d, .binOp .and T x y T', ty, pos, after, g⟩ (U8 (a &&& b)) :=
 yld_bin hx hy (guard_int _ _ _ _ _ _ _ _) fun w => by
  have h : ∀ z : BitVec 8, IntKind.u8.wrap (z.toNat : Int) = z.toNat := wrap_bv_u8
  have ha : BitVec.ofInt (IntKind.u8.bits) (a.toNat : Int) = a := ofInt_toNat a
  have hb : BitVec.ofInt (IntKind.u8.bits) (b.toNat : Int) = b := ofInt_toNat b
  simp only [binOp, ne_eq, not_true_eq_false, if_false, Op.intBits, ha, hb]
  show Result.ok (Value.int .u8 (IntKind.u8.wrap ((a &&& b : BitVec 8).toNat : Int))) w = _
  rw [h]
theorem Yld.and_u32 {a b : BitVec 32} (hx : evl env x = some (U32 a)) (hy : evl env y = some (U32 b)) : Yld P N w0 env H ⟨d, .binOp .and T x y T', ty, pos, after, g⟩ (U32 (a &&& b)) :=
 yld_bin hx hy (guard_int _ _ _ _ _ _ _ _) fun w => by
  have h : ∀ z : BitVec 32, IntKind.u32.wrap (z.toNat : Int) = z.toNat := wrap_bv_u32
  have ha : BitVec.ofInt (IntKind.u32.bits) (a.toNat : Int) = a := ofInt_toNat a
  have hb : BitVec.ofInt (IntKind.u32.bits) (b.toNat : Int) = b := ofInt_toNat b
  simp only [binOp, ne_eq, not_true_eq_false, if_false, Op.intBits, ha, hb]
  show Result.ok (Value.int .u32 (IntKind.u32.wrap ((a &&& b : BitVec 32).toNat : Int))) w = _
  rw [h]
theorem Yld.or_u32 {a b : BitVec 32} (hx : evl env x = some (U32 a)) (hy : evl env y = some (U32 b)) : Yld P N w0 env H ⟨d, .binOp .or T x y T', ty, pos, after, g⟩ (U32 (a ||| b)) :=
 yld_bin hx hy (guard_int _ _ _ _ _ _ _ _) fun w => by
  have h : ∀ z : BitVec 32, IntKind.u32.wrap (z.toNat : Int) = z.toNat := wrap_bv_u32
  have ha : BitVec.ofInt (IntKind.u32.bits) (a.toNat : Int) = a := ofInt_toNat a
  have hb : BitVec.ofInt (IntKind.u32.bits) (b.toNat : Int) = b := ofInt_toNat b
  simp only [binOp, ne_eq, not_true_eq_false, if_false, Op.intBits, ha, hb]
  show Result.ok (Value.int .u32 (IntKind.u32.wrap ((a ||| b : BitVec 32).toNat : Int))) w = _
  rw [h]
theorem Yld.shr_u32 {a : BitVec 32} {yk : IntKind} {m : Int} (hx : evl env x = some (U32 a)) (hy : evl env y = some (.int yk m)) (hm : 0 <= m) : Yld P N w0 env H ⟨d, .binOp .shr T x y T', ty, pos, after, g⟩ (U32 (a >>> m.toNat)) :=
 yld_bin hx hy (guard_int _ _ _ _ _ _ _ _) fun w => by
  simp only [binOp, Op.shift, if_neg (Int.not_lt.2 hm)]
  show Result.ok (Value.int .u32 (((a.toNat : Int)).fdiv (2 ^ min m.toNat 32))) w = _
  rw [shr_bv a m.toNat]
theorem Yld.shl_u32 {a : BitVec 32} {yk : IntKind} {m : Int} (hx : evl env x = some (U32 a)) (hy : evl env y = some (.int yk m)) (hm : 0 <= m) : Yld P N w0 env H ⟨d, .binOp .shl T x y T', ty, pos, after, g⟩ (U32 (a <<< m.toNat)) :=
 yld_bin hx hy (guard_int _ _ _ _ _ _ _ _) fun w => by
  simp only [binOp, Op.shift, if_neg (Int.not_lt.2 hm)]
  show Result.ok (Value.int .u32 (IntKind.u32.wrap ((a.toNat : Int) * 2 ^ min m.toNat 32))) w = _
  have h := shl_bv a m.toNat
  rw [wrap_u32]
  simp only [Int.reducePow] at h
  rw [h]
theorem Yld.eql_u32 {a b : BitVec 32} (hx : evl env x = some (U32 a)) (hy : evl env y = some (U32 b)) : Yld P N w0 env H ⟨d, .binOp .eql T x y T', ty, pos, after, g⟩ (.bool (a == b)) := by
 have h := Yld.eql (P := P) (N := N) (w0 := w0) (H := H) (d := d) (ty := ty) (T := T) (T' := T') (pos := pos) (after := after) (g := g) hx hy
 have e : ((a.toNat : Int) == (b.toNat : Int)) = (a == b) := by
  rw [Bool.eq_iff_iff, beq_iff_eq, beq_iff_eq, <- BitVec.toNat_inj]; omega
 rwa [e] at h
theorem Yld.xor_u64 {a b : BitVec 64} (hx : evl env x = some (U64 a)) (hy : evl env y = some (U64 b)) : Yld P N w0 env H ⟨d, .binOp .xor T x y T', ty, pos, after, g⟩ (U64 (a ^^^ b)) :=
 yld_bin hx hy (guard_int _ _ _ _ _ _ _ _) fun w => by
  have h : ∀ z : BitVec 64, IntKind.u64.wrap (z.toNat : Int) = z.toNat := wrap_bv_u64
  have ha : BitVec.ofInt (IntKind.u64.bits) (a.toNat : Int) = a := ofInt_toNat a
  have hb : BitVec.ofInt (IntKind.u64.bits) (b.toNat : Int) = b := ofInt_toNat b
  simp only [binOp, ne_eq, not_true_eq_false, if_false, Op.intBits, ha, hb]
  show Result.ok (Value.int .u64 (IntKind.u64.wrap ((a ^^^ b : BitVec 64).toNat : Int))) w = _
  rw [h]
theorem Yld.and_u64 {a b : BitVec 64} (hx : evl env x = some (U64 a)) (hy : evl env y = some (U64 b)) : Yld P N w0 env H ⟨d, .binOp .and T x y T', ty, pos, after, g⟩ (U64 (a &&& b)) :=
 yld_bin hx hy (guard_int _ _ _ _ _ _ _ _) fun w => by
  have h : ∀ z : BitVec 64, IntKind.u64.wrap (z.toNat : Int) = z.toNat := wrap_bv_u64
  have ha : BitVec.ofInt (IntKind.u64.bits) (a.toNat : Int) = a := ofInt_toNat a
  have hb : BitVec.ofInt (IntKind.u64.bits) (b.toNat : Int) = b := ofInt_toNat b
  simp only [binOp, ne_eq, not_true_eq_false, if_false, Op.intBits, ha, hb]
  show Result.ok (Value.int .u64 (IntKind.u64.wrap ((a &&& b : BitVec 64).toNat : Int))) w = _
  rw [h]
theorem Yld.shr_u64 {a : BitVec 64} {yk : IntKind} {m : Int} (hx : evl env x = some (U64 a)) (hy : evl env y = some (.int yk m)) (hm : 0 <= m) : Yld P N w0 env H ⟨d, .binOp .shr T x y T', ty, pos, after, g⟩ (U64 (a >>> m.toNat)) :=
 yld_bin hx hy (guard_int _ _ _ _ _ _ _ _) fun w => by
  simp only [binOp, Op.shift, if_neg (Int.not_lt.2 hm)]
  show Result.ok (Value.int .u64 (((a.toNat : Int)).fdiv (2 ^ min m.toNat 64))) w = _
  rw [shr_bv a m.toNat]
theorem Yld.shl_u64 {a : BitVec 64} {yk : IntKind} {m : Int} (hx : evl env x = some (U64 a)) (hy : evl env y = some (.int yk m)) (hm : 0 <= m) : Yld P N w0 env H ⟨d, .binOp .shl T x y T', ty, pos, after, g⟩ (U64 (a <<< m.toNat)) :=
 yld_bin hx hy (guard_int _ _ _ _ _ _ _ _) fun w => by
  simp only [binOp, Op.shift, if_neg (Int.not_lt.2 hm)]
  show Result.ok (Value.int .u64 (IntKind.u64.wrap ((a.toNat : Int) * 2 ^ min m.toNat 64))) w = _
  have h := shl_bv a m.toNat
  rw [wrap_u64]
  simp only [Int.reducePow] at h
  rw [h]
theorem Yld.eql_u64 {a b : BitVec 64} (hx : evl env x = some (U64 a)) (hy : evl env y = some (U64 b)) : Yld P N w0 env H ⟨d, .binOp .eql T x y T', ty, pos, after, g⟩ (.bool (a == b)) := by
 have h := Yld.eql (P := P) (N := N) (w0 := w0) (H := H) (d := d) (ty := ty) (T := T) (T' := T') (pos := pos) (after := after) (g := g) hx hy
 have e : ((a.toNat : Int) == (b.toNat : Int)) = (a == b) := by
  rw [Bool.eq_iff_iff, beq_iff_eq, beq_iff_eq, <- BitVec.toNat_inj]; omega
 rwa [e] at h
theorem Yld.neq_u64 {a b : BitVec 64} (hx : evl env x = some (U64 a)) (hy : evl env y = some (U64 b)) : Yld P N w0 env H ⟨d, .binOp .neq T x y T', ty, pos, after, g⟩ (.bool (a != b)) := by
 have h := Yld.neq (P := P) (N := N) (w0 := w0) (H := H) (d := d) (ty := ty) (T := T) (T' := T') (pos := pos) (after := after) (g := g) hx hy
 have e : ((a.toNat : Int) != (b.toNat : Int)) = (a != b) := by
  rw [Bool.eq_iff_iff, bne_iff_ne, bne_iff_ne, ne_eq, ne_eq, <- BitVec.toNat_inj]; omega
 rwa [e] at h
theorem yld_conv {k : IntKind} {n : Int} {sk : IntKind} {m : Int} (hs : (P.underlying T).isSome = true) (hd : P.underlying T' = some (.int k)) (hx : evl env x = some (.int sk n)) (hm : k.wrap n = m) :
  Yld P N w0 env H ⟨d, .convert T T' x, ty, pos, after, g⟩ (.int k m) := fun a w hst => by
 have hk : P.intKind T' = k := by simp [Program.intKind, hd]
 have hr := run_convert_int w T T' sk n hs (by rw [hk]; exact hd)
 rw [hk, hm] at hr
 simp [execOp, hst.eval hx, hr]
theorem Yld.conv_u8_i64 {a : BitVec 8} (hs : (P.underlying T).isSome = true) (hd : P.underlying T' = some (.int .i64)) (hx : evl env x = some (U8 a)) :
  Yld P N w0 env H ⟨d, .convert T T' x, ty, pos, after, g⟩ (.int .i64 (a.toNat : Int)) :=
 yld_conv hs hd hx (by have := a.isLt; exact wrap_i64_in (by omega) (by simp only [Nat.reducePow] at this; omega))
theorem Yld.conv_u64_u8 {a : BitVec 64} (hs : (P.underlying T).isSome = true) (hd : P.underlying T' = some (.int .u8)) (hx : evl env x = some (U64 a)) :
  Yld P N w0 env H ⟨d, .convert T T' x, ty, pos, after, g⟩ (U8 (a.setWidth 8)) :=
 yld_conv hs hd hx (by rw [wrap_u8, BitVec.toNat_setWidth]; have := a.isLt; simp only [Nat.reducePow]; omega)
theorem Yld.conv_i64_u64 {n : Int} (hs : (P.underlying T).isSome = true) (hd : P.underlying T' = some (.int .u64)) (hx : evl env x = some (.int .i64 n)) :
  Yld P N w0 env H ⟨d, .convert T T' x, ty, pos, after, g⟩ (U64 (BitVec.ofInt 64 n)) :=
 yld_conv hs hd hx (by rw [wrap_u64, BitVec.toNat_ofInt]; simp only [Nat.reducePow]; omega)
theorem Yld.conv_u64_i64 {a : BitVec 64} (hs : (P.underlying T).isSome = true) (hd : P.underlying T' = some (.int .i64)) (hx : evl env x = some (U64 a)) :
  Yld P N w0 env H ⟨d, .convert T T' x, ty, pos, after, g⟩ (.int .i64 a.toInt) :=
 yld_conv hs hd hx (by
  rw [wrap_i64, BitVec.toInt_eq_toNat_cond]; have := a.isLt
  simp only [Nat.reducePow] at *
  split <;> split <;> omega)
theorem Yld.shr_i64 {a : Int} {yk : IntKind} {m : Int} (hx : evl env x = some (.int .i64 a)) (hy : evl env y = some (.int yk m)) (hm : 0 <= m) (h : m <= 64) :
  Yld P N w0 env H ⟨d, .binOp .shr T x y T', ty, pos, after, g⟩ (.int .i64 (a / 2 ^ m.toNat)) :=
 yld_bin hx hy (guard_int _ _ _ _ _ _ _ _) fun w => by
  simp only [binOp, Op.shift, if_neg (Int.not_lt.2 hm)]
  show Result.ok (Value.int .i64 (a.fdiv (2 ^ min m.toNat 64))) w = _
  rw [Nat.min_eq_left (by omega), Int.fdiv_eq_ediv_of_nonneg _ (Int.le_of_lt (Int.pow_pos (by omega)))]
end
end Go.Proofs.Ytkcccenekglkoaa
namespace Go.Proofs.Ytkcccenekglkoaa
open Go Go.RowKit
set_option linter.unusedVariables false
theorem add_block (a : Addr) (n : Nat) : (a.add n).block = a.block := by unfold Addr.add; split <;> rfl
theorem add_zero_ (a : Addr) : a.add 0 = a := by simp [Addr.add]
theorem add_add_ (a : Addr) (i j : Nat) : (a.add i).add j = a.add (i + j) := by
 unfold Addr.add
 by_cases hi : i = 0 <;> by_cases hj : j = 0 <;> simp [hi, hj, Nat.add_assoc]
theorem add_lit_ (g o n : Nat) : (⟨g, o, none⟩ : Addr).add n = ⟨g, o + n, none⟩ := by
 unfold Addr.add; split <;> simp_all
def adr (A : Option Addr) : Addr := A.getD ⟨0, 0, none⟩
def subA (A : Option Addr) (c l sz : Nat) : Option Addr := if c = l then A else A.map (·.add (l * sz))
theorem subA_zero (A : Option Addr) (c sz : Nat) : subA A c 0 sz = A := by
 unfold subA; split
 ·rfl
 ·cases A <;> simp [add_zero_]
structure SlRc (cell : Addr -> Option Value) (sz : Nat) (A : Option Addr) (n c : Nat) (cs : List Value) : Prop where
 len : cs.length = n * sz
 le : n <= c
 cm : c <= maxLen
 cells : ∀ j u, cs[j]? = some u -> A.isSome = true /\ cell ((adr A).add j) = some u
abbrev SlR (w : World) := SlRc w.cell?
abbrev SlM (M : Mem) := SlRc M.cell?
def RdH (w0 : World) (H : Heap) (sz : Nat) (A : Option Addr) (n c : Nat) (cs : List Value) : Prop :=
 ∀ w, Below w0.heap.size w0 w -> HS w0.heap.size w H -> SlR w sz A n c cs
theorem SlRc.nil (cell : Addr -> Option Value) (sz : Nat) : SlRc cell sz none 0 0 [] := ⟨by simp, Nat.le_refl _, Nat.zero_le _, fun j u h => by simp at h⟩
theorem SlRc.none0 (cell : Addr -> Option Value) (sz : Nat) (A : Option Addr) : SlRc cell sz A 0 0 [] := ⟨by simp, Nat.le_refl _, Nat.zero_le _, fun j u h => by simp at h⟩
theorem SlRc.mono {cell cell' : Addr -> Option Value} {sz : Nat} {A : Option Addr} {n c : Nat} {cs : List Value} (h : SlRc cell sz A n c cs) (hc : ∀ a v, cell a = some v -> cell' a = some v) : SlRc cell' sz A n c cs :=
 ⟨h.len, h.le, h.cm, fun j u hj => by
  obtain ⟨h1, h2⟩ := h.cells j u hj
  exact ⟨h1, hc _ _ h2⟩⟩
theorem SlM.holds {M : Mem} {w : World} {sz : Nat} {A : Option Addr} {n c : Nat} {cs : List Value} (h : SlM M sz A n c cs) (hw : Holds M w) : SlR w sz A n c cs := h.mono fun _ _ e => hw.cell e
theorem SlRc.lift {B : Nat} {M M' : Mem} {sz : Nat} {A : Option Addr} {n c : Nat} {cs : List Value} (h : SlM M sz A n c cs) (hx : Ext B M M') : SlM M' sz A n c cs := h.mono fun _ _ e => hx.cell e
theorem SlRc.cut {cell : Addr -> Option Value} {sz : Nat} {A : Option Addr} {n c : Nat} {cs : List Value} (h : SlRc cell sz A n c cs) {lo hi : Nat} (h1 : lo <= hi) (h2 : hi <= n) :
  SlRc cell sz (subA A c lo sz) (hi - lo) (c - lo) ((cs.drop (lo * sz)).take ((hi - lo) * sz)) := by
 have hl := h.len
 have hle := h.le
 refine ⟨?_, by omega, Nat.le_trans (Nat.sub_le _ _) h.cm, fun j u hj => ?_⟩
 ·rw [List.length_take, List.length_drop, hl, <- Nat.sub_mul]
  exact Nat.min_eq_left (Nat.mul_le_mul_right _ (by omega))
 ·rw [List.getElem?_take] at hj
  split at hj
  ·rename_i hjl
   rw [List.getElem?_drop] at hj
   obtain ⟨hs, hc⟩ := h.cells _ _ hj
   obtain ⟨ad, rfl⟩ := Option.isSome_iff_exists.1 hs
   have hne : c ≠ lo := by
    rintro rfl
    have : (hi - c) * sz = 0 := by rw [show hi - c = 0 by omega]; simp
    omega
   refine ⟨by simp [subA, hne], ?_⟩
   simp only [subA, if_neg hne, adr, Option.map_some, Option.getD_some] at hc ⊢
   rw [add_add_]; exact hc
  ·cases hj
section
variable {P : Program} {N : Nat} {w0 : World} {env : Env} {H : Heap}
variable {sz : Nat} {A : Option Addr} {n c : Nat} {cs : List Value}
theorem RdH.memM {k : Nat} {M : Mem} (hk : look H k = some (.mem M)) (h : SlM M sz A n c cs) : RdH w0 H sz A n c cs := fun _ _ hh => h.holds (hh.sat k _ hk)
theorem RdH.nil : RdH w0 H sz none 0 0 [] := fun w _ _ => SlRc.nil _ sz
theorem own_SlR {w : World} {B E : Nat} {xs : List Value} (h : w.ownsRow B E sz (.slice A n c) n xs ∨ (n = 0 /\ c = 0 /\ xs = [])) : SlR w sz A n c xs := by
 rcases h with h | ⟨rfl, rfl, rfl⟩
 ·refine ⟨h.1, ?_, ?_, fun j u hj => ?_⟩
  ·rcases h.2 with ⟨h1, h2⟩ | ⟨g, cap, cur, hv, _, _, hnc, _⟩
   ·omega
   ·injection hv with _ _ hc; subst hc; exact hnc
  ·rcases h.2 with ⟨h1, h2⟩ | ⟨g, cap, cur, hv, _, _, _, hcm, _⟩
   ·injection h1 with _ _ hc; subst hc; exact Nat.zero_le _
   ·injection hv with _ _ hc; subst hc; exact hcm
  ·cases A with
   | none =>
    rcases h.2 with ⟨h1, h2⟩ | ⟨g, cap, cur, hv, _⟩
    ·have := h.1; subst h2; simp at this; subst this; simp at hj
    ·injection hv with hA; cases hA
   | some ad =>
    rcases h.2 with ⟨h1, h2⟩ | ⟨g, cap, cur, hv, _⟩
    ·injection h1 with hA; cases hA
    ·injection hv with hA _ _; injection hA with hA; subst hA
     exact ⟨rfl, h.cells (g := g) rfl j u hj⟩
 ·exact SlRc.none0 _ _ _
theorem RdH.own {k : Nat} {E : TypeId} {xs : List Value} (hk : look H k = some (.own E sz A n c xs)) : RdH w0 H sz A n c xs :=
 fun w _ hh => own_SlR (hh.sat k _ hk)
theorem SlRc.len1 {cell : Addr -> Option Value} {α : Type} {f : α -> Value} {xs : List α} (h : SlRc cell 1 A n c (xs.map f)) : xs.length = n := by
 have := h.len; simpa using this
structure STy (P : Program) (T E : TypeId) (z : Value) (sz bytes : Nat) : Prop where
 under : P.underlying T = some (.slice E)
 info : ∃ i, P.info? E = some i /\ i.zero = some z /\ i.size = sz /\ i.bytes = bytes
 zs : z.cells.size = sz
theorem STy.of {T E : TypeId} {z : Value} {sz bytes : Nat} (h1 : P.underlying T = some (.slice E)) (h2 : (P.info? E).map (fun i => (i.zero, i.size, i.bytes)) = some (some z, sz, bytes)) (h3 : z.cells.size = sz) : STy P T E z sz bytes := by
 refine ⟨h1, ?_, h3⟩
 cases hi : P.info? E with
 | none => simp [hi] at h2
 | some i => simp [hi] at h2; exact ⟨i, rfl, h2.1, h2.2.1, h2.2.2⟩
def scal (P : Program) (t : TypeId) : Bool :=
 match P.underlying t with
 | some (.struct _) => false
 | some (.array _ _) => false
 | some _ => true
 | none => false
theorem isAgg_scal {t : TypeId} (h : scal P t = true) (w : World) : (isAgg t).run P w = .ok false w := by
 unfold scal at h
 cases hu : P.underlying t with
 | none => simp [hu] at h
 | some d => cases d <;> simp [hu] at h <;> simp [isAgg, run_underlying hu]
structure Agg (P : Program) (t : TypeId) (size : Nat) : Prop where
 agg : ∃ d, P.underlying t = some d /\ (match d with | .struct _ | .array _ _ => true | _ => false) = true
 size : (P.info? t).map (·.size) = some size
theorem isAgg_agg {t : TypeId} {s : Nat} (h : Agg P t s) (w : World) : (isAgg t).run P w = .ok true w := by
 obtain ⟨d, hu, hd⟩ := h.agg
 cases d <;> simp at hd <;> simp [isAgg, run_underlying hu]
theorem sizeOf_of {t : TypeId} {s : Nat} (h : (P.info? t).map (·.size) = some s) (w : World) : (sizeOf t).run P w = .ok s w := by
 cases hi : P.info? t with
 | none => simp [hi] at h
 | some i => simp [hi] at h; simp [sizeOf, typeInfo, hi, h]
theorem STy.size {T E : TypeId} {z : Value} {sz bytes : Nat} (h : STy P T E z sz bytes) : (P.info? E).map (·.size) = some sz := by
 obtain ⟨i, hi, _, hs, _⟩ := h.info
 simp [hi, hs]
variable {d : Option Tmp} {ty T T' E : TypeId} {pos : String} {after : Array Edge} {g : Option (Nat × Bool)} {x y : Operand} {z : Value} {bytes : Nat}
theorem Yld.len (hT : P.underlying T = some (.slice E)) (hx : evl env x = some (.slice A n c)) : Yld P N w0 env H ⟨d, .call ⟨.builtin .len, #[x], #[T]⟩, ty, pos, after, g⟩ (.int .i64 (n : Int)) := fun a w hs => by
 simp [execOp, resolve, invoke, builtin, hs.eval hx, Builtin.len_, run_underlying hT, goInt]
theorem Yld.idxAddr {k : IntKind} {m : Int} (hT : STy P T E z sz bytes) (hx : evl env x = some (.slice A n c)) (hy : evl env y = some (.int k m)) (hr : RdH w0 H sz A n c cs) (hsz : 0 < sz) (hm : 0 <= m /\ m < n) :
  Yld P N w0 env H ⟨d, .indexAddr T x y, ty, pos, after, g⟩ (.pointer (some ((adr A).add (m.toNat * sz)))) := fun a w hs => by
 have h := hr w hs.below hs.heap
 have hlt : 0 < cs.length := by rw [h.len]; exact Nat.mul_pos (by omega) hsz
 obtain ⟨hA, _⟩ := h.cells 0 cs[0] (List.getElem?_eq_getElem hlt)
 obtain ⟨ad, rfl⟩ := Option.isSome_iff_exists.1 hA
 simp [execOp, hs.eval hx, hs.eval hy, Instr.indexAt, asIntOf, run_underlying hT.under, hm, sizeOf_of hT.size, adr]
theorem Yld.loadR {j : Nat} {u : Value} (hsc : scal P T = true) (hx : evl env x = some (.pointer (some ((adr A).add j)))) (hr : RdH w0 H sz A n c cs) (hj : cs[j]? = some u) :
  Yld P N w0 env H ⟨d, .load T x, ty, pos, after, g⟩ u := fun a w hs => by
 have h := ((hr w hs.below hs.heap).cells j u hj).2
 simp [execOp, hs.eval hx, Instr.loadAt, Instr.sureAddr, loadVar, isAgg_scal hsc, h]
theorem Yld.loadRA {j s : Nat} {us : List Value} (ha : Agg P T s) (hx : evl env x = some (.pointer (some ((adr A).add j)))) (hr : RdH w0 H sz A n c cs) (hl : us.length = s) (hj : ∀ i u, us[i]? = some u -> cs[j + i]? = some u) :
  Yld P N w0 env H ⟨d, .load T x, ty, pos, after, g⟩ (.agg us.toArray) := fun a w hs => by
 have h := run_loadCells_list (P := P) w ((adr A).add j) us (fun i u hu => by rw [add_add_]; exact ((hr w hs.below hs.heap).cells _ u (hj i u hu)).2)
 rw [hl] at h
 simp [execOp, hs.eval hx, Instr.loadAt, Instr.sureAddr, loadVar, isAgg_agg ha, sizeOf_of ha.size, h]
theorem Yld.loadB {k gb j : Nat} {t : TypeId} {u : Value} (hsc : scal P T = true) (hx : evl env x = some (.pointer (some ⟨gb, j, none⟩))) (hk : look H k = some (.blk gb t cs)) (hj : cs[j]? = some u) :
  Yld P N w0 env H ⟨d, .load T x, ty, pos, after, g⟩ u := fun a w hs => by
 obtain ⟨_, h2⟩ : w0.heap.size <= gb /\ w.heap[gb]? = some (.cells cs.toArray t (0, 0)) := hs.heap.sat k _ hk
 have h : w.cell? ⟨gb, j, none⟩ = some u := by rw [cell_of_row w gb j _ _ _ h2]; simpa using hj
 simp [execOp, hs.eval hx, Instr.loadAt, Instr.sureAddr, loadVar, isAgg_scal hsc, h]
theorem Yld.loadBA {k gb : Nat} {t : TypeId} (ha : Agg P T cs.length) (hx : evl env x = some (.pointer (some ⟨gb, 0, none⟩))) (hk : look H k = some (.blk gb t cs)) :
  Yld P N w0 env H ⟨d, .load T x, ty, pos, after, g⟩ (.agg cs.toArray) := fun a w hs => by
 obtain ⟨_, h2⟩ : w0.heap.size <= gb /\ w.heap[gb]? = some (.cells cs.toArray t (0, 0)) := hs.heap.sat k _ hk
 obtain ⟨dd, hu, hd⟩ := ha.agg
 have h := run_loadVar_row (P := P) w gb t T cs.toArray (0, 0) dd h2 hu (by cases dd <;> first | rfl | simp at hd) (by simpa using ha.size)
 simp [execOp, hs.eval hx, Instr.loadAt, Instr.sureAddr, h]
theorem Yld.fieldAddr {gb o f off : Nat} {fs : Array Field} {fd : Field} (hT : P.underlying T = some (.struct fs)) (hf : fs[f]? = some fd) (hsz : (P.info? fd.type).map (fun i => decide (i.size = 0)) = some false) (hoff : fd.offset = off)
  (hx : evl env x = some (.pointer (some ⟨gb, o, none⟩))) : Yld P N w0 env H ⟨d, .fieldAddr T x f, ty, pos, after, g⟩ (.pointer (some ⟨gb, o + off, none⟩)) := fun a w hs => by
 subst hoff
 cases hi : P.info? fd.type with
 | none => simp [hi] at hsz
 | some i =>
  simp [hi] at hsz
  simp [execOp, hs.eval hx, Instr.fieldAt, run_underlying hT, hf, Instr.sureAddr, fieldPlace, sizeOf, typeInfo, hi, hsz, add_lit_]
theorem P_elem {T E : TypeId} (h : P.underlying T = some (.slice E)) : P.elem T = E := by simp [Program.elem, h]
theorem Yld.sliceH {h : Int} {kh : IntKind} {hi : Operand} (hT : STy P T E z sz bytes) (hx : evl env x = some (.slice A n c)) (hh : evl env hi = some (.int kh h)) (hb : 0 <= h /\ h <= c) :
  Yld P N w0 env H ⟨d, .slice T x none (some hi) none, ty, pos, after, g⟩ (.slice A h.toNat c) := fun a w hs => by
 have ht : P.underlying T = some (.slice (P.elem T)) := by rw [P_elem hT.under]; exact hT.under
 have hr := run_slice_h (P := P) w T A n c ht kh h hb.1 hb.2
 rw [P_elem hT.under, sizeOf_of hT.size] at hr
 simp only [Result.andThen_ok, sliced] at hr
 have e : (Instr.sliceAt T (.slice A n c) none (some (.int kh h)) none).run P w = _ := (run_sliceAt_slice w T _ _ _ _ ht).trans hr
 have hz := subA_zero A c sz
 simp only [subA] at hz
 simp [execOp, hs.eval hx, hs.eval hh, e]
 simpa using hz
theorem Yld.sliceL {l : Int} {kl : IntKind} {lo : Operand} (hT : STy P T E z sz bytes) (hx : evl env x = some (.slice A n c)) (hl : evl env lo = some (.int kl l)) (hb : 0 <= l /\ l <= n) :
  Yld P N w0 env H ⟨d, .slice T x (some lo) none none, ty, pos, after, g⟩ (.slice (subA A c l.toNat sz) (n - l.toNat) (c - l.toNat)) := fun a w hs => by
 have ht : P.underlying T = some (.slice (P.elem T)) := by rw [P_elem hT.under]; exact hT.under
 have hr := run_slice_l (P := P) w T A n c ht kl l hb.1 hb.2
 rw [P_elem hT.under, sizeOf_of hT.size] at hr
 simp only [Result.andThen_ok, sliced] at hr
 have e : (Instr.sliceAt T (.slice A n c) (some (.int kl l)) none none).run P w = _ := (run_sliceAt_slice w T _ _ _ _ ht).trans hr
 simp [execOp, hs.eval hx, hs.eval hl, e, subA]
def bstr (xs : List (BitVec 8)) : ByteArray := ⟨(xs.map UInt8.ofBitVec).toArray⟩
theorem toList_bstr (xs : List (BitVec 8)) : (bstr xs).toList = xs.map UInt8.ofBitVec := by
 rw [ByteArray.toList_eq]; simp [bstr]
theorem map_ofBitVec_inj : ∀ {a b : List (BitVec 8)}, a.map UInt8.ofBitVec = b.map UInt8.ofBitVec -> a = b
 | [], [], _ => rfl
 | [], _ :: _, h => by simp at h
 | _ :: _, [], h => by simp at h
 | x :: a, y :: b, h => by
  simp only [List.map_cons, List.cons.injEq] at h
  rw [map_ofBitVec_inj h.2, show x = y from by have := congrArg UInt8.toBitVec h.1; simpa using this]
theorem beq_bstr (a b : List (BitVec 8)) : ((bstr a).toList == (bstr b).toList) = (a == b) := by
 rw [toList_bstr, toList_bstr, Bool.eq_iff_iff, beq_iff_eq, beq_iff_eq]
 exact ⟨map_ofBitVec_inj, fun h => by rw [h]⟩
theorem fold_push (xs : List (BitVec 8)) : ∀ (acc : List UInt8), (xs.map fun b => (b.toNat : Int)).foldl (fun r n => r.push (UInt8.ofNat n.toNat)) (ByteArray.mk acc.toArray) = ⟨(acc ++ xs.map UInt8.ofBitVec).toArray⟩ := by
 induction xs with
 | nil => intro acc; simp
 | cons x xs ih =>
  intro acc
  have e : (ByteArray.mk acc.toArray).push (UInt8.ofNat ((x.toNat : Int)).toNat) = ByteArray.mk (acc ++ [UInt8.ofBitVec x]).toArray := by
   have h : UInt8.ofNat ((x.toNat : Int)).toNat = UInt8.ofBitVec x := by
    apply UInt8.toNat_inj.1
    simp
   rw [h]
   simp [ByteArray.push]
  rw [List.map_cons, List.foldl_cons, e, ih]
  simp
theorem Yld.b2s {xs : List (BitVec 8)} (hs1 : P.underlying T = some (.slice E)) (hE : P.underlying E = some (.int .u8)) (hd : P.underlying T' = some .string) (hx : evl env x = some (.slice A n c)) (hr : RdH w0 H 1 A n c (xs.map U8)) :
  Yld P N w0 env H ⟨d, .convert T T' x, ty, pos, after, g⟩ (.string (bstr xs)) := fun a w hs => by
 have h := hr w hs.below hs.heap
 have e1 := run_convert_bytes_string (P := P) w T T' E A n c hs1 hE hd
 have e2 : (Conv.bytesToString (.slice A n c)).run P w = .ok (.string (bstr xs)) w := by
  have hl := h.len1
  cases A with
  | none =>
   cases xs with
   | nil => rfl
   | cons b xs =>
    obtain ⟨hA, _⟩ := h.cells 0 (U8 b) rfl
    cases hA
  | some ad =>
   have hc := run_loadCells_list (P := P) w ad (xs.map U8) (fun j v hj => (h.cells j v hj).2)
   rw [List.length_map, hl] at hc
   have hm : (xs.map U8) = (xs.map fun b => (b.toNat : Int)).map (Value.int .u8) := by simp
   rw [hm] at hc
   rw [run_bytesToString w ad n c _ hc]
   have hf := fold_push xs []
   simp only [List.nil_append] at hf
   exact congrArg (fun s => Result.ok (Value.string s) w) hf
 simp [execOp, hs.eval hx, e1, e2]
theorem Yld.eqlStr {a b : List (BitVec 8)} (hx : evl env x = some (.string (bstr a))) (hy : evl env y = some (.string (bstr b))) : Yld P N w0 env H ⟨d, .binOp .eql T x y T', ty, pos, after, g⟩ (.bool (a == b)) := by
 have h := Yld.eqlS (P := P) (N := N) (w0 := w0) (H := H) (d := d) (ty := ty) (T := T) (T' := T') (pos := pos) (after := after) (g := g) hx hy
 rwa [beq_bstr] at h
end
end Go.Proofs.Ytkcccenekglkoaa
