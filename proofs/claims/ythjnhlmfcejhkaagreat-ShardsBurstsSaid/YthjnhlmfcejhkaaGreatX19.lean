/- A part of the proof. Conditions: as each theorem says. -/
import Derived.Test.YthjnhlmfcejhkaaGreatX18
namespace Go.Proofs.YthjnhlmfcejhkaaGreat
open Go Go.RowKit
set_option linter.unusedVariables false
section
variable {P : Program} {N : Nat} {w0 : World} {env : Env} {H : Heap} {d : Option Tmp} {ty T T' : TypeId} {pos : String} {after : Array Edge} {g : Option (Nat × Bool)} {x y : Operand}
theorem Yld.shlWi {m : Int} {s : Nat} {yk : IntKind} (hx : evl env x = some (I64 m)) (hy : evl env y = some (.int yk (s : Int))) (hs : Nat.ble s 63 = true) : Yld P N w0 env H ⟨d, .binOp .shl T x y T', ty, pos, after, g⟩ (I64 (wri (m * 2 ^ s))) := by
 have hs' := Nat.le_of_ble_eq_true hs
 refine yld_bin hx hy (guard_int _ _ _ _ _ _ _ _) fun w => ?_
 simp only [binOp, Op.shift, if_neg (Int.not_lt.2 (Int.natCast_nonneg s))]
 show Result.ok (Value.int .i64 (IntKind.i64.wrap (m * 2 ^ min (s : Int).toNat 64))) w = _
 rw [Int.toNat_natCast, Nat.min_eq_left (by omega), wrap_i64]; rfl
end
end Go.Proofs.YthjnhlmfcejhkaaGreat
