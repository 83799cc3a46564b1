/-
  The general part of what stands about gfmatrix (Qh). No conditions beyond what each theorem says.
-/
import Derived.Test.YtnbcphofimicdaaQg
import Derived.Test.YtnbcphofimicdaaUd
namespace Go.Proofs.Ytnbcphofimicdaa
set_option linter.unusedVariables false
set_option linter.unusedSimpArgs false

/-! ### matrices that are made -/
theorem andi_mask (z : Int) (k : Nat) (hk : k < 9223372036854775808) : ∃ m : Nat, m ≤ k ∧ andi z (k : Int) = (m : Int) := by
  unfold andi
  rw [BitVec.ofInt_natCast]
  have h1 : (BitVec.ofInt 64 z &&& BitVec.ofNat 64 k).toNat ≤ k := by
    rw [BitVec.toNat_and, BitVec.toNat_ofNat, Nat.mod_eq_of_lt (by omega)]
    exact Nat.and_le_right
  exact ⟨_, h1, BitVec.toInt_eq_toNat_of_lt (by omega)⟩
def dm (z : Int) : Nat := (andi z 15).toNat % 5 + 1
theorem dm_ok (z : Int) : 1 ≤ dm z ∧ dm z ≤ 5 := by unfold dm; omega
theorem dm_dims (z : Int) : dims (dm z) := ⟨(dm_ok z).1, by have := (dm_ok z).2; omega⟩
theorem dm_pred {k : Nat} (h : 1 ≤ k ∧ k ≤ 5) : dm ((k : Int) - 1) = k := by
  rcases (show k = 1 ∨ k = 2 ∨ k = 3 ∨ k = 4 ∨ k = 5 by omega) with rfl | rfl | rfl | rfl | rfl <;> decide
theorem dm_bind {ρ : Type} (z : Int) (k : Int → Option ρ) : (Option.bind (rmi (andi z (15 : Int)) (5 : Int)) fun a => Option.bind (ck ((1 : Int) + a)) k) = k (dm z : Int) := by
  obtain ⟨m, h1, h2⟩ := andi_mask z 15 (by omega)
  have e : (15 : Int) = ((15 : Nat) : Int) := rfl
  unfold dm
  rw [e, h2, rmi_of (by omega) (by omega), Option.bind_some, ck_of (by omega), Option.bind_some]
  congr 1
  omega
theorem tb_mat {R C : Nat} (F : Nat → BitVec 8) : tb (R * C) F = tb (R * C) (ml C fun i k => F (i * C + k)) := tb_ext fun t ht => by rw [ml, div_mod']
/-- products of matrices -/
theorem mul_ml {R n C : Nat} (hR : dims R) (hn : dims n) (hC : dims C) (A B : Mx) : m_gfmatrix_Mul (R : Int) (n : Int) (tb (R * n) (ml n A)) (n : Int) (C : Int) (tb (n * C) (ml C B)) = some ((R : Int), (C : Int), tb (R * C) (ml C (mm n A B)), 0) := by
  rw [mul_ok hR hn hC]
  have : tb (R * C) (muF n C (ml n A) (ml C B)) = tb (R * C) (ml C (mm n A B)) := tb_ext fun t ht => by
    unfold muF
    rw [ml]
    exact sm_ext fun j hj => by rw [ml_cell A _ hj, ml_cell B _ (mod_lt' ht)]
  rw [this]
end Go.Proofs.Ytnbcphofimicdaa
