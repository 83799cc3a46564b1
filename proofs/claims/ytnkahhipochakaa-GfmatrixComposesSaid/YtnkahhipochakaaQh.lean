/-
  The statements GfmatrixInverts, GfmatrixInverse and GfmatrixAssociates. No conditions.
-/
import Derived.Test.YtnkahhipochakaaQg
import Derived.Test.YtnkahhipochakaaQw
import Derived.Test.YtnkahhipochakaaMde2
import Derived.Test.YtnkahhipochakaaMde3
import Derived.Test.YtnkahhipochakaaMde5
namespace Go.Proofs.Ytnkahhipochakaa
set_option linter.unusedVariables false
set_option linter.unusedSimpArgs false

theorem equal_self (a b : Int) (x : List (BitVec 8)) : m_law03_equal a b x a b x = some true := by
  unfold m_law03_equal
  rw [if_pos rfl, if_pos rfl]; simp
theorem same_self (a b : Int) (x : List (BitVec 8)) : m_law03_same a b x a b x = some true := by
  unfold m_law03_same
  rw [if_pos rfl, if_pos rfl]; simp
theorem ok_GfmatrixInverts (a b : Int) (x : List (BitVec 8)) : m_law03_GfmatrixInverts a b x = some true := by
  unfold m_law03_GfmatrixInverts m_law03_heavy
  rw [Option.bind_some]
  split
  · rw [awake_ok]; rfl
  · obtain ⟨r, h1, h2⟩ := invert_eq a b x
    simp only [m_law03_given, Option.bind_some, h1, h2, same_self, awake_ok, if_true]

/-! ### matrices that are made -/
theorem andi_mask (z : Int) (k : Nat) (hk : k < 9223372036854775808) : ∃ m : Nat, m ≤ k ∧ andi z (k : Int) = (m : Int) := by
  unfold andi
  rw [BitVec.ofInt_natCast]
  have h1 : (BitVec.ofInt 64 z &&& BitVec.ofNat 64 k).toNat ≤ k := by
    rw [BitVec.toNat_and, BitVec.toNat_ofNat, Nat.mod_eq_of_lt (by omega)]
    exact Nat.and_le_right
  exact ⟨_, h1, BitVec.toInt_eq_toNat_of_lt (by omega)⟩
def dm (z : Int) : Nat := (andi z 15).toNat % 5 + 1
theorem dm_ok (z : Int) : 1 ≤ dm z ∧ dm z ≤ 5 := by unfold dm; omega
theorem dm_dims (z : Int) : dims (dm z) := ⟨(dm_ok z).1, by have := (dm_ok z).2; omega⟩
theorem dm_pred {k : Nat} (h : 1 ≤ k ∧ k ≤ 5) : dm ((k : Int) - 1) = k := by
  rcases (show k = 1 ∨ k = 2 ∨ k = 3 ∨ k = 4 ∨ k = 5 by omega) with rfl | rfl | rfl | rfl | rfl <;> decide
theorem dm_bind {ρ : Type} (z : Int) (k : Int → Option ρ) : (Option.bind (rmi (andi z (15 : Int)) (5 : Int)) fun a => Option.bind (ck ((1 : Int) + a)) k) = k (dm z : Int) := by
  obtain ⟨m, h1, h2⟩ := andi_mask z 15 (by omega)
  have e : (15 : Int) = ((15 : Nat) : Int) := rfl
  unfold dm
  rw [e, h2, rmi_of (by omega) (by omega), Option.bind_some, ck_of (by omega), Option.bind_some]
  congr 1
  omega
theorem made_loop {R C : Nat} (hR : R ≤ 16) (hC : C ≤ 16) (b : List (BitVec 8)) (d : Nat) : ∀ (i q : Nat), i + d = R * C → d < q →
    m_law03_made_l1 b (R : Int) (C : Int) q (tb i fun t => b.getD t 0#8) (i : Int) = some ((R : Int), (C : Int), tb (R * C) fun t => b.getD t 0#8) := by
  have m1 := mul16 hR hC
  induction d with
  | zero =>
    intro i q hi hq
    obtain ⟨q, rfl⟩ : ∃ q', q = q' + 1 := ⟨q - 1, by omega⟩
    obtain rfl : i = R * C := by omega
    unfold m_law03_made_l1
    rw [ck_mul (by omega), Option.bind_some, if_neg (by omega), m_law03_made_j0]
  | succ d ih =>
    intro i q hi hq
    obtain ⟨q, rfl⟩ : ∃ q', q = q' + 1 := ⟨q - 1, by omega⟩
    unfold m_law03_made_l1
    rw [ck_mul (by omega), Option.bind_some, if_pos (by omega)]
    by_cases h : i < b.length
    · rw [if_pos (by omega), idx_getD 0#8 h, Option.bind_some, apd_tb (by omega) (by omega) rfl, Option.bind_some, ck_succ (by omega), Option.bind_some]
      exact ih (i + 1) q (by omega) (by omega)
    · have e : b.getD i 0#8 = 0#8 := by rw [List.getD_eq_getElem?_getD, List.getElem?_eq_none (by omega)]; rfl
      rw [if_neg (by omega), apd_tb (by omega) (by omega) e, Option.bind_some, ck_succ (by omega), Option.bind_some]
      exact ih (i + 1) q (by omega) (by omega)
theorem tb_mat {R C : Nat} (F : Nat → BitVec 8) : tb (R * C) F = tb (R * C) (ml C fun i k => F (i * C + k)) := tb_ext fun t ht => by rw [ml, div_mod']
theorem made_ok (r c : Int) (b : List (BitVec 8)) : ∃ A : Mx, m_law03_made r c b = some ((dm r : Int), (dm c : Int), tb (dm r * dm c) (ml (dm c) A)) := by
  refine ⟨fun i k => b.getD (i * dm c + k) 0#8, ?_⟩
  unfold m_law03_made
  rw [dm_bind r, dm_bind c]
  have h1 := (dm_dims r).2
  have h2 := (dm_dims c).2
  have h3 := mul16 h1 h2
  have := made_loop h1 h2 b (dm r * dm c) 0 forever (by omega) (by unfold forever; omega)
  rw [tb_mat (R := dm r) (C := dm c) fun t => b.getD t 0#8] at this
  exact this
/-- products of matrices -/
theorem mul_ml {R n C : Nat} (hR : dims R) (hn : dims n) (hC : dims C) (A B : Mx) : m_gfmatrix_Mul (R : Int) (n : Int) (tb (R * n) (ml n A)) (n : Int) (C : Int) (tb (n * C) (ml C B)) = some ((R : Int), (C : Int), tb (R * C) (ml C (mm n A B)), 0) := by
  rw [mul_ok hR hn hC]
  have : tb (R * C) (muF n C (ml n A) (ml C B)) = tb (R * C) (ml C (mm n A B)) := tb_ext fun t ht => by
    unfold muF
    rw [ml]
    exact sm_ext fun j hj => by rw [ml_cell A _ hj, ml_cell B _ (mod_lt' ht)]
  rw [this]
theorem ok_GfmatrixInverse (z : Int) (b : List (BitVec 8)) : m_law03_GfmatrixInverse z b = some true := by
  obtain ⟨M, hM⟩ := made_ok z z b
  have hn := dm_dims z
  unfold m_law03_GfmatrixInverse
  rw [hM, Option.bind_some]
  simp only []
  rcases invert_res hn M with ⟨R, h1, h2, h3⟩ | ⟨h1, h2⟩
  · rw [h1, Option.bind_some]
    simp only []
    rw [if_pos trivial, ident_ok hn, Option.bind_some, mul_ml hn hn hn, Option.bind_some, mul_ml hn hn hn, Option.bind_some]
    rcases invert_res hn R with ⟨R', k1, k2, k3⟩ | ⟨k1, k2⟩
    · rw [k1, Option.bind_some]
      have e1 : tb (dm z * dm z) (ml (dm z) (mm (dm z) M R)) = tb (dm z * dm z) (idF (dm z)) := tb_ml h3
      have e2 : tb (dm z * dm z) (ml (dm z) (mm (dm z) R M)) = tb (dm z * dm z) (idF (dm z)) := tb_ml h2
      have e3 : tb (dm z * dm z) (ml (dm z) R') = tb (dm z * dm z) (ml (dm z) M) := tb_ml (inv_uniq k2 h2)
      simp only [if_true, e1, e2, e3, equal_self, Option.bind_some, awake_ok]
    · exact (k2.not ⟨h3, h2⟩).elim
  · rw [h1, Option.bind_some]
    simp only [sing]
    rw [if_neg (by decide), if_pos trivial, awake_ok]; rfl
theorem ok_GfmatrixAssociates (p q r s : Int) (a b c : List (BitVec 8)) : m_law03_GfmatrixAssociates p q r s a b c = some true := by
  obtain ⟨A, hA⟩ := made_ok p q a
  obtain ⟨B, hB⟩ := made_ok ((dm q : Int) - 1) r b
  obtain ⟨C, hC⟩ := made_ok ((dm r : Int) - 1) s c
  rw [dm_pred (dm_ok q)] at hB
  rw [dm_pred (dm_ok r)] at hC
  have hp := dm_dims p
  have hq := dm_dims q
  have hr := dm_dims r
  have hs := dm_dims s
  have q2 := (dm_ok q).2
  have r2 := (dm_ok r).2
  unfold m_law03_GfmatrixAssociates
  rw [hA, Option.bind_some]
  simp only []
  rw [ck_of (by omega), Option.bind_some, hB, Option.bind_some]
  simp only []
  rw [ck_of (by omega), Option.bind_some, hC, Option.bind_some]
  simp only []
  rw [mul_ml hp hq hr, Option.bind_some, mul_ml hq hr hs, Option.bind_some]
  simp only []
  rw [mul_ml hp hr hs, Option.bind_some, mul_ml hp hq hs, Option.bind_some]
  have e : tb (dm p * dm s) (ml (dm s) (mm (dm r) (mm (dm q) A B) C)) = tb (dm p * dm s) (ml (dm s) (mm (dm q) A (mm (dm r) B C))) := tb_ml fun i hi k hk => mm_assoc _ _ A B C i k
  simp only [if_true, e, equal_self, Option.bind_some, awake_ok]
end Go.Proofs.Ytnkahhipochakaa
