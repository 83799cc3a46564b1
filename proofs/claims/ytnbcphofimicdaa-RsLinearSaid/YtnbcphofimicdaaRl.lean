/-
  The statement RsLinear. No conditions.
-/
import Derived.Test.YtnbcphofimicdaaRc
namespace Go.Proofs.Ytnbcphofimicdaa
set_option linter.unusedVariables false
set_option linter.unusedSimpArgs false
def xorM (X Y : Mx) : Mx := fun i t => X i t ^^^ Y i t
theorem mm_xor (n : Nat) (C X Y : Mx) (i t : Nat) : mm n C (xorM X Y) i t = mm n C X i t ^^^ mm n C Y i t := by
  unfold mm
  rw [← sm_xor]
  exact sm_ext fun j hj => gm_addR _ _ _
def preX (X Y : Mx) (i s : Nat) : Nat → BitVec 8 := fun t => if t < s then X i t ^^^ Y i t else 0#8
theorem preX_step (X Y : Mx) (i s k : Nat) : tb k (st (preX X Y i s) s (X i s ^^^ Y i s)) = tb k (preX X Y i (s + 1)) := tb_ext fun t ht => by
  unfold st preX
  by_cases h : t = s
  · subst h; simp
  · rw [if_neg h]
    by_cases h2 : t < s
    · rw [if_pos h2, if_pos (by omega)]
    · rw [if_neg h2, if_neg (by omega)]
section
variable (X Y : Mx) {k : Nat} (hk : k ≤ 31)
theorem lin_l4 (hk : k ≤ 31) {i : Nat} (hi : i < 4) (x57 : List Bytes) (r1 : List Bytes → Int → Option Bool) (d : Nat) : ∀ (s q : Nat), s + d = k → d < q →
    m_law04_RsLinear_l4 (tb 4 fun j => tb k (X j)) (tb 4 fun j => tb k (Y j)) x57 (i : Int) (tb k fun _ => 0#8) r1 q (tb k (preX X Y i s)) (s : Int) = m_law04_RsLinear_j3 x57 (i : Int) r1 (tb k (xorM X Y i)) := by
  induction d with
  | zero =>
    intro s q hs hq
    obtain ⟨q, rfl⟩ : ∃ q', q = q' + 1 := ⟨q - 1, by omega⟩
    unfold m_law04_RsLinear_l4
    rw [tb_len, if_neg (by omega), show tb k (preX X Y i s) = tb k (xorM X Y i) from tb_ext fun t ht => by unfold preX xorM; rw [if_pos (by omega)]]
  | succ d ih =>
    intro s q hs hq
    obtain ⟨q, rfl⟩ : ∃ q', q = q' + 1 := ⟨q - 1, by omega⟩
    unfold m_law04_RsLinear_l4
    rw [tb_len, if_pos (by omega), idx_tb hi, Option.bind_some, idx_tb (by omega), Option.bind_some, idx_tb hi, Option.bind_some, idx_tb (by omega), Option.bind_some, idx_tb (by omega), Option.bind_some, upd_tb (by omega), Option.bind_some, ck_succ (by omega), Option.bind_some, preX_step]
    exact ih (s + 1) q (by omega) (by omega)
theorem lin_l1 (hk : k ≤ 31) (d : Nat) : ∀ (i q : Nat), i + d = 4 → d < q →
    m_law04_RsLinear_l1 (tb 4 fun j => tb k (X j)) (tb 4 fun j => tb k (Y j)) q (tb i fun j => tb k (xorM X Y j)) (i : Int) = m_law04_RsLinear_j0 (tb 4 fun j => tb k (X j)) (tb 4 fun j => tb k (Y j)) (tb 4 fun j => tb k (xorM X Y j)) := by
  induction d with
  | zero =>
    intro i q hi hq
    obtain ⟨q, rfl⟩ : ∃ q', q = q' + 1 := ⟨q - 1, by omega⟩
    unfold m_law04_RsLinear_l1
    rw [tb_len, if_neg (by omega), show i = 4 by omega]
  | succ d ih =>
    intro i q hi hq
    obtain ⟨q, rfl⟩ : ∃ q', q = q' + 1 := ⟨q - 1, by omega⟩
    unfold m_law04_RsLinear_l1
    rw [tb_len, if_pos (by omega), idx_tb (by omega), Option.bind_some, tb_len, mks_tb (by omega) (by omega), Option.bind_some]
    have e := lin_l4 X Y hk (i := i) (by omega) (tb i fun j => tb k (xorM X Y j)) (m_law04_RsLinear_l1 (tb 4 fun j => tb k (X j)) (tb 4 fun j => tb k (Y j)) q) k 0 forever (by omega) (by unfold forever; omega)
    rw [show tb k (preX X Y i 0) = tb k fun _ => 0#8 from tb_ext fun t ht => if_neg (by omega)] at e
    refine Eq.trans e ?_
    unfold m_law04_RsLinear_j3 m_law04_RsLinear_j2
    rw [apd_tb (by omega) (by omega) rfl, Option.bind_some, ck_succ (by omega), Option.bind_some]
    exact ih (i + 1) q (by omega) (by omega)
end
section
variable (P Q S : Mx) {k : Nat}
theorem lin_l10 (hk : k ≤ 31) (z : Int) (hS : ∀ i, i < 2 → ∀ t, t < k → S i t = P i t ^^^ Q i t) {i : Nat} (hi : i < 2) (r7 : Int → Option Bool) (d : Nat) : ∀ (s q : Nat), s + d = k → d < q →
    m_law04_RsLinear_l10 (tb 2 fun i => tb k (P i), z) (tb 2 fun i => tb k (Q i), z) (tb 2 fun i => tb k (S i), z) (i : Int) (tb k (S i)) r7 q (s : Int) = m_law04_RsLinear_j8 (i : Int) r7 := by
  induction d with
  | zero =>
    intro s q hs hq
    obtain ⟨q, rfl⟩ : ∃ q', q = q' + 1 := ⟨q - 1, by omega⟩
    unfold m_law04_RsLinear_l10
    rw [tb_len, if_neg (by omega)]
  | succ d ih =>
    intro s q hs hq
    obtain ⟨q, rfl⟩ : ∃ q', q = q' + 1 := ⟨q - 1, by omega⟩
    unfold m_law04_RsLinear_l10
    rw [tb_len, if_pos (by omega), idx_tb hi, Option.bind_some, idx_tb (by omega), Option.bind_some, idx_tb hi, Option.bind_some, idx_tb (by omega), Option.bind_some, idx_tb hi, Option.bind_some, idx_tb (by omega), Option.bind_some, if_pos (hS i hi s (by omega)), ck_succ (by omega), Option.bind_some]
    exact ih (s + 1) q (by omega) (by omega)
theorem lin_l7 (hk : k ≤ 31) (z : Int) (hS : ∀ i, i < 2 → ∀ t, t < k → S i t = P i t ^^^ Q i t) (d : Nat) : ∀ (i q : Nat), i + d = 2 → d < q →
    m_law04_RsLinear_l7 (tb 2 fun i => tb k (P i), z) (tb 2 fun i => tb k (Q i), z) (tb 2 fun i => tb k (S i), z) q (i : Int) = some true := by
  induction d with
  | zero =>
    intro i q hi hq
    obtain ⟨q, rfl⟩ : ∃ q', q = q' + 1 := ⟨q - 1, by omega⟩
    unfold m_law04_RsLinear_l7
    rw [tb_len, if_neg (by omega), m_law04_RsLinear_j6, awake_ok]; rfl
  | succ d ih =>
    intro i q hi hq
    obtain ⟨q, rfl⟩ : ∃ q', q = q' + 1 := ⟨q - 1, by omega⟩
    unfold m_law04_RsLinear_l7
    rw [tb_len, if_pos (by omega), idx_tb (by omega), Option.bind_some, idx_tb (by omega), Option.bind_some, if_pos (by rw [tb_len, tb_len]), idx_tb (by omega), Option.bind_some, Option.bind_some, if_pos (by rw [tb_len, tb_len])]
    unfold m_law04_RsLinear_j9
    rw [idx_tb (by omega), Option.bind_some]
    refine Eq.trans (lin_l10 P Q S hk z hS (i := i) (by omega) _ k 0 forever (by omega) (by unfold forever; omega)) ?_
    unfold m_law04_RsLinear_j8
    rw [ck_succ (by omega), Option.bind_some]
    exact ih (i + 1) q (by omega) (by omega)
end
theorem ok_RsLinear (a b : Bytes) (n : Int) : m_law04_RsLinear a b n = some true := by
  obtain ⟨C, hC⟩ := code_ex
  have hk := (dw_ok n).2
  unfold m_law04_RsLinear
  rw [data_ok, data_ok, Option.bind_some, Option.bind_some]
  refine Eq.trans (lin_l1 (dB a (dw n)) (dB b (dw n)) hk 4 0 forever (by omega) (by unfold forever; omega)) ?_
  unfold m_law04_RsLinear_j0
  rw [encode_ok hC (by omega), Option.bind_some, encode_ok hC (by omega), Option.bind_some, encode_ok hC (by omega), Option.bind_some, if_pos rfl, if_pos rfl, if_pos rfl, if_pos (by rw [tb_len]; rfl), if_pos (by rw [tb_len]; rfl), if_pos (by rw [tb_len]; rfl)]
  unfold m_law04_RsLinear_j5
  exact lin_l7 _ _ _ hk 0 (fun i hi t ht => mm_xor 4 C _ _ _ _) 2 0 forever (by omega) (by unfold forever; omega)
end Go.Proofs.Ytnbcphofimicdaa
