/-
  The general part of what stands about gfmatrix (Qk). No conditions beyond what each theorem says.
-/
import Derived.Test.YtnbcphofimicdaaUh
import Derived.Test.YtnbcphofimicdaaUd
namespace Go.Proofs.Ytnbcphofimicdaa
set_option linter.unusedVariables false
set_option linter.unusedSimpArgs false

/-! ### polynomials with many roots -/
def geo (x r : BitVec 8) (k : Nat) : BitVec 8 := sm k fun i => gm (gpow x i) (gpow r (k - 1 - i))
theorem gpow_s (a : BitVec 8) (n : Nat) : gpow a (n + 1) = gm a (gpow a n) := by rw [gpow, gm_comm]
theorem geo_succ (x r : BitVec 8) (k : Nat) : geo x r (k + 1) = gm r (geo x r k) ^^^ gpow x k := by
  unfold geo
  rw [sm, show k + 1 - 1 - k = 0 by omega, gpow, gm_oneR]
  congr 1
  rw [sm_mulL]
  refine sm_ext fun i hi => ?_
  rw [show k + 1 - 1 - i = (k - 1 - i) + 1 by omega, gpow_s, ← gm_assoc, gm_comm (gpow x i) r, gm_assoc]
theorem geo_mul (x r : BitVec 8) : ∀ k, gm (x ^^^ r) (geo x r k) = gpow x k ^^^ gpow r k
  | 0 => by rw [show geo x r 0 = 0#8 from rfl, gm_zeroR]; simp [gpow]
  | k + 1 => by
    have e : gm (x ^^^ r) (gm r (geo x r k)) = gm r (gm (x ^^^ r) (geo x r k)) := by rw [← gm_assoc, gm_comm (x ^^^ r) r, gm_assoc]
    rw [geo_succ, gm_addR, e, geo_mul x r k, gm_addR, gm_addL, ← gpow_s, ← gpow_s, BitVec.xor_comm (gm r (gpow x k)), xor4, BitVec.xor_self, BitVec.xor_zero, BitVec.xor_comm]

/-- coefficient i of the quotient -/
def quo (n : Nat) (r : BitVec 8) (v : Nat → BitVec 8) (i : Nat) : BitVec 8 := sm n fun k => if i < k then gm (v k) (gpow r (k - 1 - i)) else 0#8
theorem sm_cut (f : Nat → BitVec 8) {k : Nat} : ∀ {n : Nat}, k ≤ n → sm n (fun i => if i < k then f i else 0#8) = sm k f
  | 0, h => by obtain rfl : k = 0 := by omega
               rfl
  | n + 1, h => by
    by_cases e : k = n + 1
    · subst e; exact sm_ext fun j hj => if_pos hj
    · rw [sm, sm_cut f (by omega), if_neg (by omega), BitVec.xor_zero]
theorem quo_eval (n : Nat) (x r : BitVec 8) (v : Nat → BitVec 8) : (sm n fun i => gm (gpow x i) (quo (n + 1) r v i)) = sm (n + 1) fun k => gm (v k) (geo x r k) := by
  unfold quo geo
  have e1 : (fun i => gm (gpow x i) (sm (n + 1) fun k => if i < k then gm (v k) (gpow r (k - 1 - i)) else 0#8)) = fun i => sm (n + 1) fun k => if i < k then gm (v k) (gm (gpow x i) (gpow r (k - 1 - i))) else 0#8 := by
    funext i
    rw [sm_mulL]
    congr 1
    funext k
    split
    · rw [← gm_assoc, gm_comm (gpow x i) (v k), gm_assoc]
    · exact gm_zeroR _
  rw [e1, sm_swap]
  refine sm_ext fun k hk => ?_
  rw [sm_cut (fun i => gm (v k) (gm (gpow x i) (gpow r (k - 1 - i)))) (show k ≤ n by omega), ← sm_mulL]
theorem root_diff {n : Nat} {x r : BitVec 8} {v : Nat → BitVec 8} (hne : x ≠ r) (hx : (sm n fun k => gm (gpow x k) (v k)) = 0#8) (hr : (sm n fun k => gm (gpow r k) (v k)) = 0#8) : (sm n fun k => gm (v k) (geo x r k)) = 0#8 := by
  have h : gm (x ^^^ r) (sm n fun k => gm (v k) (geo x r k)) = 0#8 := by
    rw [sm_mulL]
    have e : (fun k => gm (x ^^^ r) (gm (v k) (geo x r k))) = fun k => gm (gpow x k) (v k) ^^^ gm (gpow r k) (v k) := by
      funext k
      rw [← gm_assoc, gm_comm (x ^^^ r) (v k), gm_assoc, geo_mul, gm_addR, gm_comm (v k), gm_comm (v k)]
    rw [e, sm_xor, hx, hr, BitVec.xor_self]
  rcases gm_eq_zero h with h | h
  · exact absurd (by
      have : (x ^^^ r) ^^^ r = 0#8 ^^^ r := by rw [h]
      rwa [BitVec.xor_assoc, BitVec.xor_self, BitVec.xor_zero, BitVec.zero_xor] at this) hne
  · exact h
theorem roots_zero : ∀ (n : Nat) (p : Nat → BitVec 8) (v : Nat → BitVec 8), (∀ i, i < n → ∀ j, j < n → p i = p j → i = j) → (∀ i, i < n → (sm n fun k => gm (gpow (p i) k) (v k)) = 0#8) → ∀ k, k < n → v k = 0#8
  | 0, _, _, _, _, k, hk => by omega
  | n + 1, p, v, hp, hv, k, hk => by
    have hq := roots_zero n p (quo (n + 1) (p n) v) (fun i hi j hj => hp i (by omega) j (by omega)) (fun i hi => by
      rw [quo_eval]
      exact root_diff (fun e => by have := hp i (by omega) n (by omega) e; omega) (hv i (by omega)) (hv n (by omega)))
    have hup : ∀ d k, k + d = n → 1 ≤ k → v k = 0#8 := by
      intro d
      induction d using Nat.strongRecOn with
      | ind d ih =>
        intro k hk h1
        have h := hq (k - 1) (by omega)
        unfold quo at h
        rw [sm_one (k := k) (by omega) (fun j hj hne => by
          by_cases h2 : k - 1 < j
          · rw [if_pos h2, ih (n - j) (by omega) j (by omega) (by omega), gm_zeroL]
          · rw [if_neg h2]), if_pos (by omega), show k - 1 - (k - 1) = 0 by omega, gpow, gm_oneR] at h
        exact h
    by_cases h0 : k = 0
    · subst h0
      have h := hv n (by omega)
      rw [sm_one (k := 0) (by omega) (fun j hj hne => by rw [hup (n - j) j (by omega) (by omega), gm_zeroR]), gpow, gm_oneL] at h
      exact h
    · exact hup (n - k) k (by omega) (by omega)

/-! ### the statement -/
def dn (z : Int) : Nat := (andi z 15).toNat % 8 + 1
theorem dn_ok (z : Int) : 1 ≤ dn z ∧ dn z ≤ 8 := by unfold dn; omega
theorem dn_bind {ρ : Type} (z : Int) (k : Int → Option ρ) : (Option.bind (rmi (andi z (15 : Int)) (8 : Int)) fun a => Option.bind (ck ((1 : Int) + a)) k) = k (dn z : Int) := by
  obtain ⟨m, h1, h2⟩ := andi_mask z 15 (by omega)
  have e : (15 : Int) = ((15 : Nat) : Int) := rfl
  unfold dn
  rw [e, h2, rmi_of (by omega) (by omega), Option.bind_some, ck_of (by omega), Option.bind_some]
  congr 1
  omega
abbrev XR := Int × Int × List (BitVec 8) × Int
structure Rws (n m : Nat) (rows : Nat → Nat) : Prop where
  le : m ≤ n
  lt : ∀ t, t < m → rows t < 16
  inj : ∀ s, s < m → ∀ t, t < m → rows s = rows t → s = t
end Go.Proofs.Ytnbcphofimicdaa
