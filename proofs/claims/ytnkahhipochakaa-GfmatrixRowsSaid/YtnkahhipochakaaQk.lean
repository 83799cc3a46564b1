/-
  The statement GfmatrixRows: different rows of a Vandermonde matrix, as many as it has columns, form a matrix with an inverse. No conditions.
-/
import Derived.Test.YtnkahhipochakaaQh
import Derived.Test.YtnkahhipochakaaQd
import Derived.Test.YtnkahhipochakaaMde6
namespace Go.Proofs.Ytnkahhipochakaa
set_option linter.unusedVariables false
set_option linter.unusedSimpArgs false

/-! ### polynomials with many roots -/
def geo (x r : BitVec 8) (k : Nat) : BitVec 8 := sm k fun i => gm (gpow x i) (gpow r (k - 1 - i))
theorem gpow_s (a : BitVec 8) (n : Nat) : gpow a (n + 1) = gm a (gpow a n) := by rw [gpow, gm_comm]
theorem geo_succ (x r : BitVec 8) (k : Nat) : geo x r (k + 1) = gm r (geo x r k) ^^^ gpow x k := by
  unfold geo
  rw [sm, show k + 1 - 1 - k = 0 by omega, gpow, gm_oneR]
  congr 1
  rw [sm_mulL]
  refine sm_ext fun i hi => ?_
  rw [show k + 1 - 1 - i = (k - 1 - i) + 1 by omega, gpow_s, ← gm_assoc, gm_comm (gpow x i) r, gm_assoc]
theorem geo_mul (x r : BitVec 8) : ∀ k, gm (x ^^^ r) (geo x r k) = gpow x k ^^^ gpow r k
  | 0 => by rw [show geo x r 0 = 0#8 from rfl, gm_zeroR]; simp [gpow]
  | k + 1 => by
    have e : gm (x ^^^ r) (gm r (geo x r k)) = gm r (gm (x ^^^ r) (geo x r k)) := by rw [← gm_assoc, gm_comm (x ^^^ r) r, gm_assoc]
    rw [geo_succ, gm_addR, e, geo_mul x r k, gm_addR, gm_addL, ← gpow_s, ← gpow_s, BitVec.xor_comm (gm r (gpow x k)), xor4, BitVec.xor_self, BitVec.xor_zero, BitVec.xor_comm]

/-- coefficient i of the quotient -/
def quo (n : Nat) (r : BitVec 8) (v : Nat → BitVec 8) (i : Nat) : BitVec 8 := sm n fun k => if i < k then gm (v k) (gpow r (k - 1 - i)) else 0#8
theorem sm_cut (f : Nat → BitVec 8) {k : Nat} : ∀ {n : Nat}, k ≤ n → sm n (fun i => if i < k then f i else 0#8) = sm k f
  | 0, h => by obtain rfl : k = 0 := by omega
               rfl
  | n + 1, h => by
    by_cases e : k = n + 1
    · subst e; exact sm_ext fun j hj => if_pos hj
    · rw [sm, sm_cut f (by omega), if_neg (by omega), BitVec.xor_zero]
theorem quo_eval (n : Nat) (x r : BitVec 8) (v : Nat → BitVec 8) : (sm n fun i => gm (gpow x i) (quo (n + 1) r v i)) = sm (n + 1) fun k => gm (v k) (geo x r k) := by
  unfold quo geo
  have e1 : (fun i => gm (gpow x i) (sm (n + 1) fun k => if i < k then gm (v k) (gpow r (k - 1 - i)) else 0#8)) = fun i => sm (n + 1) fun k => if i < k then gm (v k) (gm (gpow x i) (gpow r (k - 1 - i))) else 0#8 := by
    funext i
    rw [sm_mulL]
    congr 1
    funext k
    split
    · rw [← gm_assoc, gm_comm (gpow x i) (v k), gm_assoc]
    · exact gm_zeroR _
  rw [e1, sm_swap]
  refine sm_ext fun k hk => ?_
  rw [sm_cut (fun i => gm (v k) (gm (gpow x i) (gpow r (k - 1 - i)))) (show k ≤ n by omega), ← sm_mulL]
theorem root_diff {n : Nat} {x r : BitVec 8} {v : Nat → BitVec 8} (hne : x ≠ r) (hx : (sm n fun k => gm (gpow x k) (v k)) = 0#8) (hr : (sm n fun k => gm (gpow r k) (v k)) = 0#8) : (sm n fun k => gm (v k) (geo x r k)) = 0#8 := by
  have h : gm (x ^^^ r) (sm n fun k => gm (v k) (geo x r k)) = 0#8 := by
    rw [sm_mulL]
    have e : (fun k => gm (x ^^^ r) (gm (v k) (geo x r k))) = fun k => gm (gpow x k) (v k) ^^^ gm (gpow r k) (v k) := by
      funext k
      rw [← gm_assoc, gm_comm (x ^^^ r) (v k), gm_assoc, geo_mul, gm_addR, gm_comm (v k), gm_comm (v k)]
    rw [e, sm_xor, hx, hr, BitVec.xor_self]
  rcases gm_eq_zero h with h | h
  · exact absurd (by
      have : (x ^^^ r) ^^^ r = 0#8 ^^^ r := by rw [h]
      rwa [BitVec.xor_assoc, BitVec.xor_self, BitVec.xor_zero, BitVec.zero_xor] at this) hne
  · exact h
theorem roots_zero : ∀ (n : Nat) (p : Nat → BitVec 8) (v : Nat → BitVec 8), (∀ i, i < n → ∀ j, j < n → p i = p j → i = j) → (∀ i, i < n → (sm n fun k => gm (gpow (p i) k) (v k)) = 0#8) → ∀ k, k < n → v k = 0#8
  | 0, _, _, _, _, k, hk => by omega
  | n + 1, p, v, hp, hv, k, hk => by
    have hq := roots_zero n p (quo (n + 1) (p n) v) (fun i hi j hj => hp i (by omega) j (by omega)) (fun i hi => by
      rw [quo_eval]
      exact root_diff (fun e => by have := hp i (by omega) n (by omega) e; omega) (hv i (by omega)) (hv n (by omega)))
    have hup : ∀ d k, k + d = n → 1 ≤ k → v k = 0#8 := by
      intro d
      induction d using Nat.strongRecOn with
      | ind d ih =>
        intro k hk h1
        have h := hq (k - 1) (by omega)
        unfold quo at h
        rw [sm_one (k := k) (by omega) (fun j hj hne => by
          by_cases h2 : k - 1 < j
          · rw [if_pos h2, ih (n - j) (by omega) j (by omega) (by omega), gm_zeroL]
          · rw [if_neg h2]), if_pos (by omega), show k - 1 - (k - 1) = 0 by omega, gpow, gm_oneR] at h
        exact h
    by_cases h0 : k = 0
    · subst h0
      have h := hv n (by omega)
      rw [sm_one (k := 0) (by omega) (fun j hj hne => by rw [hup (n - j) j (by omega) (by omega), gm_zeroR]), gpow, gm_oneL] at h
      exact h
    · exact hup (n - k) k (by omega) (by omega)

/-! ### the statement -/
def dn (z : Int) : Nat := (andi z 15).toNat % 8 + 1
theorem dn_ok (z : Int) : 1 ≤ dn z ∧ dn z ≤ 8 := by unfold dn; omega
theorem dn_bind {ρ : Type} (z : Int) (k : Int → Option ρ) : (Option.bind (rmi (andi z (15 : Int)) (8 : Int)) fun a => Option.bind (ck ((1 : Int) + a)) k) = k (dn z : Int) := by
  obtain ⟨m, h1, h2⟩ := andi_mask z 15 (by omega)
  have e : (15 : Int) = ((15 : Nat) : Int) := rfl
  unfold dn
  rw [e, h2, rmi_of (by omega) (by omega), Option.bind_some, ck_of (by omega), Option.bind_some]
  congr 1
  omega
abbrev XR := Int × Int × List (BitVec 8) × Int
structure Rws (n m : Nat) (rows : Nat → Nat) : Prop where
  le : m ≤ n
  lt : ∀ t, t < m → rows t < 16
  inj : ∀ s, s < m → ∀ t, t < m → rows s = rows t → s = t
theorem rows_j0 {n m : Nat} (hn : 1 ≤ n ∧ n ≤ 8) {rows : Nat → Nat} (h : Rws n m rows) : m_law03_GfmatrixRows_j0 (n : Int) (((16 : Nat) : Int), (n : Int), tb (16 * n) (vaF n), 0) (tb m fun t => ((rows t : Nat) : Int)) = some true := by
  unfold m_law03_GfmatrixRows_j0
  rw [tb_len]
  by_cases hm : m < n
  · rw [if_pos (by omega), awake_ok]; rfl
  · rw [if_neg (by omega)]
    obtain rfl : m = n := by have := h.le; omega
    have hd : dims m := ⟨hn.1, by omega⟩
    simp only []
    rw [pick_ok (R := 16) (C := m) (n := m) ⟨by omega, by omega⟩ hd hd (vaF m) rows (fun t ht => h.lt t ht), Option.bind_some]
    simp only []
    have e : tb (m * m) (piF m (vaF m) rows) = tb (m * m) (ml m fun i k => gpow (BitVec.ofNat 8 (rows i)) k) := tb_ext fun t ht => by
      rw [piF, vaF, cell_div (mod_lt' ht), cell_mod (mod_lt' ht)]; rfl
    rw [e]
    rcases invert_res hd (fun i k => gpow (BitVec.ofNat 8 (rows i)) k) with ⟨R, h1, h2⟩ | ⟨h1, v, c, hc, hv, h2⟩
    · rw [h1, Option.bind_some]
      simp only [if_true, awake_ok, Option.bind_some]
    · have hz := roots_zero m (fun i => BitVec.ofNat 8 (rows i)) v (fun i hi j hj e => h.inj i hi j hj (by
        have h3 := h.lt i hi
        have h4 := h.lt j hj
        have := congrArg BitVec.toNat e
        simp only [BitVec.toNat_ofNat] at this
        omega)) h2 c hc
      rw [hv] at hz
      exact absurd hz (by decide)
theorem rows_l5 {m : Nat} (g : Nat → Int) (i z : Int) (r1 : List Int → Int → Option Bool) (hm : m ≤ 1000) (d : Nat) : ∀ (k q : Nat) (fr : Bool), k + d = m → d < q → (fr = true ↔ ∀ t, t < k → g t ≠ andi z 15) →
    ∃ b : Bool, (b = true ↔ ∀ t, t < m → g t ≠ andi z 15) ∧ m_law03_GfmatrixRows_l5 (tb m g) i z r1 q fr (k : Int) = m_law03_GfmatrixRows_j4 (tb m g) i z r1 b := by
  induction d with
  | zero =>
    intro k q fr hk hq hf
    obtain ⟨q, rfl⟩ : ∃ q', q = q' + 1 := ⟨q - 1, by omega⟩
    obtain rfl : k = m := by omega
    refine ⟨fr, hf, ?_⟩
    unfold m_law03_GfmatrixRows_l5
    rw [tb_len, if_neg (by omega)]
  | succ d ih =>
    intro k q fr hk hq hf
    obtain ⟨q, rfl⟩ : ∃ q', q = q' + 1 := ⟨q - 1, by omega⟩
    unfold m_law03_GfmatrixRows_l5
    rw [tb_len, if_pos (by omega)]
    by_cases h : fr = true
    · rw [if_pos h, idx_tb (by omega), Option.bind_some, ck_succ (by omega), Option.bind_some]
      refine ih (k + 1) q _ (by omega) (by omega) ?_
      rw [bne_iff_ne]
      constructor
      · intro h2 t ht
        by_cases e : t = k
        · subst e; exact h2
        · exact hf.1 h t (by omega)
      · intro h2; exact h2 k (by omega)
    · rw [if_neg h, ck_succ (by omega), Option.bind_some]
      refine ih (k + 1) q _ (by omega) (by omega) ⟨fun e => (by cases e), fun h2 => absurd (hf.2 fun t ht => h2 t (by omega)) h⟩
theorem rows_l1 {n : Nat} (hn : 1 ≤ n ∧ n ≤ 8) (x : List Int) (d : Nat) : ∀ (i q m : Nat) (rows : Nat → Nat), i + d = 60 → d < q → Rws n m rows →
    m_law03_GfmatrixRows_l1 x (n : Int) (((16 : Nat) : Int), (n : Int), tb (16 * n) (vaF n), 0) q (tb m fun t => ((rows t : Nat) : Int)) (i : Int) = some true := by
  induction d with
  | zero =>
    intro i q m rows hi hq h
    obtain ⟨q, rfl⟩ : ∃ q', q = q' + 1 := ⟨q - 1, by omega⟩
    unfold m_law03_GfmatrixRows_l1
    split
    · rw [if_neg (by omega)]; exact rows_j0 hn h
    · exact rows_j0 hn h
  | succ d ih =>
    intro i q m rows hi hq h
    obtain ⟨q, rfl⟩ : ∃ q', q = q' + 1 := ⟨q - 1, by omega⟩
    unfold m_law03_GfmatrixRows_l1
    split
    · rename_i hlt
      rw [if_pos (by omega), tb_len]
      by_cases hm : m < n
      · rw [if_pos (by omega), m_law03_GfmatrixRows_j2]
        obtain ⟨z, hz⟩ := idx_none (xs := x) (i := i) (by omega)
        rw [hz, Option.bind_some]
        obtain ⟨b, hb, e⟩ := rows_l5 (m := m) (fun t => ((rows t : Nat) : Int)) (i : Int) z (m_law03_GfmatrixRows_l1 x (n : Int) (((16 : Nat) : Int), (n : Int), tb (16 * n) (vaF n), 0) q) (by omega) m 0 forever true (by omega) (by unfold forever; omega) ⟨fun _ t ht => by omega, fun _ => rfl⟩
        refine e.trans ?_
        unfold m_law03_GfmatrixRows_j4
        by_cases h1 : b = true
        · obtain ⟨y, hy, ey⟩ := andi_mask z 15 (by omega)
          have ey' : andi z 15 = (y : Int) := ey
          have hnew := hb.1 h1
          rw [if_pos h1, ey']
          have e2 : (tb m fun t => ((rows t : Nat) : Int)) = tb m fun t => ((st rows m y t : Nat) : Int) := tb_ext fun t ht => by rw [st_ne (by omega)]
          rw [e2, apd_tb (by omega) (by omega) (by rw [st_same]), Option.bind_some, m_law03_GfmatrixRows_j3, ck_succ (by omega), Option.bind_some]
          refine ih (i + 1) q (m + 1) _ (by omega) (by omega) ⟨by omega, fun t ht => ?_, fun s hs t ht e3 => ?_⟩
          · by_cases e4 : t = m
            · subst e4; rw [st_same]; omega
            · rw [st_ne e4]; exact h.lt t (by omega)
          · by_cases e4 : s = m
            · by_cases e5 : t = m
              · omega
              · subst e4
                rw [st_same, st_ne e5] at e3
                exact absurd (by rw [ey', e3]) (hnew t (by omega))
            · by_cases e5 : t = m
              · subst e5
                rw [st_same, st_ne e4] at e3
                exact absurd (by rw [ey', ← e3]) (hnew s (by omega))
              · rw [st_ne e4, st_ne e5] at e3
                exact h.inj s (by omega) t (by omega) e3
        · rw [if_neg h1, m_law03_GfmatrixRows_j3, ck_succ (by omega), Option.bind_some]
          exact ih (i + 1) q m rows (by omega) (by omega) h
      · rw [if_neg (by omega)]; exact rows_j0 hn h
    · exact rows_j0 hn h
theorem ok_GfmatrixRows (z : Int) (x : List Int) : m_law03_GfmatrixRows z x = some true := by
  have hn := dn_ok z
  unfold m_law03_GfmatrixRows
  rw [dn_bind]
  have hv := vand_ok (R := 16) (C := dn z) ⟨by omega, by omega⟩ ⟨hn.1, by omega⟩
  have e : ((16 : Nat) : Int) = (16 : Int) := rfl
  rw [e] at hv
  rw [hv, Option.bind_some]
  exact rows_l1 hn x 60 0 forever 0 (fun _ => 0) (by omega) (by unfold forever; omega) ⟨by omega, fun t ht => by omega, fun s hs => by omega⟩
end Go.Proofs.Ytnkahhipochakaa
