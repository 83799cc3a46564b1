/-
  Inversion: what Invert computes, in the program and in the reference: the inverse, or nothing and something that is not 0 goes to 0. Conditions: as each theorem says.
-/
import Derived.Test.YtnbcphofimicdaaQf
namespace Go.Proofs.Ytnbcphofimicdaa
set_option linter.unusedVariables false
set_option linter.unusedSimpArgs false

abbrev MR := Int × Int × List (BitVec 8) × Int
def sing : MR := (0, 0, [], 14)
def Ker (n : Nat) (M : Mx) : Prop := ∃ (v : Nat → BitVec 8) (c : Nat), c < n ∧ v c = 1#8 ∧ ∀ i, i < n → (sm n fun j => gm (M i j) (v j)) = 0#8
def Inverse (n : Nat) (M R : Mx) : Prop := eqm n (mm n R M) I1 ∧ eqm n (mm n M R) I1
def InvRes (n : Nat) (M : Mx) (o : Option MR) : Prop := (∃ R, o = some ((n : Int), (n : Int), tb (n * n) (ml n R), 0) ∧ Inverse n M R) ∨ (o = some sing ∧ Ker n M)
theorem Ker.not {n : Nat} {M R : Mx} (h : Ker n M) (h' : Inverse n M R) : False := by
  obtain ⟨v, c, hc, h1, h2⟩ := h
  have := ker_zero h'.1 h2 c hc
  rw [h1] at this
  exact absurd this (by decide)

/-! ### steps on states -/
theorem Gs.add {n i k : Nat} {M L R : Mx} (h : Gs n M L R) (c : BitVec 8) (hk : k < n) (hne : i ≠ k) : Gs n M (addR L i k c) (addR R i k c) :=
  Gs.op (ρ := fun A => addR A i k c) (ρ' := fun A => addR A i k c) h (op_add c hk hne)
theorem Gs.scl {n k : Nat} {M L R : Mx} (h : Gs n M L R) {c : BitVec 8} (hc : c ≠ 0#8) : Gs n M (sclR L k c) (sclR R k c) :=
  Gs.op (ρ := fun A => sclR A k c) (ρ' := fun A => sclR A k (ginv c)) h (op_scl hc)
theorem Gs.swp {n i k : Nat} {M L R : Mx} (h : Gs n M L R) (hi : i < n) (hk : k < n) : Gs n M (swpR L i k) (swpR R i k) :=
  Gs.op (ρ := fun A => swpR A i k) (ρ' := fun A => swpR A i k) h (op_swp hi hk)
theorem units_add {n c j : Nat} {L : Mx} {f : BitVec 8} (hc : c < n) (hu : units n c L) : units n c (addR L j c f) := fun i hi k hk => by
  unfold addR
  split
  · rw [hu c hc k hk, I1, if_neg (by omega), gm_zeroR, BitVec.xor_zero]; exact hu i hi k hk
  · exact hu i hi k hk
theorem units_scl {n c : Nat} {L : Mx} {f : BitVec 8} (hc : c < n) (hu : units n c L) : units n c (sclR L c f) := fun i hi k hk => by
  unfold sclR
  split
  · rename_i h; subst h; rw [hu i hi k hk, I1, if_neg (by omega), gm_zeroR]
  · exact hu i hi k hk
theorem units_swp {n c i : Nat} {L : Mx} (hc : c < n) (hi : i < n) (hci : c ≤ i) (hu : units n c L) : units n c (swpR L i c) := fun r hr k hk => by
  unfold swpR
  split
  · rename_i h; subst h; rw [hu c hc k hk, I1, I1, if_neg (by omega), if_neg (by omega)]
  · split
    · rename_i h; subst h; rw [hu i hi k hk, I1, I1, if_neg (by omega), if_neg (by omega)]
    · exact hu r hr k hk
/-- row c plus a row below -/
theorem units_low {n c i : Nat} {L : Mx} {f : BitVec 8} (hi : i < n) (hci : c ≤ i) (hu : units n c L) : units n c (addR L c i f) := fun r hr k hk => by
  unfold addR
  split
  · rw [hu i hi k hk, I1, if_neg (by omega), gm_zeroR, BitVec.xor_zero]; exact hu r hr k hk
  · exact hu r hr k hk
theorem units_next {n c : Nat} {L : Mx} (hu : units n c L) (h1 : L c c = 1#8) (h0 : ∀ r, r < n → r ≠ c → L r c = 0#8) : units n (c + 1) L := fun i hi k hk => by
  by_cases h : k < c
  · exact hu i hi k h
  · obtain rfl : k = c := by omega
    rw [I1]
    by_cases e : i = k
    · subst e; rw [if_pos rfl]; exact h1
    · rw [if_neg e]; exact h0 i hi e
theorem swp_pivot (L : Mx) (i c : Nat) : swpR L i c c c = L i c := by
  unfold swpR
  by_cases h : c = i
  · subst h; rw [if_pos rfl]
  · rw [if_neg h, if_pos rfl]

/-! ### the program -/
section
variable {n c : Nat} (M : Mx)
theorem inv_l8 (hn : n ≤ 16) (hc : c < n) (z : List (BitVec 8)) (r2 : List (BitVec 8) → List (BitVec 8) → Int → Option MR) (d : Nat) : ∀ (j q : Nat) (L R : Mx), j + d = n → d < q → Gs n M L R → units n c L → L c c = 1#8 → (∀ r, r < j → r ≠ c → L r c = 0#8) →
    ∃ L' R', Gs n M L' R' ∧ units n (c + 1) L' ∧ m_gfmatrix_Invert_l8 (n : Int) (n : Int) ((n : Int), (n : Int), z, 0) (c : Int) r2 q (tb (n * n) (ml n L)) (tb (n * n) (ml n R)) (j : Int) = r2 (tb (n * n) (ml n L')) (tb (n * n) (ml n R')) ((c + 1 : Nat) : Int) := by
  induction d with
  | zero =>
    intro j q L R hj hq hg hu h1 h0
    obtain ⟨q, rfl⟩ : ∃ q', q = q' + 1 := ⟨q - 1, by omega⟩
    obtain rfl : j = n := by omega
    refine ⟨L, R, hg, units_next hu h1 h0, ?_⟩
    unfold m_gfmatrix_Invert_l8
    rw [if_neg (by omega), m_gfmatrix_Invert_j7, m_gfmatrix_Invert_j3, ck_succ (by omega), Option.bind_some]
  | succ d ih =>
    intro j q L R hj hq hg hu h1 h0
    obtain ⟨q, rfl⟩ : ∃ q', q = q' + 1 := ⟨q - 1, by omega⟩
    have hjn : j < n := by omega
    unfold m_gfmatrix_Invert_l8
    rw [if_pos (by omega), at_ok hn (by omega) (by omega) (cell_lt hjn hc), Option.bind_some, ml_cell _ _ hc]
    by_cases e : j = c
    · rw [if_pos (by omega), ck_succ (by omega), Option.bind_some]
      exact ih (j + 1) q L R (by omega) (by omega) hg hu h1 (fun r hr hne => h0 r (by omega) hne)
    · rw [if_neg (by omega)]
      simp only []
      rw [row_ok hn (by omega), Option.bind_some]
      simp only []
      rw [slc_ml hjn, Option.bind_some, row_ok hn (by omega), Option.bind_some]
      simp only []
      rw [slc_ml hc, Option.bind_some, add_ok hn hjn hc e, Option.bind_some]
      rw [Option.bind_some, slc_ml hjn, Option.bind_some, Option.bind_some, slc_ml hc, Option.bind_some, add_ok hn hjn hc e, Option.bind_some, ck_succ (by omega), Option.bind_some]
      refine ih (j + 1) q (addR L j c (L j c)) (addR R j c (L j c)) (by omega) (by omega) (hg.add (L j c) hc e) (units_add hc hu) ?_ ?_
      · unfold addR; rw [if_neg (fun h => e h.symm)]; exact h1
      · intro r hr hne
        unfold addR
        by_cases h : r = j
        · subst h; rw [if_pos rfl, h1, gm_oneR, BitVec.xor_self]
        · rw [if_neg h]; exact h0 r (by omega) hne
theorem inv_l5 (hn : n ≤ 16) (hc : c < n) (z : List (BitVec 8)) (r2 : List (BitVec 8) → List (BitVec 8) → Int → Option MR) (L R : Mx) (hg : Gs n M L R) (hu : units n c L) (d : Nat) : ∀ (i q : Nat), i + d = n → d < q → c ≤ i → (∀ r, c ≤ r → r < i → L r c = 0#8) →
    (∃ L' R', Gs n M L' R' ∧ units n (c + 1) L' ∧ m_gfmatrix_Invert_l5 (n : Int) (n : Int) ((n : Int), (n : Int), z, 0) (tb (n * n) (ml n L)) (tb (n * n) (ml n R)) (c : Int) r2 q (i : Int) = r2 (tb (n * n) (ml n L')) (tb (n * n) (ml n R')) ((c + 1 : Nat) : Int)) ∨
    (m_gfmatrix_Invert_l5 (n : Int) (n : Int) ((n : Int), (n : Int), z, 0) (tb (n * n) (ml n L)) (tb (n * n) (ml n R)) (c : Int) r2 q (i : Int) = some sing ∧ Ker n M) := by
  induction d with
  | zero =>
    intro i q hi hq hci h0
    obtain ⟨q, rfl⟩ : ∃ q', q = q' + 1 := ⟨q - 1, by omega⟩
    obtain rfl : i = n := by omega
    right
    unfold m_gfmatrix_Invert_l5
    rw [if_neg (by omega)]
    obtain ⟨v, h1, h2⟩ := stuck_ker hc hu h0
    exact ⟨rfl, v, c, hc, h1, hg.ker h2⟩
  | succ d ih =>
    intro i q hi hq hci h0
    obtain ⟨q, rfl⟩ : ∃ q', q = q' + 1 := ⟨q - 1, by omega⟩
    have hin : i < n := by omega
    unfold m_gfmatrix_Invert_l5
    rw [if_pos (by omega), at_ok hn (by omega) (by omega) (cell_lt hin hc), Option.bind_some, ml_cell _ _ hc]
    by_cases e : L i c = 0#8
    · rw [e, gf_inv0, Option.bind_some, if_neg (by decide), m_gfmatrix_Invert_j6, ck_succ (by omega), Option.bind_some]
      exact ih (i + 1) q (by omega) (by omega) (by omega) (fun r hr hr2 => by
        by_cases h : r = i
        · rw [h]; exact e
        · exact h0 r hr (by omega))
    · left
      rw [gf_inv e, Option.bind_some, if_pos rfl]
      simp only []
      rw [swap_ok hn hin hc, Option.bind_some, swap_ok hn hin hc, Option.bind_some, row_ok hn (by omega), Option.bind_some]
      simp only []
      rw [slc_ml hc, Option.bind_some, scale_ok hn hc, Option.bind_some, Option.bind_some, slc_ml hc, Option.bind_some, scale_ok hn hc, Option.bind_some]
      refine inv_l8 M hn hc z r2 n 0 forever (sclR (swpR L i c) c (ginv (L i c))) (sclR (swpR R i c) c (ginv (L i c))) (by omega) (by unfold forever; omega) ((hg.swp hin hc).scl (ginv_ne e)) (units_scl hc (units_swp hc hin hci hu)) ?_ (fun r hr => by omega)
      unfold sclR
      rw [if_pos rfl, swp_pivot, gm_comm, ginv_mul e]
theorem inv_l2 (hn : n ≤ 16) (z : List (BitVec 8)) (d : Nat) : ∀ (c q : Nat) (L R : Mx), c + d = n → d < q → Gs n M L R → units n c L → InvRes n M (m_gfmatrix_Invert_l2 (n : Int) (n : Int) ((n : Int), (n : Int), z, 0) q (tb (n * n) (ml n L)) (tb (n * n) (ml n R)) (c : Int)) := by
  induction d with
  | zero =>
    intro c q L R hc hq hg hu
    obtain ⟨q, rfl⟩ : ∃ q', q = q' + 1 := ⟨q - 1, by omega⟩
    obtain rfl : c = n := by omega
    unfold m_gfmatrix_Invert_l2
    rw [if_neg (by omega), m_gfmatrix_Invert_j1]
    exact .inl ⟨R, rfl, hg.done (units_all hu)⟩
  | succ d ih =>
    intro c q L R hc hq hg hu
    obtain ⟨q, rfl⟩ : ∃ q', q = q' + 1 := ⟨q - 1, by omega⟩
    unfold m_gfmatrix_Invert_l2
    rw [if_pos (by omega)]
    have hcn : c < n := by omega
    rcases inv_l5 M hn hcn z (m_gfmatrix_Invert_l2 (n : Int) (n : Int) ((n : Int), (n : Int), z, 0) q) L R hg hu (n - c) c forever (by omega) (by unfold forever; omega) (by omega) (fun r hr hr2 => by omega) with ⟨L', R', h1, h2, h3⟩ | ⟨h1, h2⟩
    · rw [h3]; exact ih (c + 1) q L' R' (by omega) (by omega) h1 h2
    · exact .inr ⟨h1, h2⟩
end
theorem idF_ml (n : Nat) : idF n = ml n I1 := rfl
theorem clone_tb {n : Nat} (F : Nat → BitVec 8) (hn : n ≤ 100000) : m_slices_Clone_byte_byte (tb n F) = some (tb n F) := by
  unfold m_slices_Clone_byte_byte
  rw [apd1_of (by rw [tb_len]; simp; omega), Option.bind_some, List.nil_append]
theorem invert_res {n : Nat} (hn : dims n) (M : Mx) : InvRes n M (m_gfmatrix_Invert (n : Int) (n : Int) (tb (n * n) (ml n M))) := by
  have h2 := mul16 hn.2 hn.2
  have h3 := hn.2
  unfold m_gfmatrix_Invert
  rw [valid_ok, Option.bind_some, if_pos (decide_eq_true (nat_vd ⟨hn.1, hn.2, hn.1, hn.2⟩)), if_pos rfl, m_gfmatrix_Invert_j0, clone_tb _ (by omega), Option.bind_some, ident_ok hn, Option.bind_some]
  exact inv_l2 M hn.2 (tb (n * n) (idF n)) n 0 forever M I1 (by omega) (by unfold forever; omega) (Gs.start M) (fun i hi k hk => by omega)

/-! ### the reference -/
section
variable {n c : Nat} (M : Mx)
theorem rinv_l7 (hn : n ≤ 16) (hc : c < n) (r2 : List (BitVec 8) → List (BitVec 8) → Int → Option MR) (d : Nat) : ∀ (j q : Nat) (L R : Mx), j + d = n → d < q → Gs n M L R → units n c L → L c c = 1#8 → (∀ r, r < j → r ≠ c → L r c = 0#8) →
    ∃ L' R', Gs n M L' R' ∧ units n (c + 1) L' ∧ m_r03_Invert_l7 (n : Int) (c : Int) r2 q (tb (n * n) (ml n L)) (tb (n * n) (ml n R)) (j : Int) = r2 (tb (n * n) (ml n L')) (tb (n * n) (ml n R')) ((c + 1 : Nat) : Int) := by
  induction d with
  | zero =>
    intro j q L R hj hq hg hu h1 h0
    obtain ⟨q, rfl⟩ : ∃ q', q = q' + 1 := ⟨q - 1, by omega⟩
    obtain rfl : j = n := by omega
    refine ⟨L, R, hg, units_next hu h1 h0, ?_⟩
    unfold m_r03_Invert_l7
    rw [if_neg (by omega), m_r03_Invert_j3, ck_succ (by omega), Option.bind_some]
  | succ d ih =>
    intro j q L R hj hq hg hu h1 h0
    obtain ⟨q, rfl⟩ : ∃ q', q = q' + 1 := ⟨q - 1, by omega⟩
    have hjn : j < n := by omega
    have m1 := mul16 (show j ≤ 16 by omega) hn
    unfold m_r03_Invert_l7
    rw [if_pos (by omega), ck_mul (by omega), Option.bind_some, ck_add (by omega), Option.bind_some, idx_tb (cell_lt hjn hc), Option.bind_some, ml_cell _ _ hc]
    by_cases e : j = c
    · rw [if_pos (by omega), ck_succ (by omega), Option.bind_some]
      exact ih (j + 1) q L R (by omega) (by omega) hg hu h1 (fun r hr hne => h0 r (by omega) hne)
    · rw [if_neg (by omega)]
      by_cases e0 : L j c = 0#8
      · rw [if_pos e0, ck_succ (by omega), Option.bind_some]
        exact ih (j + 1) q L R (by omega) (by omega) hg hu h1 (fun r hr hne => by
          by_cases h : r = j
          · rw [h]; exact e0
          · exact h0 r (by omega) hne)
      · rw [if_neg e0, radd_ok hn hjn hc, Option.bind_some, radd_ok hn hjn hc, Option.bind_some, ck_succ (by omega), Option.bind_some]
        refine ih (j + 1) q (addR L j c (L j c)) (addR R j c (L j c)) (by omega) (by omega) (hg.add (L j c) hc e) (units_add hc hu) ?_ ?_
        · unfold addR; rw [if_neg (fun h => e h.symm)]; exact h1
        · intro r hr hne
          unfold addR
          by_cases h : r = j
          · subst h; rw [if_pos rfl, h1, gm_oneR, BitVec.xor_self]
          · rw [if_neg h]; exact h0 r (by omega) hne
theorem rinv_j4 (hn : n ≤ 16) (hc : c < n) (r2 : List (BitVec 8) → List (BitVec 8) → Int → Option MR) (L R : Mx) (hg : Gs n M L R) (hu : units n c L) (hp : L c c ≠ 0#8) :
    ∃ L' R', Gs n M L' R' ∧ units n (c + 1) L' ∧ m_r03_Invert_j4 (n : Int) (c : Int) r2 (tb (n * n) (ml n L)) (tb (n * n) (ml n R)) = r2 (tb (n * n) (ml n L')) (tb (n * n) (ml n R')) ((c + 1 : Nat) : Int) := by
  have m1 := mul16 (show c ≤ 16 by omega) hn
  unfold m_r03_Invert_j4
  rw [ck_mul (by omega), Option.bind_some, ck_add (by omega), Option.bind_some, idx_tb (cell_lt hc hc), Option.bind_some, ml_cell _ _ hc, ref_inv hp, Option.bind_some]
  simp only []
  rw [radd_ok hn hc hc, Option.bind_some, radd_ok hn hc hc, Option.bind_some, addR_self, addR_self]
  refine rinv_l7 M hn hc r2 n 0 forever (sclR L c (ginv (L c c))) (sclR R c (ginv (L c c))) (by omega) (by unfold forever; omega) (hg.scl (ginv_ne hp)) (units_scl hc hu) ?_ (fun r hr => by omega)
  unfold sclR
  rw [if_pos rfl, gm_comm, ginv_mul hp]
theorem rinv_l6 (hn : n ≤ 16) (hc : c < n) (r2 : List (BitVec 8) → List (BitVec 8) → Int → Option MR) (L R : Mx) (hg : Gs n M L R) (hu : units n c L) (hz : L c c = 0#8) (d : Nat) : ∀ (i q : Nat), i + d = n → d < q → c < i → (∀ r, c ≤ r → r < i → L r c = 0#8) →
    (∃ L' R', Gs n M L' R' ∧ units n (c + 1) L' ∧ m_r03_Invert_l6 (n : Int) (tb (n * n) (ml n L)) (tb (n * n) (ml n R)) (c : Int) r2 q (i : Int) = r2 (tb (n * n) (ml n L')) (tb (n * n) (ml n R')) ((c + 1 : Nat) : Int)) ∨
    (m_r03_Invert_l6 (n : Int) (tb (n * n) (ml n L)) (tb (n * n) (ml n R)) (c : Int) r2 q (i : Int) = some sing ∧ Ker n M) := by
  induction d with
  | zero =>
    intro i q hi hq hci h0
    obtain ⟨q, rfl⟩ : ∃ q', q = q' + 1 := ⟨q - 1, by omega⟩
    obtain rfl : i = n := by omega
    right
    unfold m_r03_Invert_l6
    rw [if_neg (by omega), m_r03_Invert_j5, if_pos rfl]
    obtain ⟨v, h1, h2⟩ := stuck_ker hc hu h0
    exact ⟨rfl, v, c, hc, h1, hg.ker h2⟩
  | succ d ih =>
    intro i q hi hq hci h0
    obtain ⟨q, rfl⟩ : ∃ q', q = q' + 1 := ⟨q - 1, by omega⟩
    have hin : i < n := by omega
    have m1 := mul16 (show i ≤ 16 by omega) hn
    unfold m_r03_Invert_l6
    rw [if_pos (by omega), ck_mul (by omega), Option.bind_some, ck_add (by omega), Option.bind_some, idx_tb (cell_lt hin hc), Option.bind_some, ml_cell _ _ hc]
    by_cases e : L i c = 0#8
    · rw [if_pos e, ck_succ (by omega), Option.bind_some]
      exact ih (i + 1) q (by omega) (by omega) (by omega) (fun r hr hr2 => by
        by_cases h : r = i
        · rw [h]; exact e
        · exact h0 r hr (by omega))
    · left
      rw [if_neg e, m_r03_Invert_j5, if_neg (by omega), radd_ok hn hc hin, Option.bind_some, radd_ok hn hc hin, Option.bind_some]
      refine rinv_j4 M hn hc r2 (addR L c i 1#8) (addR R c i 1#8) (hg.add 1#8 hin (by omega)) (units_low hin (by omega) hu) ?_
      unfold addR
      rw [if_pos rfl, hz, gm_oneL, BitVec.zero_xor]
      exact e
theorem rinv_l2 (hn : n ≤ 16) (z : List (BitVec 8)) (d : Nat) : ∀ (c q : Nat) (L R : Mx), c + d = n → d < q → Gs n M L R → units n c L → InvRes n M (m_r03_Invert_l2 (n : Int) ((n : Int), (n : Int), z, 0) q (tb (n * n) (ml n L)) (tb (n * n) (ml n R)) (c : Int)) := by
  induction d with
  | zero =>
    intro c q L R hc hq hg hu
    obtain ⟨q, rfl⟩ : ∃ q', q = q' + 1 := ⟨q - 1, by omega⟩
    obtain rfl : c = n := by omega
    unfold m_r03_Invert_l2
    rw [if_neg (by omega), m_r03_Invert_j1]
    exact .inl ⟨R, rfl, hg.done (units_all hu)⟩
  | succ d ih =>
    intro c q L R hc hq hg hu
    obtain ⟨q, rfl⟩ : ∃ q', q = q' + 1 := ⟨q - 1, by omega⟩
    have hcn : c < n := by omega
    have m1 := mul16 (show c ≤ 16 by omega) hn
    unfold m_r03_Invert_l2
    rw [if_pos (by omega), ck_mul (by omega), Option.bind_some, ck_add (by omega), Option.bind_some, idx_tb (cell_lt hcn hcn), Option.bind_some, ml_cell _ _ hcn]
    by_cases e : L c c = 0#8
    · rw [if_pos e, ck_succ (by omega), Option.bind_some]
      rcases rinv_l6 M hn hcn (m_r03_Invert_l2 (n : Int) ((n : Int), (n : Int), z, 0) q) L R hg hu e (n - (c + 1)) (c + 1) forever (by omega) (by unfold forever; omega) (by omega) (fun r hr hr2 => by
        obtain rfl : r = c := by omega
        exact e) with ⟨L', R', h1, h2, h3⟩ | ⟨h1, h2⟩
      · rw [h3]; exact ih (c + 1) q L' R' (by omega) (by omega) h1 h2
      · exact .inr ⟨h1, h2⟩
    · rw [if_neg e]
      obtain ⟨L', R', h1, h2, h3⟩ := rinv_j4 M hn hcn (m_r03_Invert_l2 (n : Int) ((n : Int), (n : Int), z, 0) q) L R hg hu e
      rw [h3]; exact ih (c + 1) q L' R' (by omega) (by omega) h1 h2
end
theorem rinvert_res {n : Nat} (hn : dims n) (M : Mx) : InvRes n M (m_r03_Invert (n : Int) (n : Int) (tb (n * n) (ml n M))) := by
  have h2 := mul16 hn.2 hn.2
  have h3 := hn.2
  unfold m_r03_Invert
  rw [rvalid_ok, Option.bind_some, if_pos (decide_eq_true (nat_vd ⟨hn.1, hn.2, hn.1, hn.2⟩)), if_pos rfl, m_r03_Invert_j0, apd1_of (by rw [tb_len]; simp; omega), Option.bind_some, List.nil_append, rident_ok hn, Option.bind_some]
  exact rinv_l2 M hn.2 (tb (n * n) (idF n)) n 0 forever M I1 (by omega) (by unfold forever; omega) (Gs.start M) (fun i hi k hk => by omega)
theorem invert_eq (a b : Int) (x : List (BitVec 8)) : ∃ r, m_gfmatrix_Invert a b x = some r ∧ m_r03_Invert a b x = some r := by
  by_cases h : vd a b x ∧ a = b
  · obtain ⟨h, rfl⟩ := h
    obtain ⟨n, n', F, rfl, e, r1, r2, c1, c2, rfl⟩ := vd_nat h
    obtain rfl : n = n' := by omega
    rw [ml_of]
    have hn : dims n := ⟨r1, r2⟩
    rcases invert_res hn (fun i k => F (i * n + k)) with ⟨R, h1, h2⟩ | ⟨h1, h2⟩
    · rcases rinvert_res hn (fun i k => F (i * n + k)) with ⟨R', h3, h4⟩ | ⟨h3, h4⟩
      · refine ⟨_, h1, ?_⟩
        rw [h3, tb_ml (inv_uniq h2.1 h4.2)]
      · exact (h4.not h2).elim
    · rcases rinvert_res hn (fun i k => F (i * n + k)) with ⟨R', h3, h4⟩ | ⟨h3, h4⟩
      · exact (h2.not h4).elim
      · exact ⟨_, h1, h3⟩
  · refine ⟨bad, ?_, ?_⟩
    · unfold m_gfmatrix_Invert
      rw [valid_ok, Option.bind_some]
      by_cases h1 : vd a b x
      · rw [if_pos (decide_eq_true h1), if_neg (fun e => h ⟨h1, e⟩)]; rfl
      · rw [if_neg (by simpa using h1)]; rfl
    · unfold m_r03_Invert
      rw [rvalid_ok, Option.bind_some]
      by_cases h1 : vd a b x
      · rw [if_pos (decide_eq_true h1), if_neg (fun e => h ⟨h1, e⟩)]; rfl
      · rw [if_neg (by simpa using h1)]; rfl
end Go.Proofs.Ytnbcphofimicdaa
