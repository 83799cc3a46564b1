/-
  The statement GfmatrixSingular: a matrix of which a row is a multiple of another one. No conditions.
-/
import Derived.Test.YtnkahhipochakaaQh
import Derived.Test.YtnkahhipochakaaMde4
namespace Go.Proofs.Ytnkahhipochakaa
set_option linter.unusedVariables false
set_option linter.unusedSimpArgs false

/-! ### a row that is a multiple of another one -/
theorem tmod_range (z : Int) {R : Nat} (hR : 0 < R) : -(R : Int) < z.tmod R ∧ z.tmod R < R := by
  constructor
  · have := Int.lt_tmod_of_pos z (b := (R : Int)) (by omega); omega
  · exact Int.tmod_lt_of_pos z (by omega)
theorem wrap_ok {ρ : Type} (z : Int) {R : Nat} (hR : dims R) : ∃ x : Nat, x < R ∧ ∀ k : Int → Option ρ, (Option.bind (rmi z (R : Int)) fun a => Option.bind (ck (a + (R : Int))) fun b => Option.bind (rmi b (R : Int)) k) = k (x : Int) := by
  have h1 := hR.1
  have h2 := hR.2
  have ht := tmod_range z (R := R) (by omega)
  obtain ⟨m, hm⟩ := Int.eq_ofNat_of_zero_le (show 0 ≤ z.tmod (R : Int) + (R : Int) by omega)
  refine ⟨m % R, Nat.mod_lt _ (by omega), fun k => ?_⟩
  have e : rmi z (R : Int) = some (z.tmod R) := if_neg (by omega)
  rw [e, Option.bind_some, ck_of (by omega), Option.bind_some, hm, rmi_of (by omega) (by omega), Option.bind_some]
  congr 1
def mulS (A : Mx) (x y : Nat) (f : BitVec 8) (s : Nat) : Mx := fun r t => if r = y ∧ t < s then gm f (A x t) else A r t
theorem sing_loop {n x y : Nat} (hn : dims n) (hx : x < n) (hy : y < n) (hne : x ≠ y) (A : Mx) (f : BitVec 8) (zz : List (BitVec 8)) (d : Nat) : ∀ (s q : Nat), s + d = n → d < q →
    m_law03_GfmatrixSingular_l1 f ((n : Int), (n : Int), zz) (x : Int) (y : Int) q (tb (n * n) (ml n (mulS A x y f s))) (s : Int) = m_law03_GfmatrixSingular_j0 ((n : Int), (n : Int), zz) (tb (n * n) (ml n (mulS A x y f n))) := by
  have hn2 := hn.2
  have mx := mul16 (show x ≤ 16 by omega) hn2
  have my := mul16 (show y ≤ 16 by omega) hn2
  induction d with
  | zero =>
    intro s q hs hq
    obtain ⟨q, rfl⟩ : ∃ q', q = q' + 1 := ⟨q - 1, by omega⟩
    obtain rfl : s = n := by omega
    unfold m_law03_GfmatrixSingular_l1
    rw [if_neg (by simp)]
  | succ d ih =>
    intro s q hs hq
    obtain ⟨q, rfl⟩ : ∃ q', q = q' + 1 := ⟨q - 1, by omega⟩
    have hsn : s < n := by omega
    have e0 : mulS A x y f s x s = A x s := if_neg (fun e => hne e.1)
    unfold m_law03_GfmatrixSingular_l1
    rw [if_pos (by simp only []; omega)]
    simp only []
    rw [ck_mul (a := y) (by omega), Option.bind_some, ck_add (by omega), Option.bind_some, ck_mul (a := x) (by omega), Option.bind_some, ck_add (by omega), Option.bind_some, idx_tb (cell_lt hx hsn), Option.bind_some, ml_cell _ _ hsn, e0, gf_mul, Option.bind_some, idx_tb (cell_lt hy hsn), Option.bind_some, upd_tb (cell_lt hy hsn), Option.bind_some, ck_succ (by omega), Option.bind_some]
    rw [upd_ml (B := mulS A x y f (s + 1)) hsn (fun r hr t ht => ?_)]
    · exact ih (s + 1) q (by omega) (by omega)
    · unfold mulS
      by_cases h : r = y
      · subst h
        by_cases h2 : t = s
        · subst h2; rw [if_pos ⟨rfl, by omega⟩, if_pos ⟨rfl, rfl⟩]
        · rw [if_neg (c := r = r ∧ t = s) (fun e => h2 e.2)]
          by_cases h3 : t < s
          · rw [if_pos ⟨rfl, by omega⟩, if_pos ⟨rfl, h3⟩]
          · rw [if_neg (fun e => by omega), if_neg (fun e => h3 e.2)]
      · rw [if_neg (fun e => h e.1), if_neg (fun e => h e.1), if_neg (fun e => h e.1)]
theorem mult_no_inv {n x y : Nat} (hx : x < n) (hy : y < n) (hne : x ≠ y) (A R : Mx) (f : BitVec 8) (h : eqm n (mm n (mulS A x y f n) R) I1) : False := by
  have h1 := h y hy y hy
  have h2 := h x hx y hy
  rw [I1, if_pos rfl] at h1
  rw [I1, if_neg hne] at h2
  have e : mm n (mulS A x y f n) R y y = gm f (mm n (mulS A x y f n) R x y) := by
    unfold mm
    rw [sm_mulL]
    refine sm_ext fun j hj => ?_
    have e1 : mulS A x y f n y j = gm f (A x j) := if_pos ⟨rfl, hj⟩
    have e2 : mulS A x y f n x j = A x j := if_neg (fun e => hne e.1)
    rw [e1, e2, gm_assoc]
  rw [h1, h2, gm_zeroR] at e
  exact absurd e (by decide)
theorem ok_GfmatrixSingular (z : Int) (b : List (BitVec 8)) (i k : Int) (f : BitVec 8) : m_law03_GfmatrixSingular z b i k f = some true := by
  obtain ⟨M, hM⟩ := made_ok z z b
  have hn := dm_dims z
  obtain ⟨x, hx, kx⟩ := wrap_ok (ρ := Bool) i hn
  obtain ⟨y, hy, ky⟩ := wrap_ok (ρ := Bool) k hn
  have hn2 := hn.2
  have h2 := mul16 hn2 hn2
  unfold m_law03_GfmatrixSingular
  rw [hM, Option.bind_some]
  simp only []
  by_cases hs : ((dm z : Nat) : Int) < 2
  · rw [if_pos hs, awake_ok]; rfl
  · rw [if_neg hs, kx, ky]
    by_cases e : (x : Int) = (y : Int)
    · rw [if_pos e, awake_ok]; rfl
    · rw [if_neg e, apd1_of (by rw [tb_len]; simp; omega), Option.bind_some, List.nil_append]
      have hne : x ≠ y := fun h => e (by rw [h])
      have := sing_loop hn hx hy hne M f (tb (dm z * dm z) (ml (dm z) M)) (dm z) 0 forever (by omega) (by unfold forever; omega)
      have e0 : mulS M x y f 0 = M := by funext r t; exact if_neg (by omega)
      rw [e0] at this
      refine this.trans ?_
      unfold m_law03_GfmatrixSingular_j0
      simp only []
      rcases invert_res hn (mulS M x y f (dm z)) with ⟨R, h3, h4⟩ | ⟨h3, h4⟩
      · exact (mult_no_inv hx hy hne M R f h4.2).elim
      · rw [h3, Option.bind_some]
        simp only [sing]
        rw [if_pos trivial, awake_ok]; rfl

end Go.Proofs.Ytnkahhipochakaa
