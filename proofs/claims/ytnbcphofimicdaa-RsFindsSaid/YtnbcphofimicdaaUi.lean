/-
  The general part of what stands about gfmatrix (Qi). No conditions beyond what each theorem says.
-/
import Derived.Test.YtnbcphofimicdaaUh
namespace Go.Proofs.Ytnbcphofimicdaa
set_option linter.unusedVariables false
set_option linter.unusedSimpArgs false

/-! ### a row that is a multiple of another one -/
theorem tmod_range (z : Int) {R : Nat} (hR : 0 < R) : -(R : Int) < z.tmod R ∧ z.tmod R < R := by
  constructor
  · have := Int.lt_tmod_of_pos z (b := (R : Int)) (by omega); omega
  · exact Int.tmod_lt_of_pos z (by omega)
theorem wrap_ok {ρ : Type} (z : Int) {R : Nat} (hR : dims R) : ∃ x : Nat, x < R ∧ ∀ k : Int → Option ρ, (Option.bind (rmi z (R : Int)) fun a => Option.bind (ck (a + (R : Int))) fun b => Option.bind (rmi b (R : Int)) k) = k (x : Int) := by
  have h1 := hR.1
  have h2 := hR.2
  have ht := tmod_range z (R := R) (by omega)
  obtain ⟨m, hm⟩ := Int.eq_ofNat_of_zero_le (show 0 ≤ z.tmod (R : Int) + (R : Int) by omega)
  refine ⟨m % R, Nat.mod_lt _ (by omega), fun k => ?_⟩
  have e : rmi z (R : Int) = some (z.tmod R) := if_neg (by omega)
  rw [e, Option.bind_some, ck_of (by omega), Option.bind_some, hm, rmi_of (by omega) (by omega), Option.bind_some]
  congr 1
def mulS (A : Mx) (x y : Nat) (f : BitVec 8) (s : Nat) : Mx := fun r t => if r = y ∧ t < s then gm f (A x t) else A r t
theorem mult_no_inv {n x y : Nat} (hx : x < n) (hy : y < n) (hne : x ≠ y) (A R : Mx) (f : BitVec 8) (h : eqm n (mm n (mulS A x y f n) R) I1) : False := by
  have h1 := h y hy y hy
  have h2 := h x hx y hy
  rw [I1, if_pos rfl] at h1
  rw [I1, if_neg hne] at h2
  have e : mm n (mulS A x y f n) R y y = gm f (mm n (mulS A x y f n) R x y) := by
    unfold mm
    rw [sm_mulL]
    refine sm_ext fun j hj => ?_
    have e1 : mulS A x y f n y j = gm f (A x j) := if_pos ⟨rfl, hj⟩
    have e2 : mulS A x y f n x j = A x j := if_neg (fun e => hne e.1)
    rw [e1, e2, gm_assoc]
  rw [h1, h2, gm_zeroR] at e
  exact absurd e (by decide)
end Go.Proofs.Ytnbcphofimicdaa
