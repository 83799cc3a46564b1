/-
  The code of rs: its matrix, in the program and in the reference: the first rows are the identity, and any four rows are independent. No conditions.
-/
import Derived.Test.YtnbcphofimicdaaUj
import Derived.Test.YtnbcphofimicdaaUk
import Derived.Test.YtnbcphofimicdaaMde
namespace Go.Proofs.Ytnbcphofimicdaa
set_option linter.unusedVariables false
set_option linter.unusedSimpArgs false

structure CodeOk (C : Mx) : Prop where
  idn : ∀ i, i < 4 → ∀ k, k < 4 → C i k = I1 i k
  mds : ∀ (p : Nat → Nat), (∀ i, i < 4 → p i < 6) → (∀ i, i < 4 → ∀ j, j < 4 → p i = p j → i = j) → ∀ v : Nat → BitVec 8, (∀ i, i < 4 → (sm 4 fun k => gm (C (p i) k) (v k)) = 0#8) → ∀ k, k < 4 → v k = 0#8

theorem ofNat8_inj {i j : Nat} (hi : i < 256) (hj : j < 256) (h : BitVec.ofNat 8 i = BitVec.ofNat 8 j) : i = j := by
  have := congrArg BitVec.toNat h
  simp at this; omega
def Vd : Mx := fun i k => gpow (BitVec.ofNat 8 i) k
theorem vaF_ml (C : Nat) : vaF C = ml C Vd := rfl
theorem pick_ml {n : Nat} (A : Mx) (rows : Nat → Nat) {m : Nat} : tb (m * n) (piF n (ml n A) rows) = tb (m * n) (ml n fun i k => A (rows i) k) := tb_ext fun t ht => by
  unfold piF
  rw [ml_cell A _ (mod_lt' ht), ml]
theorem vd_ker (p : Nat → Nat) (hp : ∀ i, i < 4 → p i < 6) (hi : ∀ i, i < 4 → ∀ j, j < 4 → p i = p j → i = j) (v : Nat → BitVec 8) (hv : ∀ i, i < 4 → (sm 4 fun k => gm (Vd (p i) k) (v k)) = 0#8) : ∀ k, k < 4 → v k = 0#8 :=
  roots_zero 4 (fun i => BitVec.ofNat 8 (p i)) v (fun i h j h' e => hi i h j h' (ofNat8_inj (by have := hp i h; omega) (by have := hp j h'; omega) e)) hv
theorem one_ne_zero8 : (1#8 : BitVec 8) ≠ 0#8 := by decide
theorem sm_mm (n : Nat) (A R : Mx) (v : Nat → BitVec 8) (i : Nat) : (sm n fun k => gm (mm n A R i k) (v k)) = sm n fun j => gm (A i j) (sm n fun k => gm (R j k) (v k)) := by
  have e1 : (sm n fun k => gm (mm n A R i k) (v k)) = sm n fun k => sm n fun j => gm (A i j) (gm (R j k) (v k)) := sm_ext fun k hk => by
    rw [mm, sm_mulR]; exact sm_ext fun j hj => gm_assoc ..
  rw [e1, sm_swap]
  exact sm_ext fun j hj => (sm_mulL _ _ _).symm
theorem sm_I1 (n : Nat) (v : Nat → BitVec 8) {i : Nat} (hi : i < n) : (sm n fun k => gm (I1 i k) (v k)) = v i := by
  rw [sm_one hi (fun j hj hne => by rw [I1, if_neg (fun e => hne e.symm), gm_zeroL]), I1, if_pos rfl, gm_oneL]
theorem eq_of_both {α : Type} {o o' : Option α} {a : α} (h : ∃ r, o = some r ∧ o' = some r) (ha : o = some a) : o' = some a := by
  obtain ⟨r, h1, h2⟩ := h
  rw [h1] at ha; rw [h2, ha]
theorem code_res : ∃ C : Mx, m_rs_Code = some (6, 4, tb 24 (ml 4 C)) ∧ m_r04_Code = some (6, 4, tb 24 (ml 4 C)) ∧ CodeOk C := by
  have d4 : dims 4 := ⟨by decide, by decide⟩
  have d6 : dims 6 := ⟨by decide, by decide⟩
  have e1 : m_gfmatrix_Vandermonde (6 : Int) (4 : Int) = some (6, 4, tb 24 (ml 4 Vd), 0) := vand_ok (R := 6) (C := 4) d6 d4
  have e2 : m_gfmatrix_Pick (6 : Int) (4 : Int) (tb 24 (ml 4 Vd)) ([(0 : Int), (1 : Int), (2 : Int), (3 : Int)] : List Int) = some (4, 4, tb 16 (ml 4 Vd), 0) := by
    have := pick_ok (R := 6) (C := 4) (n := 4) d6 d4 d4 (ml 4 Vd) (fun t => t) (fun t ht => by omega)
    rw [pick_ml] at this
    exact this
  rcases invert_res d4 Vd with ⟨R, h1, h2⟩ | ⟨_, v, c, hc, hv1, hv⟩
  · have e3 : m_gfmatrix_Invert (4 : Int) (4 : Int) (tb 16 (ml 4 Vd)) = some (4, 4, tb 16 (ml 4 R), 0) := h1
    have e4 : m_gfmatrix_Mul (6 : Int) (4 : Int) (tb 24 (ml 4 Vd)) (4 : Int) (4 : Int) (tb 16 (ml 4 R)) = some (6, 4, tb 24 (ml 4 (mm 4 Vd R)), 0) := mul_ml (R := 6) (n := 4) (C := 4) d6 d4 d4 Vd R
    refine ⟨mm 4 Vd R, ?_, ?_, ?_, ?_⟩
    · unfold m_rs_Code
      rw [e1, Option.bind_some, e2, Option.bind_some, e3, Option.bind_some, e4, Option.bind_some]
    · unfold m_r04_Code
      rw [← vand_eq, e1, Option.bind_some, eq_of_both (pick_eq _ _ _ _) e2, Option.bind_some, eq_of_both (invert_eq _ _ _) e3, Option.bind_some, eq_of_both (mul_eq _ _ _ _ _ _) e4, Option.bind_some]
    · exact fun i hi k hk => h2.2 i hi k hk
    · intro p hp hinj v hv
      have h3 : ∀ j, j < 4 → (sm 4 fun k => gm (R j k) (v k)) = 0#8 := vd_ker p hp hinj _ fun i hi => by rw [← sm_mm]; exact hv i hi
      intro k hk
      rw [← sm_I1 4 v hk, ← sm_zero 4]
      have e : (sm 4 fun j => gm (I1 k j) (v j)) = sm 4 fun j => gm (mm 4 Vd R k j) (v j) := sm_ext fun j hj => by rw [h2.2 k hk j hj]
      rw [e, sm_mm]
      exact sm_ext fun j hj => by rw [h3 j hj, gm_zeroR]
  · have := vd_ker (fun i => i) (fun i hi => by omega) (fun _ _ _ _ e => e) v hv c hc
    rw [hv1] at this; exact absurd this one_ne_zero8
end Go.Proofs.Ytnbcphofimicdaa
