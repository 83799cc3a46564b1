/-
  Sums and matrices over the field: products, row operations, inverses, kernels. Conditions: as each theorem says.
-/
import Derived.Test.YtnbcphofimicdaaQc
namespace Go.Proofs.Ytnbcphofimicdaa
set_option linter.unusedVariables false
set_option linter.unusedSimpArgs false

/-! ### sums -/
theorem sm_ext {f g : Nat → BitVec 8} : ∀ {n : Nat}, (∀ j, j < n → f j = g j) → sm n f = sm n g
  | 0, _ => rfl
  | n + 1, h => by rw [sm, sm, sm_ext (fun j hj => h j (by omega)), h n (by omega)]
theorem sm_xor (f g : Nat → BitVec 8) : ∀ n, sm n (fun j => f j ^^^ g j) = sm n f ^^^ sm n g
  | 0 => by simp [sm]
  | n + 1 => by simp only [sm]; rw [sm_xor f g n, xor4]
theorem sm_zero : ∀ n, sm n (fun _ => 0#8) = 0#8
  | 0 => rfl
  | n + 1 => by rw [sm, sm_zero n, BitVec.xor_zero]
theorem sm_zero' {f : Nat → BitVec 8} {n : Nat} (h : ∀ j, j < n → f j = 0#8) : sm n f = 0#8 := (sm_ext h).trans (sm_zero n)
theorem sm_mulL (c : BitVec 8) (f : Nat → BitVec 8) : ∀ n, gm c (sm n f) = sm n (fun j => gm c (f j))
  | 0 => gm_zeroR c
  | n + 1 => by rw [sm, sm, gm_addR, sm_mulL c f n]
theorem sm_mulR (c : BitVec 8) (f : Nat → BitVec 8) : ∀ n, gm (sm n f) c = sm n (fun j => gm (f j) c)
  | 0 => gm_zeroL c
  | n + 1 => by rw [sm, sm, gm_addL, sm_mulR c f n]
theorem sm_swap (m : Nat) (f : Nat → Nat → BitVec 8) : ∀ n, sm n (fun j => sm m (fun k => f j k)) = sm m (fun k => sm n (fun j => f j k))
  | 0 => (sm_zero m).symm
  | n + 1 => by simp only [sm]; rw [sm_swap m f n, sm_xor]
theorem sm_one {f : Nat → BitVec 8} {k : Nat} : ∀ {n : Nat}, k < n → (∀ j, j < n → j ≠ k → f j = 0#8) → sm n f = f k
  | 0, h, _ => by omega
  | n + 1, h, hz => by
    rw [sm]
    by_cases e : k = n
    · subst e
      rw [sm_zero' (fun j hj => hz j (by omega) (by omega)), BitVec.zero_xor]
    · rw [sm_one (by omega) (fun j hj hne => hz j (by omega) hne), hz n (by omega) (fun e2 => e e2.symm), BitVec.xor_zero]

/-! ### matrices -/
abbrev Mx := Nat → Nat → BitVec 8
def mm (n : Nat) (A B : Mx) : Mx := fun i k => sm n fun j => gm (A i j) (B j k)
def I1 : Mx := fun i k => if i = k then 1#8 else 0#8
def eqm (n : Nat) (A B : Mx) : Prop := ∀ i, i < n → ∀ k, k < n → A i k = B i k
theorem mm_assoc (n m : Nat) (A B C : Mx) (i k : Nat) : mm m (mm n A B) C i k = mm n A (mm m B C) i k := by
  unfold mm
  have e1 : (fun j => gm (sm n fun l => gm (A i l) (B l j)) (C j k)) = fun j => sm n fun l => gm (A i l) (gm (B l j) (C j k)) := by
    funext j; rw [sm_mulR]; congr 1; funext l; rw [gm_assoc]
  have e2 : (fun l => gm (A i l) (sm m fun j => gm (B l j) (C j k))) = fun l => sm m fun j => gm (A i l) (gm (B l j) (C j k)) := by
    funext l; rw [sm_mulL]
  rw [e1, e2, sm_swap]
theorem mm_idL {n : Nat} (A : Mx) {i : Nat} (k : Nat) (hi : i < n) : mm n I1 A i k = A i k := by
  unfold mm
  rw [sm_one hi (fun j hj hne => by rw [I1, if_neg (fun e => hne e.symm), gm_zeroL])]
  rw [I1, if_pos rfl, gm_oneL]
theorem mm_idR {n : Nat} (A : Mx) (i : Nat) {k : Nat} (hk : k < n) : mm n A I1 i k = A i k := by
  unfold mm
  rw [sm_one hk (fun j hj hne => by rw [I1, if_neg hne, gm_zeroR])]
  rw [I1, if_pos rfl, gm_oneR]
theorem mm_congL {n : Nat} {A A' : Mx} (B : Mx) (h : eqm n A A') {i : Nat} (k : Nat) (hi : i < n) : mm n A B i k = mm n A' B i k := sm_ext fun j hj => by rw [h i hi j hj]
theorem mm_congR {n : Nat} (A : Mx) {B B' : Mx} (i : Nat) {k : Nat} (h : ∀ j, j < n → B j k = B' j k) : mm n A B i k = mm n A B' i k := sm_ext fun j hj => by rw [h j hj]
theorem eqm.symm {n : Nat} {A B : Mx} (h : eqm n A B) : eqm n B A := fun i hi k hk => (h i hi k hk).symm
theorem eqm.trans {n : Nat} {A B C : Mx} (h : eqm n A B) (h' : eqm n B C) : eqm n A C := fun i hi k hk => (h i hi k hk).trans (h' i hi k hk)

/-! ### row operations -/
structure RowOp (n : Nat) (ρ ρ' : Mx → Mx) : Prop where
  cm : ∀ A B i k, i < n → mm n (ρ A) B i k = ρ (mm n A B) i k
  cm' : ∀ A B i k, i < n → mm n (ρ' A) B i k = ρ' (mm n A B) i k
  inv : ∀ A i k, i < n → ρ' (ρ A) i k = A i k
  inv' : ∀ A i k, i < n → ρ (ρ' A) i k = A i k
  cg : ∀ A B k, (∀ i, i < n → A i k = B i k) → ∀ i, i < n → ρ A i k = ρ B i k
  cg' : ∀ A B k, (∀ i, i < n → A i k = B i k) → ∀ i, i < n → ρ' A i k = ρ' B i k
def addR (A : Mx) (i k : Nat) (c : BitVec 8) : Mx := fun r s => if r = i then A r s ^^^ gm c (A k s) else A r s
def sclR (A : Mx) (k : Nat) (c : BitVec 8) : Mx := fun r s => if r = k then gm c (A r s) else A r s
def swpR (A : Mx) (i k : Nat) : Mx := fun r s => if r = i then A k s else if r = k then A i s else A r s
theorem addR_mm {n i k : Nat} {c : BitVec 8} (A B : Mx) (r s : Nat) : mm n (addR A i k c) B r s = addR (mm n A B) i k c r s := by
  unfold mm addR
  by_cases h : r = i
  · rw [if_pos h, sm_mulL, ← sm_xor]
    refine sm_ext fun j hj => ?_
    rw [if_pos h, gm_addL, gm_assoc]
  · rw [if_neg h]
    refine sm_ext fun j hj => ?_
    rw [if_neg h]
theorem op_add {n i k : Nat} (c : BitVec 8) (hk : k < n) (hne : i ≠ k) : RowOp n (fun A => addR A i k c) (fun A => addR A i k c) := by
  have inv : ∀ A r s, addR (addR A i k c) i k c r s = A r s := fun A r s => by
    unfold addR
    by_cases h : r = i
    · rw [if_pos h, if_pos h, if_neg (fun e => hne e.symm), BitVec.xor_assoc, BitVec.xor_self, BitVec.xor_zero]
    · rw [if_neg h, if_neg h]
  have cg : ∀ (A B : Mx) s, (∀ r, r < n → A r s = B r s) → ∀ r, r < n → addR A i k c r s = addR B i k c r s := fun A B s h r hr => by
    unfold addR
    rw [h r hr, h k hk]
  exact ⟨fun A B r s _ => addR_mm A B r s, fun A B r s _ => addR_mm A B r s, fun A r s _ => inv A r s, fun A r s _ => inv A r s, cg, cg⟩
theorem sclR_mm {n k : Nat} {c : BitVec 8} (A B : Mx) (r s : Nat) : mm n (sclR A k c) B r s = sclR (mm n A B) k c r s := by
  unfold mm sclR
  by_cases h : r = k
  · rw [if_pos h, sm_mulL]
    refine sm_ext fun j hj => ?_
    rw [if_pos h, gm_assoc]
  · rw [if_neg h]
    refine sm_ext fun j hj => ?_
    rw [if_neg h]
theorem op_scl {n k : Nat} {c : BitVec 8} (hc : c ≠ 0#8) : RowOp n (fun A => sclR A k c) (fun A => sclR A k (ginv c)) := by
  have h1 := ginv_mul hc
  have h2 : gm (ginv c) c = 1#8 := by rw [gm_comm]; exact h1
  refine ⟨fun A B r s _ => sclR_mm A B r s, fun A B r s _ => sclR_mm A B r s, fun A r s _ => ?_, fun A r s _ => ?_, fun A B s h r hr => ?_, fun A B s h r hr => ?_⟩
  · simp only [sclR]
    by_cases h : r = k
    · rw [if_pos h, if_pos h, ← gm_assoc, h2, gm_oneL]
    · rw [if_neg h, if_neg h]
  · simp only [sclR]
    by_cases h : r = k
    · rw [if_pos h, if_pos h, ← gm_assoc, h1, gm_oneL]
    · rw [if_neg h, if_neg h]
  · simp only [sclR]; rw [h r hr]
  · simp only [sclR]; rw [h r hr]
theorem swpR_mm {n i k : Nat} (A B : Mx) (r s : Nat) : mm n (swpR A i k) B r s = swpR (mm n A B) i k r s := by
  unfold mm swpR
  by_cases h : r = i
  · rw [if_pos h]; exact sm_ext fun j hj => by rw [if_pos h]
  · rw [if_neg h]
    by_cases h2 : r = k
    · rw [if_pos h2]; exact sm_ext fun j hj => by rw [if_neg h, if_pos h2]
    · rw [if_neg h2]; exact sm_ext fun j hj => by rw [if_neg h, if_neg h2]
theorem op_swp {n i k : Nat} (hi : i < n) (hk : k < n) : RowOp n (fun A => swpR A i k) (fun A => swpR A i k) := by
  have inv : ∀ A r s, swpR (swpR A i k) i k r s = A r s := fun A r s => by
    unfold swpR
    by_cases h : r = i
    · subst h
      rw [if_pos rfl]
      by_cases h2 : k = r
      · subst h2; rw [if_pos rfl]
      · rw [if_neg h2, if_pos rfl]
    · rw [if_neg h]
      by_cases h2 : r = k
      · subst h2; rw [if_pos rfl, if_pos rfl]
      · rw [if_neg h2, if_neg h, if_neg h2]
  have cg : ∀ (A B : Mx) s, (∀ r, r < n → A r s = B r s) → ∀ r, r < n → swpR A i k r s = swpR B i k r s := fun A B s h r hr => by
    unfold swpR
    rw [h r hr, h k hk, h i hi]
  exact ⟨fun A B r s _ => swpR_mm A B r s, fun A B r s _ => swpR_mm A B r s, fun A r s _ => inv A r s, fun A r s _ => inv A r s, cg, cg⟩

/-! ### elimination's state -/
def Gs (n : Nat) (M L R : Mx) : Prop := eqm n (mm n R M) L ∧ ∃ S, eqm n (mm n S R) I1 ∧ eqm n (mm n R S) I1
theorem Gs.start {n : Nat} (M : Mx) : Gs n M M I1 := ⟨fun i hi k hk => mm_idL M k hi, I1, fun i hi k hk => mm_idL I1 k hi, fun i hi k hk => mm_idL I1 k hi⟩
theorem Gs.op {n : Nat} {M L R : Mx} {ρ ρ' : Mx → Mx} (h : Gs n M L R) (o : RowOp n ρ ρ') : Gs n M (ρ L) (ρ R) := by
  obtain ⟨h1, S, h2, h3⟩ := h
  refine ⟨fun i hi k hk => ?_, mm n S (ρ' I1), fun i hi k hk => ?_, fun i hi k hk => ?_⟩
  · rw [o.cm _ _ _ _ hi]
    exact o.cg _ _ k (fun r hr => h1 r hr k hk) i hi
  · rw [mm_assoc]
    rw [mm_congR S i (B' := R) (fun j hj => ?_)]
    · exact h2 i hi k hk
    · rw [o.cm' _ _ _ _ hj]
      rw [o.cg' _ (ρ R) k (fun r hr => mm_idL _ k hr) j hj]
      exact o.inv R j k hj
  · rw [o.cm _ _ _ _ hi]
    rw [o.cg _ (ρ' I1) k (fun r hr => ?_) i hi]
    · rw [o.inv' _ _ _ hi]
    · rw [← mm_assoc, mm_congL _ h3 k hr, mm_idL _ k hr]
theorem Gs.done {n : Nat} {M L R : Mx} (h : Gs n M L R) (hL : eqm n L I1) : eqm n (mm n R M) I1 ∧ eqm n (mm n M R) I1 := by
  obtain ⟨h1, S, h2, h3⟩ := h
  have hRM := h1.trans hL
  refine ⟨hRM, ?_⟩
  have hMS : eqm n M S := fun i hi k hk => by
    rw [← mm_idL M k hi, ← mm_congL M h2 k hi, mm_assoc, mm_congR S i (fun j hj => hRM j hj k hk), mm_idR S i hk]
  intro i hi k hk
  rw [mm_congL R hMS k hi]
  exact h2 i hi k hk
theorem Gs.ker {n : Nat} {M L R : Mx} (h : Gs n M L R) {v : Nat → BitVec 8} (hv : ∀ i, i < n → (sm n fun j => gm (L i j) (v j)) = 0#8) : ∀ i, i < n → (sm n fun j => gm (M i j) (v j)) = 0#8 := by
  obtain ⟨h1, S, h2, h3⟩ := h
  intro i hi
  have e : (sm n fun j => gm (M i j) (v j)) = mm n M (fun j _ => v j) i 0 := rfl
  rw [e, ← mm_idL (mm n M fun j _ => v j) 0 hi, ← mm_congL _ h2 0 hi, mm_assoc]
  refine sm_zero' fun j hj => ?_
  have : mm n R (mm n M fun j _ => v j) j 0 = 0#8 := by
    rw [← mm_assoc, mm_congL _ h1 0 hj]
    exact hv j hj
  rw [this, gm_zeroR]
/-- a matrix with an inverse takes nothing but 0 to 0 -/
theorem ker_zero {n : Nat} {M R : Mx} (h : eqm n (mm n R M) I1) {v : Nat → BitVec 8} (hv : ∀ i, i < n → (sm n fun j => gm (M i j) (v j)) = 0#8) : ∀ i, i < n → v i = 0#8 := by
  intro i hi
  have e : v i = mm n I1 (fun j _ => v j) i 0 := (mm_idL (fun j _ => v j) 0 hi).symm
  rw [e, ← mm_congL _ h 0 hi, mm_assoc]
  exact sm_zero' fun j hj => by
    have := hv j hj
    unfold mm
    rw [this, gm_zeroR]
theorem inv_uniq {n : Nat} {M R R' : Mx} (h : eqm n (mm n R M) I1) (h' : eqm n (mm n M R') I1) : eqm n R R' := fun i hi k hk => by
  rw [← mm_idR R i hk, ← mm_congR R i (fun j hj => h' j hj k hk), ← mm_assoc, mm_congL R' h k hi, mm_idL R' k hi]
/-- the columns up to c are those of the identity -/
def units (n c : Nat) (L : Mx) : Prop := ∀ i, i < n → ∀ j, j < c → L i j = I1 i j
theorem units_all {n : Nat} {L : Mx} (h : units n n L) : eqm n L I1 := h
/-- no pivot: something that is not 0 goes to 0 -/
theorem stuck_ker {n c : Nat} {L : Mx} (hc : c < n) (hu : units n c L) (hz : ∀ i, c ≤ i → i < n → L i c = 0#8) : ∃ v : Nat → BitVec 8, v c = 1#8 ∧ ∀ i, i < n → (sm n fun j => gm (L i j) (v j)) = 0#8 := by
  refine ⟨fun j => if j = c then 1#8 else if j < c then L j c else 0#8, if_pos rfl, fun i hi => ?_⟩
  have e : ∀ j, j < n → gm (L i j) (if j = c then 1#8 else if j < c then L j c else 0#8) = (if j = c then L i c else 0#8) ^^^ (if j < c then gm (I1 i j) (L j c) else 0#8) := fun j hj => by
    by_cases h1 : j = c
    · subst h1; rw [if_pos rfl, if_pos rfl, if_neg (by omega), gm_oneR, BitVec.xor_zero]
    · rw [if_neg h1, if_neg h1]
      by_cases h2 : j < c
      · rw [if_pos h2, if_pos h2, hu i hi j h2, BitVec.zero_xor]
      · rw [if_neg h2, if_neg h2, gm_zeroR, BitVec.xor_zero]
  rw [sm_ext e, sm_xor, sm_one hc (fun j hj hne => if_neg hne), if_pos rfl]
  by_cases hic : i < c
  · rw [sm_one hi (fun j hj hne => by
      by_cases h2 : j < c
      · rw [if_pos h2, I1, if_neg (fun e => hne e.symm), gm_zeroL]
      · rw [if_neg h2]), if_pos hic, I1, if_pos rfl, gm_oneL, BitVec.xor_self]
  · rw [hz i (by omega) hi, sm_zero' (fun j hj => by
      by_cases h2 : j < c
      · rw [if_pos h2, I1, if_neg (by omega), gm_zeroL]
      · rw [if_neg h2]), BitVec.xor_self]
end Go.Proofs.Ytnbcphofimicdaa
