/-
 The histories that the statements draw: random's. Conditions: the number of places, as the theorem says.
-/
import Derived.Test.YtkcccenekglkoaaHy
import Derived.Test.YtkcccenekglkoaaMdi
namespace Go.Proofs.Ytkcccenekglkoaa
set_option linter.unusedVariables false
set_option linter.unusedSimpArgs false
abbrev LA := Sneedlestorelaw25_Act
theorem andiN (m : Int) (b : Nat) (hb : b < 1000) : 0 <= andi m (b : Int) /\ andi m (b : Int) <= b := by
 have e0 : (BitVec.ofInt 64 (b : Int)).toNat = b := by
  rw [BitVec.toNat_ofInt]; omega
 have h : (BitVec.ofInt 64 m &&& BitVec.ofInt 64 (b : Int)).toNat <= b := by
  rw [BitVec.toNat_and]; exact Nat.le_trans Nat.and_le_right (by omega)
 have e : andi m (b : Int) = ((BitVec.ofInt 64 m &&& BitVec.ofInt 64 (b : Int)).toNat : Int) := BitVec.toInt_eq_toNat_of_lt (by omega)
 omega
def okA (a : LA) : Prop := (0 <= a.fClient /\ a.fClient <= 2) /\ 1 <= a.fKind /\ a.fKind <= 3
theorem short_loop (l : List LA) (most : Nat) (hm : most <= 100) : ∀ (d i q : Nat) (out : List LA), i + d = most -> d < q -> out.length = i -> (∀ a ∈ out, okA a) ->
  ∃ r, m_law25_short_l1 l (most : Int) q out (i : Int) = some r /\ r.length <= most /\ ∀ a ∈ r, okA a := by
 intro d
 induction d with
 | zero =>
  intro i q out hi hq ho hk
  obtain ⟨q, rfl⟩ : ∃ q', q = q' + 1 := ⟨q - 1, by omega⟩
  unfold m_law25_short_l1 m_law25_short_j0
  by_cases h : i < l.length
  ·rw [if_pos (by omega), if_neg (by omega)]; exact ⟨out, rfl, by omega, hk⟩
  ·rw [if_neg (by omega)]; exact ⟨out, rfl, by omega, hk⟩
 | succ d ih =>
  intro i q out hi hq ho hk
  obtain ⟨q, rfl⟩ : ∃ q', q = q' + 1 := ⟨q - 1, by omega⟩
  unfold m_law25_short_l1
  by_cases h : i < l.length
  ·rw [if_pos (by omega), if_pos (by omega)]
   unfold m_law25_short_j2
   have a1 : 0 <= andi l[i].fClient 3 /\ andi l[i].fClient 3 <= 3 := andiN l[i].fClient 3 (by omega)
   have a2 : 0 <= andi l[i].fKind 3 /\ andi l[i].fKind 3 <= 3 := andiN l[i].fKind 3 (by omega)
   have r1 : rmi (andi l[i].fClient 3) 3 = some (andi l[i].fClient 3 % 3) := rmi_of a1.1 (by omega)
   have r2 : rmi (andi l[i].fKind 3) 3 = some (andi l[i].fKind 3 % 3) := rmi_of a2.1 (by omega)
   rw [idx_nat, List.getElem?_eq_getElem h, obs, r1, obs, r2, obs, ck_of (by omega), obs, apd_of (by simp; omega), obs, ckK (by omega), obs]
   refine ih (i + 1) q _ (by omega) (by omega) (by simp; omega) fun a ha => ?_
   rcases List.mem_append.1 ha with ha | ha
   ·exact hk a ha
   ·rw [List.mem_singleton.1 ha]; refine ⟨⟨?_, ?_⟩, ?_, ?_⟩ <;> dsimp only <;> omega
  ·unfold m_law25_short_j0
   rw [if_neg (by omega)]; exact ⟨out, rfl, by omega, hk⟩
theorem short_ok (l : List LA) (most : Nat) (hm : most <= 100) : ∃ r, m_law25_short l (most : Int) = some r /\ r.length <= most /\ ∀ a ∈ r, okA a :=
 short_loop l most hm most 0 forever [] (by omega) (by unfold forever; omega) rfl (by simp)
end Go.Proofs.Ytkcccenekglkoaa
