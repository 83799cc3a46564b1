/-
  The statement EcreadWhole. Conditions: the numbers are ints.
-/
import Derived.Test.YtcncappgheopgaaGreatSg
import Derived.Test.YtcncappgheopgaaGreatMdm2
namespace Go.Proofs.YtcncappgheopgaaGreat
set_option linter.unusedVariables false
set_option linter.unusedSimpArgs false
theorem awake_ok : m_law18_awake = some true := by decide +kernel
theorem rmi_any (a : Int) (n : Nat) (h : 0 < n) : ∃ r, rmi a (n : Int) = some r ∧ -(n : Int) < r ∧ r < n :=
  ⟨_, by rw [rmi, if_neg (by omega)], Int.lt_tmod_of_pos a (by omega), Int.tmod_lt_of_pos a (by omega)⟩
theorem rmi_nat {a : Int} (h0 : 0 ≤ a) (n : Nat) (h : 0 < n) : ∃ m : Nat, rmi a (n : Int) = some (m : Int) ∧ m < n := by
  have h1 := Int.emod_nonneg a (b := (n : Int)) (by omega)
  have h2 := Int.emod_lt_of_pos a (b := (n : Int)) (by omega)
  exact ⟨(a % n).toNat, by rw [rmi_of h0 (by omega)]; congr 1; omega, by omega⟩
/-- who is left out of all -/
theorem usb_all {C : Mx} {b : List (BitVec 8)} (skip : List Int) {j : Nat} (hj : j < 6) : usb b.length (shardsOf C b) [true, true, true, true, true, true] skip j = !decide ((j : Int) ∈ skip) := by
  have h1 : ([true, true, true, true, true, true] : List Bool).getD j false = true := by
    have : ∀ i : Fin 6, ([true, true, true, true, true, true] : List Bool).getD i.val false = true := by decide
    exact this ⟨j, hj⟩
  unfold usb
  rw [h1, shard_len C b hj, beq_self_eq_true]; rfl
theorem ex_four {k : Int} (h : 0 ≤ k ∧ k < 22) : 4 ≤ (sel (fun j => !decide ((j : Int) ∈ ex k)) 6).length := by
  have : ∀ i : Fin 22, 4 ≤ (sel (fun j => !decide ((j : Int) ∈ sL.getD i.val [])) 6).length := by decide
  have h1 := this ⟨k.toNat, by omega⟩
  unfold ex; rw [if_pos h.1]; exact h1
theorem whole_read {C : Mx} (hC : IsCode C) {c : BitVec 32} {ns : List Nd} (hg : Gen c ns) {k : Int} (hk : 0 ≤ k ∧ k < 22) {f m : Nat} (hf : f + m ≤ (datOf c ns).length) :
    bytesS 1 2 3 ((datOf c ns).length : Int) (itemsOf ns) (shardsOf C (datOf c ns)) [true, true, true, true, true, true] (ex k) (f : Int) (m : Int) = (((datOf c ns).drop f).take m, true) := by
  have hl := hg.len
  unfold bytesS
  rw [if_pos ⟨hg.valid, shardsOf_len _ _, rfl, by omega, by omega, by omega, by omega⟩]
  simp only [Int.toNat_natCast]
  have h4 : 4 ≤ (sel (usb (datOf c ns).length (shardsOf C (datOf c ns)) [true, true, true, true, true, true] (ex k)) 6).length := by
    rw [sel_congr fun j hj => usb_all (C := C) (b := datOf c ns) (ex k) hj]; exact ex_four hk
  rw [bls_intact hC (usb_usable (by omega) (shardsOf_len _ _)) (fun j hj _ => rfl) m f hf (.inr h4)]; rfl
theorem ok_EcreadWhole (l : List Nd) (k off n : Int) : m_law18_EcreadWhole l k off n = some true := by
  obtain ⟨M⟩ := made_ok l
  have hl := M.gen.len
  unfold m_law18_EcreadWhole
  rw [M.eq, Option.bind_some]
  dsimp only
  generalize hL : (datOf M.c (nsOf l 10)).length = L at *
  have c1 : ck ((L : Int) + 1) = some ((L + 1 : Nat) : Int) := by rw [ck_of (by omega)]; rfl
  obtain ⟨r1, e1, b1, b2⟩ := rmi_any off (L + 1) (by omega)
  rw [c1, Option.bind_some, e1, Option.bind_some, ck_of (by omega), Option.bind_some, ck_of (by omega), Option.bind_some, Option.bind_some]
  obtain ⟨f, e2, b3⟩ := rmi_nat (a := r1 + (L : Int) + 1) (by omega) (L + 1) (by omega)
  rw [e2, Option.bind_some]
  have c2 : ck ((L : Int) - (f : Int)) = some ((L - f : Nat) : Int) := by rw [ck_of (by omega)]; refine congrArg some ?_; omega
  have c3 : ck (((L - f : Nat) : Int) + 1) = some ((L - f + 1 : Nat) : Int) := by rw [ck_of (by omega)]; rfl
  rw [c2, Option.bind_some, c3, Option.bind_some]
  obtain ⟨r2, e3, b4, b5⟩ := rmi_any n (L - f + 1) (by omega)
  rw [e3, Option.bind_some, ck_of (by omega), Option.bind_some, ck_of (by omega), Option.bind_some, ck_of (by omega), Option.bind_some, Option.bind_some, c3, Option.bind_some]
  obtain ⟨m, e4, b6⟩ := rmi_nat (a := r2 + (L : Int) - (f : Int) + 1) (by omega) (L - f + 1) (by omega)
  rw [e4, Option.bind_some]
  unfold m_law18_given m_law18_all
  rw [Option.bind_some, Option.bind_some]
  obtain ⟨r3, e5, b7, b8⟩ := rmi_any k 22 (by omega)
  have e5' : rmi k (22 : Int) = some r3 := e5
  rw [e5', Option.bind_some, ck_of (by omega), Option.bind_some]
  obtain ⟨j, e6, b9⟩ := rmi_nat (a := r3 + 22) (by omega) 22 (by omega)
  have e6' : rmi (r3 + 22) (22 : Int) = some (j : Int) := e6
  rw [e6', Option.bind_some, ex_ok (by omega), Option.bind_some]
  dsimp only
  rw [ebytes_ok _ _ _ _ _ _ _ _ _ _ _ _ _ _ _ _ (by have := M.gen.itemsLen; omega) (by have := ex_len (j : Int); omega), Option.bind_some]
  subst hL
  rw [whole_read M.code M.gen (k := (j : Int)) (by omega) (f := f) (m := m) (by omega), if_pos rfl, ck_of (by omega), Option.bind_some]
  have e7 : slc (datOf M.c (nsOf l 10)) (f : Int) ((f : Int) + (m : Int)) = some (((datOf M.c (nsOf l 10)).drop f).take m) := by
    have := slc_nat (datOf M.c (nsOf l 10)) f (f + m) ⟨by omega, by omega⟩
    rw [Nat.add_sub_cancel_left] at this
    exact this
  rw [e7, Option.bind_some, if_pos rfl, awake_ok, Option.bind_some]
end Go.Proofs.YtcncappgheopgaaGreat
