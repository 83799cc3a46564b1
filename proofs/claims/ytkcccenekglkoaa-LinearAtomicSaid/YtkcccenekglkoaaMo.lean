/-
 The operations of the models: functions with 'none' on numbers and lists, 'none' where Go would stop or a number would leave its kind.
 Conditions: none.
-/
namespace Go.Proofs.Ytkcccenekglkoaa
set_option linter.unusedVariables false
def forever : Nat := 18446744073709551616
def ck (z : Int) : Option Int := if -9223372036854775808 <= z /\ z <= 9223372036854775807 then some z else none
def dvi (m n : Int) : Option Int := if n = 0 then none else ck (m.tdiv n)
def rmi (m n : Int) : Option Int := if n = 0 then none else some (m.tmod n)
def shri (m s : Int) : Option Int := if 0 <= s /\ s <= 63 then some (m / 2 ^ s.toNat) else none
def shlu {k : Nat} (x : BitVec k) (s : Int) : Option (BitVec k) := if 0 <= s then some (x <<< s.toNat) else none
def shru {k : Nat} (x : BitVec k) (s : Int) : Option (BitVec k) := if 0 <= s then some (x >>> s.toNat) else none
def andi (m n : Int) : Int := (BitVec.ofInt 64 m &&& BitVec.ofInt 64 n).toInt
def idx {α : Type} (xs : List α) (i : Int) : Option α := if 0 <= i then xs[i.toNat]? else none
def upd {α : Type} (xs : List α) (i : Int) (a : α) : Option (List α) := if 0 <= i /\ i.toNat < xs.length then some (xs.set i.toNat a) else none
def slc {α : Type} (xs : List α) (lo hi : Int) : Option (List α) := if 0 <= lo /\ lo <= hi /\ hi.toNat <= xs.length then some ((xs.drop lo.toNat).take (hi.toNat - lo.toNat)) else none
def apd {α : Type} (B : Nat) (xs ys : List α) : Option (List α) := if ((xs.length + ys.length) + (xs.length + ys.length) / 4 + 192) * B <= 281474976710656 /\ xs.length + ys.length <= 9223372036854775807 then some (xs ++ ys) else none
theorem ck_some {z x : Int} (h : ck z = some x) : x = z /\ -9223372036854775808 <= z /\ z <= 9223372036854775807 := by
 unfold ck at h; split at h
 ·injection h with h; exact ⟨h.symm, by assumption⟩
 ·cases h
theorem dvi_some {m n x : Int} (h : dvi m n = some x) : n ≠ 0 /\ x = m.tdiv n /\ -9223372036854775808 <= x /\ x <= 9223372036854775807 := by
 unfold dvi at h; split at h
 ·cases h
 ·obtain ⟨rfl, h1⟩ := ck_some h; exact ⟨by assumption, rfl, h1⟩
theorem rmi_some {m n x : Int} (h : rmi m n = some x) : n ≠ 0 /\ x = m.tmod n := by
 unfold rmi at h; split at h
 ·cases h
 ·injection h with h; exact ⟨by assumption, h.symm⟩
theorem shri_some {m s x : Int} (h : shri m s = some x) : (0 <= s /\ s <= 63) /\ x = m / 2 ^ s.toNat := by
 unfold shri at h; split at h
 ·injection h with h; exact ⟨by assumption, h.symm⟩
 ·cases h
theorem shlu_some {k : Nat} {a x : BitVec k} {s : Int} (h : shlu a s = some x) : 0 <= s /\ x = a <<< s.toNat := by
 unfold shlu at h; split at h
 ·injection h with h; exact ⟨by assumption, h.symm⟩
 ·cases h
theorem shru_some {k : Nat} {a x : BitVec k} {s : Int} (h : shru a s = some x) : 0 <= s /\ x = a >>> s.toNat := by
 unfold shru at h; split at h
 ·injection h with h; exact ⟨by assumption, h.symm⟩
 ·cases h
theorem idx_some {α : Type} {xs : List α} {i : Int} {a : α} (h : idx xs i = some a) : 0 <= i /\ i < xs.length /\ xs[i.toNat]? = some a := by
 unfold idx at h; split at h
 ·have := (List.getElem?_eq_some_iff.1 h).1
  exact ⟨by assumption, by omega, h⟩
 ·cases h
theorem upd_some {α : Type} {xs ys : List α} {i : Int} {a : α} (h : upd xs i a = some ys) : (0 <= i /\ i.toNat < xs.length) /\ ys = xs.set i.toNat a := by
 unfold upd at h; split at h
 ·injection h with h; exact ⟨by assumption, h.symm⟩
 ·cases h
theorem slc_some {α : Type} {xs ys : List α} {lo hi : Int} (h : slc xs lo hi = some ys) : (0 <= lo /\ lo <= hi /\ hi.toNat <= xs.length) /\ ys = (xs.drop lo.toNat).take (hi.toNat - lo.toNat) /\ ys.length = hi.toNat - lo.toNat := by
 unfold slc at h; split at h
 ·injection h with h; subst h; exact ⟨by assumption, rfl, by simp; omega⟩
 ·cases h
theorem apd_some {α : Type} {B : Nat} {xs ys zs : List α} (h : apd B xs ys = some zs) : (((xs.length + ys.length) + (xs.length + ys.length) / 4 + 192) * B <= 281474976710656 /\ xs.length + ys.length <= 9223372036854775807) /\ zs = xs ++ ys := by
 unfold apd at h; split at h
 ·injection h with h; exact ⟨by assumption, h.symm⟩
 ·cases h
theorem bnd {α β : Type} {o : Option α} {k : α -> Option β} {r : β} (h : o.bind k = some r) : ∃ x, o = some x /\ k x = some r := by
 cases o with
 | none => cases h
 | some x => exact ⟨x, rfl, h⟩
theorem of_t {ρ : Type} {c : Prop} [Decidable c] {a b : Option ρ} {r : ρ} (hc : c) (h : (if c then a else b) = some r) : a = some r := by rwa [if_pos hc] at h
theorem of_f {ρ : Type} {c : Prop} [Decidable c] {a b : Option ρ} {r : ρ} (hc : ¬ c) (h : (if c then a else b) = some r) : b = some r := by rwa [if_neg hc] at h
theorem ck_of {z : Int} (h : -9223372036854775808 <= z /\ z <= 9223372036854775807) : ck z = some z := if_pos h
theorem dvi_of {m n : Int} (hm : 0 <= m /\ m <= 9223372036854775807) (hn : 0 < n) : dvi m n = some (m / n) := by
 have h1 : 0 <= m / n := Int.ediv_nonneg hm.1 (by omega)
 have h2 : m / n <= m := Int.ediv_le_self n hm.1
 rw [dvi, if_neg (by omega), Int.tdiv_eq_ediv_of_nonneg hm.1, ck_of (by omega)]
theorem rmi_of {m n : Int} (hm : 0 <= m) (hn : 0 < n) : rmi m n = some (m % n) := by
 rw [rmi, if_neg (by omega), Int.tmod_eq_emod_of_nonneg hm]
theorem shlu_of {k : Nat} {a : BitVec k} {s : Int} (h : 0 <= s) : shlu a s = some (a <<< s.toNat) := if_pos h
theorem shru_of {k : Nat} {a : BitVec k} {s : Int} (h : 0 <= s) : shru a s = some (a >>> s.toNat) := if_pos h
theorem idx_nat {α : Type} (xs : List α) (i : Nat) : idx xs (i : Int) = xs[i]? := by simp [idx]
theorem upd_of {α : Type} {xs : List α} {i : Int} {a : α} (h : 0 <= i /\ i.toNat < xs.length) : upd xs i a = some (xs.set i.toNat a) := if_pos h
theorem slc_of {α : Type} {xs : List α} {lo hi : Int} (h : 0 <= lo /\ lo <= hi /\ hi.toNat <= xs.length) : slc xs lo hi = some ((xs.drop lo.toNat).take (hi.toNat - lo.toNat)) := if_pos h
theorem apd_of {α : Type} {B : Nat} {xs ys : List α} (h : ((xs.length + ys.length) + (xs.length + ys.length) / 4 + 192) * B <= 281474976710656 /\ xs.length + ys.length <= 9223372036854775807) : apd B xs ys = some (xs ++ ys) := if_pos h
theorem apd1_of {α : Type} {xs ys : List α} (h : xs.length + ys.length <= 200000000000000) : apd 1 xs ys = some (xs ++ ys) := if_pos (by omega)
def mget {κ ν : Type} [BEq κ] : List (κ × ν) -> κ -> Option ν
 | [], _ => none
 | (a, v) :: m, k => if k == a then some v else mget m k
def mset {κ ν : Type} [BEq κ] : List (κ × ν) -> κ -> ν -> List (κ × ν)
 | [], k, v => [(k, v)]
 | (a, w) :: m, k, v => if k == a then (k, v) :: m else (a, w) :: mset m k v
theorem obs {α β : Type} (a : α) (f : α -> Option β) : Option.bind (some a) f = f a := rfl
end Go.Proofs.Ytkcccenekglkoaa
