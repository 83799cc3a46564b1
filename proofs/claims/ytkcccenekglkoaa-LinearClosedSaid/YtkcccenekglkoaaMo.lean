/-
  The operations of the models: functions with 'none' on numbers and lists, 'none' where Go would stop or a number would leave its kind.
  Conditions: none.
-/
namespace Go.Proofs.Ytkcccenekglkoaa
set_option linter.unusedVariables false

/-- rounds enough for any loop -/
def forever : Nat := 18446744073709551616
/-- an int -/
def ck (z : Int) : Option Int := if -9223372036854775808 ≤ z ∧ z ≤ 9223372036854775807 then some z else none
def dvi (m n : Int) : Option Int := if n = 0 then none else ck (m.tdiv n)
def rmi (m n : Int) : Option Int := if n = 0 then none else some (m.tmod n)
def dvu {k : Nat} (x y : BitVec k) : Option (BitVec k) := if y = 0 then none else some (x / y)
def rmu {k : Nat} (x y : BitVec k) : Option (BitVec k) := if y = 0 then none else some (x % y)
def shli (m s : Int) : Option Int := if 0 ≤ s ∧ s ≤ 63 then ck (m * 2 ^ s.toNat) else none
def shri (m s : Int) : Option Int := if 0 ≤ s ∧ s ≤ 63 then some (m / 2 ^ s.toNat) else none
def shlu {k : Nat} (x : BitVec k) (s : Int) : Option (BitVec k) := if 0 ≤ s then some (x <<< s.toNat) else none
def shru {k : Nat} (x : BitVec k) (s : Int) : Option (BitVec k) := if 0 ≤ s then some (x >>> s.toNat) else none
def andi (m n : Int) : Int := (BitVec.ofInt 64 m &&& BitVec.ofInt 64 n).toInt
def ori (m n : Int) : Int := (BitVec.ofInt 64 m ||| BitVec.ofInt 64 n).toInt
def xori (m n : Int) : Int := (BitVec.ofInt 64 m ^^^ BitVec.ofInt 64 n).toInt
def idx {α : Type} (xs : List α) (i : Int) : Option α := if 0 ≤ i then xs[i.toNat]? else none
def upd {α : Type} (xs : List α) (i : Int) (a : α) : Option (List α) := if 0 ≤ i ∧ i.toNat < xs.length then some (xs.set i.toNat a) else none
def slc {α : Type} (xs : List α) (lo hi : Int) : Option (List α) := if 0 ≤ lo ∧ lo ≤ hi ∧ hi.toNat ≤ xs.length then some ((xs.drop lo.toNat).take (hi.toNat - lo.toNat)) else none
/-- append; B: an element's bytes -/
def apd {α : Type} (B : Nat) (xs ys : List α) : Option (List α) := if ((xs.length + ys.length) + (xs.length + ys.length) / 4 + 192) * B ≤ 281474976710656 ∧ xs.length + ys.length ≤ 9223372036854775807 then some (xs ++ ys) else none
def mks {α : Type} (B : Nat) (n : Int) (z : α) : Option (List α) := if 0 ≤ n ∧ n ≤ 281474976710656 ∧ B * n.toNat ≤ 281474976710656 then some (List.replicate n.toNat z) else none
/-- copy into xs from lo on, at most to hi -/
def cpy {α : Type} (xs : List α) (lo hi : Nat) (ys : List α) : List α := xs.take lo ++ ys.take (hi - lo) ++ xs.drop (lo + min (hi - lo) ys.length)

theorem ck_some {z x : Int} (h : ck z = some x) : x = z ∧ -9223372036854775808 ≤ z ∧ z ≤ 9223372036854775807 := by
  unfold ck at h; split at h
  · injection h with h; exact ⟨h.symm, by assumption⟩
  · cases h
theorem dvi_some {m n x : Int} (h : dvi m n = some x) : n ≠ 0 ∧ x = m.tdiv n ∧ -9223372036854775808 ≤ x ∧ x ≤ 9223372036854775807 := by
  unfold dvi at h; split at h
  · cases h
  · obtain ⟨rfl, h1⟩ := ck_some h; exact ⟨by assumption, rfl, h1⟩
theorem rmi_some {m n x : Int} (h : rmi m n = some x) : n ≠ 0 ∧ x = m.tmod n := by
  unfold rmi at h; split at h
  · cases h
  · injection h with h; exact ⟨by assumption, h.symm⟩
theorem dvu_some {k : Nat} {a b x : BitVec k} (h : dvu a b = some x) : b ≠ 0 ∧ x = a / b := by
  unfold dvu at h; split at h
  · cases h
  · injection h with h; exact ⟨by assumption, h.symm⟩
theorem rmu_some {k : Nat} {a b x : BitVec k} (h : rmu a b = some x) : b ≠ 0 ∧ x = a % b := by
  unfold rmu at h; split at h
  · cases h
  · injection h with h; exact ⟨by assumption, h.symm⟩
theorem shli_some {m s x : Int} (h : shli m s = some x) : (0 ≤ s ∧ s ≤ 63) ∧ x = m * 2 ^ s.toNat ∧ -9223372036854775808 ≤ x ∧ x ≤ 9223372036854775807 := by
  unfold shli at h; split at h
  · obtain ⟨rfl, h1⟩ := ck_some h; exact ⟨by assumption, rfl, h1⟩
  · cases h
theorem shri_some {m s x : Int} (h : shri m s = some x) : (0 ≤ s ∧ s ≤ 63) ∧ x = m / 2 ^ s.toNat := by
  unfold shri at h; split at h
  · injection h with h; exact ⟨by assumption, h.symm⟩
  · cases h
theorem shlu_some {k : Nat} {a x : BitVec k} {s : Int} (h : shlu a s = some x) : 0 ≤ s ∧ x = a <<< s.toNat := by
  unfold shlu at h; split at h
  · injection h with h; exact ⟨by assumption, h.symm⟩
  · cases h
theorem shru_some {k : Nat} {a x : BitVec k} {s : Int} (h : shru a s = some x) : 0 ≤ s ∧ x = a >>> s.toNat := by
  unfold shru at h; split at h
  · injection h with h; exact ⟨by assumption, h.symm⟩
  · cases h
theorem idx_some {α : Type} {xs : List α} {i : Int} {a : α} (h : idx xs i = some a) : 0 ≤ i ∧ i < xs.length ∧ xs[i.toNat]? = some a := by
  unfold idx at h; split at h
  · have := (List.getElem?_eq_some_iff.1 h).1
    exact ⟨by assumption, by omega, h⟩
  · cases h
theorem upd_some {α : Type} {xs ys : List α} {i : Int} {a : α} (h : upd xs i a = some ys) : (0 ≤ i ∧ i.toNat < xs.length) ∧ ys = xs.set i.toNat a := by
  unfold upd at h; split at h
  · injection h with h; exact ⟨by assumption, h.symm⟩
  · cases h
theorem slc_some {α : Type} {xs ys : List α} {lo hi : Int} (h : slc xs lo hi = some ys) : (0 ≤ lo ∧ lo ≤ hi ∧ hi.toNat ≤ xs.length) ∧ ys = (xs.drop lo.toNat).take (hi.toNat - lo.toNat) ∧ ys.length = hi.toNat - lo.toNat := by
  unfold slc at h; split at h
  · injection h with h; subst h; exact ⟨by assumption, rfl, by simp; omega⟩
  · cases h
theorem apd_some {α : Type} {B : Nat} {xs ys zs : List α} (h : apd B xs ys = some zs) : (((xs.length + ys.length) + (xs.length + ys.length) / 4 + 192) * B ≤ 281474976710656 ∧ xs.length + ys.length ≤ 9223372036854775807) ∧ zs = xs ++ ys := by
  unfold apd at h; split at h
  · injection h with h; exact ⟨by assumption, h.symm⟩
  · cases h
theorem mks_some {α : Type} {B : Nat} {n : Int} {z : α} {ys : List α} (h : mks B n z = some ys) : (0 ≤ n ∧ n ≤ 281474976710656 ∧ B * n.toNat ≤ 281474976710656) ∧ ys = List.replicate n.toNat z := by
  unfold mks at h; split at h
  · injection h with h; exact ⟨by assumption, h.symm⟩
  · cases h
theorem bnd {α β : Type} {o : Option α} {k : α → Option β} {r : β} (h : o.bind k = some r) : ∃ x, o = some x ∧ k x = some r := by
  cases o with
  | none => cases h
  | some x => exact ⟨x, rfl, h⟩
theorem of_t {ρ : Type} {c : Prop} [Decidable c] {a b : Option ρ} {r : ρ} (hc : c) (h : (if c then a else b) = some r) : a = some r := by rwa [if_pos hc] at h
theorem of_f {ρ : Type} {c : Prop} [Decidable c] {a b : Option ρ} {r : ρ} (hc : ¬ c) (h : (if c then a else b) = some r) : b = some r := by rwa [if_neg hc] at h

/-! the ways back, for the plain laws -/
theorem ck_of {z : Int} (h : -9223372036854775808 ≤ z ∧ z ≤ 9223372036854775807) : ck z = some z := if_pos h
theorem dvi_of {m n : Int} (hm : 0 ≤ m ∧ m ≤ 9223372036854775807) (hn : 0 < n) : dvi m n = some (m / n) := by
  have h1 : 0 ≤ m / n := Int.ediv_nonneg hm.1 (by omega)
  have h2 : m / n ≤ m := Int.ediv_le_self n hm.1
  rw [dvi, if_neg (by omega), Int.tdiv_eq_ediv_of_nonneg hm.1, ck_of (by omega)]
theorem rmi_of {m n : Int} (hm : 0 ≤ m) (hn : 0 < n) : rmi m n = some (m % n) := by
  rw [rmi, if_neg (by omega), Int.tmod_eq_emod_of_nonneg hm]
theorem shlu_of {k : Nat} {a : BitVec k} {s : Int} (h : 0 ≤ s) : shlu a s = some (a <<< s.toNat) := if_pos h
theorem shru_of {k : Nat} {a : BitVec k} {s : Int} (h : 0 ≤ s) : shru a s = some (a >>> s.toNat) := if_pos h
theorem idx_of {α : Type} {xs : List α} {i : Int} {a : α} (h0 : 0 ≤ i) (h : xs[i.toNat]? = some a) : idx xs i = some a := by rw [idx, if_pos h0, h]
theorem idx_nat {α : Type} (xs : List α) (i : Nat) : idx xs (i : Int) = xs[i]? := by simp [idx]
theorem upd_of {α : Type} {xs : List α} {i : Int} {a : α} (h : 0 ≤ i ∧ i.toNat < xs.length) : upd xs i a = some (xs.set i.toNat a) := if_pos h
theorem slc_of {α : Type} {xs : List α} {lo hi : Int} (h : 0 ≤ lo ∧ lo ≤ hi ∧ hi.toNat ≤ xs.length) : slc xs lo hi = some ((xs.drop lo.toNat).take (hi.toNat - lo.toNat)) := if_pos h
theorem apd_of {α : Type} {B : Nat} {xs ys : List α} (h : ((xs.length + ys.length) + (xs.length + ys.length) / 4 + 192) * B ≤ 281474976710656 ∧ xs.length + ys.length ≤ 9223372036854775807) : apd B xs ys = some (xs ++ ys) := if_pos h
theorem apd1_of {α : Type} {xs ys : List α} (h : xs.length + ys.length ≤ 200000000000000) : apd 1 xs ys = some (xs ++ ys) := if_pos (by omega)
theorem mks_of {α : Type} {B : Nat} {n : Int} {z : α} (h : 0 ≤ n ∧ n ≤ 281474976710656 ∧ B * n.toNat ≤ 281474976710656) : mks B n z = some (List.replicate n.toNat z) := if_pos h
/-- an element of the part lo..hi is set -/
def ups {α : Type} (xs : List α) (lo hi i : Int) (a : α) : Option (List α) := if 0 ≤ lo ∧ lo ≤ hi ∧ hi.toNat ≤ xs.length ∧ 0 ≤ i ∧ i < hi - lo then some (xs.set (lo + i).toNat a) else none
theorem ups_some {α : Type} {xs ys : List α} {lo hi i : Int} {a : α} (h : ups xs lo hi i a = some ys) : (0 ≤ lo ∧ lo ≤ hi ∧ hi.toNat ≤ xs.length ∧ 0 ≤ i ∧ i < hi - lo) ∧ ys = xs.set (lo + i).toNat a := by
  unfold ups at h; split at h
  · rename_i hc; injection h with h; exact ⟨hc, h.symm⟩
  · cases h
theorem ups_of {α : Type} {xs : List α} {lo hi i : Int} {a : α} (h : 0 ≤ lo ∧ lo ≤ hi ∧ hi.toNat ≤ xs.length ∧ 0 ≤ i ∧ i < hi - lo) : ups xs lo hi i a = some (xs.set (lo + i).toNat a) := if_pos h
/-- copy over a slice -/
def cpw {α : Type} (xs ys : List α) : Option (List α) := some (ys.take xs.length ++ xs.drop ys.length)
theorem cpw_some {α : Type} {xs ys zs : List α} (h : cpw xs ys = some zs) : zs = ys.take xs.length ++ xs.drop ys.length := (Option.some.inj h).symm
theorem cpw_of {α : Type} {xs ys : List α} : cpw xs ys = some (ys.take xs.length ++ xs.drop ys.length) := rfl
/-- the first elements, as an array -/
def tka {α : Type} (xs : List α) (n : Nat) : Option (List α) := if n ≤ xs.length then some (xs.take n) else none
theorem tka_some {α : Type} {xs ys : List α} {n : Nat} (h : tka xs n = some ys) : n ≤ xs.length ∧ ys = xs.take n := by
  unfold tka at h; split at h
  · rename_i hc; injection h with h; exact ⟨hc, h.symm⟩
  · cases h
theorem tka_of {α : Type} {xs : List α} {n : Nat} (h : n ≤ xs.length) : tka xs n = some (xs.take n) := if_pos h
theorem tka_len {α : Type} {xs ys : List α} {n : Nat} (h : tka xs n = some ys) : ys.length = n := by
  obtain ⟨h1, rfl⟩ := tka_some h; rw [List.length_take]; omega
/-- append of something onto a slice without spare places -/
def apg {α : Type} (B : Nat) (xs ys : List α) : Option (List α) := if ys.length = 0 then none else apd B xs ys
theorem apg_some {α : Type} {B : Nat} {xs ys zs : List α} (h : apg B xs ys = some zs) : ys.length ≠ 0 ∧ apd B xs ys = some zs := by
  unfold apg at h; split at h
  · cases h
  · exact ⟨by assumption, h⟩
theorem apg_of {α : Type} {B : Nat} {xs ys : List α} (h : ys.length ≠ 0) : apg B xs ys = apd B xs ys := if_neg h
/-- an int, wrapped -/
def wri (z : Int) : Int := if z % 18446744073709551616 ≥ 9223372036854775808 then z % 18446744073709551616 - 18446744073709551616 else z % 18446744073709551616
theorem wri_in {z : Int} (h0 : -9223372036854775808 ≤ z) (h1 : z ≤ 9223372036854775807) : wri z = z := by unfold wri; split <;> omega
/-! maps -/
def mget {κ ν : Type} [BEq κ] : List (κ × ν) → κ → Option ν
  | [], _ => none
  | (a, v) :: m, k => if k == a then some v else mget m k
def mset {κ ν : Type} [BEq κ] : List (κ × ν) → κ → ν → List (κ × ν)
  | [], k, v => [(k, v)]
  | (a, w) :: m, k, v => if k == a then (k, v) :: m else (a, w) :: mset m k v
/-! a range over a map: whatever the order, one result -/
def mfold {β σ : Type} (body : β → σ → Option σ) : List β → σ → Option σ
  | [], s => some s
  | p :: l, s => (body p s).bind (mfold body l)
def insE {β : Type} (x : β) : List β → List (List β)
  | [] => [[x]]
  | y :: l => (x :: y :: l) :: (insE x l).map (y :: ·)
def perms {β : Type} : List β → List (List β)
  | [] => [[]]
  | x :: l => (perms l).flatMap (insE x)
theorem mem_insE {β : Type} (x : β) (l2 : List β) : ∀ l1 : List β, l1 ++ x :: l2 ∈ insE x (l1 ++ l2)
  | [] => by cases l2 <;> simp [insE]
  | y :: l1 => by
    simp only [List.cons_append, insE]
    exact List.mem_cons_of_mem _ (List.mem_map.2 ⟨_, mem_insE x l2 l1, rfl⟩)
theorem mem_perms {β : Type} : ∀ {es l : List β}, l.Perm es → l ∈ perms es
  | [], l, h => by rw [h.eq_nil]; simp [perms]
  | x :: t, l, h => by
    obtain ⟨l1, l2, rfl⟩ := List.append_of_mem (h.mem_iff.2 (List.mem_cons_self ..))
    have h2 : (l1 ++ l2).Perm t := (List.perm_middle.symm.trans h).cons_inv
    exact List.mem_flatMap.2 ⟨_, mem_perms h2, mem_insE x l2 l1⟩
def mrange {β σ : Type} [DecidableEq σ] (es : List β) (body : β → σ → Option σ) (s : σ) : Option σ := if ∀ l ∈ perms es, mfold body l s = mfold body es s then mfold body es s else none
theorem mrange_some {β σ : Type} [DecidableEq σ] {es : List β} {body : β → σ → Option σ} {s t : σ} (h : mrange es body s = some t) : ∀ l : List β, l.Perm es → mfold body l s = some t := by
  unfold mrange at h; split at h
  · rename_i hc; intro l hl; rw [hc l (mem_perms hl), h]
  · cases h
theorem mrange_of {β σ : Type} [DecidableEq σ] {es : List β} {body : β → σ → Option σ} {s t : σ} (h : ∀ l ∈ perms es, mfold body l s = some t) : mrange es body s = some t := by
  have h0 := h es (mem_perms (List.Perm.refl es))
  unfold mrange; rw [if_pos (fun l hl => (h l hl).trans h0.symm), h0]
theorem insE_perm {β : Type} (x : β) : ∀ {l m : List β}, m ∈ insE x l → m.Perm (x :: l)
  | [], m, h => by simp [insE] at h; rw [h]
  | y :: l, m, h => by
    simp only [insE, List.mem_cons, List.mem_map] at h
    rcases h with rfl | ⟨k, hk, rfl⟩
    · exact List.Perm.refl _
    · exact ((insE_perm x hk).cons y).trans (List.Perm.swap x y l)
theorem perms_perm {β : Type} : ∀ {es l : List β}, l ∈ perms es → l.Perm es
  | [], l, h => by simp [perms] at h; rw [h]
  | x :: t, l, h => by
    obtain ⟨k, hk, hl⟩ := List.mem_flatMap.1 h
    exact (insE_perm x hl).trans ((perms_perm hk).cons x)
theorem mfold_next {β σ : Type} {body : β → σ → Option σ} {s t : σ} {left left' : List β} {p : β} (h : ∀ l : List β, l.Perm left → mfold body l s = some t) (hp : left.Perm (p :: left')) :
    ∃ s', body p s = some s' ∧ ∀ l : List β, l.Perm left' → mfold body l s' = some t := by
  obtain ⟨s', h1, h2⟩ := bnd (h (p :: left') hp.symm)
  refine ⟨s', h1, fun l hl => ?_⟩
  have h3 := h (p :: l) ((hl.cons p).trans hp.symm)
  simp only [mfold, h1, Option.bind_some] at h3; exact h3
theorem mfold_done {β σ : Type} {body : β → σ → Option σ} {s t : σ} (h : ∀ l : List β, l.Perm [] → mfold body l s = some t) : s = t := Option.some.inj (h [] (List.Perm.refl _))
end Go.Proofs.Ytkcccenekglkoaa
