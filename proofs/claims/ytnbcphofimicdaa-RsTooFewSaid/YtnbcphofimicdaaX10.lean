/-
  Slices whose elements have slices: raw elements (headers) beside the elements that are meant, and the relation between them in memory that stays. No conditions.
-/
import Derived.Test.YtnbcphofimicdaaX9
namespace Go.Proofs.Ytnbcphofimicdaa
open Go Go.RowKit
set_option linter.unusedVariables false
set_option linter.unusedSimpArgs false

/-- relations that hold in more memory, too -/
class Mono {ρ δ : Type} (R : Mem → ρ → δ → Prop) : Prop where
  mono : ∀ {M M' : Mem} {r : ρ} {x : δ}, R M r x → (∀ g o, M g = some o → M' g = some o) → R M' r x

theorem Mem.cell_mono {M M' : Mem} (h : ∀ g o, M g = some o → M' g = some o) {a : Addr} {v : Value} (hc : M.cell? a = some v) : M'.cell? a = some v :=
  Ext.cell (B := 0) ⟨h, fun _ _ _ => .inr (Nat.zero_le _)⟩ hc

/-- a header's slice has the elements x -/
def RelB {α : Type} [Lay α] (M : Mem) (h : Hdr) (x : List α) : Prop := SlT M h.A h.n h.c x
instance {α : Type} [Lay α] : Mono (RelB (α := α)) := ⟨fun h hm => SlRc.mono h fun _ _ e => Mem.cell_mono hm e⟩

structure Rels {ρ δ : Type} (R : ρ → δ → Prop) (rs : List ρ) (xs : List δ) : Prop where
  len : rs.length = xs.length
  get : ∀ (i : Nat) (r : ρ) (x : δ), rs[i]? = some r → xs[i]? = some x → R r x

/-- a header's slice has elements that themselves stand for x -/
def RelL {ρ δ : Type} [Lay ρ] (R : Mem → ρ → δ → Prop) (M : Mem) (h : Hdr) (x : List δ) : Prop := ∃ rs : List ρ, SlT M h.A h.n h.c rs ∧ Rels (R M) rs x
section
variable {ρ δ : Type} {R : ρ → δ → Prop} {rs rs' : List ρ} {xs xs' : List δ}
theorem Rels.imp {R' : ρ → δ → Prop} (h : Rels R rs xs) (hi : ∀ r x, R r x → R' r x) : Rels R' rs xs := ⟨h.len, fun i r x h1 h2 => hi _ _ (h.get i r x h1 h2)⟩
instance {ρ δ : Type} [Lay ρ] (R : Mem → ρ → δ → Prop) [Mono R] : Mono (RelL R) := ⟨fun ⟨rs, h1, h2⟩ hm => ⟨rs, SlRc.mono h1 fun _ _ e => Mem.cell_mono hm e, h2.imp fun _ _ h => Mono.mono h hm⟩⟩
theorem Rels.lift {R : Mem → ρ → δ → Prop} [Mono R] {B : Nat} {M M' : Mem} (h : Rels (R M) rs xs) (hx : Ext B M M') : Rels (R M') rs xs := h.imp fun _ _ e => Mono.mono e hx.le
theorem Rels.sn {R : Mem → ρ → δ → Prop} [Mono R] {M : Mem} (h : Rels (R M) rs xs) {w : World} (hw : Holds M w) : Rels (R (Mem.snap w)) rs xs := h.imp fun _ _ e => Mono.mono e hw
theorem Mono.lift {R : Mem → ρ → δ → Prop} [Mono R] {B : Nat} {M M' : Mem} {r : ρ} {x : δ} (h : R M r x) (hx : Ext B M M') : R M' r x := Mono.mono h hx.le
theorem Rels.nil : Rels R [] [] := ⟨rfl, fun i r x h => by simp at h⟩
theorem Rels.cons {r : ρ} {x : δ} (h : R r x) (hs : Rels R rs xs) : Rels R (r :: rs) (x :: xs) := ⟨by simp [hs.len], fun i r' x' h1 h2 => by
  cases i with
  | zero => simp at h1 h2; subst h1; subst h2; exact h
  | succ i => simp at h1 h2; exact hs.get i _ _ h1 h2⟩
theorem Rels.append (h : Rels R rs xs) (h' : Rels R rs' xs') : Rels R (rs ++ rs') (xs ++ xs') := ⟨by simp [h.len, h'.len], fun i r x h1 h2 => by
  rw [List.getElem?_append] at h1 h2
  rw [h.len] at h1
  split at h1
  · rename_i hi; rw [if_pos hi] at h2; exact h.get i _ _ h1 h2
  · rename_i hi; rw [if_neg hi] at h2; exact h'.get _ _ _ h1 h2⟩
theorem Rels.replicate {r : ρ} {x : δ} (h : R r x) (n : Nat) : Rels R (List.replicate n r) (List.replicate n x) := ⟨by simp, fun i r' x' h1 h2 => by
  rw [List.getElem?_replicate] at h1 h2
  split at h1
  · rename_i hi; rw [if_pos hi] at h2; injection h1 with h1; injection h2 with h2; subst h1; subst h2; exact h
  · cases h1⟩
theorem Rels.set {r : ρ} {x : δ} (h : Rels R rs xs) (hr : R r x) (i : Nat) : Rels R (rs.set i r) (xs.set i x) := ⟨by simp [h.len], fun j r' x' h1 h2 => by
  rw [List.getElem?_set] at h1 h2
  split at h1
  · rename_i hi
    rw [if_pos hi] at h2
    rw [h.len] at h1
    split at h1
    · rename_i hj; rw [if_pos hj] at h2; injection h1 with h1; injection h2 with h2; subst h1; subst h2; exact hr
    · cases h1
  · rename_i hi; rw [if_neg hi] at h2; exact h.get _ _ _ h1 h2⟩
theorem Rels.sub (h : Rels R rs xs) (lo n : Nat) : Rels R ((rs.drop lo).take n) ((xs.drop lo).take n) := ⟨by simp [h.len], fun i r x h1 h2 => by
  rw [List.getElem?_take] at h1 h2
  split at h1
  · rename_i hi
    rw [if_pos hi, List.getElem?_drop] at h2
    rw [List.getElem?_drop] at h1
    exact h.get _ _ _ h1 h2
  · cases h1⟩
theorem Rels.idx {i : Int} {x : δ} (h : Rels R rs xs) (hx : Go.Proofs.Ytnbcphofimicdaa.idx xs i = some x) : ∃ r, Go.Proofs.Ytnbcphofimicdaa.idx rs i = some r ∧ R r x := by
  obtain ⟨h1, h2, h3⟩ := idx_some hx
  have hlt : i.toNat < rs.length := by rw [h.len]; omega
  exact ⟨rs[i.toNat], by rw [Go.Proofs.Ytnbcphofimicdaa.idx, if_pos h1, List.getElem?_eq_getElem hlt], h.get _ _ _ (List.getElem?_eq_getElem hlt) h3⟩
theorem Rels.slc {lo hi : Int} {ys : List δ} (h : Rels R rs xs) (hx : Go.Proofs.Ytnbcphofimicdaa.slc xs lo hi = some ys) : ∃ ss, Go.Proofs.Ytnbcphofimicdaa.slc rs lo hi = some ss ∧ Rels R ss ys := by
  obtain ⟨h1, rfl, _⟩ := slc_some hx
  exact ⟨_, slc_of (by rw [h.len]; exact h1), h.sub _ _⟩
theorem Rels.upd {i : Int} {x : δ} {ys : List δ} {r : ρ} (h : Rels R rs xs) (hx : Go.Proofs.Ytnbcphofimicdaa.upd xs i x = some ys) (hr : R r x) : Go.Proofs.Ytnbcphofimicdaa.upd rs i r = some (rs.set i.toNat r) ∧ Rels R (rs.set i.toNat r) ys := by
  obtain ⟨h1, rfl⟩ := upd_some hx
  exact ⟨upd_of (by rw [h.len]; exact h1), h.set hr _⟩
theorem Rels.apd {B : Nat} {ys zs : List δ} {ss : List ρ} (h : Rels R rs xs) (h' : Rels R ss ys) (hx : Go.Proofs.Ytnbcphofimicdaa.apd B xs ys = some zs) : Go.Proofs.Ytnbcphofimicdaa.apd B rs ss = some (rs ++ ss) ∧ Rels R (rs ++ ss) zs := by
  obtain ⟨h1, rfl⟩ := apd_some hx
  exact ⟨apd_of (by rw [h.len, h'.len]; exact h1), h.append h'⟩
theorem Rels.mks {B : Nat} {n : Int} {z : δ} {r : ρ} {ys : List δ} (hx : Go.Proofs.Ytnbcphofimicdaa.mks B n z = some ys) (hr : R r z) : Go.Proofs.Ytnbcphofimicdaa.mks B n r = some (List.replicate n.toNat r) ∧ Rels R (List.replicate n.toNat r) ys := by
  obtain ⟨h1, rfl⟩ := mks_some hx
  exact ⟨mks_of h1, Rels.replicate hr _⟩
theorem RelB.nil {α : Type} [Lay α] {M : Mem} : RelB M ⟨none, 0, 0⟩ ([] : List α) := SlT.nil
theorem RelL.nil {R : Mem → ρ → δ → Prop} [Lay ρ] {M : Mem} : RelL R M ⟨none, 0, 0⟩ ([] : List δ) := ⟨[], SlT.nil, Rels.nil⟩
end
section
variable {P : Program} {N : Nat} {w0 : World} {env : Env} {H : Heap}
variable {A : Option Addr} {n c : Nat}
variable {d : Option Tmp} {ty T T' E : TypeId} {pos : String} {after : Array Edge} {g : Option (Nat × Bool)} {x y : Operand} {z : Value} {bytes : Nat}
theorem WD.freeze {Hro : Heap} {fuel : Nat} {listed : Array Bool} {ops : Array Oper} {K : Act → World → Prop} {sz : Nat} {M : Mem} {E : TypeId} {xs : List Value} (k : Nat) (hk : look H k = some (.own E sz A n c xs)) (hM : look H 0 = some (.mem M)) (h0 : Nat.beq k 0 = false)
    (h1 : look Hro k = none) (h2 : look Hro 0 = none)
    (h : ∀ M', Ext w0.heap.size M M' → SlM M' sz A n c xs → WD P N w0 ops K Hro fuel listed env ((k, .emp) :: (0, .mem M') :: H)) : WD P N w0 ops K Hro fuel listed env H :=
  fun hs a w hst => let ⟨M', g1, g2, g3⟩ := hst.freeze k hk hM h0; h M' g1 g2 (Sub.push h1 (Sub.push h2 hs)) a w g3
theorem Yld.lenD {ρ δ : Type} [Lay ρ] {rs : List ρ} {xs : List δ} (hl : rs.length = xs.length) (hT : P.underlying T = some (.slice E)) (hx : evl env x = some (.slice A n c)) (hr : RdT w0 H A n c rs) : Yld P N w0 env H ⟨d, .call ⟨.builtin .len, #[x], #[T]⟩, ty, pos, after, g⟩ (I64 (xs.length : Int)) := by
  rw [← hl]; exact Yld.lenC hT hx hr
end
end Go.Proofs.Ytnbcphofimicdaa
