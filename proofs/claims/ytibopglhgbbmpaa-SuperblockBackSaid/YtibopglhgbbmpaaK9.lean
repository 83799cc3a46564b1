/-
  More on readable slices: parts of a slice of the first state. No conditions.
-/
import Derived.Test.YtibopglhgbbmpaaK8
namespace Go.Proofs.Ytibopglhgbbmpaa
open Go Go.RowKit
set_option linter.unusedVariables false
theorem SlR.eq {w : World} {sz : Nat} {A A' : Option Addr} {n c n' c' : Nat} {cs cs' : List Value} (h : SlR w sz A n c cs) (hA : A = A') (hn : n = n') (hc : c = c') (hcs : cs = cs') : SlR w sz A' n' c' cs' := by
  subst hA; subst hn; subst hc; subst hcs; exact h
theorem SlR.cut1 {w : World} {A : Option Addr} {n c : Nat} {α : Type} {f : α → Value} {xs : List α} (h : SlR w 1 A n c (xs.map f)) {lo hi : Nat} (h1 : lo ≤ hi) (h2 : hi ≤ n) :
    SlR w 1 (subA A c lo 1) (hi - lo) (c - lo) (((xs.drop lo).take (hi - lo)).map f) :=
  (h.cut h1 h2).eq rfl rfl rfl (by simp [List.map_take, List.map_drop])
theorem SlR.drop1 {w : World} {A : Option Addr} {n c : Nat} {α : Type} {f : α → Value} {xs : List α} (h : SlR w 1 A n c (xs.map f)) {lo : Nat} (h1 : lo ≤ n) :
    SlR w 1 (subA A c lo 1) (n - lo) (c - lo) ((xs.drop lo).map f) :=
  (h.cut1 h1 (Nat.le_refl n)).eq rfl rfl rfl (by have := h.len1; rw [List.take_of_length_le (by simp; omega)])
section
variable {P : Program} {N : Nat} {w0 : World} {env : Env} {H : Heap}
/-- what a readable slice says of its numbers -/
theorem WL.fact {ops : Array Oper} {K : Act → World → Prop} {rest : List Oper} {sz n c : Nat} {A : Option Addr} {cs : List Value} (hr : RdH w0 H sz A n c cs)
    (h : n ≤ c → c ≤ 9223372036854775807 → cs.length = n * sz → WL P N w0 ops K rest env H) : WL P N w0 ops K rest env H :=
  fun a w hs => let r := hr w hs.below hs.heap; h r.le r.cm r.len a w hs
theorem WC.fact {cd : Code} {Q : Exit → Act → World → Prop} {sz n c : Nat} {A : Option Addr} {cs : List Value} (hr : RdH w0 H sz A n c cs)
    (h : n ≤ c → c ≤ 9223372036854775807 → cs.length = n * sz → WC P N w0 cd Q env H) : WC P N w0 cd Q env H :=
  fun a w hs => let r := hr w hs.below hs.heap; h r.le r.cm r.len a w hs
end
end Go.Proofs.Ytibopglhgbbmpaa
