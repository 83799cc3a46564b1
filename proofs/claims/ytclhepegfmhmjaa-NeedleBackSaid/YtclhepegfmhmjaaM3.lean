/-
  Plain laws: lists put together place by place; what a change of bits does to equality. No conditions.
-/
import Derived.Test.YtclhepegfmhmjaaM2
namespace Go.Proofs.Ytclhepegfmhmjaa
open Go
set_option linter.unusedVariables false
set_option linter.unusedSimpArgs false

def zip3 (a b c : List (BitVec 8)) : List (BitVec 8) := List.zipWith (· ^^^ ·) (List.zipWith (· ^^^ ·) a b) c
theorem zip3_length (a b c : List (BitVec 8)) (m : Nat) (ha : m ≤ a.length) (hb : m ≤ b.length) (hc : m ≤ c.length) : (zip3 (a.take m) (b.take m) (c.take m)).length = m := by
  simp [zip3]; omega
theorem zip3_getD (a b c : List (BitVec 8)) (m k : Nat) (hk : k < m) (ha : m ≤ a.length) (hb : m ≤ b.length) (hc : m ≤ c.length) :
    a.getD k 0 ^^^ b.getD k 0 ^^^ c.getD k 0 = (zip3 (a.take m) (b.take m) (c.take m)).getD k 0 := by
  have h1 : k < a.length := by omega
  have h2 : k < b.length := by omega
  have h3 : k < c.length := by omega
  simp [zip3, List.getD_eq_getElem?_getD, List.getElem?_zipWith, hk, h1, h2, h3]
theorem crcSum_zip3 (a b c : List (BitVec 8)) (m : Nat) (ha : m ≤ a.length) (hb : m ≤ b.length) (hc : m ≤ c.length) :
    crcSum (zip3 (a.take m) (b.take m) (c.take m)) = crcSum (a.take m) ^^^ crcSum (b.take m) ^^^ crcSum (c.take m) :=
  crcSum_xor3 _ _ _ (by simp; omega) (by simp; omega)
theorem burst_law (xs : List (BitVec 8)) (k m : Nat) (flip : BitVec 32) (h : k + m ≤ 8 * xs.length) :
    ((xs == burstTo xs k flip m) == (crcSum xs == crcSum (burstTo xs k flip m))) = true := by
  have hb := crcSum_burst xs k m flip h
  by_cases e : burstTo xs k flip m = xs
  · rw [e]; simp
  · have h1 : (xs == burstTo xs k flip m) = false := beq_false_of_ne (fun h => e h.symm)
    have h2 : (crcSum xs == crcSum (burstTo xs k flip m)) = false := beq_false_of_ne (fun h => e (hb.1 h.symm))
    rw [h1, h2]; rfl
end Go.Proofs.Ytclhepegfmhmjaa
