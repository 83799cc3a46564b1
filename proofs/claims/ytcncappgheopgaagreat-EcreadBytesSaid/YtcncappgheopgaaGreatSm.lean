/-
 The statement EcreadBytes. Conditions: the lengths of slices are ints.
-/
import Derived.Test.YtcncappgheopgaaGreatSl
import Derived.Test.YtcncappgheopgaaGreatMdm0
namespace Go.Proofs.YtcncappgheopgaaGreat
set_option linter.unusedVariables false
set_option linter.unusedSimpArgs false
theorem awake_ok : m_law18_awake = some true := by decide +kernel
theorem ranges_loop (skip : List Int) (hs : skip.length <= 6) (off n : Int) (x140 : List Item) (x145 : List Bytes) (x152 : List Bool) (x154 a b c m : Int) (c0 c1 c2 c3 c4 c5 : BitVec 32) (l : List Item) (hl : l.length <= 1000) (f : List Bytes) (v : List Bool) (r2 : List Item -> List Bytes -> List Bool -> Int -> Option Bool) (d : Nat) : ∀ (t q : Nat), t + d = 3 -> d < q ->
  m_law18_EcreadBytes_l5 skip off n x140 x145 x152 x154 a b c m c0 c1 c2 c3 c4 c5 l f v r2 q (t : Int) = m_law18_EcreadBytes_j3 x140 x145 x152 x154 r2 := by
 induction d with
 | zero =>
  intro t q hi hq
  obtain ⟨q, rfl⟩ : ∃ q', q = q' + 1 := ⟨q - 1, by omega⟩
  unfold m_law18_EcreadBytes_l5
  rw [if_neg (by simp; omega)]
 | succ d ih =>
  intro t q hi hq
  obtain ⟨q, rfl⟩ : ∃ q', q = q' + 1 := ⟨q - 1, by omega⟩
  have h3 : t < ([(Sanon42.mk off n), (Sanon42.mk (andi off (511 : Int)) (andi n (255 : Int))), (Sanon42.mk (0 : Int) m)] : List Sanon42).length := by simp; omega
  unfold m_law18_EcreadBytes_l5
  rw [if_pos (by simp; omega), idx_nat, List.getElem?_eq_getElem h3, obs, m_law18_given, obs]
  dsimp only
  rw [ebytes_ok _ _ _ _ _ _ _ _ _ _ _ _ _ _ _ _ (by omega) (by omega), obs, rbytes_ok _ _ _ _ _ _ _ _ _ _ _ _ _ _ _ _ (by omega) (by omega), obs, if_pos rfl, if_pos rfl, ck_of (by omega), obs]
  exact ih (t + 1) q (by omega) (by omega)
theorem ok_EcreadBytes (a b c m : Int) (c0 c1 c2 c3 c4 c5 : BitVec 32) (l : List Item) (files : List Bytes) (hv : List Bool) (ns : List Nd) (spoil skip : List Int) (off n : Int) (hf : files.length <= 9223372036854775807) :
  m_law18_EcreadBytes a b c m c0 c1 c2 c3 c4 c5 l files hv ns spoil skip off n = some true := by
 unfold m_law18_EcreadBytes
 obtain ⟨v, e1, h1⟩ := light_ok files a b c m c0 c1 c2 c3 c4 c5 l hf
 rw [e1, obs]
 by_cases hv1 : v = true
 ·rw [if_pos hv1]
  by_cases h2 : (6 : Int) < (skip.length : Int)
  ·rw [if_pos h2, awake_ok]; rfl
  ·rw [if_neg h2]
   by_cases h3 : (10 : Int) < (hv.length : Int)
   ·rw [if_pos h3, awake_ok]; rfl
   ·rw [if_neg h3]
    have hl := h1 hv1
    obtain ⟨M⟩ := made_ok ns
    obtain ⟨x, y, e2⟩ := spoilt_ok (C := M.C) (b := datOf M.c (nsOf ns 10)) M.gen.wid spoil
    unfold m_law18_EcreadBytes_j0
    rw [M.eq, obs]
    dsimp only
    rw [e2, obs]
    have hil := M.gen.itemsLen
    have f : forever = 18446744073709551613 + 1 + 1 + 1 := rfl
    rw [f]
    unfold m_law18_EcreadBytes_l2
    rw [if_pos (by omega), if_neg (by omega), m_law18_EcreadBytes_j4]
    refine (ranges_loop skip (by omega) off n _ x y 0 a b c m c0 c1 c2 c3 c4 c5 l (by omega) files hv _ 3 0 forever (by omega) (by unfold forever; omega)).trans ?_
    unfold m_law18_EcreadBytes_j3
    rw [ck_of (by omega), obs]
    unfold m_law18_EcreadBytes_l2
    rw [if_pos (by omega), if_pos (by omega), m_law18_EcreadBytes_j4]
    refine (ranges_loop skip (by omega) off n _ x y 1 1 2 3 _ M.s0 M.s1 M.s2 M.s3 M.s4 M.s5 (itemsOf (nsOf ns 10)) (by omega) x y _ 3 0 forever (by omega) (by unfold forever; omega)).trans ?_
    unfold m_law18_EcreadBytes_j3
    rw [ck_of (by omega), obs]
    unfold m_law18_EcreadBytes_l2
    rw [if_neg (by omega), m_law18_EcreadBytes_j1, awake_ok]; rfl
 ·rw [if_neg hv1, awake_ok]; rfl
end Go.Proofs.YtcncappgheopgaaGreat
