/-
  Plain laws of the models of needle: Decode. Conditions: as each theorem says.
-/
import Derived.Test.YtclhepegfmhmjaaPb
namespace Go.Proofs.Ytclhepegfmhmjaa
set_option linter.unusedVariables false
set_option linter.unusedSimpArgs false

abbrev NR := (BitVec 64) × (BitVec 32) × Bool × (List (BitVec 8)) × Int × Int
def nbad (e : Int) : NR := (0#64, 0#32, false, [], 0, e)
def bget (b : List (BitVec 8)) (i : Nat) : BitVec 8 := b.getD i 0#8
def nlen (b : List (BitVec 8)) : BitVec 64 := val ((b.drop 16).take 4)
def ncore (b : List (BitVec 8)) (n : Nat) : NR :=
  if b.length < nsize n then nbad 4
  else if le4 (crcSum (b.take (20 + n))) = (b.drop (20 + n)).take 4 then
    if ((b.drop (24 + n)).take (nsize n - (24 + n))).all (· == 0#8) = true then
      (val ((b.drop 8).take 8), (val ((b.drop 4).take 4)).setWidth 32, (bget b 2 == 1#8), (b.drop 20).take n, ((nsize n : Nat) : Int), 0)
    else nbad 3
  else nbad 5
def ndec (b : List (BitVec 8)) : NR :=
  if b.length < 20 then nbad 4
  else if bget b 0 = 78#8 ∧ bget b 1 = 165#8 ∧ ¬ 1#8 < bget b 2 ∧ bget b 3 = 0#8 ∧ ¬ 4096#64 < nlen b ∧ (bget b 2 = 1#8 → ¬ 0#64 < nlen b) then ncore b (nlen b).toNat
  else nbad 3

theorem slc_nat {α : Type} (xs : List α) (lo hi : Nat) (h : lo ≤ hi ∧ hi ≤ xs.length) : slc xs (lo : Int) (hi : Int) = some ((xs.drop lo).take (hi - lo)) := by
  rw [slc_of (by omega)]; simp
theorem small_toInt (x : BitVec 64) (h : ¬ 4096#64 < x) : x.toInt = (x.toNat : Int) ∧ x.toNat ≤ 4096 := by
  have h1 : x.toNat ≤ 4096 := by
    have : ¬ (4096#64).toNat < x.toNat := h
    simpa using this
  exact ⟨by rw [BitVec.toInt_eq_toNat_cond, if_pos (by omega)], h1⟩
theorem take_take_of {α : Type} (xs : List α) (a b : Nat) : (xs.drop a).take b = (xs.drop a).take b := rfl

/-! the reference -/
theorem rdec_l2 (b : List (BitVec 8)) (N : Nat) (hb : nsize N ≤ b.length) (hN : N ≤ 4096) (q : Nat) : ∀ (i : Nat), i ≤ nsize N → nsize N - i < q →
    m_r06_Decode_l2 b ((nsize N : Nat) : Int) ((20 + N : Nat) : Int) q (i : Int) = if ((b.drop i).take (nsize N - i)).all (· == 0#8) = true then m_r06_Decode_j1 b ((nsize N : Nat) : Int) ((20 + N : Nat) : Int) else some (nbad 3) := by
  have hs := nsize_lo N
  induction q with
  | zero => intro i _ h; omega
  | succ q ih =>
    intro i hi hq
    rw [m_r06_Decode_l2]
    by_cases h : i < nsize N
    · rw [if_pos (by omega), idx_getD b i 0#8 (by omega), bs, drop_getD b i 0#8 (by omega), show nsize N - i = (nsize N - (i + 1)) + 1 by omega, List.take_succ_cons, List.all_cons]
      by_cases hz : b.getD i 0#8 = 0#8
      · rw [if_pos hz, show ((i : Int) + 1) = ((i + 1 : Nat) : Int) by omega, ckn _ (by omega), bs, ih (i + 1) (by omega) (by omega), hz]; simp
      · rw [if_neg hz, if_neg (by simp; intro h; exact absurd h hz)]; rfl
    · rw [if_neg (by omega), show nsize N - i = 0 by omega]; simp
theorem rdec_j1 (b : List (BitVec 8)) (N : Nat) (hb : nsize N ≤ b.length) (hN : N ≤ 4096) (hm : b.length ≤ 9223372036854775806) : m_r06_Decode_j1 b ((nsize N : Nat) : Int) ((20 + N : Nat) : Int) =
    some ((val ((b.drop 8).take 8), (val ((b.drop 4).take 4)).setWidth 32, (bget b 2 == 1#8), (b.drop 20).take N, ((nsize N : Nat) : Int), (0 : Int)) : NR) := by
  have hs := nsize_lo N
  rw [m_r06_Decode_j1, show (8 : Int) = ((8 : Nat) : Int) from rfl, show (16 : Int) = ((16 : Nat) : Int) from rfl, show (4 : Int) = ((4 : Nat) : Int) from rfl, show (20 : Int) = ((20 : Nat) : Int) from rfl, show (2 : Int) = ((2 : Nat) : Int) from rfl,
    slc_nat _ _ _ (by omega), bs, r06_Value_eq _ (by simp; omega), bs, slc_nat _ _ _ (by omega), bs, r06_Value_eq _ (by simp; omega), bs, idx_getD b 2 0#8 (by omega), bs, slc_nat _ _ _ (by omega), bs, apd1_of (by simp; omega), bs, show 20 + N - 20 = N by omega]
  rfl
theorem rdec_j0 (b : List (BitVec 8)) (x : BitVec 64) (hx : ¬ 4096#64 < x) (h20 : 20 ≤ b.length) (hm : b.length ≤ 9223372036854775806) : m_r06_Decode_j0 b x = some (ncore b x.toNat) := by
  obtain ⟨hxi, hN⟩ := small_toInt x hx
  have hs := nsize_lo x.toNat
  rw [m_r06_Decode_j0, hxi, r06_Size_eq, bs, sizeZ_nat _ hN, show ((20 : Int) + (x.toNat : Int)) = ((20 + x.toNat : Nat) : Int) by omega, ckn _ (by omega), bs, ncore]
  by_cases h1 : b.length < nsize x.toNat
  · rw [if_pos (by omega), if_pos h1]; rfl
  · rw [if_neg (by omega), if_neg h1, show (0 : Int) = ((0 : Nat) : Int) from rfl, slc_nat _ _ _ (by omega), bs, r06_Check_eq _ (by simp; omega), bs, show (((20 + x.toNat : Nat) : Int) + (4 : Int)) = ((24 + x.toNat : Nat) : Int) by omega, ckn _ (by omega), bs, slc_nat _ _ _ (by omega), bs]
    rw [List.drop_zero, Nat.sub_zero, show 24 + x.toNat - (20 + x.toNat) = 4 by omega]
    by_cases h2 : le4 (crcSum (b.take (20 + x.toNat))) = (b.drop (20 + x.toNat)).take 4
    · rw [if_pos h2, if_pos h2, bs, rdec_l2 b x.toNat (by omega) hN forever (24 + x.toNat) (by omega) (by unfold forever; omega), rdec_j1 b _ (by omega) hN hm]
      split <;> rfl
    · rw [if_neg h2, if_neg h2]; rfl
theorem r06_Decode_eq (b : List (BitVec 8)) (hm : b.length ≤ 9223372036854775806) : m_r06_Decode b = some (ndec b) := by
  unfold m_r06_Decode ndec
  by_cases h : b.length < 20
  · rw [if_pos (by omega), if_pos h]; rfl
  · rw [if_neg (by omega), if_neg h, show (16 : Int) = ((16 : Nat) : Int) from rfl, show (20 : Int) = ((20 : Nat) : Int) from rfl, slc_nat _ _ _ (by omega), bs, r06_Value_eq _ (by simp; omega), bs,
      show (0 : Int) = ((0 : Nat) : Int) from rfl, idx_getD b 0 0#8 (by omega), bs, show (1 : Int) = ((1 : Nat) : Int) from rfl, show (2 : Int) = ((2 : Nat) : Int) from rfl, show (3 : Int) = ((3 : Nat) : Int) from rfl,
      idx_getD b 1 0#8 (by omega), idx_getD b 2 0#8 (by omega), idx_getD b 3 0#8 (by omega)]
    simp only [bs]
    have e : (b.drop 16).take (20 - 16) = (b.drop 16).take 4 := rfl
    rw [e]
    change (if bget b 0 = 78#8 then if bget b 1 = 165#8 then if 1#8 < bget b 2 then _ else if bget b 3 = 0#8 then if 4096#64 < nlen b then _ else if bget b 2 = 1#8 then if 0#64 < nlen b then _ else m_r06_Decode_j0 b (nlen b) else m_r06_Decode_j0 b (nlen b) else _ else _ else _) = _
    by_cases c0 : bget b 0 = 78#8
    · by_cases c1 : bget b 1 = 165#8
      · by_cases c2 : 1#8 < bget b 2
        · rw [if_pos c0, if_pos c1, if_pos c2, if_neg (by simp [c2])]; rfl
        · by_cases c3 : bget b 3 = 0#8
          · by_cases c4 : 4096#64 < nlen b
            · rw [if_pos c0, if_pos c1, if_neg c2, if_pos c3, if_pos c4, if_neg (by simp [c4])]; rfl
            · rw [if_pos c0, if_pos c1, if_neg c2, if_pos c3, if_neg c4]
              by_cases c5 : bget b 2 = 1#8
              · rw [if_pos c5]
                by_cases c6 : 0#64 < nlen b
                · rw [if_pos c6, if_neg (fun h => h.2.2.2.2.2 c5 c6)]; rfl
                · rw [if_neg c6, if_pos ⟨c0, c1, c2, c3, c4, fun _ => c6⟩, rdec_j0 b _ c4 (by omega) hm]
              · rw [if_neg c5, if_pos ⟨c0, c1, c2, c3, c4, fun h => absurd h c5⟩, rdec_j0 b _ c4 (by omega) hm]
          · rw [if_pos c0, if_pos c1, if_neg c2, if_neg c3, if_neg (by simp [c3])]; rfl
      · rw [if_pos c0, if_neg c1, if_neg (by simp [c1])]; rfl
    · rw [if_neg c0, if_neg (by simp [c0])]; rfl

/-! the program -/
theorem slices_Equal_l (xs ys : List (BitVec 8)) (hl : xs.length = ys.length) (hx : xs.length ≤ 9223372036854775806) (n : Nat) : ∀ (i : Nat), i ≤ xs.length → xs.length - i < n → m_slices_Equal_byte_byte_l1 xs ys n (i : Int) = some (xs.drop i == ys.drop i) := by
  induction n with
  | zero => intro i _ h; omega
  | succ n ih =>
    intro i hi hn
    rw [m_slices_Equal_byte_byte_l1]
    by_cases h : i < xs.length
    · rw [if_pos (by omega), idx_getD xs i 0 h, bs, idx_getD ys i 0 (by omega), bs, drop_getD xs i 0 h, drop_getD ys i 0 (by omega)]
      by_cases he : xs.getD i 0 = ys.getD i 0
      · rw [if_pos he, show ((i : Int) + 1) = ((i + 1 : Nat) : Int) by omega, ckn _ (by omega), bs, ih _ (by omega) (by omega), he]; simp
      · rw [if_neg he]; congr 1; rw [eq_comm, beq_eq_false_iff_ne]; intro e; injection e with e1 e2; exact he e1
    · rw [if_neg (by omega), List.drop_of_length_le (by omega), List.drop_of_length_le (by omega)]; rfl
theorem slices_Equal_eq (xs ys : List (BitVec 8)) (hx : xs.length ≤ 9223372036854775806) : m_slices_Equal_byte_byte xs ys = some (xs == ys) := by
  unfold m_slices_Equal_byte_byte
  by_cases h : xs.length = ys.length
  · rw [if_pos (by omega)]; exact slices_Equal_l xs ys h hx forever 0 (by omega) (by unfold forever; omega)
  · rw [if_neg (by omega)]
    have : (xs == ys) = false := by rw [beq_eq_false_iff_ne]; intro e; subst e; exact h rfl
    rw [this]
theorem slices_Clone_eq (xs : List (BitVec 8)) (hx : xs.length ≤ 200000000000000) : m_slices_Clone_byte_byte xs = some xs := by
  unfold m_slices_Clone_byte_byte; rw [apd1_of (by simpa using hx)]; rfl
theorem pdec_j2 (b : List (BitVec 8)) (N : Nat) (hb : nsize N ≤ b.length) (hN : N ≤ 4096) (hm : b.length ≤ 9223372036854775806) : m_needle_Decode_j2 b ((nsize N : Nat) : Int) ((20 + N : Nat) : Int) =
    some ((val ((b.drop 8).take 8), (val ((b.drop 4).take 4)).setWidth 32, (bget b 2 == 1#8), (b.drop 20).take N, ((nsize N : Nat) : Int), (0 : Int)) : NR) := by
  have hs := nsize_lo N
  rw [m_needle_Decode_j2, show (8 : Int) = ((8 : Nat) : Int) from rfl, show (16 : Int) = ((16 : Nat) : Int) from rfl, show (4 : Int) = ((4 : Nat) : Int) from rfl, show (20 : Int) = ((20 : Nat) : Int) from rfl, show (2 : Int) = ((2 : Nat) : Int) from rfl,
    slc_nat _ _ _ (by omega), bs, needle_big_eq _ (by simp; omega), bs, slc_nat _ _ _ (by omega), bs, needle_big_eq _ (by simp; omega), bs, idx_getD b 2 0#8 (by omega), bs, slc_nat _ _ _ (by omega), bs, slices_Clone_eq _ (by simp; omega), bs, show 20 + N - 20 = N by omega]
  rfl
theorem pdec_l3 (b zs : List (BitVec 8)) (a e : Int) (hz : zs.length ≤ 1000000) (q : Nat) : ∀ (i : Nat), i ≤ zs.length → zs.length - i < q →
    m_needle_Decode_l3 b a e zs q (i : Int) = if (zs.drop i).all (· == 0#8) = true then m_needle_Decode_j2 b a e else some (nbad 3) := by
  induction q with
  | zero => intro i _ h; omega
  | succ q ih =>
    intro i hi hq
    rw [m_needle_Decode_l3]
    by_cases h : i < zs.length
    · rw [if_pos (by omega), idx_getD zs i 0#8 (by omega), bs, drop_getD zs i 0#8 (by omega), List.all_cons]
      by_cases hz : zs.getD i 0#8 = 0#8
      · rw [if_pos hz, show ((i : Int) + 1) = ((i + 1 : Nat) : Int) by omega, ckn _ (by omega), bs, ih (i + 1) (by omega) (by omega), hz]; simp
      · rw [if_neg hz, if_neg (by simp; intro h; exact absurd h hz)]; rfl
    · rw [if_neg (by omega), List.drop_of_length_le (by omega)]; simp
theorem pdec_l1 (b : List (BitVec 8)) (N : Nat) (hb : nsize N ≤ b.length) (hN : N ≤ 4096) (hm : b.length ≤ 9223372036854775806) (s : BitVec 32) (n : Nat) : ∀ (j : Nat) (ys : List (BitVec 8)), j ≤ 4 → ys.length + (4 - j) ≤ 1000000 → 4 - j < n →
    m_needle_Decode_l1 b ((nsize N : Nat) : Int) ((20 + N : Nat) : Int) s n ys (j : Int) =
      if ys ++ (le4 s).drop j = (b.drop (20 + N)).take 4 then (if ((b.drop (24 + N)).take (nsize N - (24 + N))).all (· == 0#8) = true then m_needle_Decode_j2 b ((nsize N : Nat) : Int) ((20 + N : Nat) : Int) else some (nbad 3)) else some (nbad 5) := by
  have hs := nsize_lo N
  induction n with
  | zero => intro j ys _ _ h; omega
  | succ n ih =>
    intro j ys hk hy hn
    rw [m_needle_Decode_l1]
    by_cases h : j < 4
    · rw [if_pos (by omega), show ((8 : Int) * (j : Int)) = ((8 * j : Nat) : Int) by omega, ckn _ (by omega), bs, shru_of (by omega), bs, apd1_of (by simp; omega), bs, show ((j : Int) + 1) = ((j + 1 : Nat) : Int) by omega, ckn _ (by omega), bs, ih (j + 1) _ (by omega) (by simp; omega) (by omega),
        List.append_assoc, Int.toNat_natCast, le4_drop s j h]; rfl
    · have hd : (le4 s).drop j = [] := List.drop_of_length_le (by rw [le4_length]; omega)
      rw [if_neg (by omega), hd, List.append_nil, show (((20 + N : Nat) : Int) + (4 : Int)) = ((24 + N : Nat) : Int) by omega, ckn _ (by omega), bs, slc_nat _ _ _ (by omega), bs, slices_Equal_eq _ _ (by omega), bs, show 24 + N - (20 + N) = 4 by omega]
      by_cases he : ys = (b.drop (20 + N)).take 4
      · rw [if_pos (by simpa using he), if_pos he, bs, slc_nat _ _ _ (by omega), bs]
        have := pdec_l3 b ((b.drop (24 + N)).take (nsize N - (24 + N))) ((nsize N : Nat) : Int) ((20 + N : Nat) : Int) (by simp; omega) forever 0 (by omega) (by unfold forever; simp; omega)
        rw [List.drop_zero] at this
        exact this
      · rw [if_neg (by simpa using he), if_neg he]; rfl
theorem pdec_j0 (b : List (BitVec 8)) (x : BitVec 64) (hx : ¬ 4096#64 < x) (h20 : 20 ≤ b.length) (hm : b.length ≤ 9223372036854775806) : m_needle_Decode_j0 b x = some (ncore b x.toNat) := by
  obtain ⟨hxi, hN⟩ := small_toInt x hx
  have hs := nsize_lo x.toNat
  rw [m_needle_Decode_j0, hxi, needle_Size_eq, bs, sizeZ_nat _ hN, show ((20 : Int) + (x.toNat : Int)) = ((20 + x.toNat : Nat) : Int) by omega, ckn _ (by omega), bs, ncore]
  by_cases h1 : b.length < nsize x.toNat
  · rw [if_pos (by omega), if_pos h1]; rfl
  · rw [if_neg (by omega), if_neg h1, show (0 : Int) = ((0 : Nat) : Int) from rfl, slc_nat _ _ _ (by omega), bs, crc_Sum_eq _ (by simp; omega), bs, pdec_l1 b _ (by omega) hN hm _ _ _ _ (by omega) (by simp) (by unfold forever; omega)]
    rw [List.drop_zero, List.drop_zero, Nat.sub_zero, List.nil_append, pdec_j2 b _ (by omega) hN hm]
    split <;> (try split) <;> rfl
theorem needle_Decode_eq (b : List (BitVec 8)) (hm : b.length ≤ 9223372036854775806) : m_needle_Decode b = some (ndec b) := by
  unfold m_needle_Decode ndec
  by_cases h : b.length < 20
  · rw [if_pos (by omega), if_pos h]; rfl
  · rw [if_neg (by omega), if_neg h, show (16 : Int) = ((16 : Nat) : Int) from rfl, show (20 : Int) = ((20 : Nat) : Int) from rfl, slc_nat _ _ _ (by omega), bs, needle_big_eq _ (by simp; omega), bs,
      show (0 : Int) = ((0 : Nat) : Int) from rfl, idx_getD b 0 0#8 (by omega), bs, show (1 : Int) = ((1 : Nat) : Int) from rfl, show (2 : Int) = ((2 : Nat) : Int) from rfl, show (3 : Int) = ((3 : Nat) : Int) from rfl,
      idx_getD b 1 0#8 (by omega), idx_getD b 2 0#8 (by omega), idx_getD b 3 0#8 (by omega)]
    simp only [bs]
    have e : (b.drop 16).take (20 - 16) = (b.drop 16).take 4 := rfl
    rw [e]
    change (if bget b 0 = 78#8 then if bget b 1 = 165#8 then if 1#8 < bget b 2 then _ else if bget b 3 = 0#8 then if 4096#64 < nlen b then _ else if bget b 2 = 1#8 then if 0#64 < nlen b then _ else m_needle_Decode_j0 b (nlen b) else m_needle_Decode_j0 b (nlen b) else _ else _ else _) = _
    by_cases c0 : bget b 0 = 78#8
    · by_cases c1 : bget b 1 = 165#8
      · by_cases c2 : 1#8 < bget b 2
        · rw [if_pos c0, if_pos c1, if_pos c2, if_neg (by simp [c2])]; rfl
        · by_cases c3 : bget b 3 = 0#8
          · by_cases c4 : 4096#64 < nlen b
            · rw [if_pos c0, if_pos c1, if_neg c2, if_pos c3, if_pos c4, if_neg (by simp [c4])]; rfl
            · rw [if_pos c0, if_pos c1, if_neg c2, if_pos c3, if_neg c4]
              by_cases c5 : bget b 2 = 1#8
              · rw [if_pos c5]
                by_cases c6 : 0#64 < nlen b
                · rw [if_pos c6, if_neg (fun h => h.2.2.2.2.2 c5 c6)]; rfl
                · rw [if_neg c6, if_pos ⟨c0, c1, c2, c3, c4, fun _ => c6⟩, pdec_j0 b _ c4 (by omega) hm]
              · rw [if_neg c5, if_pos ⟨c0, c1, c2, c3, c4, fun h => absurd h c5⟩, pdec_j0 b _ c4 (by omega) hm]
          · rw [if_pos c0, if_pos c1, if_neg c2, if_neg c3, if_neg (by simp [c3])]; rfl
      · rw [if_pos c0, if_neg c1, if_neg (by simp [c1])]; rfl
    · rw [if_neg c0, if_neg (by simp [c0])]; rfl
end Go.Proofs.Ytclhepegfmhmjaa
