/-
  The tables of the field (printed by gen/qt.py), and what the program's functions that look into them compute. Conditions: none.
-/
import Derived.Test.YtnbcphofimicdaaQa
namespace Go.Proofs.Ytnbcphofimicdaa
set_option linter.unusedVariables false
set_option linter.unusedSimpArgs false
def tE : List (BitVec 8) := [1#8, 2#8, 4#8, 8#8, 16#8, 32#8, 64#8, 128#8, 29#8, 58#8, 116#8, 232#8, 205#8, 135#8, 19#8, 38#8, 76#8, 152#8, 45#8, 90#8, 180#8, 117#8, 234#8, 201#8, 143#8, 3#8, 6#8, 12#8, 24#8, 48#8, 96#8, 192#8, 157#8, 39#8, 78#8, 156#8, 37#8, 74#8, 148#8, 53#8, 106#8, 212#8, 181#8, 119#8, 238#8, 193#8, 159#8, 35#8, 70#8, 140#8, 5#8, 10#8, 20#8, 40#8, 80#8, 160#8, 93#8, 186#8, 105#8, 210#8, 185#8, 111#8, 222#8, 161#8, 95#8, 190#8, 97#8, 194#8, 153#8, 47#8, 94#8, 188#8, 101#8, 202#8, 137#8, 15#8, 30#8, 60#8, 120#8, 240#8, 253#8, 231#8, 211#8, 187#8, 107#8, 214#8, 177#8, 127#8, 254#8, 225#8, 223#8, 163#8, 91#8, 182#8, 113#8, 226#8, 217#8, 175#8, 67#8, 134#8, 17#8, 34#8, 68#8, 136#8, 13#8, 26#8, 52#8, 104#8, 208#8, 189#8, 103#8, 206#8, 129#8, 31#8, 62#8, 124#8, 248#8, 237#8, 199#8, 147#8, 59#8, 118#8, 236#8, 197#8, 151#8, 51#8, 102#8, 204#8, 133#8, 23#8, 46#8, 92#8, 184#8, 109#8, 218#8, 169#8, 79#8, 158#8, 33#8, 66#8, 132#8, 21#8, 42#8, 84#8, 168#8, 77#8, 154#8, 41#8, 82#8, 164#8, 85#8, 170#8, 73#8, 146#8, 57#8, 114#8, 228#8, 213#8, 183#8, 115#8, 230#8, 209#8, 191#8, 99#8, 198#8, 145#8, 63#8, 126#8, 252#8, 229#8, 215#8, 179#8, 123#8, 246#8, 241#8, 255#8, 227#8, 219#8, 171#8, 75#8, 150#8, 49#8, 98#8, 196#8, 149#8, 55#8, 110#8, 220#8, 165#8, 87#8, 174#8, 65#8, 130#8, 25#8, 50#8, 100#8, 200#8, 141#8, 7#8, 14#8, 28#8, 56#8, 112#8, 224#8, 221#8, 167#8, 83#8, 166#8, 81#8, 162#8, 89#8, 178#8, 121#8, 242#8, 249#8, 239#8, 195#8, 155#8, 43#8, 86#8, 172#8, 69#8, 138#8, 9#8, 18#8, 36#8, 72#8, 144#8, 61#8, 122#8, 244#8, 245#8, 247#8, 243#8, 251#8, 235#8, 203#8, 139#8, 11#8, 22#8, 44#8, 88#8, 176#8, 125#8, 250#8, 233#8, 207#8, 131#8, 27#8, 54#8, 108#8, 216#8, 173#8, 71#8, 142#8, 1#8, 2#8, 4#8, 8#8, 16#8, 32#8, 64#8, 128#8, 29#8, 58#8, 116#8, 232#8, 205#8, 135#8, 19#8, 38#8, 76#8, 152#8, 45#8, 90#8, 180#8, 117#8, 234#8, 201#8, 143#8, 3#8, 6#8, 12#8, 24#8, 48#8, 96#8, 192#8, 157#8, 39#8, 78#8, 156#8, 37#8, 74#8, 148#8, 53#8, 106#8, 212#8, 181#8, 119#8, 238#8, 193#8, 159#8, 35#8, 70#8, 140#8, 5#8, 10#8, 20#8, 40#8, 80#8, 160#8, 93#8, 186#8, 105#8, 210#8, 185#8, 111#8, 222#8, 161#8, 95#8, 190#8, 97#8, 194#8, 153#8, 47#8, 94#8, 188#8, 101#8, 202#8, 137#8, 15#8, 30#8, 60#8, 120#8, 240#8, 253#8, 231#8, 211#8, 187#8, 107#8, 214#8, 177#8, 127#8, 254#8, 225#8, 223#8, 163#8, 91#8, 182#8, 113#8, 226#8, 217#8, 175#8, 67#8, 134#8, 17#8, 34#8, 68#8, 136#8, 13#8, 26#8, 52#8, 104#8, 208#8, 189#8, 103#8, 206#8, 129#8, 31#8, 62#8, 124#8, 248#8, 237#8, 199#8, 147#8, 59#8, 118#8, 236#8, 197#8, 151#8, 51#8, 102#8, 204#8, 133#8, 23#8, 46#8, 92#8, 184#8, 109#8, 218#8, 169#8, 79#8, 158#8, 33#8, 66#8, 132#8, 21#8, 42#8, 84#8, 168#8, 77#8, 154#8, 41#8, 82#8, 164#8, 85#8, 170#8, 73#8, 146#8, 57#8, 114#8, 228#8, 213#8, 183#8, 115#8, 230#8, 209#8, 191#8, 99#8, 198#8, 145#8, 63#8, 126#8, 252#8, 229#8, 215#8, 179#8, 123#8, 246#8, 241#8, 255#8, 227#8, 219#8, 171#8, 75#8, 150#8, 49#8, 98#8, 196#8, 149#8, 55#8, 110#8, 220#8, 165#8, 87#8, 174#8, 65#8, 130#8, 25#8, 50#8, 100#8, 200#8, 141#8, 7#8, 14#8, 28#8, 56#8, 112#8, 224#8, 221#8, 167#8, 83#8, 166#8, 81#8, 162#8, 89#8, 178#8, 121#8, 242#8, 249#8, 239#8, 195#8, 155#8, 43#8, 86#8, 172#8, 69#8, 138#8, 9#8, 18#8, 36#8, 72#8, 144#8, 61#8, 122#8, 244#8, 245#8, 247#8, 243#8, 251#8, 235#8, 203#8, 139#8, 11#8, 22#8, 44#8, 88#8, 176#8, 125#8, 250#8, 233#8, 207#8, 131#8, 27#8, 54#8, 108#8, 216#8, 173#8, 71#8, 142#8]
def tL : List Int := [0, 0, 1, 25, 2, 50, 26, 198, 3, 223, 51, 238, 27, 104, 199, 75, 4, 100, 224, 14, 52, 141, 239, 129, 28, 193, 105, 248, 200, 8, 76, 113, 5, 138, 101, 47, 225, 36, 15, 33, 53, 147, 142, 218, 240, 18, 130, 69, 29, 181, 194, 125, 106, 39, 249, 185, 201, 154, 9, 120, 77, 228, 114, 166, 6, 191, 139, 98, 102, 221, 48, 253, 226, 152, 37, 179, 16, 145, 34, 136, 54, 208, 148, 206, 143, 150, 219, 189, 241, 210, 19, 92, 131, 56, 70, 64, 30, 66, 182, 163, 195, 72, 126, 110, 107, 58, 40, 84, 250, 133, 186, 61, 202, 94, 155, 159, 10, 21, 121, 43, 78, 212, 229, 172, 115, 243, 167, 87, 7, 112, 192, 247, 140, 128, 99, 13, 103, 74, 222, 237, 49, 197, 254, 24, 227, 165, 153, 119, 38, 184, 180, 124, 17, 68, 146, 217, 35, 32, 137, 46, 55, 63, 209, 91, 149, 188, 207, 205, 144, 135, 151, 178, 220, 252, 190, 97, 242, 86, 211, 171, 20, 42, 93, 158, 132, 60, 57, 83, 71, 109, 65, 162, 31, 45, 67, 216, 183, 123, 164, 118, 196, 23, 73, 236, 127, 12, 111, 246, 108, 161, 59, 82, 41, 157, 85, 170, 251, 96, 134, 177, 187, 204, 62, 90, 203, 89, 95, 176, 156, 169, 160, 81, 11, 245, 22, 235, 122, 117, 44, 215, 79, 174, 213, 233, 230, 231, 173, 232, 116, 214, 244, 234, 168, 80, 88, 175]
theorem tab_ok : m_gf256_tables = some (tE, tL) := by decide +kernel
theorem tE_step : ∀ k, k < 509 → tE.getD (k + 1) 0#8 = gm (tE.getD k 0#8) 2#8 := by decide +kernel
theorem tE_pow : ∀ k, k < 510 → tE.getD k 0#8 = gpow 2#8 k
  | 0, _ => rfl
  | k + 1, h => by rw [tE_step k (by omega), tE_pow k (by omega), gpow]
theorem tE_len : tE.length = 510 := by decide +kernel
theorem tL_len : tL.length = 256 := by decide +kernel
theorem tL_all : ∀ a : BitVec 8, a = 0#8 ∨ (0 ≤ tL.getD a.toNat 0 ∧ tL.getD a.toNat 0 < 255 ∧ tE.getD (tL.getD a.toNat 0).toNat 0#8 = a) := all8 (by decide +kernel)
theorem idx_getD {α : Type} {xs : List α} {i : Nat} (d : α) (h : i < xs.length) : idx xs (i : Int) = some (xs.getD i d) := by
  rw [idx_nat, List.getD_eq_getElem?_getD, List.getElem?_eq_getElem h]; rfl
theorem idx_getDi {α : Type} {xs : List α} {i : Int} (d : α) (h0 : 0 ≤ i) (h : i.toNat < xs.length) : idx xs i = some (xs.getD i.toNat d) := by
  have := idx_getD d h
  rwa [show ((i.toNat : Nat) : Int) = i by omega] at this
theorem tL_idx (a : BitVec 8) : idx tL (a.toNat : Int) = some (tL.getD a.toNat 0) := idx_getD 0 (by rw [tL_len]; exact a.isLt)
/-- the inverse -/
def ginv (a : BitVec 8) : BitVec 8 := tE.getD (255 - tL.getD a.toNat 0).toNat 0#8
theorem gm_ginv : ∀ a : BitVec 8, a = 0#8 ∨ gm a (ginv a) = 1#8 := all8 (by decide +kernel)
theorem ginv_mul {a : BitVec 8} (h : a ≠ 0#8) : gm a (ginv a) = 1#8 := (gm_ginv a).resolve_left h
theorem ginv_uniq {a b : BitVec 8} (h : gm a b = 1#8) : b = ginv a := by
  have ha : a ≠ 0#8 := by rintro rfl; rw [gm_zeroL] at h; exact absurd h (by decide)
  rw [← gm_oneL b, ← ginv_mul ha, gm_comm a, gm_assoc, h, gm_oneR]
theorem ginv_ne {a : BitVec 8} (h : a ≠ 0#8) : ginv a ≠ 0#8 := by
  intro e
  have := ginv_mul h
  rw [e, gm_zeroR] at this
  exact absurd this (by decide)
theorem gm_eq_zero {a b : BitVec 8} (h : gm a b = 0#8) : a = 0#8 ∨ b = 0#8 := by
  by_cases ha : a = 0#8
  · exact .inl ha
  · right
    rw [← gm_oneL b, ← ginv_mul ha, gm_comm a, gm_assoc, h, gm_zeroR]
theorem gf_inv0 : m_gf256_Inv 0#8 = some (0#8, 1) := rfl
theorem gf_inv {a : BitVec 8} (h : a ≠ 0#8) : m_gf256_Inv a = some (ginv a, 0) := by
  obtain ⟨h1, h2, h3⟩ := (tL_all a).resolve_left h
  unfold m_gf256_Inv
  rw [if_neg h, tab_ok, Option.bind_some, tL_idx, Option.bind_some, ck_of (by omega), Option.bind_some]
  rw [idx_getDi 0#8 (by omega) (by rw [tE_len]; omega), Option.bind_some]
  rfl
theorem tE_mul {a b : BitVec 8} (ha : a ≠ 0#8) (hb : b ≠ 0#8) : ck (tL.getD a.toNat 0 + tL.getD b.toNat 0) = some (tL.getD a.toNat 0 + tL.getD b.toNat 0) ∧ idx tE (tL.getD a.toNat 0 + tL.getD b.toNat 0) = some (gm a b) := by
  obtain ⟨h1, h2, h3⟩ := (tL_all a).resolve_left ha
  obtain ⟨k1, k2, k3⟩ := (tL_all b).resolve_left hb
  refine ⟨ck_of (by omega), ?_⟩
  rw [idx_getDi 0#8 (by omega) (by rw [tE_len]; omega), tE_pow _ (by omega)]
  rw [show (tL.getD a.toNat 0 + tL.getD b.toNat 0).toNat = (tL.getD a.toNat 0).toNat + (tL.getD b.toNat 0).toNat by omega, gpow_add, ← tE_pow _ (by omega), ← tE_pow _ (by omega), h3, k3]
def powT (x00 : BitVec 8) (x01 : Int) : Option (BitVec 8) :=
  if x01 = (0 : Int) then some (1#8) else if x00 = 0#8 then some (0#8) else
      Option.bind (idx tL (x00.toNat : Int)) fun x19 =>
      Option.bind (m_gf256_within x01) fun x20 =>
      Option.bind (ck (x19 * x20)) fun x22 =>
      Option.bind (rmi x22 (255 : Int)) fun x23 =>
      Option.bind (idx tE x23) fun x24 => some (x24)
theorem pow_T (a : BitVec 8) (n : Int) : m_gf256_Pow a n = powT a n := by
  unfold m_gf256_Pow powT
  rw [tab_ok, Option.bind_some]
theorem pow_small : ∀ i : Nat, i < 16 → ∀ k : Nat, k < 16 → powT (BitVec.ofInt 8 (i : Int)) (k : Int) = some (gpow (BitVec.ofNat 8 i) k) := by decide +kernel
theorem gf_pow {i k : Nat} (hi : i < 16) (hk : k < 16) : m_gf256_Pow (BitVec.ofInt 8 (i : Int)) (k : Int) = some (gpow (BitVec.ofNat 8 i) k) := by rw [pow_T]; exact pow_small i hi k hk

/-! ### the reference's inverse -/
theorem ref_inv_loop {a : BitVec 8} (h : a ≠ 0#8) : ∀ (d b q : Nat), b + d = (ginv a).toNat → d < q → m_r02_Inv_l1 a q (b : Int) = some (ginv a, 0) := by
  intro d
  induction d with
  | zero =>
    intro b q hb hq
    obtain ⟨q, rfl⟩ : ∃ q', q = q' + 1 := ⟨q - 1, by omega⟩
    have hl := (ginv a).isLt
    have e : BitVec.ofInt 8 (b : Int) = ginv a := by
      rw [BitVec.ofInt_natCast]; exact BitVec.eq_of_toNat_eq (by rw [BitVec.toNat_ofNat]; omega)
    unfold m_r02_Inv_l1
    rw [if_pos (by omega), ref_mul, Option.bind_some, e, if_pos (ginv_mul h)]
  | succ d ih =>
    intro b q hb hq
    obtain ⟨q, rfl⟩ : ∃ q', q = q' + 1 := ⟨q - 1, by omega⟩
    have hl := (ginv a).isLt
    unfold m_r02_Inv_l1
    rw [if_pos (by omega), ref_mul, Option.bind_some]
    rw [if_neg (fun e => by
      have := congrArg BitVec.toNat (ginv_uniq e)
      rw [BitVec.ofInt_natCast, BitVec.toNat_ofNat] at this
      omega)]
    rw [ck_of (by omega), Option.bind_some]
    exact ih (b + 1) q (by omega) (by omega)
theorem ref_inv {a : BitVec 8} (h : a ≠ 0#8) : m_r02_Inv a = some (ginv a, 0) := by
  have h1 : 1 ≤ (ginv a).toNat := by
    have := ginv_ne h
    rcases Nat.eq_zero_or_pos (ginv a).toNat with e | e
    · exact absurd (BitVec.eq_of_toNat_eq (by simpa using e)) this
    · exact e
  have hl := (ginv a).isLt
  unfold m_r02_Inv
  exact ref_inv_loop h ((ginv a).toNat - 1) 1 forever (by omega) (by unfold forever; omega)
end Go.Proofs.Ytnbcphofimicdaa

