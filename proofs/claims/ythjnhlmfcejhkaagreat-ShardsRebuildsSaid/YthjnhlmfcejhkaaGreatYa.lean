/- A part of the proof. Conditions: as each theorem says. -/
import Derived.Test.YthjnhlmfcejhkaaGreatMdr
namespace Go.Proofs.YthjnhlmfcejhkaaGreat
set_option linter.unusedVariables false
set_option linter.unusedSimpArgs false
set_option maxRecDepth 10000
def crcPoly : BitVec 32 := 2197175160#32
def crcStep (r : BitVec 32) : BitVec 32 := if r &&& 1#32 = 1#32 then (r >>> 1) ^^^ crcPoly else r >>> 1
def crcIter : Nat -> BitVec 32 -> BitVec 32
 | 0, r => r
 | n + 1, r => crcStep (crcIter n r)
def crcByte (r : BitVec 32) (b : BitVec 8) : BitVec 32 := crcIter 8 (r ^^^ b.setWidth 32)
def crcRaw (r : BitVec 32) (bs : List (BitVec 8)) : BitVec 32 := bs.foldl crcByte r
def crcExt (c : BitVec 32) (bs : List (BitVec 8)) : BitVec 32 := ~~~ crcRaw (~~~ c) bs
def crcSum (bs : List (BitVec 8)) : BitVec 32 := crcExt 0#32 bs
theorem crcIter_add (m n : Nat) (r : BitVec 32) : crcIter (m + n) r = crcIter m (crcIter n r) := by
 induction m with
 | zero => simp [crcIter]
 | succ m ih => rw [show m + 1 + n = (m + n) + 1 by omega]; simp only [crcIter]; rw [ih]
def zs (n : Nat) (r : BitVec 32) : BitVec 32 := crcIter (8 * n) r
theorem crcIter_succ' (n : Nat) (r : BitVec 32) : crcIter (n + 1) r = crcIter n (crcStep r) := by
 rw [crcIter_add n 1 r]; rfl
open Go
open Go
def be : Nat -> BitVec 64 -> List (BitVec 8)
 | 0, _ => []
 | n + 1, v => (v >>> (8 * n)).setWidth 8 :: be n v
theorem be_length (n : Nat) (v : BitVec 64) : (be n v).length = n := by induction n with | zero => rfl | succ n ih => simp [be, ih]
def valF (acc : BitVec 64) (xs : List (BitVec 8)) : BitVec 64 := xs.foldl (fun v b => v <<< 8 ||| b.setWidth 64) acc
def val (xs : List (BitVec 8)) : BitVec 64 := valF 0#64 xs
theorem valF_bit (v : BitVec 64) : ∀ (n : Nat) (acc : BitVec 64) (i : Nat), i < 64 -> (valF acc (be n v)).getLsbD i = if i < 8 * n then v.getLsbD i else acc.getLsbD (i - 8 * n)
 | 0, acc, i, _ => by simp [be, valF]
 | n + 1, acc, i, hi => by
  show (valF (acc <<< 8 ||| ((v >>> (8 * n)).setWidth 8).setWidth 64) (be n v)).getLsbD i = _
  rw [valF_bit v n _ i hi]
  by_cases h1 : i < 8 * n
  ·rw [if_pos h1, if_pos (by omega)]
  ·rw [if_neg h1]
   simp only [BitVec.getLsbD_or, BitVec.getLsbD_shiftLeft, BitVec.getLsbD_setWidth, BitVec.getLsbD_ushiftRight]
   by_cases h2 : i < 8 * (n + 1)
   ·rw [if_pos h2, show 8 * n + (i - 8 * n) = i by omega]
    simp [show i - 8 * n < 8 by omega, show i - 8 * n < 64 by omega]
   ·rw [if_neg h2, show i - 8 * n - 8 = i - 8 * (n + 1) by omega]
    simp [show ¬ i - 8 * n < 8 by omega, show i - 8 * n < 64 by omega]
theorem val_be8 (v : BitVec 64) : val (be 8 v) = v := by
 apply BitVec.eq_of_getLsbD_eq
 intro i hi
 rw [val, valF_bit v 8 _ i hi, if_pos (by omega)]
def le4 (s : BitVec 32) : List (BitVec 8) := [s.setWidth 8, (s >>> 8).setWidth 8, (s >>> 16).setWidth 8, (s >>> 24).setWidth 8]
theorem bs {α β : Type} (x : α) (f : α -> Option β) : Option.bind (some x) f = f x := rfl
theorem ckn (n : Nat) (h : n <= 9223372036854775807) : ck (n : Int) = some (n : Int) := ck_of (by omega)
theorem idx_gD {α : Type} (xs : List α) (i : Nat) (d : α) (h : i < xs.length) : idx xs (i : Int) = some (xs.getD i d) := by
 rw [idx_nat, List.getElem?_eq_getElem h, List.getD_eq_getElem?_getD, List.getElem?_eq_getElem h]; rfl
theorem r01_shift_l (n : Nat) : ∀ (j : Nat) (r : BitVec 32), j <= 8 -> 8 - j < n -> m_r01_shift_l1 n r (j : Int) = some (crcIter (8 - j) r) := by
 induction n with
 | zero => intro j r _ h; omega
 | succ n ih =>
  intro j r hj hn
  rw [m_r01_shift_l1]
  by_cases h : j < 8
  ·have e : (8 - j) = (8 - (j + 1)) + 1 := by omega
   have h1 := ih (j + 1) (crcStep r) (by omega) (by omega)
   rw [if_pos (by omega), e, crcIter_succ', <- h1]
   rw [show ((j : Int) + 1) = ((j + 1 : Nat) : Int) by omega, ckn _ (by omega)]
   simp only [bs, crcStep, crcPoly]
   split <;> rfl
  ·rw [if_neg (by omega), show 8 - j = 0 by omega]; rfl
theorem r01_shift_eq (r : BitVec 32) : m_r01_shift r = some (crcIter 8 r) := r01_shift_l forever 0 r (by omega) (by unfold forever; omega)
theorem r01_Extend_l (xs : List (BitVec 8)) (hx : xs.length <= 9223372036854775806) (n : Nat) : ∀ (i : Nat) (r : BitVec 32), i <= xs.length -> xs.length - i < n -> m_r01_Extend_l1 xs n r (i : Int) = some (~~~ crcRaw r (xs.drop i)) := by
 induction n with
 | zero => intro i r _ h; omega
 | succ n ih =>
  intro i r hi hn
  rw [m_r01_Extend_l1]
  by_cases h : i < xs.length
  ·rw [if_pos (by omega), idx_gD xs i 0 h, bs, r01_shift_eq, bs, show ((i : Int) + 1) = ((i + 1 : Nat) : Int) by omega, ckn _ (by omega), bs, ih _ _ (by omega) (by omega)]
   have e : xs.drop i = xs.getD i 0 :: xs.drop (i + 1) := by
    rw [List.drop_eq_getElem_cons h, List.getD_eq_getElem?_getD, List.getElem?_eq_getElem h]; rfl
   rw [e]; rfl
  ·rw [if_neg (by omega), List.drop_of_length_le (by omega)]; rfl
theorem r01_Extend_eq (c : BitVec 32) (xs : List (BitVec 8)) (hx : xs.length <= 9223372036854775806) : m_r01_Extend c xs = some (crcExt c xs) := by
 have := r01_Extend_l xs hx forever 0 (~~~c) (by omega) (by unfold forever; omega)
 simpa [m_r01_Extend, crcExt] using this
theorem r01_Sum_eq (xs : List (BitVec 8)) (hx : xs.length <= 9223372036854775806) : m_r01_Sum xs = some (crcSum xs) := by
 rw [m_r01_Sum, r01_Extend_eq _ _ hx]; rfl
theorem ext_l3 (x : Int) (k : BitVec 32 -> Int -> Option (BitVec 32)) (n : Nat) : ∀ (j : Nat) (r : BitVec 32), j <= 8 -> 8 - j < n -> m_crc32c_Extend_l3 x k n r (j : Int) = m_crc32c_Extend_j2 x k (crcIter (8 - j) r) := by
 induction n with
 | zero => intro j r _ h; omega
 | succ n ih =>
  intro j r hj hn
  rw [m_crc32c_Extend_l3]
  by_cases h : j < 8
  ·have e : (8 - j) = (8 - (j + 1)) + 1 := by omega
   have h1 := ih (j + 1) (crcStep r) (by omega) (by omega)
   rw [if_pos (by omega), e, crcIter_succ', <- h1]
   rw [show ((j : Int) + 1) = ((j + 1 : Nat) : Int) by omega, ckn _ (by omega)]
   simp only [bs, crcStep, crcPoly]
   split <;> rfl
  ·rw [if_neg (by omega), show 8 - j = 0 by omega]; rfl
theorem ext_l1 (xs : List (BitVec 8)) (hx : xs.length <= 9223372036854775806) (n : Nat) : ∀ (i : Nat) (r : BitVec 32), i <= xs.length -> xs.length - i < n -> m_crc32c_Extend_l1 xs n r (i : Int) = some (~~~ crcRaw r (xs.drop i)) := by
 induction n with
 | zero => intro i r _ h; omega
 | succ n ih =>
  intro i r hi hn
  rw [m_crc32c_Extend_l1]
  by_cases h : i < xs.length
  ·have e3 := ext_l3 (i : Int) (m_crc32c_Extend_l1 xs n) forever 0 (r ^^^ (xs.getD i 0).setWidth 32) (by omega) (by unfold forever; omega)
   rw [if_pos (by omega), idx_gD xs i 0 h, bs]
   refine e3.trans ?_
   rw [m_crc32c_Extend_j2, show ((i : Int) + 1) = ((i + 1 : Nat) : Int) by omega, ckn _ (by omega), bs, ih _ _ (by omega) (by omega)]
   have e : xs.drop i = xs.getD i 0 :: xs.drop (i + 1) := by
    rw [List.drop_eq_getElem_cons h, List.getD_eq_getElem?_getD, List.getElem?_eq_getElem h]; rfl
   rw [e]; rfl
  ·rw [if_neg (by omega), List.drop_of_length_le (by omega)]; rfl
theorem crc_Extend_eq (c : BitVec 32) (xs : List (BitVec 8)) (hx : xs.length <= 9223372036854775806) : m_crc32c_Extend c xs = some (crcExt c xs) := by
 have := ext_l1 xs hx forever 0 (~~~c) (by omega) (by unfold forever; omega)
 simpa [m_crc32c_Extend, crcExt] using this
theorem crc_Sum_eq (xs : List (BitVec 8)) (hx : xs.length <= 9223372036854775806) : m_crc32c_Sum xs = some (crcSum xs) := by
 rw [m_crc32c_Sum, crc_Extend_eq _ _ hx]; rfl
theorem valF_cons (acc : BitVec 64) (b : BitVec 8) (xs : List (BitVec 8)) : valF acc (b :: xs) = valF (acc <<< 8 ||| b.setWidth 64) xs := rfl
theorem drop_getD {α : Type} (xs : List α) (i : Nat) (d : α) (h : i < xs.length) : xs.drop i = xs.getD i d :: xs.drop (i + 1) := by
 rw [List.drop_eq_getElem_cons h, List.getD_eq_getElem?_getD, List.getElem?_eq_getElem h]; rfl
theorem r06_Value_l (xs : List (BitVec 8)) (hx : xs.length <= 9223372036854775806) (n : Nat) : ∀ (i : Nat) (v : BitVec 64), i <= xs.length -> xs.length - i < n -> m_r06_Value_l1 xs n v (i : Int) = some (valF v (xs.drop i)) := by
 induction n with
 | zero => intro i r _ h; omega
 | succ n ih =>
  intro i r hi hn
  rw [m_r06_Value_l1]
  by_cases h : i < xs.length
  ·rw [if_pos (by omega), idx_gD xs i 0 h, bs, show ((i : Int) + 1) = ((i + 1 : Nat) : Int) by omega, ckn _ (by omega), bs, ih _ _ (by omega) (by omega), drop_getD xs i 0 h, valF_cons]
  ·rw [if_neg (by omega), List.drop_of_length_le (by omega)]; rfl
theorem r06_Value_eq (xs : List (BitVec 8)) (hx : xs.length <= 9223372036854775806) : m_r06_Value xs = some (val xs) := by
 have := r06_Value_l xs hx forever 0 0#64 (by omega) (by unfold forever; omega)
 simpa [m_r06_Value, val] using this
theorem be_succ (v : BitVec 64) (n : Nat) : be (n + 1) v = (v >>> (8 * n)).setWidth 8 :: be n v := rfl
theorem r06_Number_l (v : BitVec 64) (n : Nat) : ∀ (k : Nat) (ys : List (BitVec 8)), k <= 8 -> ys.length + k <= 1000000 -> k < n -> m_r06_Number_l1 v n ys ((k : Int) - 1) = some (ys ++ be k v) := by
 induction n with
 | zero => intro k ys _ _ h; omega
 | succ n ih =>
  intro k ys hk hy hn
  rw [m_r06_Number_l1]
  cases k with
  | zero => rw [if_neg (by omega)]; simp [m_r06_Number_j0, be]
  | succ k =>
   rw [if_pos (by omega), show ((k + 1 : Nat) : Int) - 1 = (k : Int) by omega]
   rw [show ((8 : Int) * (k : Int)) = ((8 * k : Nat) : Int) by omega, ckn _ (by omega), bs, apd1_of (by simp; omega), bs, ck_of (by omega), bs, ih k _ (by omega) (by simp; omega) (by omega), be_succ]
   have e : (BitVec.ofInt 64 ((8 * k : Nat) : Int)).toNat = 8 * k := by rw [BitVec.ofInt_natCast, BitVec.toNat_ofNat]; exact Nat.mod_eq_of_lt (by omega)
   rw [e, List.append_assoc]; rfl
theorem r06_Number_eq (v : BitVec 64) (n : Nat) (h : n <= 8) : m_r06_Number v (n : Int) = some (be n v) := by
 rw [m_r06_Number, ck_of (by omega), bs, r06_Number_l v forever n [] h (by simp; omega) (by unfold forever; omega)]; rfl
theorem r06_Check_eq (xs : List (BitVec 8)) (hx : xs.length <= 9223372036854775806) : m_r06_Check xs = some (le4 (crcSum xs)) := by
 rw [m_r06_Check, r01_Sum_eq _ hx]; rfl
def nsize (n : Nat) : Nat := (20 + n + 4 + 7) / 8 * 8
def sizeZ (z : Int) : Int := if 0 <= z /\ z <= 4096 then (nsize z.toNat : Nat) else 0
theorem needle_Size_eq (z : Int) : m_needle_Size z = some (sizeZ z) := by
 unfold m_needle_Size sizeZ
 by_cases h0 : z < 0
 ·rw [if_pos h0, if_neg (by omega)]
 ·rw [if_neg h0]
  by_cases h1 : 4096 < z
  ·rw [if_pos h1, if_neg (by omega)]
  ·rw [if_neg h1, if_pos (by omega), ck_of (by omega), bs, ck_of (by omega), bs, ck_of (by omega), bs, ck_of (by omega), bs, dvi_of (by omega) (by omega), bs, ck_of (by omega), bs]
   unfold nsize; congr 1; omega
theorem r06_Size_eq (z : Int) : m_r06_Size z = some (sizeZ z) := by
 unfold m_r06_Size sizeZ
 by_cases h0 : z < 0
 ·rw [if_pos h0, if_neg (by omega)]
 ·rw [if_neg h0]
  by_cases h1 : 4096 < z
  ·rw [if_pos h1, if_neg (by omega)]
  ·rw [if_neg h1, if_pos (by omega), ck_of (by omega), bs, ck_of (by omega), bs, ck_of (by omega), bs, dvi_of (by omega) (by omega), bs, ck_of (by omega), bs]
   unfold nsize; congr 1; omega
theorem sizeZ_nat (n : Nat) (h : n <= 4096) : sizeZ (n : Int) = (nsize n : Nat) := by rw [sizeZ, if_pos (by omega), Int.toNat_natCast]
theorem nsize_lo (n : Nat) : 24 + n <= nsize n /\ nsize n <= 24 + n + 7 /\ nsize n % 8 = 0 := by unfold nsize; omega
def nvalid (d : Bool) (xs : List (BitVec 8)) : Bool := decide (xs.length <= 4096) && !(d && decide (0 < xs.length))
theorem needle_Valid_eq (k : BitVec 64) (c : BitVec 32) (d : Bool) (xs : List (BitVec 8)) : m_r06_Valid k c d xs = some (nvalid d xs) := by
 unfold m_r06_Valid nvalid
 by_cases h : xs.length <= 4096
 ·rw [if_pos (by omega)]; cases d <;> simp [h] <;> omega
 ·rw [if_neg (by omega)]; simp [h]
theorem r06_Valid_eq (k : BitVec 64) (c : BitVec 32) (d : Bool) (xs : List (BitVec 8)) : m_r06_Valid k c d xs = some (nvalid d xs) := needle_Valid_eq k c d xs
def nhead (k : BitVec 64) (c : BitVec 32) (d : Bool) (n : Nat) : List (BitVec 8) := [78#8, 165#8, if d then 1#8 else 0#8, 0#8] ++ be 4 (c.setWidth 64) ++ be 8 k ++ be 4 (BitVec.ofInt 64 (n : Int))
def nbody (k : BitVec 64) (c : BitVec 32) (d : Bool) (xs : List (BitVec 8)) : List (BitVec 8) := nhead k c d xs.length ++ xs
def nenc (k : BitVec 64) (c : BitVec 32) (d : Bool) (xs : List (BitVec 8)) : List (BitVec 8) :=
 nbody k c d xs ++ le4 (crcSum (nbody k c d xs)) ++ List.replicate (nsize xs.length - (24 + xs.length)) 0#8
def nencR (k : BitVec 64) (c : BitVec 32) (d : Bool) (xs : List (BitVec 8)) : List (BitVec 8) × Int :=
 if 4096 < xs.length then ([], 8) else if nvalid d xs = true then (nenc k c d xs, 0) else ([], 1)
theorem nhead_length (k : BitVec 64) (c : BitVec 32) (d : Bool) (n : Nat) : (nhead k c d n).length = 20 := by simp [nhead, be_length]
theorem nbody_length (k : BitVec 64) (c : BitVec 32) (d : Bool) (xs : List (BitVec 8)) : (nbody k c d xs).length = 20 + xs.length := by simp [nbody, nhead_length]
theorem le4_length (s : BitVec 32) : (le4 s).length = 4 := rfl
theorem nenc_length (k : BitVec 64) (c : BitVec 32) (d : Bool) (xs : List (BitVec 8)) : (nenc k c d xs).length = nsize xs.length := by
 have := nsize_lo xs.length
 simp only [nenc, List.length_append, nbody_length, le4_length, List.length_replicate]; omega
theorem renc_l2 (k : BitVec 64) (xs : List (BitVec 8)) (hx : xs.length <= 4096) (n : Nat) : ∀ (ys : List (BitVec 8)), ys.length <= nsize xs.length -> nsize xs.length - ys.length < n -> m_r06_Encode_l2 xs n ys = some (ys ++ List.replicate (nsize xs.length - ys.length) 0#8, 0) := by
 have hs := nsize_lo xs.length
 induction n with
 | zero => intro ys _ h; omega
 | succ n ih =>
  intro ys hy hn
  rw [m_r06_Encode_l2, r06_Size_eq, bs, sizeZ_nat _ hx]
  by_cases h : ys.length < nsize xs.length
  ·have hl : (ys ++ [0#8]).length = ys.length + 1 := by simp
   rw [if_pos (by omega), apd1_of (by simp; omega), bs, ih _ (by rw [hl]; omega) (by rw [hl]; omega), hl, show nsize xs.length - ys.length = (nsize xs.length - (ys.length + 1)) + 1 by omega, List.replicate_succ, List.append_assoc]; rfl
  ·rw [if_neg (by omega), show nsize xs.length - ys.length = 0 by omega]; simp [m_r06_Encode_j1]
theorem renc_j0 (k : BitVec 64) (c : BitVec 32) (d : Bool) (xs : List (BitVec 8)) (hx : xs.length <= 4096) : m_r06_Encode_j0 k c xs [78#8, 165#8, if d then 1#8 else 0#8, 0#8] = some (nenc k c d xs, 0) := by
 have e4 : (4 : Int) = ((4 : Nat) : Int) := rfl
 have e8 : (8 : Int) = ((8 : Nat) : Int) := rfl
 rw [m_r06_Encode_j0, e4, e8, r06_Number_eq _ _ (by omega), bs, apd1_of (by simp [be_length]), bs, r06_Number_eq _ _ (by omega), bs, apd1_of (by simp [be_length]), bs, r06_Number_eq _ _ (by omega), bs, apd1_of (by simp [be_length]), bs, apd1_of (by simp [be_length]; omega), bs]
 have eb : [78#8, 165#8, if d then 1#8 else 0#8, 0#8] ++ be 4 (c.setWidth 64) ++ be 8 k ++ be 4 (BitVec.ofInt 64 (xs.length : Int)) ++ xs = nbody k c d xs := rfl
 have hl : (nbody k c d xs ++ le4 (crcSum (nbody k c d xs))).length = 24 + xs.length := by rw [List.length_append, nbody_length, le4_length]; omega
 have hs := nsize_lo xs.length
 rw [eb, r06_Check_eq _ (by rw [nbody_length]; omega), bs, apd1_of (by rw [nbody_length, le4_length]; omega), bs, renc_l2 k xs hx _ _ (by rw [hl]; omega) (by unfold forever; omega), hl, nenc]
theorem r06_Encode_eq (k : BitVec 64) (c : BitVec 32) (d : Bool) (xs : List (BitVec 8)) : m_r06_Encode k c d xs = some (nencR k c d xs) := by
 unfold m_r06_Encode nencR
 by_cases h : 4096 < xs.length
 ·rw [if_pos (by omega), if_pos h]
 ·rw [if_neg (by omega), if_neg h, r06_Valid_eq, bs]
  by_cases hv : nvalid d xs = true
  ·rw [if_pos hv, if_pos hv]
   have := renc_j0 k c d xs (by omega)
   cases d <;> simpa [idx, upd] using this
  ·rw [if_neg hv, if_neg hv]
abbrev NR := (BitVec 64) × (BitVec 32) × Bool × (List (BitVec 8)) × Int × Int
def nbad (e : Int) : NR := (0#64, 0#32, false, [], 0, e)
def bget (b : List (BitVec 8)) (i : Nat) : BitVec 8 := b.getD i 0#8
def nlen (b : List (BitVec 8)) : BitVec 64 := val ((b.drop 16).take 4)
def ncore (b : List (BitVec 8)) (n : Nat) : NR :=
 if b.length < nsize n then nbad 4
 else if le4 (crcSum (b.take (20 + n))) = (b.drop (20 + n)).take 4 then
  if ((b.drop (24 + n)).take (nsize n - (24 + n))).all (· == 0#8) = true then
   (val ((b.drop 8).take 8), (val ((b.drop 4).take 4)).setWidth 32, (bget b 2 == 1#8), (b.drop 20).take n, ((nsize n : Nat) : Int), 0)
  else nbad 3
 else nbad 5
def ndec (b : List (BitVec 8)) : NR :=
 if b.length < 20 then nbad 4
 else if bget b 0 = 78#8 /\ bget b 1 = 165#8 /\ ¬ 1#8 < bget b 2 /\ bget b 3 = 0#8 /\ ¬ 4096#64 < nlen b /\ (bget b 2 = 1#8 -> ¬ 0#64 < nlen b) then ncore b (nlen b).toNat
 else nbad 3
theorem slc_nat {α : Type} (xs : List α) (lo hi : Nat) (h : lo <= hi /\ hi <= xs.length) : slc xs (lo : Int) (hi : Int) = some ((xs.drop lo).take (hi - lo)) := by
 rw [slc_of (by omega)]; simp
theorem small_toInt (x : BitVec 64) (h : ¬ 4096#64 < x) : x.toInt = (x.toNat : Int) /\ x.toNat <= 4096 := by
 have h1 : x.toNat <= 4096 := by
  have : ¬ (4096#64).toNat < x.toNat := h
  simpa using this
 exact ⟨by rw [BitVec.toInt_eq_toNat_cond, if_pos (by omega)], h1⟩
theorem rdec_l2 (b : List (BitVec 8)) (N : Nat) (hb : nsize N <= b.length) (hN : N <= 4096) (q : Nat) : ∀ (i : Nat), i <= nsize N -> nsize N - i < q ->
  m_r06_Decode_l2 b ((nsize N : Nat) : Int) ((20 + N : Nat) : Int) q (i : Int) = if ((b.drop i).take (nsize N - i)).all (· == 0#8) = true then m_r06_Decode_j1 b ((nsize N : Nat) : Int) ((20 + N : Nat) : Int) else some (nbad 3) := by
 have hs := nsize_lo N
 induction q with
 | zero => intro i _ h; omega
 | succ q ih =>
  intro i hi hq
  rw [m_r06_Decode_l2]
  by_cases h : i < nsize N
  ·rw [if_pos (by omega), idx_gD b i 0#8 (by omega), bs, drop_getD b i 0#8 (by omega), show nsize N - i = (nsize N - (i + 1)) + 1 by omega, List.take_succ_cons, List.all_cons]
   by_cases hz : b.getD i 0#8 = 0#8
   ·rw [if_pos hz, show ((i : Int) + 1) = ((i + 1 : Nat) : Int) by omega, ckn _ (by omega), bs, ih (i + 1) (by omega) (by omega), hz]; simp
   ·rw [if_neg hz, if_neg (by simp; intro h; exact absurd h hz)]; rfl
  ·rw [if_neg (by omega), show nsize N - i = 0 by omega]; simp
theorem rdec_j1 (b : List (BitVec 8)) (N : Nat) (hb : nsize N <= b.length) (hN : N <= 4096) (hm : b.length <= 9223372036854775806) : m_r06_Decode_j1 b ((nsize N : Nat) : Int) ((20 + N : Nat) : Int) =
  some ((val ((b.drop 8).take 8), (val ((b.drop 4).take 4)).setWidth 32, (bget b 2 == 1#8), (b.drop 20).take N, ((nsize N : Nat) : Int), (0 : Int)) : NR) := by
 have hs := nsize_lo N
 rw [m_r06_Decode_j1, show (8 : Int) = ((8 : Nat) : Int) from rfl, show (16 : Int) = ((16 : Nat) : Int) from rfl, show (4 : Int) = ((4 : Nat) : Int) from rfl, show (20 : Int) = ((20 : Nat) : Int) from rfl, show (2 : Int) = ((2 : Nat) : Int) from rfl,
  slc_nat _ _ _ (by omega), bs, r06_Value_eq _ (by simp; omega), bs, slc_nat _ _ _ (by omega), bs, r06_Value_eq _ (by simp; omega), bs, idx_gD b 2 0#8 (by omega), bs, slc_nat _ _ _ (by omega), bs, apd1_of (by simp; omega), bs, show 20 + N - 20 = N by omega]
 rfl
theorem rdec_j0 (b : List (BitVec 8)) (x : BitVec 64) (hx : ¬ 4096#64 < x) (h20 : 20 <= b.length) (hm : b.length <= 9223372036854775806) : m_r06_Decode_j0 b x = some (ncore b x.toNat) := by
 obtain ⟨hxi, hN⟩ := small_toInt x hx
 have hs := nsize_lo x.toNat
 rw [m_r06_Decode_j0, hxi, r06_Size_eq, bs, sizeZ_nat _ hN, show ((20 : Int) + (x.toNat : Int)) = ((20 + x.toNat : Nat) : Int) by omega, ckn _ (by omega), bs, ncore]
 by_cases h1 : b.length < nsize x.toNat
 ·rw [if_pos (by omega), if_pos h1]; rfl
 ·rw [if_neg (by omega), if_neg h1, show (0 : Int) = ((0 : Nat) : Int) from rfl, slc_nat _ _ _ (by omega), bs, r06_Check_eq _ (by simp; omega), bs, show (((20 + x.toNat : Nat) : Int) + (4 : Int)) = ((24 + x.toNat : Nat) : Int) by omega, ckn _ (by omega), bs, slc_nat _ _ _ (by omega), bs]
  rw [List.drop_zero, Nat.sub_zero, show 24 + x.toNat - (20 + x.toNat) = 4 by omega]
  by_cases h2 : le4 (crcSum (b.take (20 + x.toNat))) = (b.drop (20 + x.toNat)).take 4
  ·rw [if_pos h2, if_pos h2, bs, rdec_l2 b x.toNat (by omega) hN forever (24 + x.toNat) (by omega) (by unfold forever; omega), rdec_j1 b _ (by omega) hN hm]
   split <;> rfl
  ·rw [if_neg h2, if_neg h2]; rfl
theorem r06_Decode_eq (b : List (BitVec 8)) (hm : b.length <= 9223372036854775806) : m_r06_Decode b = some (ndec b) := by
 unfold m_r06_Decode ndec
 by_cases h : b.length < 20
 ·rw [if_pos (by omega), if_pos h]; rfl
 ·rw [if_neg (by omega), if_neg h, show (16 : Int) = ((16 : Nat) : Int) from rfl, show (20 : Int) = ((20 : Nat) : Int) from rfl, slc_nat _ _ _ (by omega), bs, r06_Value_eq _ (by simp; omega), bs,
   show (0 : Int) = ((0 : Nat) : Int) from rfl, idx_gD b 0 0#8 (by omega), bs, show (1 : Int) = ((1 : Nat) : Int) from rfl, show (2 : Int) = ((2 : Nat) : Int) from rfl, show (3 : Int) = ((3 : Nat) : Int) from rfl,
   idx_gD b 1 0#8 (by omega), idx_gD b 2 0#8 (by omega), idx_gD b 3 0#8 (by omega)]
  simp only [bs]
  have e : (b.drop 16).take (20 - 16) = (b.drop 16).take 4 := rfl
  rw [e]
  change (if bget b 0 = 78#8 then if bget b 1 = 165#8 then if 1#8 < bget b 2 then _ else if bget b 3 = 0#8 then if 4096#64 < nlen b then _ else if bget b 2 = 1#8 then if 0#64 < nlen b then _ else m_r06_Decode_j0 b (nlen b) else m_r06_Decode_j0 b (nlen b) else _ else _ else _) = _
  by_cases c0 : bget b 0 = 78#8
  ·by_cases c1 : bget b 1 = 165#8
   ·by_cases c2 : 1#8 < bget b 2
    ·rw [if_pos c0, if_pos c1, if_pos c2, if_neg (by simp [c2])]; rfl
    ·by_cases c3 : bget b 3 = 0#8
     ·by_cases c4 : 4096#64 < nlen b
      ·rw [if_pos c0, if_pos c1, if_neg c2, if_pos c3, if_pos c4, if_neg (by simp [c4])]; rfl
      ·rw [if_pos c0, if_pos c1, if_neg c2, if_pos c3, if_neg c4]
       by_cases c5 : bget b 2 = 1#8
       ·rw [if_pos c5]
        by_cases c6 : 0#64 < nlen b
        ·rw [if_pos c6, if_neg (fun h => h.2.2.2.2.2 c5 c6)]; rfl
        ·rw [if_neg c6, if_pos ⟨c0, c1, c2, c3, c4, fun _ => c6⟩, rdec_j0 b _ c4 (by omega) hm]
       ·rw [if_neg c5, if_pos ⟨c0, c1, c2, c3, c4, fun h => absurd h c5⟩, rdec_j0 b _ c4 (by omega) hm]
     ·rw [if_pos c0, if_pos c1, if_neg c2, if_neg c3, if_neg (by simp [c3])]; rfl
   ·rw [if_pos c0, if_neg c1, if_neg (by simp [c1])]; rfl
  ·rw [if_neg c0, if_neg (by simp [c0])]; rfl
theorem drop_app {α : Type} {a b : List α} {n : Nat} (h : a.length = n) : (a ++ b).drop n = b := by subst h; simp
theorem take_app {α : Type} {a b : List α} {n : Nat} (h : a.length = n) : (a ++ b).take n = a := by subst h; simp
theorem val_be4 (v : BitVec 64) (h : v.toNat < 2 ^ 32) : val (be 4 v) = v := by
 apply BitVec.eq_of_getLsbD_eq
 intro i hi
 rw [val, valF_bit v 4 0#64 i hi]
 split
 ·rfl
 ·rw [BitVec.getLsbD_zero, eq_comm]
  rw [BitVec.getLsbD, Nat.testBit_lt_two_pow]
  exact Nat.lt_of_lt_of_le h (Nat.pow_le_pow_right (by omega) (by omega))
theorem drop_two {α : Type} {l r s : List α} {a b n : Nat} (h1 : l.drop a = r) (h2 : r.drop b = s) (e : a + b = n) : l.drop n = s := by subst e; rw [<- List.drop_drop, h1, h2]
def npad (n : Nat) : List (BitVec 8) := List.replicate (nsize n - (24 + n)) 0#8
theorem ofInt_small (n : Nat) (h : n <= 4096) : (BitVec.ofInt 64 (n : Int)).toNat = n := by rw [BitVec.ofInt_natCast, BitVec.toNat_ofNat]; exact Nat.mod_eq_of_lt (by omega)
theorem be_32 (c : BitVec 32) : (val (be 4 (c.setWidth 64))).setWidth 32 = c := by
 rw [val_be4 _ (by have := c.isLt; rw [BitVec.toNat_setWidth]; omega)]
 apply BitVec.eq_of_getLsbD_eq
 intro i hi
 simp [hi, show i < 64 by omega]
theorem ndec_enc (k : BitVec 64) (c : BitVec 32) (d : Bool) (xs tail : List (BitVec 8)) (hv : nvalid d xs = true) : ndec (nenc k c d xs ++ tail) = (k, c, d, xs, ((nsize xs.length : Nat) : Int), 0) := by
 have hn : xs.length <= 4096 := by simp [nvalid] at hv; exact hv.1
 have hd : d = true -> xs.length = 0 := by intro h; subst h; simp [nvalid] at hv; rw [hv.2]; rfl
 have hs := nsize_lo xs.length
 have hL : (nenc k c d xs ++ tail).length = nsize xs.length + tail.length := by rw [List.length_append, nenc_length]
 let b2 : BitVec 8 := if d then 1#8 else 0#8
 have e0 : nenc k c d xs ++ tail = [78#8, 165#8, b2, 0#8] ++ (be 4 (c.setWidth 64) ++ (be 8 k ++ (be 4 (BitVec.ofInt 64 (xs.length : Int)) ++ (xs ++ (le4 (crcSum (nbody k c d xs)) ++ (npad xs.length ++ tail)))))) := by
  simp only [nenc, nbody, nhead, npad, List.append_assoc, b2]
 have d4 : (nenc k c d xs ++ tail).drop 4 = be 4 (c.setWidth 64) ++ (be 8 k ++ (be 4 (BitVec.ofInt 64 (xs.length : Int)) ++ (xs ++ (le4 (crcSum (nbody k c d xs)) ++ (npad xs.length ++ tail))))) := by rw [e0]; exact drop_app rfl
 have d8 : (nenc k c d xs ++ tail).drop 8 = be 8 k ++ (be 4 (BitVec.ofInt 64 (xs.length : Int)) ++ (xs ++ (le4 (crcSum (nbody k c d xs)) ++ (npad xs.length ++ tail)))) := by
  exact drop_two d4 (drop_app (be_length _ _)) rfl
 have d16 : (nenc k c d xs ++ tail).drop 16 = be 4 (BitVec.ofInt 64 (xs.length : Int)) ++ (xs ++ (le4 (crcSum (nbody k c d xs)) ++ (npad xs.length ++ tail))) := by
  exact drop_two d8 (drop_app (be_length _ _)) rfl
 have d20 : (nenc k c d xs ++ tail).drop 20 = xs ++ (le4 (crcSum (nbody k c d xs)) ++ (npad xs.length ++ tail)) := by
  exact drop_two d16 (drop_app (be_length _ _)) rfl
 have dn : (nenc k c d xs ++ tail).drop (20 + xs.length) = le4 (crcSum (nbody k c d xs)) ++ (npad xs.length ++ tail) := by
  exact drop_two d20 (drop_app rfl) rfl
 have dn4 : (nenc k c d xs ++ tail).drop (24 + xs.length) = npad xs.length ++ tail := by
  exact drop_two dn (drop_app (le4_length _)) (by omega)
 have tn : (nenc k c d xs ++ tail).take (20 + xs.length) = nbody k c d xs := by
  rw [nenc, List.append_assoc, List.append_assoc]; exact take_app (nbody_length _ _ _ _)
 have hl : nlen (nenc k c d xs ++ tail) = BitVec.ofInt 64 (xs.length : Int) := by
  rw [nlen, d16, take_app (be_length _ _), val_be4 _ (by rw [ofInt_small _ hn]; omega)]
 have hlN : (nlen (nenc k c d xs ++ tail)).toNat = xs.length := by rw [hl, ofInt_small _ hn]
 have g0 : bget (nenc k c d xs ++ tail) 0 = 78#8 := by rw [e0]; rfl
 have g1 : bget (nenc k c d xs ++ tail) 1 = 165#8 := by rw [e0]; rfl
 have g2 : bget (nenc k c d xs ++ tail) 2 = b2 := by rw [e0]; rfl
 have g3 : bget (nenc k c d xs ++ tail) 3 = 0#8 := by rw [e0]; rfl
 have hcond : bget (nenc k c d xs ++ tail) 0 = 78#8 /\ bget (nenc k c d xs ++ tail) 1 = 165#8 /\ ¬ 1#8 < bget (nenc k c d xs ++ tail) 2 /\ bget (nenc k c d xs ++ tail) 3 = 0#8 /\ ¬ 4096#64 < nlen (nenc k c d xs ++ tail) /\ (bget (nenc k c d xs ++ tail) 2 = 1#8 -> ¬ 0#64 < nlen (nenc k c d xs ++ tail)) := by
  refine ⟨g0, g1, by rw [g2]; cases d <;> decide, g3, ?_, fun h => ?_⟩
  ·show ¬ (4096#64).toNat < _; rw [hlN]; simp; omega
  ·show ¬ (0#64).toNat < _; rw [hlN]
   rw [g2] at h
   have : d = true := by cases d <;> first | rfl | exact absurd h (by decide)
   rw [hd this]; simp
 rw [ndec, if_neg (by rw [hL]; omega), if_pos hcond, hlN, ncore, if_neg (by rw [hL]; omega), tn, dn, take_app (le4_length _), if_pos rfl, dn4, take_app (by simp [npad]), if_pos (by simp [npad]), d8, take_app (be_length _ _), val_be8, d4, take_app (be_length _ _), be_32, d20, take_app rfl, g2]
 cases d <;> rfl
theorem nencR_val {k : BitVec 64} {c : BitVec 32} {d : Bool} {xs : List (BitVec 8)} (h : nvalid d xs = true) : nencR k c d xs = (nenc k c d xs, 0) := by
 have : xs.length <= 4096 := by simp [nvalid] at h; exact h.1
 unfold nencR
 rw [if_neg (by omega), if_pos h]
end Go.Proofs.YthjnhlmfcejhkaaGreat
