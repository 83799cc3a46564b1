/- A part of the proof. Conditions: as each theorem says. -/
import Derived.Test.YtcncappgheopgaaGreatMda
namespace Go.Proofs.YtcncappgheopgaaGreat
set_option linter.unusedVariables false
def m_gfmatrix_mayHave (x00 : Int) : Option Bool :=
  if (1 : Int) <= x00 then
    some ((decide (x00 <= (16 : Int))))
  else
    some (false)
def m_gfmatrix_Valid (u0 u1 : Int) (u2 : By) : Option Bool :=
  (m_gfmatrix_mayHave u0).bind fun x4 =>
  if x4 = true then
    (m_gfmatrix_mayHave u1).bind fun x7 =>
    if x7 = true then
      (ck (u0 * u1)).bind fun x10 =>
      some (((u2.length : Int) == x10))
    else
      some (false)
  else
    some (false)
def m_gfmatrix_empty (x00 x01 : Int) : Option (Int × Int × By) :=
  (ck (x00 * x01)).bind fun x4 =>
  (mks 1 x4 0#8).bind fun x6 =>
  some (x00, x01, x6)
def m_gfmatrix_Matrix_row (u0 u1 x01 : Int) : Option (Int × Int) :=
  (ck (x01 * u1)).bind fun x4 =>
  (ck (x01 + (1 : Int))).bind fun x5 =>
  (ck (x5 * u1)).bind fun x6 =>
  some (x4, x6)
def m_gfmatrix_Matrix_at (u0 u1 : Int) (u2 : By) (x01 x02 : Int) : Option ((BitVec 8)) :=
  (ck (x01 * u1)).bind fun x4 =>
  (ck (x4 + x02)).bind fun x5 =>
  (idx u2 x5).bind fun x6 =>
  some (x6)
def m_gfmatrix_Identity_j0 (x9 : Int × Int × By) (x18 : By) : Option (Int × Int × By × Int) :=
  some (x9.1, x9.2.1, x18, (0 : Int))
def m_gfmatrix_Identity_l1 (x00 : Int) (x9 : Int × Int × By) : Nat -> By -> Int -> Option (Int × Int × By × Int)
  | 0, _, _ => none
  | q23 + 1, x21, x22 =>
    if x22 < x00 then
      (m_gfmatrix_Matrix_row x9.1 x9.2.1 x22).bind fun x31 =>
      (slc x21 x31.1 x31.2).bind fun x32 =>
      (slc x21 x31.1 x31.2).bind fun x33 =>
      (idx x33 x22).bind fun x34 =>
      (ups x21 x31.1 x31.2 x22 1#8).bind fun x35 =>
      (ck (x22 + (1 : Int))).bind fun x37 =>
      (m_gfmatrix_Identity_l1 x00 x9 q23) x35 x37
    else
      m_gfmatrix_Identity_j0 x9 x21
def m_gfmatrix_Identity (x00 : Int) : Option (Int × Int × By × Int) :=
  (m_gfmatrix_mayHave x00).bind fun x5 =>
  if x5 = true then
    (m_gfmatrix_empty x00 x00).bind fun x9 =>
    m_gfmatrix_Identity_l1 x00 x9 forever x9.2.2 (0 : Int)
  else
    some ((0 : Int), (0 : Int), ([] : By), (1 : Int))
def m_gfmatrix_Vandermonde_j3 (x29 : Int) (r2 : By -> Int -> Option (Int × Int × By × Int)) (x35 : By) : Option (Int × Int × By × Int) :=
  (ck (x29 + (1 : Int))).bind fun x59 =>
  r2 x35 x59
def m_gfmatrix_Vandermonde_l4 (x01 : Int) (x16 : Int × Int × By) (x29 : Int) (r2 : By -> Int -> Option (Int × Int × By × Int)) : Nat -> By -> Int -> Option (Int × Int × By × Int)
  | 0, _, _ => none
  | q41 + 1, x39, x40 =>
    if x40 < x01 then
      (m_gfmatrix_Matrix_row x16.1 x16.2.1 x29).bind fun x49 =>
      (slc x39 x49.1 x49.2).bind fun x50 =>
      (m_gf256_Pow (BitVec.ofInt 8 x29) x40).bind fun x51 =>
      (slc x39 x49.1 x49.2).bind fun x53 =>
      (idx x53 x40).bind fun x54 =>
      (ups x39 x49.1 x49.2 x40 x51).bind fun x55 =>
      (ck (x40 + (1 : Int))).bind fun x57 =>
      (m_gfmatrix_Vandermonde_l4 x01 x16 x29 r2 q41) x55 x57
    else
      m_gfmatrix_Vandermonde_j3 x29 r2 x39
def m_gfmatrix_Vandermonde_j1 (x16 : Int × Int × By) (x25 : By) : Option (Int × Int × By × Int) :=
  some (x16.1, x16.2.1, x25, (0 : Int))
def m_gfmatrix_Vandermonde_l2 (x00 x01 : Int) (x16 : Int × Int × By) : Nat -> By -> Int -> Option (Int × Int × By × Int)
  | 0, _, _ => none
  | q30 + 1, x28, x29 =>
    if x29 < x00 then
      m_gfmatrix_Vandermonde_l4 x01 x16 x29 (m_gfmatrix_Vandermonde_l2 x00 x01 x16 q30) forever x28 (0 : Int)
    else
      m_gfmatrix_Vandermonde_j1 x16 x28
def m_gfmatrix_Vandermonde_j0 (x00 x01 : Int) : Option (Int × Int × By × Int) :=
  (m_gfmatrix_empty x00 x01).bind fun x16 =>
  m_gfmatrix_Vandermonde_l2 x00 x01 x16 forever x16.2.2 (0 : Int)
def m_gfmatrix_Vandermonde (x00 x01 : Int) : Option (Int × Int × By × Int) :=
  (m_gfmatrix_mayHave x00).bind fun x5 =>
  if x5 = true then
    (m_gfmatrix_mayHave x01).bind fun x8 =>
    if x8 = true then
      m_gfmatrix_Vandermonde_j0 x00 x01
    else
      some ((0 : Int), (0 : Int), ([] : By), (1 : Int))
  else
    some ((0 : Int), (0 : Int), ([] : By), (1 : Int))
def m_gfmatrix_Mul_j5 (x45 : Int) (r4 : By -> Int -> Option (Int × Int × By × Int)) (x51 : By) : Option (Int × Int × By × Int) :=
  (ck (x45 + (1 : Int))).bind fun x99 =>
  r4 x51 x99
def m_gfmatrix_Mul_l6 (u0 u1 : Int) (u2 : By) (v0 v1 : Int) (v2 : By) (x21 : Int × Int × By) (x34 x45 : Int) (r4 : By -> Int -> Option (Int × Int × By × Int)) : Nat -> By -> Int -> Option (Int × Int × By × Int)
  | 0, _, _ => none
  | q57 + 1, x55, x56 =>
    if x56 < u1 then
      (m_gfmatrix_Matrix_row x21.1 x21.2.1 x34).bind fun x65 =>
      (slc x55 x65.1 x65.2).bind fun x66 =>
      (slc x55 x65.1 x65.2).bind fun x67 =>
      (idx x67 x45).bind fun x68 =>
      (m_gfmatrix_Matrix_at u0 u1 u2 x34 x56).bind fun x69 =>
      (m_gfmatrix_Matrix_at v0 v1 v2 x56 x45).bind fun x71 =>
      (m_gf256_Mul x69 x71).bind fun x73 =>
      (slc x55 x65.1 x65.2).bind fun x75 =>
      (idx x75 x45).bind fun x76 =>
      (ups x55 x65.1 x65.2 x45 (x68 ^^^ x73)).bind fun x77 =>
      (ck (x56 + (1 : Int))).bind fun x97 =>
      (m_gfmatrix_Mul_l6 u0 u1 u2 v0 v1 v2 x21 x34 x45 r4 q57) x77 x97
    else
      m_gfmatrix_Mul_j5 x45 r4 x55
def m_gfmatrix_Mul_j3 (x34 : Int) (r2 : By -> Int -> Option (Int × Int × By × Int)) (x40 : By) : Option (Int × Int × By × Int) :=
  (ck (x34 + (1 : Int))).bind fun x101 =>
  r2 x40 x101
def m_gfmatrix_Mul_l4 (u0 u1 : Int) (u2 : By) (v0 v1 : Int) (v2 : By) (x21 : Int × Int × By) (x34 : Int) (r2 : By -> Int -> Option (Int × Int × By × Int)) : Nat -> By -> Int -> Option (Int × Int × By × Int)
  | 0, _, _ => none
  | q46 + 1, x44, x45 =>
    if x45 < v1 then
      m_gfmatrix_Mul_l6 u0 u1 u2 v0 v1 v2 x21 x34 x45 (m_gfmatrix_Mul_l4 u0 u1 u2 v0 v1 v2 x21 x34 r2 q46) forever x44 (0 : Int)
    else
      m_gfmatrix_Mul_j3 x34 r2 x44
def m_gfmatrix_Mul_j1 (x21 : Int × Int × By) (x30 : By) : Option (Int × Int × By × Int) :=
  some (x21.1, x21.2.1, x30, (0 : Int))
def m_gfmatrix_Mul_l2 (u0 u1 : Int) (u2 : By) (v0 v1 : Int) (v2 : By) (x21 : Int × Int × By) : Nat -> By -> Int -> Option (Int × Int × By × Int)
  | 0, _, _ => none
  | q35 + 1, x33, x34 =>
    if x34 < u0 then
      m_gfmatrix_Mul_l4 u0 u1 u2 v0 v1 v2 x21 x34 (m_gfmatrix_Mul_l2 u0 u1 u2 v0 v1 v2 x21 q35) forever x33 (0 : Int)
    else
      m_gfmatrix_Mul_j1 x21 x33
def m_gfmatrix_Mul_j0 (u0 u1 : Int) (u2 : By) (v0 v1 : Int) (v2 : By) : Option (Int × Int × By × Int) :=
  (m_gfmatrix_empty u0 v1).bind fun x21 =>
  m_gfmatrix_Mul_l2 u0 u1 u2 v0 v1 v2 x21 forever x21.2.2 (0 : Int)
def m_gfmatrix_Mul (u0 u1 : Int) (u2 : By) (v0 v1 : Int) (v2 : By) : Option (Int × Int × By × Int) :=
  (m_gfmatrix_Valid u0 u1 u2).bind fun x7 =>
  if x7 = true then
    (m_gfmatrix_Valid v0 v1 v2).bind fun x10 =>
    if x10 = true then
      if u1 = v0 then
        m_gfmatrix_Mul_j0 u0 u1 u2 v0 v1 v2
      else
        some ((0 : Int), (0 : Int), ([] : By), (1 : Int))
    else
      some ((0 : Int), (0 : Int), ([] : By), (1 : Int))
  else
    some ((0 : Int), (0 : Int), ([] : By), (1 : Int))
def m_gfmatrix_Pick_j1 (u1 : Int) (x01 : List Int) (x23 : By) : Option (Int × Int × By × Int) :=
  some ((x01.length : Int), u1, x23, (0 : Int))
def m_gfmatrix_Pick_l2 (u0 u1 : Int) (u2 : By) (x01 : List Int) : Nat -> By -> Int -> Option (Int × Int × By × Int)
  | 0, _, _ => none
  | q33 + 1, x31, x32 =>
    if x32 < (x01.length : Int) then
      (idx x01 x32).bind fun x40 =>
      if x40 < (0 : Int) then
        some ((0 : Int), (0 : Int), ([] : By), (1 : Int))
      else
        if u0 <= x40 then
          some ((0 : Int), (0 : Int), ([] : By), (1 : Int))
        else
          (m_gfmatrix_Matrix_row u0 u1 x40).bind fun x50 =>
          (slc u2 x50.1 x50.2).bind fun x51 =>
          (apd 1 x31 x51).bind fun x52 =>
          (ck (x32 + (1 : Int))).bind fun x58 =>
          (m_gfmatrix_Pick_l2 u0 u1 u2 x01 q33) x52 x58
    else
      m_gfmatrix_Pick_j1 u1 x01 x31
def m_gfmatrix_Pick_j0 (u0 u1 : Int) (u2 : By) (x01 : List Int) : Option (Int × Int × By × Int) :=
  m_gfmatrix_Pick_l2 u0 u1 u2 x01 forever ([] : By) (0 : Int)
def m_gfmatrix_Pick (u0 u1 : Int) (u2 : By) (x01 : List Int) : Option (Int × Int × By × Int) :=
  (m_gfmatrix_Valid u0 u1 u2).bind fun x6 =>
  if x6 = true then
    (m_gfmatrix_mayHave (x01.length : Int)).bind fun x9 =>
    if x9 = true then
      m_gfmatrix_Pick_j0 u0 u1 u2 x01
    else
      some ((0 : Int), (0 : Int), ([] : By), (1 : Int))
  else
    some ((0 : Int), (0 : Int), ([] : By), (1 : Int))
def m_gfmatrix_scale_l0 (x00hi x00lo : Int) (x01 : BitVec 8) (x2 : By) : Nat -> By -> Int -> Option By
  | 0, _, _ => none
  | q5 + 1, x3, x4 =>
    if x4 < (x2.length : Int) then
      (slc x3 x00lo x00hi).bind fun x12 =>
      (idx x12 x4).bind fun x13 =>
      (m_gf256_Mul x13 x01).bind fun x15 =>
      (slc x3 x00lo x00hi).bind fun x17 =>
      (idx x17 x4).bind fun x18 =>
      (ups x3 x00lo x00hi x4 x15).bind fun x19 =>
      (ck (x4 + (1 : Int))).bind fun x21 =>
      (m_gfmatrix_scale_l0 x00hi x00lo x01 x2 q5) x19 x21
    else
      some (x3)
def m_gfmatrix_scale (x0c : By) (x00lo x00hi : Int) (x01 : BitVec 8) : Option By :=
  (slc x0c x00lo x00hi).bind fun x2 =>
  m_gfmatrix_scale_l0 x00hi x00lo x01 x2 forever x0c (0 : Int)
def m_gfmatrix_add_l0 (x00hi x00lo x01hi x01lo : Int) (x02 : BitVec 8) (x2 : By) : Nat -> By -> Int -> Option By
  | 0, _, _ => none
  | q5 + 1, x3, x4 =>
    if x4 < (x2.length : Int) then
      (slc x3 x01lo x01hi).bind fun x12 =>
      (idx x12 x4).bind fun x13 =>
      (slc x3 x00lo x00hi).bind fun x15 =>
      (idx x15 x4).bind fun x16 =>
      (m_gf256_Mul x13 x02).bind fun x17 =>
      (slc x3 x00lo x00hi).bind fun x19 =>
      (idx x19 x4).bind fun x20 =>
      (ups x3 x00lo x00hi x4 (x16 ^^^ x17)).bind fun x21 =>
      (ck (x4 + (1 : Int))).bind fun x27 =>
      (m_gfmatrix_add_l0 x00hi x00lo x01hi x01lo x02 x2 q5) x21 x27
    else
      some (x3)
def m_gfmatrix_add (x0c : By) (x00lo x00hi x01lo x01hi : Int) (x02 : BitVec 8) : Option By :=
  (slc x0c x01lo x01hi).bind fun x2 =>
  m_gfmatrix_add_l0 x00hi x00lo x01hi x01lo x02 x2 forever x0c (0 : Int)
def m_gfmatrix_Matrix_swap_l0 (x4 x6 : Int × Int) (x9 : By) : Nat -> By -> Int -> Option By
  | 0, _, _ => none
  | q12 + 1, x10, x11 =>
    if x11 < (x9.length : Int) then
      (slc x10 x6.1 x6.2).bind fun x20 =>
      (idx x20 x11).bind fun x21 =>
      (slc x10 x4.1 x4.2).bind fun x22 =>
      (idx x22 x11).bind fun x23 =>
      (slc x10 x4.1 x4.2).bind fun x24 =>
      (idx x24 x11).bind fun x25 =>
      (ups x10 x4.1 x4.2 x11 x21).bind fun x26 =>
      (slc x26 x6.1 x6.2).bind fun x27 =>
      (idx x27 x11).bind fun x28 =>
      (ups x26 x6.1 x6.2 x11 x23).bind fun x29 =>
      (ck (x11 + (1 : Int))).bind fun x41 =>
      (m_gfmatrix_Matrix_swap_l0 x4 x6 x9 q12) x29 x41
    else
      some (x10)
def m_gfmatrix_Matrix_swap (x0c : By) (u0 u1 x01 x02 : Int) : Option By :=
  (m_gfmatrix_Matrix_row u0 u1 x01).bind fun x4 =>
  (slc x0c x4.1 x4.2).bind fun x5 =>
  (m_gfmatrix_Matrix_row u0 u1 x02).bind fun x6 =>
  (slc x0c x6.1 x6.2).bind fun x7 =>
  (slc x0c x4.1 x4.2).bind fun x9 =>
  m_gfmatrix_Matrix_swap_l0 x4 x6 x9 forever x0c (0 : Int)
def m_slices_Clone_byte_byte (x00 : By) : Option (By) :=
  (apd 1 ([] : By) x00).bind fun x9 =>
  some (x9)
def m_gfmatrix_Invert_j3 (x40 : Int) (r2 : By -> By -> Int -> Option (Int × Int × By × Int)) (x46 x47 : By) : Option (Int × Int × By × Int) :=
  (ck (x40 + (1 : Int))).bind fun x119 =>
  r2 x46 x47 x119
def m_gfmatrix_Invert_j7 (x40 : Int) (r2 : By -> By -> Int -> Option (Int × Int × By × Int)) (x79 x80 : By) : Option (Int × Int × By × Int) :=
  m_gfmatrix_Invert_j3 x40 r2 x79 x80
def m_gfmatrix_Invert_l8 (u0 u1 : Int) (x25 : Int × Int × By × Int) (x40 : Int) (r2 : By -> By -> Int -> Option (Int × Int × By × Int)) : Nat -> By -> By -> Int -> Option (Int × Int × By × Int)
  | 0, _, _, _ => none
  | q86 + 1, x83, x84, x85 =>
    if x85 < u0 then
      (m_gfmatrix_Matrix_at u0 u1 x83 x85 x40).bind fun x94 =>
      if x85 = x40 then
        (ck (x85 + (1 : Int))).bind fun x99 =>
        (m_gfmatrix_Invert_l8 u0 u1 x25 x40 r2 q86) x83 x84 x99
      else
        (m_gfmatrix_Matrix_row u0 u1 x85).bind fun x101 =>
        (slc x83 x101.1 x101.2).bind fun x102 =>
        (m_gfmatrix_Matrix_row u0 u1 x40).bind fun x103 =>
        (slc x83 x103.1 x103.2).bind fun x104 =>
        (m_gfmatrix_add x83 x101.1 x101.2 x103.1 x103.2 x94).bind fun x105 =>
        (m_gfmatrix_Matrix_row x25.1 x25.2.1 x85).bind fun x107 =>
        (slc x84 x107.1 x107.2).bind fun x108 =>
        (m_gfmatrix_Matrix_row x25.1 x25.2.1 x40).bind fun x109 =>
        (slc x84 x109.1 x109.2).bind fun x110 =>
        (m_gfmatrix_add x84 x107.1 x107.2 x109.1 x109.2 x94).bind fun x111 =>
        (ck (x85 + (1 : Int))).bind fun x113 =>
        (m_gfmatrix_Invert_l8 u0 u1 x25 x40 r2 q86) x105 x111 x113
    else
      m_gfmatrix_Invert_j7 x40 r2 x83 x84
def m_gfmatrix_Invert_j6 (x52 : Int) (r5 : Int -> Option (Int × Int × By × Int)) : Option (Int × Int × By × Int) :=
  (ck (x52 + (1 : Int))).bind fun x115 =>
  r5 x115
def m_gfmatrix_Invert_j4 : Option (Int × Int × By × Int) :=
  some ((0 : Int), (0 : Int), ([] : By), (14 : Int))
def m_gfmatrix_Invert_l5 (u0 u1 : Int) (x25 : Int × Int × By × Int) (x38 x39 : By) (x40 : Int) (r2 : By -> By -> Int -> Option (Int × Int × By × Int)) : Nat -> Int -> Option (Int × Int × By × Int)
  | 0, _ => none
  | q53 + 1, x52 =>
    if x52 < u0 then
      (m_gfmatrix_Matrix_at u0 u1 x38 x52 x40).bind fun x60 =>
      (m_gf256_Inv x60).bind fun x62 =>
      if x62.2 = (0 : Int) then
        (m_gfmatrix_Matrix_swap x38 u0 u1 x52 x40).bind fun x68 =>
        (m_gfmatrix_Matrix_swap x39 x25.1 x25.2.1 x52 x40).bind fun x70 =>
        (m_gfmatrix_Matrix_row u0 u1 x40).bind fun x72 =>
        (slc x68 x72.1 x72.2).bind fun x73 =>
        (m_gfmatrix_scale x68 x72.1 x72.2 x62.1).bind fun x74 =>
        (m_gfmatrix_Matrix_row x25.1 x25.2.1 x40).bind fun x76 =>
        (slc x70 x76.1 x76.2).bind fun x77 =>
        (m_gfmatrix_scale x70 x76.1 x76.2 x62.1).bind fun x78 =>
        m_gfmatrix_Invert_l8 u0 u1 x25 x40 r2 forever x74 x78 (0 : Int)
      else
        m_gfmatrix_Invert_j6 x52 (m_gfmatrix_Invert_l5 u0 u1 x25 x38 x39 x40 r2 q53)
    else
      m_gfmatrix_Invert_j4
def m_gfmatrix_Invert_j1 (x25 : Int × Int × By × Int) (x35 : By) : Option (Int × Int × By × Int) :=
  some (x25.1, x25.2.1, x35, (0 : Int))
def m_gfmatrix_Invert_l2 (u0 u1 : Int) (x25 : Int × Int × By × Int) : Nat -> By -> By -> Int -> Option (Int × Int × By × Int)
  | 0, _, _, _ => none
  | q41 + 1, x38, x39, x40 =>
    if x40 < u0 then
      m_gfmatrix_Invert_l5 u0 u1 x25 x38 x39 x40 (m_gfmatrix_Invert_l2 u0 u1 x25 q41) forever x40
    else
      m_gfmatrix_Invert_j1 x25 x39
def m_gfmatrix_Invert_j0 (u0 u1 : Int) (u2 : By) : Option (Int × Int × By × Int) :=
  (m_slices_Clone_byte_byte u2).bind fun x16 =>
  (m_gfmatrix_Identity u0).bind fun x25 =>
  m_gfmatrix_Invert_l2 u0 u1 x25 forever x16 x25.2.2.1 (0 : Int)
def m_gfmatrix_Invert (u0 u1 : Int) (u2 : By) : Option (Int × Int × By × Int) :=
  (m_gfmatrix_Valid u0 u1 u2).bind fun x6 =>
  if x6 = true then
    if u0 = u1 then
      m_gfmatrix_Invert_j0 u0 u1 u2
    else
      some ((0 : Int), (0 : Int), ([] : By), (1 : Int))
  else
    some ((0 : Int), (0 : Int), ([] : By), (1 : Int))
def m_gfmatrix_Apply_j5 (x52 : Int) (r4 : (List By) -> Int -> Option ((List By) × Int)) (x59 : List By) : Option ((List By) × Int) :=
  (ck (x52 + (1 : Int))).bind fun x128 =>
  r4 x59 x128
def m_gfmatrix_Apply_l6 (u0 u1 : Int) (u2 : By) (x01 : List By) (x52 : Int) (r4 : (List By) -> Int -> Option ((List By) × Int)) : Nat -> (List By) -> Int -> Option ((List By) × Int)
  | 0, _, _ => none
  | q86 + 1, x82, x85 =>
    if x85 < (x01.length : Int) then
      (idx x01 x85).bind fun x93 =>
      (idx x82 x52).bind fun x98 =>
      (m_gfmatrix_Matrix_at u0 u1 u2 x52 x85).bind fun x102 =>
      (m_gf256_MulAdd x98 x93 x102).bind fun x104 =>
      (idx x82 x52).bind fun x112 =>
      (upd x82 x52 x104.1).bind fun x118 =>
      (ck (x85 + (1 : Int))).bind fun x126 =>
      (m_gfmatrix_Apply_l6 u0 u1 u2 x01 x52 r4 q86) x118 x126
    else
      m_gfmatrix_Apply_j5 x52 r4 x82
def m_gfmatrix_Apply_j3 (x43 : List By) : Option ((List By) × Int) :=
  some (x43, (0 : Int))
def m_gfmatrix_Apply_l4 (u0 u1 : Int) (u2 : By) (x01 x39 : List By) : Nat -> (List By) -> Int -> Option ((List By) × Int)
  | 0, _, _ => none
  | q53 + 1, x49, x52 =>
    if x52 < (x39.length : Int) then
      (idx x01 (0 : Int)).bind fun x65 =>
      (mks 1 (x65.length : Int) 0#8).bind fun x70 =>
      (idx x49 x52).bind fun x71 =>
      (upd x49 x52 x70).bind fun x77 =>
      m_gfmatrix_Apply_l6 u0 u1 u2 x01 x52 (m_gfmatrix_Apply_l4 u0 u1 u2 x01 x39 q53) forever x77 (0 : Int)
    else
      m_gfmatrix_Apply_j3 x49
def m_gfmatrix_Apply_j1 (u0 u1 : Int) (u2 : By) (x01 : List By) : Option ((List By) × Int) :=
  (mks 24 u0 ([] : By)).bind fun x39 =>
  m_gfmatrix_Apply_l4 u0 u1 u2 x01 x39 forever x39 (0 : Int)
def m_gfmatrix_Apply_l2 (u0 u1 : Int) (u2 : By) (x01 : List By) : Nat -> Int -> Option ((List By) × Int)
  | 0, _ => none
  | q16 + 1, x15 =>
    if x15 < (x01.length : Int) then
      (idx x01 x15).bind fun x23 =>
      (idx x01 (0 : Int)).bind fun x28 =>
      if (x23.length : Int) = (x28.length : Int) then
        (ck (x15 + (1 : Int))).bind fun x34 =>
        (m_gfmatrix_Apply_l2 u0 u1 u2 x01 q16) x34
      else
        some (([] : List By), (1 : Int))
    else
      m_gfmatrix_Apply_j1 u0 u1 u2 x01
def m_gfmatrix_Apply_j0 (u0 u1 : Int) (u2 : By) (x01 : List By) : Option ((List By) × Int) :=
  m_gfmatrix_Apply_l2 u0 u1 u2 x01 forever (0 : Int)
def m_gfmatrix_Apply (u0 u1 : Int) (u2 : By) (x01 : List By) : Option ((List By) × Int) :=
  (m_gfmatrix_Valid u0 u1 u2).bind fun x5 =>
  if x5 = true then
    if (x01.length : Int) = u1 then
      m_gfmatrix_Apply_j0 u0 u1 u2 x01
    else
      some (([] : List By), (1 : Int))
  else
    some (([] : List By), (1 : Int))
end Go.Proofs.YtcncappgheopgaaGreat
