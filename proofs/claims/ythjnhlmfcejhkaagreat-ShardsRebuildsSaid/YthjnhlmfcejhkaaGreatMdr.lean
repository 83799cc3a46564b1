/- A part of the proof. Conditions: as each theorem says. -/
import Derived.Test.YthjnhlmfcejhkaaGreatMo
import Derived.Test.YthjnhlmfcejhkaaGreatMs
namespace Go.Proofs.YthjnhlmfcejhkaaGreat
set_option linter.unusedVariables false
def m_gf256_Mul_j0 (x3 : Int) : Option ((BitVec 8)) :=
  some (BitVec.ofInt 8 x3)
def m_gf256_Mul_l1 : Nat -> (BitVec 8) -> Int -> Int -> Option ((BitVec 8))
  | 0, _, _, _ => none
  | q8 + 1, x5, x6, x7 =>
    if x5 = 0#8 then
      m_gf256_Mul_j0 x6
    else
      if (x5 &&& 1#8) = 1#8 then
        (shli x7 (1 : Nat)).bind fun x19 =>
        (shri x19 (8 : Nat)).bind fun x21 =>
        if x21 = (1 : Int) then
          (m_gf256_Mul_l1 q8) (x5 >>> 1) (xori x6 x7) (xori x19 (285 : Int))
        else
          (m_gf256_Mul_l1 q8) (x5 >>> 1) (xori x6 x7) x19
      else
        (shli x7 (1 : Nat)).bind fun x27 =>
        (shri x27 (8 : Nat)).bind fun x29 =>
        if x29 = (1 : Int) then
          (m_gf256_Mul_l1 q8) (x5 >>> 1) x6 (xori x27 (285 : Int))
        else
          (m_gf256_Mul_l1 q8) (x5 >>> 1) x6 x27
def m_gf256_Mul (x00 x01 : BitVec 8) : Option ((BitVec 8)) :=
  m_gf256_Mul_l1 forever x01 (0 : Int) (x00.toNat : Int)
def m_gf256_tables_j0 (x5 : By) (x7 : List Int) : Option (By × (List Int)) :=
  some (x5, x7)
def m_gf256_tables_l1 : Nat -> By -> (List Int) -> Int -> Int -> Option (By × (List Int))
  | 0, _, _, _, _ => none
  | q17 + 1, x11, x13, x15, x16 =>
    if x16 < (255 : Int) then
      (ck (x16 + (255 : Int))).bind fun x25 =>
      (idx x11 x16).bind fun x26 =>
      (upd x11 x16 (BitVec.ofInt 8 x15)).bind fun x27 =>
      (idx x27 x25).bind fun x28 =>
      (upd x27 x25 (BitVec.ofInt 8 x15)).bind fun x29 =>
      (idx x13 x15).bind fun x31 =>
      (upd x13 x15 x16).bind fun x32 =>
      (shli x15 (1 : Nat)).bind fun x34 =>
      (shri x34 (8 : Nat)).bind fun x36 =>
      if x36 = (1 : Int) then
        (ck (x16 + (1 : Int))).bind fun x40 =>
        (m_gf256_tables_l1 q17) x29 x32 (xori x34 (285 : Int)) x40
      else
        (ck (x16 + (1 : Int))).bind fun x42 =>
        (m_gf256_tables_l1 q17) x29 x32 x34 x42
    else
      m_gf256_tables_j0 x11 x13
def m_gf256_tables : Option (By × (List Int)) :=
  m_gf256_tables_l1 forever (List.replicate 510 (0#8)) (List.replicate 256 ((0 : Int))) (1 : Int) (0 : Int)
def m_gf256_within (x00 : Int) : Option Int :=
  (rmi x00 (255 : Int)).bind fun x3 =>
  (ck (x3 + (255 : Int))).bind fun x4 =>
  (rmi x4 (255 : Int)).bind fun x5 =>
  some (x5)
def m_gf256_Inv (x00 : BitVec 8) : Option ((BitVec 8) × Int) :=
  if x00 = 0#8 then
    some (0#8, (1 : Int))
  else
    (m_gf256_tables).bind fun x7 =>
    (idx x7.2 (x00.toNat : Int)).bind fun x16 =>
    (ck ((255 : Int) - x16)).bind fun x17 =>
    (idx x7.1 x17).bind fun x18 =>
    some (x18, (0 : Int))
def m_gf256_Pow (x00 : BitVec 8) (x01 : Int) : Option ((BitVec 8)) :=
  if x01 = (0 : Int) then
    some (1#8)
  else
    if x00 = 0#8 then
      some (0#8)
    else
      (m_gf256_tables).bind fun x10 =>
      (idx x10.2 (x00.toNat : Int)).bind fun x19 =>
      (m_gf256_within x01).bind fun x20 =>
      (ck (x19 * x20)).bind fun x22 =>
      (rmi x22 (255 : Int)).bind fun x23 =>
      (idx x10.1 x23).bind fun x24 =>
      some (x24)
def m_gf256_MulAdd_j2 (x02 : BitVec 8) (x6 : By × (List Int)) (x22 : By) (x23 : Int) (x31 : BitVec 8) (r1 : By -> Int -> Option (By × Int)) (x32 : Bool) : Option (By × Int) :=
  if x32 = true then
    (idx x22 x23).bind fun x38 =>
    (idx x6.2 (x02.toNat : Int)).bind fun x39 =>
    (idx x6.2 (x31.toNat : Int)).bind fun x40 =>
    (ck (x39 + x40)).bind fun x41 =>
    (idx x6.1 x41).bind fun x42 =>
    (idx x22 x23).bind fun x43 =>
    (upd x22 x23 (x38 ^^^ x42)).bind fun x44 =>
    (ck (x23 + (1 : Int))).bind fun x46 =>
    r1 x44 x46
  else
    (ck (x23 + (1 : Int))).bind fun x48 =>
    r1 x22 x48
def m_gf256_MulAdd_j0 (x19 : By) : Option (By × Int) :=
  some (x19, (0 : Int))
def m_gf256_MulAdd_l1 (x01 : By) (x02 : BitVec 8) (x6 : By × (List Int)) : Nat -> By -> Int -> Option (By × Int)
  | 0, _, _ => none
  | q24 + 1, x22, x23 =>
    if x23 < (x01.length : Int) then
      (idx x01 x23).bind fun x31 =>
      if x02 = 0#8 then
        m_gf256_MulAdd_j2 x02 x6 x22 x23 x31 (m_gf256_MulAdd_l1 x01 x02 x6 q24) false
      else
        m_gf256_MulAdd_j2 x02 x6 x22 x23 x31 (m_gf256_MulAdd_l1 x01 x02 x6 q24) (x31 != 0#8)
    else
      m_gf256_MulAdd_j0 x22
def m_gf256_MulAdd (x00 x01 : By) (x02 : BitVec 8) : Option (By × Int) :=
  if (x00.length : Int) = (x01.length : Int) then
    (m_gf256_tables).bind fun x6 =>
    (apd 1 ([] : By) x00).bind fun x16 =>
    m_gf256_MulAdd_l1 x01 x02 x6 forever x16 (0 : Int)
  else
    some (([] : By), (1 : Int))
def m_r02_Mul_j2 (x22 : Int) : Option ((BitVec 8)) :=
  some (BitVec.ofInt 8 x22)
def m_r02_Mul_l3 : Nat -> Int -> Int -> Option ((BitVec 8))
  | 0, _, _ => none
  | q27 + 1, x25, x26 =>
    if (8 : Int) <= x26 then
      (shri x25 ((BitVec.ofInt 64 x26).toNat : Nat)).bind fun x34 =>
      if (andi x34 (1 : Int)) = (1 : Int) then
        (ck (x26 - (8 : Int))).bind fun x37 =>
        (shli (285 : Int) ((BitVec.ofInt 64 x37).toNat : Nat)).bind fun x38 =>
        (ck (x26 - (1 : Int))).bind fun x40 =>
        (m_r02_Mul_l3 q27) (xori x25 x38) x40
      else
        (ck (x26 - (1 : Int))).bind fun x42 =>
        (m_r02_Mul_l3 q27) x25 x42
    else
      m_r02_Mul_j2 x25
def m_r02_Mul_j0 (x3 : Int) : Option ((BitVec 8)) :=
  m_r02_Mul_l3 forever x3 (14 : Int)
def m_r02_Mul_l1 (x00 x01 : BitVec 8) : Nat -> Int -> Int -> Option ((BitVec 8))
  | 0, _, _ => none
  | q8 + 1, x6, x7 =>
    if x7 < (8 : Int) then
      if ((x01 >>> (BitVec.ofInt 64 x7).toNat) &&& 1#8) = 1#8 then
        (shli (x00.toNat : Int) ((BitVec.ofInt 64 x7).toNat : Nat)).bind fun x17 =>
        (ck (x7 + (1 : Int))).bind fun x19 =>
        (m_r02_Mul_l1 x00 x01 q8) (xori x6 x17) x19
      else
        (ck (x7 + (1 : Int))).bind fun x21 =>
        (m_r02_Mul_l1 x00 x01 q8) x6 x21
    else
      m_r02_Mul_j0 x6
def m_r02_Mul (x00 x01 : BitVec 8) : Option ((BitVec 8)) :=
  m_r02_Mul_l1 x00 x01 forever (0 : Int) (0 : Int)
def m_r02_Inv_j0 : Option ((BitVec 8) × Int) :=
  some (0#8, (1 : Int))
def m_r02_Inv_l1 (x00 : BitVec 8) : Nat -> Int -> Option ((BitVec 8) × Int)
  | 0, _ => none
  | q5 + 1, x4 =>
    if x4 < (256 : Int) then
      (m_r02_Mul x00 (BitVec.ofInt 8 x4)).bind fun x12 =>
      if x12 = 1#8 then
        some (BitVec.ofInt 8 x4, (0 : Int))
      else
        (ck (x4 + (1 : Int))).bind fun x17 =>
        (m_r02_Inv_l1 x00 q5) x17
    else
      m_r02_Inv_j0
def m_r02_Inv (x00 : BitVec 8) : Option ((BitVec 8) × Int) :=
  m_r02_Inv_l1 x00 forever (1 : Int)
def m_r02_MulAdd_j0 (x11 : By) : Option (By × Int) :=
  some (x11, (0 : Int))
def m_r02_MulAdd_l1 (x00 x01 : By) (x02 : BitVec 8) : Nat -> By -> Int -> Option (By × Int)
  | 0, _, _ => none
  | q21 + 1, x19, x20 =>
    if x20 < (x00.length : Int) then
      (idx x00 x20).bind fun x28 =>
      (idx x01 x20).bind fun x29 =>
      (m_r02_Mul x02 x29).bind fun x30 =>
      (apd 1 x19 ([x28 ^^^ x30] : By)).bind fun x33 =>
      (ck (x20 + (1 : Int))).bind fun x37 =>
      (m_r02_MulAdd_l1 x00 x01 x02 q21) x33 x37
    else
      m_r02_MulAdd_j0 x19
def m_r02_MulAdd (x00 x01 : By) (x02 : BitVec 8) : Option (By × Int) :=
  if (x00.length : Int) = (x01.length : Int) then
    m_r02_MulAdd_l1 x00 x01 x02 forever ([] : By) (0 : Int)
  else
    some (([] : By), (1 : Int))
def m_gfmatrix_mayHave (x00 : Int) : Option Bool :=
  if (1 : Int) <= x00 then
    some ((decide (x00 <= (16 : Int))))
  else
    some (false)
def m_gfmatrix_Valid (u0 u1 : Int) (u2 : By) : Option Bool :=
  (m_gfmatrix_mayHave u0).bind fun x4 =>
  if x4 = true then
    (m_gfmatrix_mayHave u1).bind fun x7 =>
    if x7 = true then
      (ck (u0 * u1)).bind fun x10 =>
      some (((u2.length : Int) == x10))
    else
      some (false)
  else
    some (false)
def m_gfmatrix_empty (x00 x01 : Int) : Option (Int × Int × By) :=
  (ck (x00 * x01)).bind fun x4 =>
  (mks 1 x4 0#8).bind fun x6 =>
  some (x00, x01, x6)
def m_gfmatrix_Matrix_row (u0 u1 x01 : Int) : Option (Int × Int) :=
  (ck (x01 * u1)).bind fun x4 =>
  (ck (x01 + (1 : Int))).bind fun x5 =>
  (ck (x5 * u1)).bind fun x6 =>
  some (x4, x6)
def m_gfmatrix_Matrix_at (u0 u1 : Int) (u2 : By) (x01 x02 : Int) : Option ((BitVec 8)) :=
  (ck (x01 * u1)).bind fun x4 =>
  (ck (x4 + x02)).bind fun x5 =>
  (idx u2 x5).bind fun x6 =>
  some (x6)
def m_gfmatrix_Identity_j0 (x9 : Int × Int × By) (x18 : By) : Option (Int × Int × By × Int) :=
  some (x9.1, x9.2.1, x18, (0 : Int))
def m_gfmatrix_Identity_l1 (x00 : Int) (x9 : Int × Int × By) : Nat -> By -> Int -> Option (Int × Int × By × Int)
  | 0, _, _ => none
  | q23 + 1, x21, x22 =>
    if x22 < x00 then
      (m_gfmatrix_Matrix_row x9.1 x9.2.1 x22).bind fun x31 =>
      (slc x21 x31.1 x31.2).bind fun x32 =>
      (slc x21 x31.1 x31.2).bind fun x33 =>
      (idx x33 x22).bind fun x34 =>
      (ups x21 x31.1 x31.2 x22 1#8).bind fun x35 =>
      (ck (x22 + (1 : Int))).bind fun x37 =>
      (m_gfmatrix_Identity_l1 x00 x9 q23) x35 x37
    else
      m_gfmatrix_Identity_j0 x9 x21
def m_gfmatrix_Identity (x00 : Int) : Option (Int × Int × By × Int) :=
  (m_gfmatrix_mayHave x00).bind fun x5 =>
  if x5 = true then
    (m_gfmatrix_empty x00 x00).bind fun x9 =>
    m_gfmatrix_Identity_l1 x00 x9 forever x9.2.2 (0 : Int)
  else
    some ((0 : Int), (0 : Int), ([] : By), (1 : Int))
def m_gfmatrix_Vandermonde_j3 (x29 : Int) (r2 : By -> Int -> Option (Int × Int × By × Int)) (x35 : By) : Option (Int × Int × By × Int) :=
  (ck (x29 + (1 : Int))).bind fun x59 =>
  r2 x35 x59
def m_gfmatrix_Vandermonde_l4 (x01 : Int) (x16 : Int × Int × By) (x29 : Int) (r2 : By -> Int -> Option (Int × Int × By × Int)) : Nat -> By -> Int -> Option (Int × Int × By × Int)
  | 0, _, _ => none
  | q41 + 1, x39, x40 =>
    if x40 < x01 then
      (m_gfmatrix_Matrix_row x16.1 x16.2.1 x29).bind fun x49 =>
      (slc x39 x49.1 x49.2).bind fun x50 =>
      (m_gf256_Pow (BitVec.ofInt 8 x29) x40).bind fun x51 =>
      (slc x39 x49.1 x49.2).bind fun x53 =>
      (idx x53 x40).bind fun x54 =>
      (ups x39 x49.1 x49.2 x40 x51).bind fun x55 =>
      (ck (x40 + (1 : Int))).bind fun x57 =>
      (m_gfmatrix_Vandermonde_l4 x01 x16 x29 r2 q41) x55 x57
    else
      m_gfmatrix_Vandermonde_j3 x29 r2 x39
def m_gfmatrix_Vandermonde_j1 (x16 : Int × Int × By) (x25 : By) : Option (Int × Int × By × Int) :=
  some (x16.1, x16.2.1, x25, (0 : Int))
def m_gfmatrix_Vandermonde_l2 (x00 x01 : Int) (x16 : Int × Int × By) : Nat -> By -> Int -> Option (Int × Int × By × Int)
  | 0, _, _ => none
  | q30 + 1, x28, x29 =>
    if x29 < x00 then
      m_gfmatrix_Vandermonde_l4 x01 x16 x29 (m_gfmatrix_Vandermonde_l2 x00 x01 x16 q30) forever x28 (0 : Int)
    else
      m_gfmatrix_Vandermonde_j1 x16 x28
def m_gfmatrix_Vandermonde_j0 (x00 x01 : Int) : Option (Int × Int × By × Int) :=
  (m_gfmatrix_empty x00 x01).bind fun x16 =>
  m_gfmatrix_Vandermonde_l2 x00 x01 x16 forever x16.2.2 (0 : Int)
def m_gfmatrix_Vandermonde (x00 x01 : Int) : Option (Int × Int × By × Int) :=
  (m_gfmatrix_mayHave x00).bind fun x5 =>
  if x5 = true then
    (m_gfmatrix_mayHave x01).bind fun x8 =>
    if x8 = true then
      m_gfmatrix_Vandermonde_j0 x00 x01
    else
      some ((0 : Int), (0 : Int), ([] : By), (1 : Int))
  else
    some ((0 : Int), (0 : Int), ([] : By), (1 : Int))
def m_gfmatrix_Mul_j5 (x45 : Int) (r4 : By -> Int -> Option (Int × Int × By × Int)) (x51 : By) : Option (Int × Int × By × Int) :=
  (ck (x45 + (1 : Int))).bind fun x99 =>
  r4 x51 x99
def m_gfmatrix_Mul_l6 (u0 u1 : Int) (u2 : By) (v0 v1 : Int) (v2 : By) (x21 : Int × Int × By) (x34 x45 : Int) (r4 : By -> Int -> Option (Int × Int × By × Int)) : Nat -> By -> Int -> Option (Int × Int × By × Int)
  | 0, _, _ => none
  | q57 + 1, x55, x56 =>
    if x56 < u1 then
      (m_gfmatrix_Matrix_row x21.1 x21.2.1 x34).bind fun x65 =>
      (slc x55 x65.1 x65.2).bind fun x66 =>
      (slc x55 x65.1 x65.2).bind fun x67 =>
      (idx x67 x45).bind fun x68 =>
      (m_gfmatrix_Matrix_at u0 u1 u2 x34 x56).bind fun x69 =>
      (m_gfmatrix_Matrix_at v0 v1 v2 x56 x45).bind fun x71 =>
      (m_gf256_Mul x69 x71).bind fun x73 =>
      (slc x55 x65.1 x65.2).bind fun x75 =>
      (idx x75 x45).bind fun x76 =>
      (ups x55 x65.1 x65.2 x45 (x68 ^^^ x73)).bind fun x77 =>
      (ck (x56 + (1 : Int))).bind fun x97 =>
      (m_gfmatrix_Mul_l6 u0 u1 u2 v0 v1 v2 x21 x34 x45 r4 q57) x77 x97
    else
      m_gfmatrix_Mul_j5 x45 r4 x55
def m_gfmatrix_Mul_j3 (x34 : Int) (r2 : By -> Int -> Option (Int × Int × By × Int)) (x40 : By) : Option (Int × Int × By × Int) :=
  (ck (x34 + (1 : Int))).bind fun x101 =>
  r2 x40 x101
def m_gfmatrix_Mul_l4 (u0 u1 : Int) (u2 : By) (v0 v1 : Int) (v2 : By) (x21 : Int × Int × By) (x34 : Int) (r2 : By -> Int -> Option (Int × Int × By × Int)) : Nat -> By -> Int -> Option (Int × Int × By × Int)
  | 0, _, _ => none
  | q46 + 1, x44, x45 =>
    if x45 < v1 then
      m_gfmatrix_Mul_l6 u0 u1 u2 v0 v1 v2 x21 x34 x45 (m_gfmatrix_Mul_l4 u0 u1 u2 v0 v1 v2 x21 x34 r2 q46) forever x44 (0 : Int)
    else
      m_gfmatrix_Mul_j3 x34 r2 x44
def m_gfmatrix_Mul_j1 (x21 : Int × Int × By) (x30 : By) : Option (Int × Int × By × Int) :=
  some (x21.1, x21.2.1, x30, (0 : Int))
def m_gfmatrix_Mul_l2 (u0 u1 : Int) (u2 : By) (v0 v1 : Int) (v2 : By) (x21 : Int × Int × By) : Nat -> By -> Int -> Option (Int × Int × By × Int)
  | 0, _, _ => none
  | q35 + 1, x33, x34 =>
    if x34 < u0 then
      m_gfmatrix_Mul_l4 u0 u1 u2 v0 v1 v2 x21 x34 (m_gfmatrix_Mul_l2 u0 u1 u2 v0 v1 v2 x21 q35) forever x33 (0 : Int)
    else
      m_gfmatrix_Mul_j1 x21 x33
def m_gfmatrix_Mul_j0 (u0 u1 : Int) (u2 : By) (v0 v1 : Int) (v2 : By) : Option (Int × Int × By × Int) :=
  (m_gfmatrix_empty u0 v1).bind fun x21 =>
  m_gfmatrix_Mul_l2 u0 u1 u2 v0 v1 v2 x21 forever x21.2.2 (0 : Int)
def m_gfmatrix_Mul (u0 u1 : Int) (u2 : By) (v0 v1 : Int) (v2 : By) : Option (Int × Int × By × Int) :=
  (m_gfmatrix_Valid u0 u1 u2).bind fun x7 =>
  if x7 = true then
    (m_gfmatrix_Valid v0 v1 v2).bind fun x10 =>
    if x10 = true then
      if u1 = v0 then
        m_gfmatrix_Mul_j0 u0 u1 u2 v0 v1 v2
      else
        some ((0 : Int), (0 : Int), ([] : By), (1 : Int))
    else
      some ((0 : Int), (0 : Int), ([] : By), (1 : Int))
  else
    some ((0 : Int), (0 : Int), ([] : By), (1 : Int))
def m_gfmatrix_Pick_j1 (u1 : Int) (x01 : List Int) (x23 : By) : Option (Int × Int × By × Int) :=
  some ((x01.length : Int), u1, x23, (0 : Int))
def m_gfmatrix_Pick_l2 (u0 u1 : Int) (u2 : By) (x01 : List Int) : Nat -> By -> Int -> Option (Int × Int × By × Int)
  | 0, _, _ => none
  | q33 + 1, x31, x32 =>
    if x32 < (x01.length : Int) then
      (idx x01 x32).bind fun x40 =>
      if x40 < (0 : Int) then
        some ((0 : Int), (0 : Int), ([] : By), (1 : Int))
      else
        if u0 <= x40 then
          some ((0 : Int), (0 : Int), ([] : By), (1 : Int))
        else
          (m_gfmatrix_Matrix_row u0 u1 x40).bind fun x50 =>
          (slc u2 x50.1 x50.2).bind fun x51 =>
          (apd 1 x31 x51).bind fun x52 =>
          (ck (x32 + (1 : Int))).bind fun x58 =>
          (m_gfmatrix_Pick_l2 u0 u1 u2 x01 q33) x52 x58
    else
      m_gfmatrix_Pick_j1 u1 x01 x31
def m_gfmatrix_Pick_j0 (u0 u1 : Int) (u2 : By) (x01 : List Int) : Option (Int × Int × By × Int) :=
  m_gfmatrix_Pick_l2 u0 u1 u2 x01 forever ([] : By) (0 : Int)
def m_gfmatrix_Pick (u0 u1 : Int) (u2 : By) (x01 : List Int) : Option (Int × Int × By × Int) :=
  (m_gfmatrix_Valid u0 u1 u2).bind fun x6 =>
  if x6 = true then
    (m_gfmatrix_mayHave (x01.length : Int)).bind fun x9 =>
    if x9 = true then
      m_gfmatrix_Pick_j0 u0 u1 u2 x01
    else
      some ((0 : Int), (0 : Int), ([] : By), (1 : Int))
  else
    some ((0 : Int), (0 : Int), ([] : By), (1 : Int))
def m_gfmatrix_scale_l0 (x00hi x00lo : Int) (x01 : BitVec 8) (x2 : By) : Nat -> By -> Int -> Option By
  | 0, _, _ => none
  | q5 + 1, x3, x4 =>
    if x4 < (x2.length : Int) then
      (slc x3 x00lo x00hi).bind fun x12 =>
      (idx x12 x4).bind fun x13 =>
      (m_gf256_Mul x13 x01).bind fun x15 =>
      (slc x3 x00lo x00hi).bind fun x17 =>
      (idx x17 x4).bind fun x18 =>
      (ups x3 x00lo x00hi x4 x15).bind fun x19 =>
      (ck (x4 + (1 : Int))).bind fun x21 =>
      (m_gfmatrix_scale_l0 x00hi x00lo x01 x2 q5) x19 x21
    else
      some (x3)
def m_gfmatrix_scale (x0c : By) (x00lo x00hi : Int) (x01 : BitVec 8) : Option By :=
  (slc x0c x00lo x00hi).bind fun x2 =>
  m_gfmatrix_scale_l0 x00hi x00lo x01 x2 forever x0c (0 : Int)
def m_gfmatrix_add_l0 (x00hi x00lo x01hi x01lo : Int) (x02 : BitVec 8) (x2 : By) : Nat -> By -> Int -> Option By
  | 0, _, _ => none
  | q5 + 1, x3, x4 =>
    if x4 < (x2.length : Int) then
      (slc x3 x01lo x01hi).bind fun x12 =>
      (idx x12 x4).bind fun x13 =>
      (slc x3 x00lo x00hi).bind fun x15 =>
      (idx x15 x4).bind fun x16 =>
      (m_gf256_Mul x13 x02).bind fun x17 =>
      (slc x3 x00lo x00hi).bind fun x19 =>
      (idx x19 x4).bind fun x20 =>
      (ups x3 x00lo x00hi x4 (x16 ^^^ x17)).bind fun x21 =>
      (ck (x4 + (1 : Int))).bind fun x27 =>
      (m_gfmatrix_add_l0 x00hi x00lo x01hi x01lo x02 x2 q5) x21 x27
    else
      some (x3)
def m_gfmatrix_add (x0c : By) (x00lo x00hi x01lo x01hi : Int) (x02 : BitVec 8) : Option By :=
  (slc x0c x01lo x01hi).bind fun x2 =>
  m_gfmatrix_add_l0 x00hi x00lo x01hi x01lo x02 x2 forever x0c (0 : Int)
def m_gfmatrix_Matrix_swap_l0 (x4 x6 : Int × Int) (x9 : By) : Nat -> By -> Int -> Option By
  | 0, _, _ => none
  | q12 + 1, x10, x11 =>
    if x11 < (x9.length : Int) then
      (slc x10 x6.1 x6.2).bind fun x20 =>
      (idx x20 x11).bind fun x21 =>
      (slc x10 x4.1 x4.2).bind fun x22 =>
      (idx x22 x11).bind fun x23 =>
      (slc x10 x4.1 x4.2).bind fun x24 =>
      (idx x24 x11).bind fun x25 =>
      (ups x10 x4.1 x4.2 x11 x21).bind fun x26 =>
      (slc x26 x6.1 x6.2).bind fun x27 =>
      (idx x27 x11).bind fun x28 =>
      (ups x26 x6.1 x6.2 x11 x23).bind fun x29 =>
      (ck (x11 + (1 : Int))).bind fun x41 =>
      (m_gfmatrix_Matrix_swap_l0 x4 x6 x9 q12) x29 x41
    else
      some (x10)
def m_gfmatrix_Matrix_swap (x0c : By) (u0 u1 x01 x02 : Int) : Option By :=
  (m_gfmatrix_Matrix_row u0 u1 x01).bind fun x4 =>
  (slc x0c x4.1 x4.2).bind fun x5 =>
  (m_gfmatrix_Matrix_row u0 u1 x02).bind fun x6 =>
  (slc x0c x6.1 x6.2).bind fun x7 =>
  (slc x0c x4.1 x4.2).bind fun x9 =>
  m_gfmatrix_Matrix_swap_l0 x4 x6 x9 forever x0c (0 : Int)
def m_slices_Clone_byte_byte (x00 : By) : Option (By) :=
  (apd 1 ([] : By) x00).bind fun x9 =>
  some (x9)
def m_gfmatrix_Invert_j3 (x40 : Int) (r2 : By -> By -> Int -> Option (Int × Int × By × Int)) (x46 x47 : By) : Option (Int × Int × By × Int) :=
  (ck (x40 + (1 : Int))).bind fun x119 =>
  r2 x46 x47 x119
def m_gfmatrix_Invert_j7 (x40 : Int) (r2 : By -> By -> Int -> Option (Int × Int × By × Int)) (x79 x80 : By) : Option (Int × Int × By × Int) :=
  m_gfmatrix_Invert_j3 x40 r2 x79 x80
def m_gfmatrix_Invert_l8 (u0 u1 : Int) (x25 : Int × Int × By × Int) (x40 : Int) (r2 : By -> By -> Int -> Option (Int × Int × By × Int)) : Nat -> By -> By -> Int -> Option (Int × Int × By × Int)
  | 0, _, _, _ => none
  | q86 + 1, x83, x84, x85 =>
    if x85 < u0 then
      (m_gfmatrix_Matrix_at u0 u1 x83 x85 x40).bind fun x94 =>
      if x85 = x40 then
        (ck (x85 + (1 : Int))).bind fun x99 =>
        (m_gfmatrix_Invert_l8 u0 u1 x25 x40 r2 q86) x83 x84 x99
      else
        (m_gfmatrix_Matrix_row u0 u1 x85).bind fun x101 =>
        (slc x83 x101.1 x101.2).bind fun x102 =>
        (m_gfmatrix_Matrix_row u0 u1 x40).bind fun x103 =>
        (slc x83 x103.1 x103.2).bind fun x104 =>
        (m_gfmatrix_add x83 x101.1 x101.2 x103.1 x103.2 x94).bind fun x105 =>
        (m_gfmatrix_Matrix_row x25.1 x25.2.1 x85).bind fun x107 =>
        (slc x84 x107.1 x107.2).bind fun x108 =>
        (m_gfmatrix_Matrix_row x25.1 x25.2.1 x40).bind fun x109 =>
        (slc x84 x109.1 x109.2).bind fun x110 =>
        (m_gfmatrix_add x84 x107.1 x107.2 x109.1 x109.2 x94).bind fun x111 =>
        (ck (x85 + (1 : Int))).bind fun x113 =>
        (m_gfmatrix_Invert_l8 u0 u1 x25 x40 r2 q86) x105 x111 x113
    else
      m_gfmatrix_Invert_j7 x40 r2 x83 x84
def m_gfmatrix_Invert_j6 (x52 : Int) (r5 : Int -> Option (Int × Int × By × Int)) : Option (Int × Int × By × Int) :=
  (ck (x52 + (1 : Int))).bind fun x115 =>
  r5 x115
def m_gfmatrix_Invert_j4 : Option (Int × Int × By × Int) :=
  some ((0 : Int), (0 : Int), ([] : By), (14 : Int))
def m_gfmatrix_Invert_l5 (u0 u1 : Int) (x25 : Int × Int × By × Int) (x38 x39 : By) (x40 : Int) (r2 : By -> By -> Int -> Option (Int × Int × By × Int)) : Nat -> Int -> Option (Int × Int × By × Int)
  | 0, _ => none
  | q53 + 1, x52 =>
    if x52 < u0 then
      (m_gfmatrix_Matrix_at u0 u1 x38 x52 x40).bind fun x60 =>
      (m_gf256_Inv x60).bind fun x62 =>
      if x62.2 = (0 : Int) then
        (m_gfmatrix_Matrix_swap x38 u0 u1 x52 x40).bind fun x68 =>
        (m_gfmatrix_Matrix_swap x39 x25.1 x25.2.1 x52 x40).bind fun x70 =>
        (m_gfmatrix_Matrix_row u0 u1 x40).bind fun x72 =>
        (slc x68 x72.1 x72.2).bind fun x73 =>
        (m_gfmatrix_scale x68 x72.1 x72.2 x62.1).bind fun x74 =>
        (m_gfmatrix_Matrix_row x25.1 x25.2.1 x40).bind fun x76 =>
        (slc x70 x76.1 x76.2).bind fun x77 =>
        (m_gfmatrix_scale x70 x76.1 x76.2 x62.1).bind fun x78 =>
        m_gfmatrix_Invert_l8 u0 u1 x25 x40 r2 forever x74 x78 (0 : Int)
      else
        m_gfmatrix_Invert_j6 x52 (m_gfmatrix_Invert_l5 u0 u1 x25 x38 x39 x40 r2 q53)
    else
      m_gfmatrix_Invert_j4
def m_gfmatrix_Invert_j1 (x25 : Int × Int × By × Int) (x35 : By) : Option (Int × Int × By × Int) :=
  some (x25.1, x25.2.1, x35, (0 : Int))
def m_gfmatrix_Invert_l2 (u0 u1 : Int) (x25 : Int × Int × By × Int) : Nat -> By -> By -> Int -> Option (Int × Int × By × Int)
  | 0, _, _, _ => none
  | q41 + 1, x38, x39, x40 =>
    if x40 < u0 then
      m_gfmatrix_Invert_l5 u0 u1 x25 x38 x39 x40 (m_gfmatrix_Invert_l2 u0 u1 x25 q41) forever x40
    else
      m_gfmatrix_Invert_j1 x25 x39
def m_gfmatrix_Invert_j0 (u0 u1 : Int) (u2 : By) : Option (Int × Int × By × Int) :=
  (m_slices_Clone_byte_byte u2).bind fun x16 =>
  (m_gfmatrix_Identity u0).bind fun x25 =>
  m_gfmatrix_Invert_l2 u0 u1 x25 forever x16 x25.2.2.1 (0 : Int)
def m_gfmatrix_Invert (u0 u1 : Int) (u2 : By) : Option (Int × Int × By × Int) :=
  (m_gfmatrix_Valid u0 u1 u2).bind fun x6 =>
  if x6 = true then
    if u0 = u1 then
      m_gfmatrix_Invert_j0 u0 u1 u2
    else
      some ((0 : Int), (0 : Int), ([] : By), (1 : Int))
  else
    some ((0 : Int), (0 : Int), ([] : By), (1 : Int))
def m_gfmatrix_Apply_j5 (x52 : Int) (r4 : (List By) -> Int -> Option ((List By) × Int)) (x59 : List By) : Option ((List By) × Int) :=
  (ck (x52 + (1 : Int))).bind fun x128 =>
  r4 x59 x128
def m_gfmatrix_Apply_l6 (u0 u1 : Int) (u2 : By) (x01 : List By) (x52 : Int) (r4 : (List By) -> Int -> Option ((List By) × Int)) : Nat -> (List By) -> Int -> Option ((List By) × Int)
  | 0, _, _ => none
  | q86 + 1, x82, x85 =>
    if x85 < (x01.length : Int) then
      (idx x01 x85).bind fun x93 =>
      (idx x82 x52).bind fun x98 =>
      (m_gfmatrix_Matrix_at u0 u1 u2 x52 x85).bind fun x102 =>
      (m_gf256_MulAdd x98 x93 x102).bind fun x104 =>
      (idx x82 x52).bind fun x112 =>
      (upd x82 x52 x104.1).bind fun x118 =>
      (ck (x85 + (1 : Int))).bind fun x126 =>
      (m_gfmatrix_Apply_l6 u0 u1 u2 x01 x52 r4 q86) x118 x126
    else
      m_gfmatrix_Apply_j5 x52 r4 x82
def m_gfmatrix_Apply_j3 (x43 : List By) : Option ((List By) × Int) :=
  some (x43, (0 : Int))
def m_gfmatrix_Apply_l4 (u0 u1 : Int) (u2 : By) (x01 x39 : List By) : Nat -> (List By) -> Int -> Option ((List By) × Int)
  | 0, _, _ => none
  | q53 + 1, x49, x52 =>
    if x52 < (x39.length : Int) then
      (idx x01 (0 : Int)).bind fun x65 =>
      (mks 1 (x65.length : Int) 0#8).bind fun x70 =>
      (idx x49 x52).bind fun x71 =>
      (upd x49 x52 x70).bind fun x77 =>
      m_gfmatrix_Apply_l6 u0 u1 u2 x01 x52 (m_gfmatrix_Apply_l4 u0 u1 u2 x01 x39 q53) forever x77 (0 : Int)
    else
      m_gfmatrix_Apply_j3 x49
def m_gfmatrix_Apply_j1 (u0 u1 : Int) (u2 : By) (x01 : List By) : Option ((List By) × Int) :=
  (mks 24 u0 ([] : By)).bind fun x39 =>
  m_gfmatrix_Apply_l4 u0 u1 u2 x01 x39 forever x39 (0 : Int)
def m_gfmatrix_Apply_l2 (u0 u1 : Int) (u2 : By) (x01 : List By) : Nat -> Int -> Option ((List By) × Int)
  | 0, _ => none
  | q16 + 1, x15 =>
    if x15 < (x01.length : Int) then
      (idx x01 x15).bind fun x23 =>
      (idx x01 (0 : Int)).bind fun x28 =>
      if (x23.length : Int) = (x28.length : Int) then
        (ck (x15 + (1 : Int))).bind fun x34 =>
        (m_gfmatrix_Apply_l2 u0 u1 u2 x01 q16) x34
      else
        some (([] : List By), (1 : Int))
    else
      m_gfmatrix_Apply_j1 u0 u1 u2 x01
def m_gfmatrix_Apply_j0 (u0 u1 : Int) (u2 : By) (x01 : List By) : Option ((List By) × Int) :=
  m_gfmatrix_Apply_l2 u0 u1 u2 x01 forever (0 : Int)
def m_gfmatrix_Apply (u0 u1 : Int) (u2 : By) (x01 : List By) : Option ((List By) × Int) :=
  (m_gfmatrix_Valid u0 u1 u2).bind fun x5 =>
  if x5 = true then
    if (x01.length : Int) = u1 then
      m_gfmatrix_Apply_j0 u0 u1 u2 x01
    else
      some (([] : List By), (1 : Int))
  else
    some (([] : List By), (1 : Int))
def m_r03_size (x00 x01 : Int) : Option Bool :=
  if (1 : Int) <= x00 then
    if x00 <= (16 : Int) then
      if (1 : Int) <= x01 then
        some ((decide (x01 <= (16 : Int))))
      else
        some (false)
    else
      some (false)
  else
    some (false)
def m_r03_Valid (u0 u1 : Int) (u2 : By) : Option Bool :=
  (m_r03_size u0 u1).bind fun x4 =>
  if x4 = true then
    (ck (u0 * u1)).bind fun x7 =>
    some (((u2.length : Int) == x7))
  else
    some (false)
def m_r03_Identity_j0 (x00 : Int) (x13 : By) : Option (Int × Int × By × Int) :=
  some (x00, x00, x13, (0 : Int))
def m_r03_Identity_l1 (x00 : Int) : Nat -> By -> Int -> Option (Int × Int × By × Int)
  | 0, _, _ => none
  | q18 + 1, x16, x17 =>
    if x17 < x00 then
      (ck (x17 * x00)).bind fun x25 =>
      (ck (x25 + x17)).bind fun x26 =>
      (idx x16 x26).bind fun x27 =>
      (upd x16 x26 1#8).bind fun x28 =>
      (ck (x17 + (1 : Int))).bind fun x30 =>
      (m_r03_Identity_l1 x00 q18) x28 x30
    else
      m_r03_Identity_j0 x00 x16
def m_r03_Identity (x00 : Int) : Option (Int × Int × By × Int) :=
  (m_r03_size x00 x00).bind fun x5 =>
  if x5 = true then
    (ck (x00 * x00)).bind fun x9 =>
    (mks 1 x9 0#8).bind fun x11 =>
    m_r03_Identity_l1 x00 forever x11 (0 : Int)
  else
    some ((0 : Int), (0 : Int), ([] : By), (1 : Int))
def m_r03_Vandermonde_j2 (x24 : Int) (r1 : By -> Int -> Option (Int × Int × By × Int)) (x33 : By) : Option (Int × Int × By × Int) :=
  (ck (x24 + (1 : Int))).bind fun x60 =>
  r1 x33 x60
def m_r03_Vandermonde_l3 (x01 x24 : Int) (r1 : By -> Int -> Option (Int × Int × By × Int)) : Nat -> By -> (BitVec 8) -> Int -> Option (Int × Int × By × Int)
  | 0, _, _, _ => none
  | q43 + 1, x40, x41, x42 =>
    if x42 < x01 then
      (apd 1 x40 ([x41] : By)).bind fun x51 =>
      (m_r02_Mul x41 (BitVec.ofInt 8 x24)).bind fun x55 =>
      (ck (x42 + (1 : Int))).bind fun x58 =>
      (m_r03_Vandermonde_l3 x01 x24 r1 q43) x51 x55 x58
    else
      m_r03_Vandermonde_j2 x24 r1 x40
def m_r03_Vandermonde_j0 (x00 x01 : Int) (x15 : By) : Option (Int × Int × By × Int) :=
  some (x00, x01, x15, (0 : Int))
def m_r03_Vandermonde_l1 (x00 x01 : Int) : Nat -> By -> Int -> Option (Int × Int × By × Int)
  | 0, _, _ => none
  | q25 + 1, x23, x24 =>
    if x24 < x00 then
      m_r03_Vandermonde_l3 x01 x24 (m_r03_Vandermonde_l1 x00 x01 q25) forever x23 1#8 (0 : Int)
    else
      m_r03_Vandermonde_j0 x00 x01 x23
def m_r03_Vandermonde (x00 x01 : Int) : Option (Int × Int × By × Int) :=
  (m_r03_size x00 x01).bind fun x5 =>
  if x5 = true then
    m_r03_Vandermonde_l1 x00 x01 forever ([] : By) (0 : Int)
  else
    some ((0 : Int), (0 : Int), ([] : By), (1 : Int))
def m_r03_Mul_j5 (x52 : Int) (r4 : By -> Int -> Option (Int × Int × By × Int)) (x61 : By) : Option (Int × Int × By × Int) :=
  (ck (x52 + (1 : Int))).bind fun x92 =>
  r4 x61 x92
def m_r03_Mul_j6 (x51 : By) (x52 : Int) (r4 : By -> Int -> Option (Int × Int × By × Int)) (x64 : BitVec 8) : Option (Int × Int × By × Int) :=
  (apd 1 x51 ([x64] : By)).bind fun x88 =>
  m_r03_Mul_j5 x52 r4 x88
def m_r03_Mul_l7 (u1 : Int) (u2 : By) (v1 : Int) (v2 : By) (x36 : Int) (x51 : By) (x52 : Int) (r4 : By -> Int -> Option (Int × Int × By × Int)) : Nat -> (BitVec 8) -> Int -> Option (Int × Int × By × Int)
  | 0, _, _ => none
  | q69 + 1, x67, x68 =>
    if x68 < u1 then
      (ck (x36 * u1)).bind fun x76 =>
      (ck (x76 + x68)).bind fun x77 =>
      (idx u2 x77).bind fun x78 =>
      (ck (x68 * v1)).bind fun x79 =>
      (ck (x79 + x52)).bind fun x80 =>
      (idx v2 x80).bind fun x81 =>
      (m_r02_Mul x78 x81).bind fun x82 =>
      (ck (x68 + (1 : Int))).bind fun x85 =>
      (m_r03_Mul_l7 u1 u2 v1 v2 x36 x51 x52 r4 q69) (x67 ^^^ x82) x85
    else
      m_r03_Mul_j6 x51 x52 r4 x67
def m_r03_Mul_j3 (x36 : Int) (r2 : By -> Int -> Option (Int × Int × By × Int)) (x45 : By) : Option (Int × Int × By × Int) :=
  (ck (x36 + (1 : Int))).bind fun x94 =>
  r2 x45 x94
def m_r03_Mul_l4 (u1 : Int) (u2 : By) (v1 : Int) (v2 : By) (x36 : Int) (r2 : By -> Int -> Option (Int × Int × By × Int)) : Nat -> By -> Int -> Option (Int × Int × By × Int)
  | 0, _, _ => none
  | q53 + 1, x51, x52 =>
    if x52 < v1 then
      m_r03_Mul_l7 u1 u2 v1 v2 x36 x51 x52 (m_r03_Mul_l4 u1 u2 v1 v2 x36 r2 q53) forever 0#8 (0 : Int)
    else
      m_r03_Mul_j3 x36 r2 x51
def m_r03_Mul_j1 (u0 v1 : Int) (x27 : By) : Option (Int × Int × By × Int) :=
  some (u0, v1, x27, (0 : Int))
def m_r03_Mul_l2 (u0 u1 : Int) (u2 : By) (v1 : Int) (v2 : By) : Nat -> By -> Int -> Option (Int × Int × By × Int)
  | 0, _, _ => none
  | q37 + 1, x35, x36 =>
    if x36 < u0 then
      m_r03_Mul_l4 u1 u2 v1 v2 x36 (m_r03_Mul_l2 u0 u1 u2 v1 v2 q37) forever x35 (0 : Int)
    else
      m_r03_Mul_j1 u0 v1 x35
def m_r03_Mul_j0 (u0 u1 : Int) (u2 : By) (v1 : Int) (v2 : By) : Option (Int × Int × By × Int) :=
  m_r03_Mul_l2 u0 u1 u2 v1 v2 forever ([] : By) (0 : Int)
def m_r03_Mul (u0 u1 : Int) (u2 : By) (v0 v1 : Int) (v2 : By) : Option (Int × Int × By × Int) :=
  (m_r03_Valid u0 u1 u2).bind fun x7 =>
  if x7 = true then
    (m_r03_Valid v0 v1 v2).bind fun x10 =>
    if x10 = true then
      if u1 = v0 then
        m_r03_Mul_j0 u0 u1 u2 v1 v2
      else
        some ((0 : Int), (0 : Int), ([] : By), (1 : Int))
    else
      some ((0 : Int), (0 : Int), ([] : By), (1 : Int))
  else
    some ((0 : Int), (0 : Int), ([] : By), (1 : Int))
def m_r03_Pick_j3 (u1 : Int) (u2 : By) (x01 : List Int) (x31 : By) (x32 : Int) (r2 : By -> Int -> Option (Int × Int × By × Int)) : Option (Int × Int × By × Int) :=
  (idx x01 x32).bind fun x50 =>
  (ck (x50 * u1)).bind fun x51 =>
  (idx x01 x32).bind fun x52 =>
  (ck (x52 + (1 : Int))).bind fun x53 =>
  (ck (x53 * u1)).bind fun x54 =>
  (slc u2 x51 x54).bind fun x55 =>
  (apd 1 x31 x55).bind fun x56 =>
  (ck (x32 + (1 : Int))).bind fun x60 =>
  r2 x56 x60
def m_r03_Pick_j1 (u1 : Int) (x01 : List Int) (x23 : By) : Option (Int × Int × By × Int) :=
  some ((x01.length : Int), u1, x23, (0 : Int))
def m_r03_Pick_l2 (u0 u1 : Int) (u2 : By) (x01 : List Int) : Nat -> By -> Int -> Option (Int × Int × By × Int)
  | 0, _, _ => none
  | q33 + 1, x31, x32 =>
    if x32 < (x01.length : Int) then
      (idx x01 x32).bind fun x41 =>
      if x41 < (0 : Int) then
        some ((0 : Int), (0 : Int), ([] : By), (1 : Int))
      else
        (idx x01 x32).bind fun x45 =>
        if u0 <= x45 then
          some ((0 : Int), (0 : Int), ([] : By), (1 : Int))
        else
          m_r03_Pick_j3 u1 u2 x01 x31 x32 (m_r03_Pick_l2 u0 u1 u2 x01 q33)
    else
      m_r03_Pick_j1 u1 x01 x31
def m_r03_Pick_j0 (u0 u1 : Int) (u2 : By) (x01 : List Int) : Option (Int × Int × By × Int) :=
  m_r03_Pick_l2 u0 u1 u2 x01 forever ([] : By) (0 : Int)
def m_r03_Pick (u0 u1 : Int) (u2 : By) (x01 : List Int) : Option (Int × Int × By × Int) :=
  (m_r03_Valid u0 u1 u2).bind fun x6 =>
  if x6 = true then
    (m_r03_size (x01.length : Int) u1).bind fun x9 =>
    if x9 = true then
      m_r03_Pick_j0 u0 u1 u2 x01
    else
      some ((0 : Int), (0 : Int), ([] : By), (1 : Int))
  else
    some ((0 : Int), (0 : Int), ([] : By), (1 : Int))
def m_r03_add_l0 (x01 : Int) : Nat -> By -> Int -> Int -> (BitVec 8) -> Int -> Option By
  | 0, _, _, _, _, _ => none
  | q7 + 1, x2, x3, x4, x5, x6 =>
    if x6 < x01 then
      (ck (x3 * x01)).bind fun x14 =>
      (ck (x14 + x6)).bind fun x15 =>
      (idx x2 x15).bind fun x16 =>
      (ck (x4 * x01)).bind fun x17 =>
      (ck (x17 + x6)).bind fun x18 =>
      (idx x2 x18).bind fun x19 =>
      (m_r02_Mul x5 x19).bind fun x20 =>
      (idx x2 x15).bind fun x22 =>
      (upd x2 x15 (x16 ^^^ x20)).bind fun x23 =>
      (ck (x6 + (1 : Int))).bind fun x43 =>
      (m_r03_add_l0 x01 q7) x23 x3 x4 x5 x43
    else
      some (x2)
def m_r03_add (x0c : By) (x01 x02 x03 : Int) (x04 : BitVec 8) : Option By :=
  m_r03_add_l0 x01 forever x0c x02 x03 x04 (0 : Int)
def m_r03_Invert_j3 (x35 : Int) (r2 : By -> By -> Int -> Option (Int × Int × By × Int)) (x41 x42 : By) : Option (Int × Int × By × Int) :=
  (ck (x35 + (1 : Int))).bind fun x115 =>
  r2 x41 x42 x115
def m_r03_Invert_l7 (u0 x35 : Int) (r2 : By -> By -> Int -> Option (Int × Int × By × Int)) : Nat -> By -> By -> Int -> Option (Int × Int × By × Int)
  | 0, _, _, _ => none
  | q91 + 1, x88, x89, x90 =>
    if x90 < u0 then
      (ck (x90 * u0)).bind fun x98 =>
      (ck (x98 + x35)).bind fun x99 =>
      (idx x88 x99).bind fun x100 =>
      if x90 = x35 then
        (ck (x90 + (1 : Int))).bind fun x104 =>
        (m_r03_Invert_l7 u0 x35 r2 q91) x88 x89 x104
      else
        if x100 = 0#8 then
          (ck (x90 + (1 : Int))).bind fun x107 =>
          (m_r03_Invert_l7 u0 x35 r2 q91) x88 x89 x107
        else
          (m_r03_add x89 u0 x90 x35 x100).bind fun x109 =>
          (m_r03_add x88 u0 x90 x35 x100).bind fun x111 =>
          (ck (x90 + (1 : Int))).bind fun x113 =>
          (m_r03_Invert_l7 u0 x35 r2 q91) x111 x109 x113
    else
      m_r03_Invert_j3 x35 r2 x88 x89
def m_r03_Invert_j4 (u0 x35 : Int) (r2 : By -> By -> Int -> Option (Int × Int × By × Int)) (x44 x45 : By) : Option (Int × Int × By × Int) :=
  (ck (x35 * u0)).bind fun x78 =>
  (ck (x78 + x35)).bind fun x79 =>
  (idx x44 x79).bind fun x80 =>
  (m_r02_Inv x80).bind fun x81 =>
  (m_r03_add x45 u0 x35 x35 (x81.1 ^^^ 1#8)).bind fun x84 =>
  (m_r03_add x44 u0 x35 x35 (x81.1 ^^^ 1#8)).bind fun x86 =>
  m_r03_Invert_l7 u0 x35 r2 forever x86 x84 (0 : Int)
def m_r03_Invert_j5 (u0 : Int) (x33 x34 : By) (x35 : Int) (r2 : By -> By -> Int -> Option (Int × Int × By × Int)) (x54 : Int) : Option (Int × Int × By × Int) :=
  if x54 = u0 then
    some ((0 : Int), (0 : Int), ([] : By), (14 : Int))
  else
    (m_r03_add x33 u0 x35 x54 1#8).bind fun x74 =>
    (m_r03_add x34 u0 x35 x54 1#8).bind fun x76 =>
    m_r03_Invert_j4 u0 x35 r2 x74 x76
def m_r03_Invert_l6 (u0 : Int) (x33 x34 : By) (x35 : Int) (r2 : By -> By -> Int -> Option (Int × Int × By × Int)) : Nat -> Int -> Option (Int × Int × By × Int)
  | 0, _ => none
  | q57 + 1, x56 =>
    if x56 < u0 then
      (ck (x56 * u0)).bind fun x62 =>
      (ck (x62 + x35)).bind fun x63 =>
      (idx x33 x63).bind fun x64 =>
      if x64 = 0#8 then
        (ck (x56 + (1 : Int))).bind fun x67 =>
        (m_r03_Invert_l6 u0 x33 x34 x35 r2 q57) x67
      else
        m_r03_Invert_j5 u0 x33 x34 x35 r2 x56
    else
      m_r03_Invert_j5 u0 x33 x34 x35 r2 x56
def m_r03_Invert_j1 (x21 : Int × Int × By × Int) (x30 : By) : Option (Int × Int × By × Int) :=
  some (x21.1, x21.2.1, x30, (0 : Int))
def m_r03_Invert_l2 (u0 : Int) (x21 : Int × Int × By × Int) : Nat -> By -> By -> Int -> Option (Int × Int × By × Int)
  | 0, _, _, _ => none
  | q36 + 1, x33, x34, x35 =>
    if x35 < u0 then
      (ck (x35 * u0)).bind fun x48 =>
      (ck (x48 + x35)).bind fun x49 =>
      (idx x33 x49).bind fun x50 =>
      if x50 = 0#8 then
        (ck (x35 + (1 : Int))).bind fun x53 =>
        m_r03_Invert_l6 u0 x33 x34 x35 (m_r03_Invert_l2 u0 x21 q36) forever x53
      else
        m_r03_Invert_j4 u0 x35 (m_r03_Invert_l2 u0 x21 q36) x33 x34
    else
      m_r03_Invert_j1 x21 x34
def m_r03_Invert_j0 (u0 : Int) (u2 : By) : Option (Int × Int × By × Int) :=
  (apd 1 ([] : By) u2).bind fun x17 =>
  (m_r03_Identity u0).bind fun x21 =>
  m_r03_Invert_l2 u0 x21 forever x17 x21.2.2.1 (0 : Int)
def m_r03_Invert (u0 u1 : Int) (u2 : By) : Option (Int × Int × By × Int) :=
  (m_r03_Valid u0 u1 u2).bind fun x6 =>
  if x6 = true then
    if u0 = u1 then
      m_r03_Invert_j0 u0 u2
    else
      some ((0 : Int), (0 : Int), ([] : By), (1 : Int))
  else
    some ((0 : Int), (0 : Int), ([] : By), (1 : Int))
def m_r03_Apply_j5 (x57 : Int) (r4 : (List By) -> Int -> Option ((List By) × Int)) (x67 : List By) : Option ((List By) × Int) :=
  (ck (x57 + (1 : Int))).bind fun x128 =>
  r4 x67 x128
def m_r03_Apply_j6 (x54 : List By) (x57 : Int) (r4 : (List By) -> Int -> Option ((List By) × Int)) (x83 : By) : Option ((List By) × Int) :=
  (apd 24 x54 ([x83] : List By)).bind fun x122 =>
  m_r03_Apply_j5 x57 r4 x122
def m_r03_Apply_l7 (u1 : Int) (u2 : By) (x01 x54 : List By) (x57 : Int) (r4 : (List By) -> Int -> Option ((List By) × Int)) : Nat -> By -> Int -> Option ((List By) × Int)
  | 0, _, _ => none
  | q93 + 1, x91, x92 =>
    if x92 < u1 then
      (idx x01 x92).bind fun x100 =>
      (ck (x57 * u1)).bind fun x104 =>
      (ck (x104 + x92)).bind fun x105 =>
      (idx u2 x105).bind fun x106 =>
      (m_r02_MulAdd x91 x100 x106).bind fun x107 =>
      (ck (x92 + (1 : Int))).bind fun x116 =>
      (m_r03_Apply_l7 u1 u2 x01 x54 x57 r4 q93) x107.1 x116
    else
      m_r03_Apply_j6 x54 x57 r4 x91
def m_r03_Apply_j3 (x43 : List By) : Option ((List By) × Int) :=
  some (x43, (0 : Int))
def m_r03_Apply_l4 (u0 u1 : Int) (u2 : By) (x01 : List By) : Nat -> (List By) -> Int -> Option ((List By) × Int)
  | 0, _, _ => none
  | q58 + 1, x54, x57 =>
    if x57 < u0 then
      (idx x01 (0 : Int)).bind fun x72 =>
      (mks 1 (x72.length : Int) 0#8).bind fun x77 =>
      m_r03_Apply_l7 u1 u2 x01 x54 x57 (m_r03_Apply_l4 u0 u1 u2 x01 q58) forever x77 (0 : Int)
    else
      m_r03_Apply_j3 x54
def m_r03_Apply_j1 (u0 u1 : Int) (u2 : By) (x01 : List By) : Option ((List By) × Int) :=
  m_r03_Apply_l4 u0 u1 u2 x01 forever ([] : List By) (0 : Int)
def m_r03_Apply_l2 (u0 u1 : Int) (u2 : By) (x01 : List By) : Nat -> Int -> Option ((List By) × Int)
  | 0, _ => none
  | q16 + 1, x15 =>
    if x15 < (x01.length : Int) then
      (idx x01 x15).bind fun x23 =>
      (idx x01 (0 : Int)).bind fun x27 =>
      if (x23.length : Int) = (x27.length : Int) then
        (ck (x15 + (1 : Int))).bind fun x33 =>
        (m_r03_Apply_l2 u0 u1 u2 x01 q16) x33
      else
        some (([] : List By), (1 : Int))
    else
      m_r03_Apply_j1 u0 u1 u2 x01
def m_r03_Apply_j0 (u0 u1 : Int) (u2 : By) (x01 : List By) : Option ((List By) × Int) :=
  m_r03_Apply_l2 u0 u1 u2 x01 forever (0 : Int)
def m_r03_Apply (u0 u1 : Int) (u2 : By) (x01 : List By) : Option ((List By) × Int) :=
  (m_r03_Valid u0 u1 u2).bind fun x5 =>
  if x5 = true then
    if (x01.length : Int) = u1 then
      m_r03_Apply_j0 u0 u1 u2 x01
    else
      some (([] : List By), (1 : Int))
  else
    some (([] : List By), (1 : Int))
def m_rs_Code : Option (Int × Int × By) :=
  (m_gfmatrix_Vandermonde (6 : Int) (4 : Int)).bind fun x4 =>
  (m_gfmatrix_Pick x4.1 x4.2.1 x4.2.2.1 ([(0 : Int), (1 : Int), (2 : Int), (3 : Int)] : List Int)).bind fun x15 =>
  (m_gfmatrix_Invert x15.1 x15.2.1 x15.2.2.1).bind fun x25 =>
  (m_gfmatrix_Mul x4.1 x4.2.1 x4.2.2.1 x25.1 x25.2.1 x25.2.2.1).bind fun x35 =>
  some (x35.1, x35.2.1, x35.2.2.1)
def m_rs_restore_j0 (x10 : List Int) (x16 : List By) : Option ((List By)) :=
  (m_rs_Code).bind fun x74 =>
  (m_gfmatrix_Pick x74.1 x74.2.1 x74.2.2 x10).bind fun x84 =>
  (m_gfmatrix_Invert x84.1 x84.2.1 x84.2.2.1).bind fun x94 =>
  (m_gfmatrix_Mul x74.1 x74.2.1 x74.2.2 x94.1 x94.2.1 x94.2.2.1).bind fun x104 =>
  (m_gfmatrix_Apply x104.1 x104.2.1 x104.2.2.1 x16).bind fun x114 =>
  some (x114.1)
def m_rs_restore_l1 (x00 : List By) (x01 : List Bool) : Nat -> (List Int) -> (List By) -> Int -> Option ((List By))
  | 0, _, _, _ => none
  | q36 + 1, x26, x32, x35 =>
    if x35 < (6 : Int) then
      (idx x01 x35).bind fun x43 =>
      if x43 = true then
        if (x26.length : Int) < (4 : Int) then
          (apd 8 x26 ([x35] : List Int)).bind fun x49 =>
          (idx x00 x35).bind fun x52 =>
          (apd 24 x32 ([x52] : List By)).bind fun x58 =>
          (ck (x35 + (1 : Int))).bind fun x68 =>
          (m_rs_restore_l1 x00 x01 q36) x49 x58 x68
        else
          (ck (x35 + (1 : Int))).bind fun x70 =>
          (m_rs_restore_l1 x00 x01 q36) x26 x32 x70
      else
        (ck (x35 + (1 : Int))).bind fun x72 =>
        (m_rs_restore_l1 x00 x01 q36) x26 x32 x72
    else
      m_rs_restore_j0 x26 x32
def m_rs_restore (x00 : List By) (x01 : List Bool) : Option ((List By)) :=
  m_rs_restore_l1 x00 x01 forever ([] : List Int) ([] : List By) (0 : Int)
def m_rs_Restore_j1 (x00 : List By) (x11 : List Bool) (x14 : Int) : Option ((List By) × Int) :=
  if x14 < (4 : Int) then
    some (([] : List By), (11 : Int))
  else
    (m_rs_restore x00 x11).bind fun x77 =>
    some (x77, (0 : Int))
def m_rs_Restore_l2 (x00 : List By) (x11 : List Bool) : Nat -> Int -> Int -> Int -> Option ((List By) × Int)
  | 0, _, _, _ => none
  | q20 + 1, x17, x18, x19 =>
    if x19 < (6 : Int) then
      (idx x11 x19).bind fun x27 =>
      if x27 = true then
        if x17 < (0 : Int) then
          (idx x00 x19).bind fun x37 =>
          (idx x00 x19).bind fun x41 =>
          if (x37.length : Int) = (x41.length : Int) then
            (ck (x18 + (1 : Int))).bind fun x47 =>
            (ck (x19 + (1 : Int))).bind fun x49 =>
            (m_rs_Restore_l2 x00 x11 q20) x19 x47 x49
          else
            some (([] : List By), (1 : Int))
        else
          (idx x00 x19).bind fun x54 =>
          (idx x00 x17).bind fun x58 =>
          if (x54.length : Int) = (x58.length : Int) then
            (ck (x18 + (1 : Int))).bind fun x64 =>
            (ck (x19 + (1 : Int))).bind fun x66 =>
            (m_rs_Restore_l2 x00 x11 q20) x17 x64 x66
          else
            some (([] : List By), (1 : Int))
      else
        (ck (x19 + (1 : Int))).bind fun x70 =>
        (m_rs_Restore_l2 x00 x11 q20) x17 x18 x70
    else
      m_rs_Restore_j1 x00 x11 x18
def m_rs_Restore_j0 (x00 : List By) (x01 : List Bool) : Option ((List By) × Int) :=
  (tka x01 6).bind fun x11 =>
  m_rs_Restore_l2 x00 x11 forever (-1 : Int) (0 : Int) (0 : Int)
def m_rs_Restore (x00 : List By) (x01 : List Bool) : Option ((List By) × Int) :=
  if (x00.length : Int) = (6 : Int) then
    if (x01.length : Int) = (6 : Int) then
      m_rs_Restore_j0 x00 x01
    else
      some (([] : List By), (1 : Int))
  else
    some (([] : List By), (1 : Int))
def m_rs_Encode (x00 : List By) : Option ((List By) × Int) :=
  if (x00.length : Int) = (4 : Int) then
    (m_rs_Code).bind fun x6 =>
    (m_gfmatrix_Pick x6.1 x6.2.1 x6.2.2 ([(4 : Int), (5 : Int)] : List Int)).bind fun x15 =>
    (m_gfmatrix_Apply x15.1 x15.2.1 x15.2.2.1 x00).bind fun x25 =>
    some (x25.1, x25.2)
  else
    some (([] : List By), (1 : Int))
def m_r04_Code : Option (Int × Int × By) :=
  (m_r03_Vandermonde (6 : Int) (4 : Int)).bind fun x4 =>
  (m_r03_Pick x4.1 x4.2.1 x4.2.2.1 ([(0 : Int), (1 : Int), (2 : Int), (3 : Int)] : List Int)).bind fun x15 =>
  (m_r03_Invert x15.1 x15.2.1 x15.2.2.1).bind fun x25 =>
  (m_r03_Mul x4.1 x4.2.1 x4.2.2.1 x25.1 x25.2.1 x25.2.2.1).bind fun x35 =>
  some (x35.1, x35.2.1, x35.2.2.1)
def m_r04_Level_j0 : Option Bool :=
  some (true)
def m_r04_Level_l1 (x00 : List By) (x01 : Int) : Nat -> Int -> Option Bool
  | 0, _ => none
  | q8 + 1, x7 =>
    if x7 < x01 then
      (idx x00 x7).bind fun x15 =>
      (idx x00 (0 : Int)).bind fun x19 =>
      if (x15.length : Int) = (x19.length : Int) then
        (ck (x7 + (1 : Int))).bind fun x25 =>
        (m_r04_Level_l1 x00 x01 q8) x25
      else
        some (false)
    else
      m_r04_Level_j0
def m_r04_Level (x00 : List By) (x01 : Int) : Option Bool :=
  if (x00.length : Int) = x01 then
    m_r04_Level_l1 x00 x01 forever (0 : Int)
  else
    some (false)
def m_r04_all (x00 : List By) : Option ((List By)) :=
  (m_r04_Code).bind fun x3 =>
  (m_r03_Apply x3.1 x3.2.1 x3.2.2 x00).bind fun x11 =>
  some (x11.1)
def m_r04_Encode (x00 : List By) : Option ((List By) × Int) :=
  (m_r04_Level x00 (4 : Int)).bind fun x4 =>
  if x4 = true then
    (m_r04_all x00).bind fun x8 =>
    (slc x8 (4 : Int) (x8.length : Int)).bind fun x26 =>
    some (x26, (0 : Int))
  else
    some (([] : List By), (1 : Int))
def m_r04_Restore_j3 (x23 : List By) (x119 x120 : Int) (x126 : By) : Option ((List By) × Int) :=
  (m_r03_Invert x119 x120 x126).bind fun x148 =>
  (slc x23 0 (4 : Int)).bind fun x158 =>
  (m_r03_Apply x148.1 x148.2.1 x148.2.2.1 x158).bind fun x162 =>
  (m_r04_all x162.1).bind fun x185 =>
  some (x185, (0 : Int))
def m_r04_Restore_j1 (x17 : List Int) (x23 : List By) : Option ((List By) × Int) :=
  if (x17.length : Int) < (4 : Int) then
    some (([] : List By), (11 : Int))
  else
    (m_r04_Code).bind fun x129 =>
    (slc x17 0 (4 : Int)).bind fun x137 =>
    (m_r03_Pick x129.1 x129.2.1 x129.2.2 x137).bind fun x138 =>
    m_r04_Restore_j3 x23 x138.1 x138.2.1 x138.2.2.1
def m_r04_Restore_l2 (x00 : List By) (x01 : List Bool) : Nat -> (List Int) -> (List By) -> Int -> Option ((List By) × Int)
  | 0, _, _, _ => none
  | q43 + 1, x33, x39, x42 =>
    if x42 < (6 : Int) then
      (idx x01 x42).bind fun x51 =>
      if x51 = true then
        if (0 : Int) < (x39.length : Int) then
          (idx x00 x42).bind fun x56 =>
          (idx x39 (0 : Int)).bind fun x60 =>
          if (x56.length : Int) = (x60.length : Int) then
            (apd 8 x33 ([x42] : List Int)).bind fun x67 =>
            (idx x00 x42).bind fun x70 =>
            (apd 24 x39 ([x70] : List By)).bind fun x76 =>
            (ck (x42 + (1 : Int))).bind fun x86 =>
            (m_r04_Restore_l2 x00 x01 q43) x67 x76 x86
          else
            some (([] : List By), (1 : Int))
        else
          (apd 8 x33 ([x42] : List Int)).bind fun x91 =>
          (idx x00 x42).bind fun x94 =>
          (apd 24 x39 ([x94] : List By)).bind fun x100 =>
          (ck (x42 + (1 : Int))).bind fun x110 =>
          (m_r04_Restore_l2 x00 x01 q43) x91 x100 x110
      else
        (ck (x42 + (1 : Int))).bind fun x112 =>
        (m_r04_Restore_l2 x00 x01 q43) x33 x39 x112
    else
      m_r04_Restore_j1 x33 x39
def m_r04_Restore_j0 (x00 : List By) (x01 : List Bool) : Option ((List By) × Int) :=
  m_r04_Restore_l2 x00 x01 forever ([] : List Int) ([] : List By) (0 : Int)
def m_r04_Restore (x00 : List By) (x01 : List Bool) : Option ((List By) × Int) :=
  if (x00.length : Int) = (6 : Int) then
    if (x01.length : Int) = (6 : Int) then
      m_r04_Restore_j0 x00 x01
    else
      some (([] : List By), (1 : Int))
  else
    some (([] : List By), (1 : Int))
def m_crc32c_Extend_j2 (x7 : Int) (r1 : (BitVec 32) -> Int -> Option ((BitVec 32))) (x13 : BitVec 32) : Option ((BitVec 32)) :=
  (ck (x7 + (1 : Int))).bind fun x37 =>
  r1 x13 x37
def m_crc32c_Extend_l3 (x7 : Int) (r1 : (BitVec 32) -> Int -> Option ((BitVec 32))) : Nat -> (BitVec 32) -> Int -> Option ((BitVec 32))
  | 0, _, _ => none
  | q21 + 1, x19, x20 =>
    if x20 < (8 : Int) then
      if (x19 &&& 1#32) = 1#32 then
        (ck (x20 + (1 : Int))).bind fun x33 =>
        (m_crc32c_Extend_l3 x7 r1 q21) ((x19 >>> 1) ^^^ 2197175160#32) x33
      else
        (ck (x20 + (1 : Int))).bind fun x35 =>
        (m_crc32c_Extend_l3 x7 r1 q21) (x19 >>> 1) x35
    else
      m_crc32c_Extend_j2 x7 r1 x19
def m_crc32c_Extend_j0 (x3 : BitVec 32) : Option ((BitVec 32)) :=
  some (~~~x3)
def m_crc32c_Extend_l1 (x01 : By) : Nat -> (BitVec 32) -> Int -> Option ((BitVec 32))
  | 0, _, _ => none
  | q8 + 1, x6, x7 =>
    if x7 < (x01.length : Int) then
      (idx x01 x7).bind fun x16 =>
      m_crc32c_Extend_l3 x7 (m_crc32c_Extend_l1 x01 q8) forever (x6 ^^^ (x16.setWidth 32)) (0 : Int)
    else
      m_crc32c_Extend_j0 x6
def m_crc32c_Extend (x00 : BitVec 32) (x01 : By) : Option ((BitVec 32)) :=
  m_crc32c_Extend_l1 x01 forever (~~~x00) (0 : Int)
def m_crc32c_Sum (x00 : By) : Option ((BitVec 32)) :=
  (m_crc32c_Extend 0#32 x00).bind fun x3 =>
  some (x3)
def m_r01_shift_j0 (x2 : BitVec 32) : Option ((BitVec 32)) :=
  some (x2)
def m_r01_shift_l1 : Nat -> (BitVec 32) -> Int -> Option ((BitVec 32))
  | 0, _, _ => none
  | q7 + 1, x5, x6 =>
    if x6 < (8 : Int) then
      if (x5 &&& 1#32) = 1#32 then
        (ck (x6 + (1 : Int))).bind fun x17 =>
        (m_r01_shift_l1 q7) ((x5 >>> 1) ^^^ 2197175160#32) x17
      else
        (ck (x6 + (1 : Int))).bind fun x20 =>
        (m_r01_shift_l1 q7) (x5 >>> 1) x20
    else
      m_r01_shift_j0 x5
def m_r01_shift (x00 : BitVec 32) : Option ((BitVec 32)) :=
  m_r01_shift_l1 forever x00 (0 : Int)
def m_r01_Extend_j0 (x3 : BitVec 32) : Option ((BitVec 32)) :=
  some (~~~x3)
def m_r01_Extend_l1 (x01 : By) : Nat -> (BitVec 32) -> Int -> Option ((BitVec 32))
  | 0, _, _ => none
  | q8 + 1, x6, x7 =>
    if x7 < (x01.length : Int) then
      (idx x01 x7).bind fun x15 =>
      (m_r01_shift (x6 ^^^ (x15.setWidth 32))).bind fun x16 =>
      (ck (x7 + (1 : Int))).bind fun x19 =>
      (m_r01_Extend_l1 x01 q8) x16 x19
    else
      m_r01_Extend_j0 x6
def m_r01_Extend (x00 : BitVec 32) (x01 : By) : Option ((BitVec 32)) :=
  m_r01_Extend_l1 x01 forever (~~~x00) (0 : Int)
def m_r01_Sum (x00 : By) : Option ((BitVec 32)) :=
  (m_r01_Extend 0#32 x00).bind fun x3 =>
  some (x3)
def m_needle_Size (x00 : Int) : Option Int :=
  if x00 < (0 : Int) then
    some ((0 : Int))
  else
    if (4096 : Int) < x00 then
      some ((0 : Int))
    else
      (ck ((20 : Int) + x00)).bind fun x9 =>
      (ck (x9 + (4 : Int))).bind fun x10 =>
      (ck (x10 + (8 : Int))).bind fun x11 =>
      (ck (x11 - (1 : Int))).bind fun x12 =>
      (dvi x12 (8 : Int)).bind fun x13 =>
      (ck (x13 * (8 : Int))).bind fun x14 =>
      some (x14)
def m_r06_Size (x00 : Int) : Option Int :=
  if x00 < (0 : Int) then
    some ((0 : Int))
  else
    if (4096 : Int) < x00 then
      some ((0 : Int))
    else
      (ck ((20 : Int) + x00)).bind fun x9 =>
      (ck (x9 + (4 : Int))).bind fun x10 =>
      (ck (x10 + (7 : Int))).bind fun x11 =>
      (dvi x11 (8 : Int)).bind fun x12 =>
      (ck (x12 * (8 : Int))).bind fun x13 =>
      some (x13)
def m_r06_Valid (u0 : BitVec 64) (u1 : BitVec 32) (u2 : Bool) (u3 : By) : Option Bool :=
  if (u3.length : Int) <= (4096 : Int) then
    if u2 = true then
      some ((!(decide ((0 : Int) < (u3.length : Int)))))
    else
      some (true)
  else
    some (false)
def m_r06_Value_j0 (x3 : BitVec 64) : Option ((BitVec 64)) :=
  some (x3)
def m_r06_Value_l1 (x00 : By) : Nat -> (BitVec 64) -> Int -> Option ((BitVec 64))
  | 0, _, _ => none
  | q8 + 1, x6, x7 =>
    if x7 < (x00.length : Int) then
      (idx x00 x7).bind fun x15 =>
      (ck (x7 + (1 : Int))).bind fun x17 =>
      (m_r06_Value_l1 x00 q8) ((x6 <<< 8) ||| (x15.setWidth 64)) x17
    else
      m_r06_Value_j0 x6
def m_r06_Value (x00 : By) : Option ((BitVec 64)) :=
  m_r06_Value_l1 x00 forever 0#64 (0 : Int)
def m_r06_Number_j0 (x8 : By) : Option (By) :=
  some (x8)
def m_r06_Number_l1 (x00 : BitVec 64) : Nat -> By -> Int -> Option (By)
  | 0, _, _ => none
  | q19 + 1, x17, x18 =>
    if (0 : Int) <= x18 then
      (ck ((8 : Int) * x18)).bind fun x26 =>
      (apd 1 x17 ([(x00 >>> (BitVec.ofInt 64 x26).toNat).setWidth 8] : By)).bind fun x28 =>
      (ck (x18 - (1 : Int))).bind fun x32 =>
      (m_r06_Number_l1 x00 q19) x28 x32
    else
      m_r06_Number_j0 x17
def m_r06_Number (x00 : BitVec 64) (x01 : Int) : Option (By) :=
  (ck (x01 - (1 : Int))).bind fun x11 =>
  m_r06_Number_l1 x00 forever ([] : By) x11
def m_r06_Check (x00 : By) : Option (By) :=
  (m_r01_Sum x00).bind fun x3 =>
  some (([x3.setWidth 8, (x3 >>> 8).setWidth 8, (x3 >>> 16).setWidth 8, (x3 >>> 24).setWidth 8] : By))
def m_r06_Encode_j1 (x77 : By) : Option (By × Int) :=
  some (x77, (0 : Int))
def m_r06_Encode_l2 (u3 : By) : Nat -> By -> Option (By × Int)
  | 0, _ => none
  | q83 + 1, x82 =>
    (m_r06_Size (u3.length : Int)).bind fun x87 =>
    if (x82.length : Int) < x87 then
      (apd 1 x82 ([0#8] : By)).bind fun x92 =>
      (m_r06_Encode_l2 u3 q83) x92
    else
      m_r06_Encode_j1 x82
def m_r06_Encode_j0 (u0 : BitVec 64) (u1 : BitVec 32) (u3 x15 : By) : Option (By × Int) :=
  (m_r06_Number (u1.setWidth 64) (4 : Int)).bind fun x23 =>
  (apd 1 x15 x23).bind fun x31 =>
  (m_r06_Number u0 (8 : Int)).bind fun x35 =>
  (apd 1 x31 x35).bind fun x43 =>
  (m_r06_Number (BitVec.ofInt 64 (u3.length : Int)) (4 : Int)).bind fun x47 =>
  (apd 1 x43 x47).bind fun x55 =>
  (apd 1 x55 u3).bind fun x59 =>
  (m_r06_Check x59).bind fun x63 =>
  (apd 1 x59 x63).bind fun x71 =>
  m_r06_Encode_l2 u3 forever x71
def m_r06_Encode (u0 : BitVec 64) (u1 : BitVec 32) (u2 : Bool) (u3 : By) : Option (By × Int) :=
  if (4096 : Int) < (u3.length : Int) then
    some (([] : By), (8 : Int))
  else
    (m_r06_Valid u0 u1 u2 u3).bind fun x10 =>
    if x10 = true then
      if u2 = true then
        (idx ([78#8, 165#8, 0#8, 0#8] : By) (2 : Int)).bind fun x20 =>
        (upd ([78#8, 165#8, 0#8, 0#8] : By) (2 : Int) 1#8).bind fun x21 =>
        m_r06_Encode_j0 u0 u1 u3 x21
      else
        m_r06_Encode_j0 u0 u1 u3 ([78#8, 165#8, 0#8, 0#8] : By)
    else
      some (([] : By), (1 : Int))
def m_r06_Decode_j1 (x00 : By) (x39 x41 : Int) : Option ((BitVec 64) × (BitVec 32) × Bool × By × Int × Int) :=
  (slc x00 (8 : Int) (16 : Int)).bind fun x79 =>
  (m_r06_Value x79).bind fun x80 =>
  (slc x00 (4 : Int) (8 : Int)).bind fun x82 =>
  (m_r06_Value x82).bind fun x83 =>
  (idx x00 (2 : Int)).bind fun x85 =>
  (slc x00 (20 : Int) x41).bind fun x87 =>
  (apd 1 ([] : By) x87).bind fun x88 =>
  some (x80, x83.setWidth 32, (x85 == 1#8), x88, x39, (0 : Int))
def m_r06_Decode_l2 (x00 : By) (x39 x41 : Int) : Nat -> Int -> Option ((BitVec 64) × (BitVec 32) × Bool × By × Int × Int)
  | 0, _ => none
  | q65 + 1, x64 =>
    if x64 < x39 then
      (idx x00 x64).bind fun x72 =>
      if x72 = 0#8 then
        (ck (x64 + (1 : Int))).bind fun x75 =>
        (m_r06_Decode_l2 x00 x39 x41 q65) x75
      else
        some (0#64, 0#32, false, ([] : By), (0 : Int), (3 : Int))
    else
      m_r06_Decode_j1 x00 x39 x41
def m_r06_Decode_j0 (x00 : By) (x10 : (BitVec 64)) : Option ((BitVec 64) × (BitVec 32) × Bool × By × Int × Int) :=
  (m_r06_Size x10.toInt).bind fun x39 =>
  (ck ((20 : Int) + x10.toInt)).bind fun x41 =>
  if (x00.length : Int) < x39 then
    some (0#64, 0#32, false, ([] : By), (0 : Int), (4 : Int))
  else
    (slc x00 0 x41).bind fun x49 =>
    (m_r06_Check x49).bind fun x50 =>
    (ck (x41 + (4 : Int))).bind fun x58 =>
    (slc x00 x41 x58).bind fun x59 =>
    if x50 = x59 then
      (ck (x41 + (4 : Int))).bind fun x63 =>
      m_r06_Decode_l2 x00 x39 x41 forever x63
    else
      some (0#64, 0#32, false, ([] : By), (0 : Int), (5 : Int))
def m_r06_Decode (x00 : By) : Option ((BitVec 64) × (BitVec 32) × Bool × By × Int × Int) :=
  if (x00.length : Int) < (20 : Int) then
    some (0#64, 0#32, false, ([] : By), (0 : Int), (4 : Int))
  else
    (slc x00 (16 : Int) (20 : Int)).bind fun x9 =>
    (m_r06_Value x9).bind fun x10 =>
    (idx x00 (0 : Int)).bind fun x14 =>
    if x14 = 78#8 then
      (idx x00 (1 : Int)).bind fun x16 =>
      if x16 = 165#8 then
        (idx x00 (2 : Int)).bind fun x18 =>
        if 1#8 < x18 then
          some (0#64, 0#32, false, ([] : By), (0 : Int), (3 : Int))
        else
          (idx x00 (3 : Int)).bind fun x22 =>
          if x22 = 0#8 then
            if 4096#64 < x10 then
              some (0#64, 0#32, false, ([] : By), (0 : Int), (3 : Int))
            else
              (idx x00 (2 : Int)).bind fun x27 =>
              if x27 = 1#8 then
                if 0#64 < x10 then
                  some (0#64, 0#32, false, ([] : By), (0 : Int), (3 : Int))
                else
                  m_r06_Decode_j0 x00 x10
              else
                m_r06_Decode_j0 x00 x10
          else
            some (0#64, 0#32, false, ([] : By), (0 : Int), (3 : Int))
      else
        some (0#64, 0#32, false, ([] : By), (0 : Int), (3 : Int))
    else
      some (0#64, 0#32, false, ([] : By), (0 : Int), (3 : Int))
structure Sapi_Item where
  fKey : BitVec 64
  fCookie : BitVec 32
  fOff : Int
  fSize : Int
  deriving DecidableEq
def m_superblock_Valid (u0 u1 u2 : Int) : Option Bool :=
  if (0 : Int) <= u0 then
    if u0 < (4 : Int) then
      if (1 : Int) <= u1 then
        if u1 <= (8 : Int) then
          if (0 : Int) <= u2 then
            some ((decide (u2 <= (4294967295 : Int))))
          else
            some (false)
        else
          some (false)
      else
        some (false)
    else
      some (false)
  else
    some (false)
def m_r07_Valid (u0 u1 u2 : Int) : Option Bool :=
  if (0 : Int) <= u0 then
    if u0 < (4 : Int) then
      if (1 : Int) <= u1 then
        if u1 <= (8 : Int) then
          if (0 : Int) <= u2 then
            some ((decide (u2 < (4294967296 : Int))))
          else
            some (false)
        else
          some (false)
      else
        some (false)
    else
      some (false)
  else
    some (false)
def m_r07_Encode (u0 u1 u2 : Int) : Option (By × Int) :=
  (m_r07_Valid u0 u1 u2).bind fun x5 =>
  if x5 = true then
    (m_r06_Number (BitVec.ofInt 64 u0) (2 : Int)).bind fun x10 =>
    (apg 1 ([78#8, 86#8, 79#8, 76#8] : By) x10).bind fun x19 =>
    (m_r06_Number (BitVec.ofInt 64 u1) (2 : Int)).bind fun x23 =>
    (apd 1 x19 x23).bind fun x31 =>
    (m_r06_Number (BitVec.ofInt 64 u2) (4 : Int)).bind fun x34 =>
    (apd 1 x31 x34).bind fun x42 =>
    (m_r06_Check x42).bind fun x46 =>
    (apd 1 x42 x46).bind fun x54 =>
    some (x54, (0 : Int))
  else
    some (([] : By), (1 : Int))
def m_r07_Decode (x00 : By) : Option (Int × Int × Int × Int) :=
  if (x00.length : Int) < (16 : Int) then
    some ((0 : Int), (0 : Int), (0 : Int), (4 : Int))
  else
    (slc x00 0 (4 : Int)).bind fun x9 =>
    if x9 = ([78#8, 86#8, 79#8, 76#8] : By) then
      (slc x00 0 (12 : Int)).bind fun x13 =>
      (m_r06_Check x13).bind fun x14 =>
      (slc x00 (12 : Int) (16 : Int)).bind fun x22 =>
      if x14 = x22 then
        (slc x00 (4 : Int) (6 : Int)).bind fun x25 =>
        (m_r06_Value x25).bind fun x26 =>
        (slc x00 (6 : Int) (8 : Int)).bind fun x28 =>
        (m_r06_Value x28).bind fun x29 =>
        (slc x00 (8 : Int) (12 : Int)).bind fun x31 =>
        (m_r06_Value x31).bind fun x32 =>
        (m_r07_Valid x26.toInt x29.toInt x32.toInt).bind fun x58 =>
        if x58 = true then
          some (x26.toInt, x29.toInt, x32.toInt, (0 : Int))
        else
          some ((0 : Int), (0 : Int), (0 : Int), (3 : Int))
      else
        some ((0 : Int), (0 : Int), (0 : Int), (5 : Int))
    else
      some ((0 : Int), (0 : Int), (0 : Int), (3 : Int))
def m_index_ascending_j0 : Option Bool :=
  some (true)
def m_index_ascending_l1 (x00 : List Sapi_Item) : Nat -> Int -> Option Bool
  | 0, _ => none
  | q5 + 1, x4 =>
    if x4 < (x00.length : Int) then
      (idx x00 x4).bind fun x12 =>
      if (0 : Int) < x4 then
        (ck (x4 - (1 : Int))).bind fun x16 =>
        (idx x00 x16).bind fun x17 =>
        if x12.fKey <= x17.fKey then
          some (false)
        else
          (ck (x4 + (1 : Int))).bind fun x21 =>
          (m_index_ascending_l1 x00 q5) x21
      else
        (ck (x4 + (1 : Int))).bind fun x23 =>
        (m_index_ascending_l1 x00 q5) x23
    else
      m_index_ascending_j0
def m_index_ascending (x00 : List Sapi_Item) : Option Bool :=
  m_index_ascending_l1 x00 forever (0 : Int)
def m_index_valid (u0 : BitVec 64) (u1 : BitVec 32) (u2 u3 : Int) : Option Bool :=
  if (16 : Int) <= u2 then
    if u2 <= (1048576 : Int) then
      (rmi u2 (8 : Int)).bind fun x6 =>
      if x6 = (0 : Int) then
        if (0 : Int) <= u3 then
          some ((decide (u3 <= (4096 : Int))))
        else
          some (false)
      else
        some (false)
    else
      some (false)
  else
    some (false)
def m_index_Valid_j0 : Option Bool :=
  some ((!(decide ((0 : Int) <= (-1 : Int)))))
def m_index_Valid_l1 (x00 : List Sapi_Item) : Nat -> Int -> Option Bool
  | 0, _ => none
  | q12 + 1, x11 =>
    if x11 < (x00.length : Int) then
      (idx x00 x11).bind fun x20 =>
      (m_index_valid x20.fKey x20.fCookie x20.fOff x20.fSize).bind fun x24 =>
      if x24 = true then
        (ck (x11 + (1 : Int))).bind fun x28 =>
        (m_index_Valid_l1 x00 q12) x28
      else
        some ((!(decide ((0 : Int) <= x11))))
    else
      m_index_Valid_j0
def m_index_Valid (x00 : List Sapi_Item) : Option Bool :=
  (m_index_ascending x00).bind fun x3 =>
  if x3 = true then
    m_index_Valid_l1 x00 forever (0 : Int)
  else
    some (false)
def m_r08_ValidItem (u0 : BitVec 64) (u1 : BitVec 32) (u2 u3 : Int) : Option Bool :=
  if (16 : Int) <= u2 then
    if u2 <= (1048576 : Int) then
      (rmi u2 (8 : Int)).bind fun x6 =>
      if x6 = (0 : Int) then
        if (0 : Int) <= u3 then
          some ((decide (u3 <= (4096 : Int))))
        else
          some (false)
      else
        some (false)
    else
      some (false)
  else
    some (false)
def m_r08_Valid_j0 : Option Bool :=
  some (true)
def m_r08_Valid_l1 (x00 : List Sapi_Item) : Nat -> Int -> Option Bool
  | 0, _ => none
  | q5 + 1, x4 =>
    if x4 < (x00.length : Int) then
      (idx x00 x4).bind fun x12 =>
      (m_r08_ValidItem x12.fKey x12.fCookie x12.fOff x12.fSize).bind fun x13 =>
      if x13 = true then
        if (0 : Int) < x4 then
          (idx x00 x4).bind fun x17 =>
          (ck (x4 - (1 : Int))).bind fun x18 =>
          (idx x00 x18).bind fun x19 =>
          if x17.fKey <= x19.fKey then
            some (false)
          else
            (ck (x4 + (1 : Int))).bind fun x23 =>
            (m_r08_Valid_l1 x00 q5) x23
        else
          (ck (x4 + (1 : Int))).bind fun x25 =>
          (m_r08_Valid_l1 x00 q5) x25
      else
        some (false)
    else
      m_r08_Valid_j0
def m_r08_Valid (x00 : List Sapi_Item) : Option Bool :=
  m_r08_Valid_l1 x00 forever (0 : Int)
def m_r08_Sorted_j2 (x17 : Int) (r1 : (List Sapi_Item) -> Int -> Option ((List Sapi_Item))) (x26 : List Sapi_Item) : Option ((List Sapi_Item)) :=
  (ck (x17 + (1 : Int))).bind fun x87 =>
  r1 x26 x87
def m_r08_Sorted_j3 (x00 x16 : List Sapi_Item) (x17 : Int) (r1 : (List Sapi_Item) -> Int -> Option ((List Sapi_Item))) (x29 : Int) : Option ((List Sapi_Item)) :=
  (slc x16 x29 (x16.length : Int)).bind fun x44 =>
  (apd 32 ([] : List Sapi_Item) x44).bind fun x45 =>
  if (0 : Int) < (x45.length : Int) then
    (idx x45 (0 : Int)).bind fun x51 =>
    (idx x00 x17).bind fun x52 =>
    if x51.fKey = x52.fKey then
      (slc x45 (1 : Int) (x45.length : Int)).bind fun x55 =>
      (slc x16 0 x29).bind fun x57 =>
      (idx x00 x17).bind fun x58 =>
      (apd 32 x57 ([x58] : List Sapi_Item)).bind fun x60 =>
      (apd 32 x60 x55).bind fun x63 =>
      m_r08_Sorted_j2 x17 r1 x63
    else
      (slc x16 0 x29).bind fun x67 =>
      (idx x00 x17).bind fun x68 =>
      (apd 32 x67 ([x68] : List Sapi_Item)).bind fun x70 =>
      (apd 32 x70 x45).bind fun x73 =>
      m_r08_Sorted_j2 x17 r1 x73
  else
    (slc x16 0 x29).bind fun x77 =>
    (idx x00 x17).bind fun x78 =>
    (apd 32 x77 ([x78] : List Sapi_Item)).bind fun x80 =>
    (apd 32 x80 x45).bind fun x83 =>
    m_r08_Sorted_j2 x17 r1 x83
def m_r08_Sorted_l4 (x00 x16 : List Sapi_Item) (x17 : Int) (r1 : (List Sapi_Item) -> Int -> Option ((List Sapi_Item))) : Nat -> Int -> Option ((List Sapi_Item))
  | 0, _ => none
  | q32 + 1, x31 =>
    if x31 < (x16.length : Int) then
      (idx x16 x31).bind fun x37 =>
      (idx x00 x17).bind fun x38 =>
      if x37.fKey < x38.fKey then
        (ck (x31 + (1 : Int))).bind fun x41 =>
        (m_r08_Sorted_l4 x00 x16 x17 r1 q32) x41
      else
        m_r08_Sorted_j3 x00 x16 x17 r1 x31
    else
      m_r08_Sorted_j3 x00 x16 x17 r1 x31
def m_r08_Sorted_j0 (x8 : List Sapi_Item) : Option ((List Sapi_Item)) :=
  some (x8)
def m_r08_Sorted_l1 (x00 : List Sapi_Item) : Nat -> (List Sapi_Item) -> Int -> Option ((List Sapi_Item))
  | 0, _, _ => none
  | q18 + 1, x16, x17 =>
    if x17 < (x00.length : Int) then
      m_r08_Sorted_l4 x00 x16 x17 (m_r08_Sorted_l1 x00 q18) forever (0 : Int)
    else
      m_r08_Sorted_j0 x16
def m_r08_Sorted (x00 : List Sapi_Item) : Option ((List Sapi_Item)) :=
  m_r08_Sorted_l1 x00 forever ([] : List Sapi_Item) (0 : Int)
def m_r08_Put_j0 (v0 : BitVec 64) (v1 : BitVec 32) (v2 v3 : Int) (x19 : List Sapi_Item) (x20 : Bool) : Option ((List Sapi_Item)) :=
  if x20 = true then
    some (x19)
  else
    (apd 32 x19 ([(Sapi_Item.mk v0 v1 v2 v3)] : List Sapi_Item)).bind fun x92 =>
    some (x92)
def m_r08_Put_l1 (v0 : BitVec 64) (v1 : BitVec 32) (v2 v3 : Int) (x6 : (List Sapi_Item)) : Nat -> (List Sapi_Item) -> Bool -> Int -> Option ((List Sapi_Item))
  | 0, _, _, _ => none
  | q31 + 1, x28, x29, x30 =>
    if x30 < (x6.length : Int) then
      if x29 = true then
        (idx x6 x30).bind fun x41 =>
        if x41.fKey = v0 then
          (ck (x30 + (1 : Int))).bind fun x44 =>
          (m_r08_Put_l1 v0 v1 v2 v3 x6 q31) x28 x29 x44
        else
          (idx x6 x30).bind fun x46 =>
          (apd 32 x28 ([x46] : List Sapi_Item)).bind fun x48 =>
          (ck (x30 + (1 : Int))).bind fun x52 =>
          (m_r08_Put_l1 v0 v1 v2 v3 x6 q31) x48 x29 x52
      else
        (idx x6 x30).bind fun x53 =>
        if v0 <= x53.fKey then
          (apd 32 x28 ([(Sapi_Item.mk v0 v1 v2 v3)] : List Sapi_Item)).bind fun x57 =>
          (idx x6 x30).bind fun x61 =>
          if x61.fKey = v0 then
            (ck (x30 + (1 : Int))).bind fun x64 =>
            (m_r08_Put_l1 v0 v1 v2 v3 x6 q31) x57 true x64
          else
            (idx x6 x30).bind fun x66 =>
            (apd 32 x57 ([x66] : List Sapi_Item)).bind fun x68 =>
            (ck (x30 + (1 : Int))).bind fun x72 =>
            (m_r08_Put_l1 v0 v1 v2 v3 x6 q31) x68 true x72
        else
          (idx x6 x30).bind fun x74 =>
          if x74.fKey = v0 then
            (ck (x30 + (1 : Int))).bind fun x77 =>
            (m_r08_Put_l1 v0 v1 v2 v3 x6 q31) x28 x29 x77
          else
            (idx x6 x30).bind fun x79 =>
            (apd 32 x28 ([x79] : List Sapi_Item)).bind fun x81 =>
            (ck (x30 + (1 : Int))).bind fun x85 =>
            (m_r08_Put_l1 v0 v1 v2 v3 x6 q31) x81 x29 x85
    else
      m_r08_Put_j0 v0 v1 v2 v3 x28 x29
def m_r08_Put (x00 : List Sapi_Item) (v0 : BitVec 64) (v1 : BitVec 32) (v2 v3 : Int) : Option ((List Sapi_Item)) :=
  (m_r08_Sorted x00).bind fun x6 =>
  m_r08_Put_l1 v0 v1 v2 v3 x6 forever ([] : List Sapi_Item) false (0 : Int)
def m_r08_Drop_j0 (x17 : List Sapi_Item) : Option ((List Sapi_Item)) :=
  some (x17)
def m_r08_Drop_l1 (x01 : BitVec 64) (x4 : (List Sapi_Item)) : Nat -> (List Sapi_Item) -> Int -> Option ((List Sapi_Item))
  | 0, _, _ => none
  | q27 + 1, x25, x26 =>
    if x26 < (x4.length : Int) then
      (idx x4 x26).bind fun x34 =>
      if x34.fKey = x01 then
        (ck (x26 + (1 : Int))).bind fun x37 =>
        (m_r08_Drop_l1 x01 x4 q27) x25 x37
      else
        (idx x4 x26).bind fun x39 =>
        (apd 32 x25 ([x39] : List Sapi_Item)).bind fun x41 =>
        (ck (x26 + (1 : Int))).bind fun x45 =>
        (m_r08_Drop_l1 x01 x4 q27) x41 x45
    else
      m_r08_Drop_j0 x25
def m_r08_Drop (x00 : List Sapi_Item) (x01 : BitVec 64) : Option ((List Sapi_Item)) :=
  (m_r08_Sorted x00).bind fun x4 =>
  m_r08_Drop_l1 x01 x4 forever ([] : List Sapi_Item) (0 : Int)
def m_r03_SameRows_j0 : Option Bool :=
  some (true)
def m_r03_SameRows_l1 (x00 x01 : List By) : Nat -> Int -> Option Bool
  | 0, _ => none
  | q8 + 1, x7 =>
    if x7 < (x00.length : Int) then
      (idx x00 x7).bind fun x15 =>
      (idx x01 x7).bind fun x19 =>
      if x15 = x19 then
        (ck (x7 + (1 : Int))).bind fun x25 =>
        (m_r03_SameRows_l1 x00 x01 q8) x25
      else
        some (false)
    else
      m_r03_SameRows_j0
def m_r03_SameRows (x00 x01 : List By) : Option Bool :=
  if (x00.length : Int) = (x01.length : Int) then
    m_r03_SameRows_l1 x00 x01 forever (0 : Int)
  else
    some (false)
def m_slices_Clone_api_Item_api_Item (x00 : List Sapi_Item) : Option ((List Sapi_Item)) :=
  (apd 32 ([] : List Sapi_Item) x00).bind fun x9 =>
  some (x9)
def m_stripe_Size (x00 : Int) : Option Int :=
  if x00 <= (0 : Int) then
    some ((0 : Int))
  else
    (ck (x00 - (1 : Int))).bind fun x7 =>
    (dvi x7 (256 : Int)).bind fun x8 =>
    (ck (x8 + (1 : Int))).bind fun x9 =>
    (ck (x9 * (64 : Int))).bind fun x10 =>
    some (x10)
def m_stripe_place (x00 : Int) : Option (Int × Int) :=
  (dvi x00 (64 : Int)).bind fun x3 =>
  (rmi x3 (4 : Int)).bind fun x5 =>
  (dvi x3 (4 : Int)).bind fun x6 =>
  (ck (x6 * (64 : Int))).bind fun x7 =>
  (rmi x00 (64 : Int)).bind fun x8 =>
  (ck (x7 + x8)).bind fun x9 =>
  some (x5, x9)
def m_r05_Size (x00 : Int) : Option Int :=
  if x00 < (0 : Int) then
    some ((0 : Int))
  else
    (dvi x00 (256 : Int)).bind fun x7 =>
    (rmi x00 (256 : Int)).bind fun x10 =>
    if (0 : Int) < x10 then
      (ck (x7 + (1 : Int))).bind fun x13 =>
      (ck (x13 * (64 : Int))).bind fun x15 =>
      some (x15)
    else
      (ck (x7 * (64 : Int))).bind fun x17 =>
      some (x17)
def m_r05_Place (x00 : Int) : Option (Int × Int × Int) :=
  if x00 < (0 : Int) then
    some ((0 : Int), (0 : Int), (1 : Int))
  else
    (dvi x00 (64 : Int)).bind fun x7 =>
    (rmi x7 (4 : Int)).bind fun x9 =>
    (dvi x7 (4 : Int)).bind fun x10 =>
    (ck (x10 * (64 : Int))).bind fun x11 =>
    (rmi x00 (64 : Int)).bind fun x12 =>
    (ck (x11 + x12)).bind fun x13 =>
    some (x9, x13, (0 : Int))
def m_shards_Valid_j0 : Option Bool :=
  some ((!(decide ((0 : Int) <= (-1 : Int)))))
def m_shards_Valid_l1 (u10 : List Sapi_Item) (u3 : Int) : Nat -> Int -> Option Bool
  | 0, _ => none
  | q22 + 1, x21 =>
    if x21 < (u10.length : Int) then
      (idx u10 x21).bind fun x30 =>
      (m_needle_Size x30.fSize).bind fun x34 =>
      (ck (x30.fOff + x34)).bind fun x36 =>
      if u3 < x36 then
        some ((!(decide ((0 : Int) <= x21))))
      else
        (ck (x21 + (1 : Int))).bind fun x40 =>
        (m_shards_Valid_l1 u10 u3 q22) x40
    else
      m_shards_Valid_j0
def m_shards_Valid (u0 u1 u2 u3 : Int) (u4 u5 u6 u7 u8 u9 : BitVec 32) (u10 : List Sapi_Item) : Option Bool :=
  (m_superblock_Valid u0 u1 u2).bind fun x5 =>
  if x5 = true then
    if u3 < (16 : Int) then
      some (false)
    else
      if (524288 : Int) < u3 then
        some (false)
      else
        (m_index_Valid u10).bind fun x12 =>
        if x12 = true then
          m_shards_Valid_l1 u10 u3 forever (0 : Int)
        else
          some (false)
  else
    some (false)
def m_r17_Valid_j1 : Option Bool :=
  some (true)
def m_r17_Valid_l2 (u10 : List Sapi_Item) (u3 : Int) : Nat -> Int -> Option Bool
  | 0, _ => none
  | q20 + 1, x19 =>
    if x19 < (u10.length : Int) then
      (idx u10 x19).bind fun x27 =>
      (idx u10 x19).bind fun x28 =>
      (m_r06_Size x28.fSize).bind fun x29 =>
      (ck (x27.fOff + x29)).bind fun x31 =>
      if u3 < x31 then
        some (false)
      else
        (ck (x19 + (1 : Int))).bind fun x35 =>
        (m_r17_Valid_l2 u10 u3 q20) x35
    else
      m_r17_Valid_j1
def m_r17_Valid_j0 (u10 : List Sapi_Item) (u3 : Int) : Option Bool :=
  m_r17_Valid_l2 u10 u3 forever (0 : Int)
def m_r17_Valid (u0 u1 u2 u3 : Int) (u4 u5 u6 u7 u8 u9 : BitVec 32) (u10 : List Sapi_Item) : Option Bool :=
  (m_r07_Valid u0 u1 u2).bind fun x5 =>
  if x5 = true then
    if u3 < (16 : Int) then
      some (false)
    else
      if (524288 : Int) < u3 then
        some (false)
      else
        (m_r08_Valid u10).bind fun x12 =>
        if x12 = true then
          m_r17_Valid_j0 u10 u3
        else
          some (false)
  else
    some (false)

def m_stripe_Split_l2 (x00 : By) (x54 : Int) : Nat -> (List By) -> Int -> Option ((List By))
  | 0, _, _ => none
  | q60 + 1, x55, x59 =>
    if x59 < x54 then
      (rmi x59 (64 : Int)).bind fun x66 =>
      (ck ((64 : Int) - x66)).bind fun x67 =>
      (ck (x54 - x59)).bind fun x68 =>
      (m_stripe_place x59).bind fun x70 =>
      (idx x55 x70.1).bind fun x84 =>
      (ck (x70.2 + (min x67 x68))).bind fun x87 =>
      (slc x84 x70.2 x87).bind fun x88 =>
      (slc x00 x59 (x00.length : Int)).bind fun x89 =>
      (upd x55 x70.1 (cpy x84 (x70.2).toNat (x87).toNat x89)).bind fun x90 =>
      (ck (x59 + (min x67 x68))).bind fun x92 =>
      (m_stripe_Split_l2 x00 x54 q60) x90 x92
    else
      some (x55)
def m_stripe_Split_j0 (x00 : By) (x11 : List By) : Option ((List By)) :=
  (ck ((0 : Int) + (x00.length : Int))).bind fun x54 =>
  m_stripe_Split_l2 x00 x54 forever x11 (0 : Int)
def m_stripe_Split_l1 (x00 : By) (x5 : List By) : Nat -> (List By) -> Int -> Option ((List By))
  | 0, _, _ => none
  | q22 + 1, x17, x21 =>
    if x21 < (x5.length : Int) then
      (m_stripe_Size (x00.length : Int)).bind fun x30 =>
      (mks 1 x30 0#8).bind fun x33 =>
      (idx x17 x21).bind fun x34 =>
      (upd x17 x21 x33).bind fun x37 =>
      (ck (x21 + (1 : Int))).bind fun x42 =>
      (m_stripe_Split_l1 x00 x5 q22) x37 x42
    else
      m_stripe_Split_j0 x00 x17
def m_stripe_Split (x00 : By) : Option ((List By)) :=
  (mks 24 (4 : Int) ([] : By)).bind fun x5 =>
  m_stripe_Split_l1 x00 x5 forever x5 (0 : Int)
def m_r05_Split_j2 (x46 : List By) : Option ((List By)) :=
  some (x46)
def m_r05_Split_l3 (x00 : By) : Nat -> (List By) -> Int -> Option ((List By))
  | 0, _, _ => none
  | q57 + 1, x52, x56 =>
    if x56 < (x00.length : Int) then
      (m_r05_Place x56).bind fun x64 =>
      (idx x52 x64.1).bind fun x67 =>
      (idx x00 x56).bind fun x70 =>
      (idx x67 x64.2.1).bind fun x71 =>
      (upd x67 x64.2.1 x70).bind fun x72 =>
      (upd x52 x64.1 x72).bind fun x73 =>
      (ck (x56 + (1 : Int))).bind fun x75 =>
      (m_r05_Split_l3 x00 q57) x73 x75
    else
      m_r05_Split_j2 x52
def m_r05_Split_j0 (x00 : By) (x8 : List By) : Option ((List By)) :=
  m_r05_Split_l3 x00 forever x8 (0 : Int)
def m_r05_Split_l1 (x00 : By) : Nat -> (List By) -> Int -> Option ((List By))
  | 0, _, _ => none
  | q26 + 1, x20, x25 =>
    if x25 < (4 : Int) then
      (m_r05_Size (x00.length : Int)).bind fun x33 =>
      (mks 1 x33 0#8).bind fun x36 =>
      (apd 24 x20 ([x36] : List By)).bind fun x38 =>
      (ck (x25 + (1 : Int))).bind fun x45 =>
      (m_r05_Split_l1 x00 q26) x38 x45
    else
      m_r05_Split_j0 x00 x20
def m_r05_Split (x00 : By) : Option ((List By)) :=
  m_r05_Split_l1 x00 forever ([] : List By) (0 : Int)
def m_slices_Concat_byte_byte_j3 (x64 : List By) : Option ((List By)) :=
  some (x64)
def m_slices_Concat_byte_byte_l4 (x00 : List (List By)) : Nat -> (List By) -> Int -> Option ((List By))
  | 0, _, _ => none
  | q76 + 1, x72, x75 =>
    if x75 < (x00.length : Int) then
      (idx x00 x75).bind fun x83 =>
      (apd 24 x72 x83).bind fun x91 =>
      (ck (x75 + (1 : Int))).bind fun x97 =>
      (m_slices_Concat_byte_byte_l4 x00 q76) x91 x97
    else
      m_slices_Concat_byte_byte_j3 x72
def m_slices_Concat_byte_byte_j2 (x00 : List (List By)) (x33 : List By) : Option ((List By)) :=
  m_slices_Concat_byte_byte_l4 x00 forever x33 (0 : Int)
def m_slices_Concat_byte_byte_j0 (x00 : List (List By)) (x3 : Int) : Option ((List By)) :=
  if x3 < (0 : Int) then
    none
  else
    (ck ((0 : Int) - (0 : Int))).bind fun x44 =>
    (ck (x3 - x44)).bind fun x45 =>
    if (0 : Int) < x45 then
      (mks 24 x45 ([] : By)).bind fun x50 =>
      (slc x50 0 (0 : Int)).bind fun x55 =>
      m_slices_Concat_byte_byte_j2 x00 x55
    else
      m_slices_Concat_byte_byte_j2 x00 ([] : List By)
def m_slices_Concat_byte_byte_l1 (x00 : List (List By)) : Nat -> Int -> Int -> Option ((List By))
  | 0, _, _ => none
  | q8 + 1, x6, x7 =>
    if x7 < (x00.length : Int) then
      (idx x00 x7).bind fun x15 =>
      (ck (x6 + (x15.length : Int))).bind fun x23 =>
      if x23 < (0 : Int) then
        none
      else
        (ck (x7 + (1 : Int))).bind fun x27 =>
        (m_slices_Concat_byte_byte_l1 x00 q8) x23 x27
    else
      m_slices_Concat_byte_byte_j0 x00 x6
def m_slices_Concat_byte_byte (x00 : List (List By)) : Option ((List By)) :=
  m_slices_Concat_byte_byte_l1 x00 forever (0 : Int) (0 : Int)
def m_r17_Make_j1 (x00 : By) (v0 v1 v2 : Int) (x10 : List Sapi_Item) (x65 : List By) (x70 x71 x72 x73 x74 x75 : BitVec 32) : Option ((List By) × Int × Int × Int × Int × (BitVec 32) × (BitVec 32) × (BitVec 32) × (BitVec 32) × (BitVec 32) × (BitVec 32) × (List Sapi_Item) × Int) :=
  some (x65, v0, v1, v2, (x00.length : Int), x70, x71, x72, x73, x74, x75, x10, (0 : Int))
def m_r17_Make_l2 (x00 : By) (v0 v1 v2 : Int) (x10 : List Sapi_Item) (x65 : List By) : Nat -> (BitVec 32) -> (BitVec 32) -> (BitVec 32) -> (BitVec 32) -> (BitVec 32) -> (BitVec 32) -> Int -> Option ((List By) × Int × Int × Int × Int × (BitVec 32) × (BitVec 32) × (BitVec 32) × (BitVec 32) × (BitVec 32) × (BitVec 32) × (List Sapi_Item) × Int)
  | 0, _, _, _, _, _, _, _ => none
  | q85 + 1, x78, x79, x80, x81, x82, x83, x84 =>
    if x84 < (6 : Int) then
      (idx x65 x84).bind fun x92 =>
      (m_r01_Sum x92).bind fun x96 =>
      (idx ([x78, x79, x80, x81, x82, x83] : List (BitVec 32)) x84).bind fun x98 =>
      (upd ([x78, x79, x80, x81, x82, x83] : List (BitVec 32)) x84 x96).bind fun x99 =>
      (ck (x84 + (1 : Int))).bind fun x101 =>
      (m_r17_Make_l2 x00 v0 v1 v2 x10 x65 q85) (x99.getD 0 0#32) (x99.getD 1 0#32) (x99.getD 2 0#32) (x99.getD 3 0#32) (x99.getD 4 0#32) (x99.getD 5 0#32) x101
    else
      m_r17_Make_j1 x00 v0 v1 v2 x10 x65 x78 x79 x80 x81 x82 x83
def m_r17_Make_j0 (x00 : By) (v0 v1 v2 : Int) (x10 : List Sapi_Item) : Option ((List By) × Int × Int × Int × Int × (BitVec 32) × (BitVec 32) × (BitVec 32) × (BitVec 32) × (BitVec 32) × (BitVec 32) × (List Sapi_Item) × Int) :=
  (m_r17_Valid v0 v1 v2 (x00.length : Int) 0#32 0#32 0#32 0#32 0#32 0#32 x10).bind fun x20 =>
  if x20 = true then
    (m_r05_Split x00).bind fun x24 =>
    (m_r04_Encode x24).bind fun x43 =>
    (apd 24 x24 x43.1).bind fun x65 =>
    m_r17_Make_l2 x00 v0 v1 v2 x10 x65 forever 0#32 0#32 0#32 0#32 0#32 0#32 (0 : Int)
  else
    some (([] : List By), (0 : Int), (0 : Int), (0 : Int), (0 : Int), 0#32, 0#32, 0#32, 0#32, 0#32, 0#32, ([] : List Sapi_Item), (1 : Int))
def m_r17_Make (x00 : By) (v0 v1 v2 : Int) (x02 : List Sapi_Item) : Option ((List By) × Int × Int × Int × Int × (BitVec 32) × (BitVec 32) × (BitVec 32) × (BitVec 32) × (BitVec 32) × (BitVec 32) × (List Sapi_Item) × Int) :=
  (apd 32 ([] : List Sapi_Item) x02).bind fun x14 =>
  m_r17_Make_j0 x00 v0 v1 v2 x14
def m_r17_Good (u0 u1 u2 u3 : Int) (u4 u5 u6 u7 u8 u9 : BitVec 32) (u10 : List Sapi_Item) (x01 : Int) (x02 : By) : Option Bool :=
  if (0 : Int) <= x01 then
    if x01 < (6 : Int) then
      (m_r17_Valid u0 u1 u2 u3 u4 u5 u6 u7 u8 u9 u10).bind fun x6 =>
      if x6 = true then
        (m_r05_Size u3).bind fun x9 =>
        if (x02.length : Int) = x9 then
          (m_r01_Sum x02).bind fun x12 =>
          (idx ([u4, u5, u6, u7, u8, u9] : List (BitVec 32)) x01).bind fun x14 =>
          (idx ([u4, u5, u6, u7, u8, u9] : List (BitVec 32)) x01).bind fun x15 =>
          some ((x12 == x15))
        else
          some (false)
      else
        some (false)
    else
      some (false)
  else
    some (false)
def m_r17_Rebuild_j3 (x25 : List Int) (x64 : (List By) × Int) : Option ((List By) × (List Int) × Int) :=
  some (x64.1, x25, (0 : Int))
def m_r17_Rebuild_l4 (u0 u1 : Int) (u10 : List Sapi_Item) (u2 u3 : Int) (u4 u5 u6 u7 u8 u9 : BitVec 32) (x25 : List Int) (x64 : (List By) × Int) : Nat -> Int -> Option ((List By) × (List Int) × Int)
  | 0, _ => none
  | q90 + 1, x89 =>
    if x89 < (6 : Int) then
      (idx x64.1 x89).bind fun x97 =>
      (m_r17_Good u0 u1 u2 u3 u4 u5 u6 u7 u8 u9 u10 x89 x97).bind fun x101 =>
      if x101 = true then
        (ck (x89 + (1 : Int))).bind fun x105 =>
        (m_r17_Rebuild_l4 u0 u1 u10 u2 u3 u4 u5 u6 u7 u8 u9 x25 x64 q90) x105
      else
        some (([] : List By), ([] : List Int), (5 : Int))
    else
      m_r17_Rebuild_j3 x25 x64
def m_r17_Rebuild_j1 (u0 u1 : Int) (u10 : List Sapi_Item) (u2 u3 : Int) (u4 u5 u6 u7 u8 u9 : BitVec 32) (x01 : List By) (x19 : List Bool) (x25 : List Int) : Option ((List By) × (List Int) × Int) :=
  (m_r04_Restore x01 x19).bind fun x64 =>
  if x64.2 = (0 : Int) then
    m_r17_Rebuild_l4 u0 u1 u10 u2 u3 u4 u5 u6 u7 u8 u9 x25 x64 forever (0 : Int)
  else
    some (([] : List By), ([] : List Int), x64.2)
def m_r17_Rebuild_l2 (u0 u1 : Int) (u10 : List Sapi_Item) (u2 u3 : Int) (u4 u5 u6 u7 u8 u9 : BitVec 32) (x01 : List By) : Nat -> (List Bool) -> (List Int) -> Int -> Option ((List By) × (List Int) × Int)
  | 0, _, _, _ => none
  | q36 + 1, x28, x34, x35 =>
    if x35 < (6 : Int) then
      (idx x01 x35).bind fun x43 =>
      (m_r17_Good u0 u1 u2 u3 u4 u5 u6 u7 u8 u9 u10 x35 x43).bind fun x47 =>
      (idx x28 x35).bind fun x49 =>
      (upd x28 x35 x47).bind fun x50 =>
      (idx x50 x35).bind fun x52 =>
      if x52 = true then
        (ck (x35 + (1 : Int))).bind fun x55 =>
        (m_r17_Rebuild_l2 u0 u1 u10 u2 u3 u4 u5 u6 u7 u8 u9 x01 q36) x50 x34 x55
      else
        (apd 8 x34 ([x35] : List Int)).bind fun x58 =>
        (ck (x35 + (1 : Int))).bind fun x62 =>
        (m_r17_Rebuild_l2 u0 u1 u10 u2 u3 u4 u5 u6 u7 u8 u9 x01 q36) x50 x58 x62
    else
      m_r17_Rebuild_j1 u0 u1 u10 u2 u3 u4 u5 u6 u7 u8 u9 x01 x28 x34
def m_r17_Rebuild_j0 (u0 u1 : Int) (u10 : List Sapi_Item) (u2 u3 : Int) (u4 u5 u6 u7 u8 u9 : BitVec 32) (x01 : List By) : Option ((List By) × (List Int) × Int) :=
  (mks 1 (6 : Int) false).bind fun x17 =>
  m_r17_Rebuild_l2 u0 u1 u10 u2 u3 u4 u5 u6 u7 u8 u9 x01 forever x17 ([] : List Int) (0 : Int)
def m_r17_Rebuild (u0 u1 u2 u3 : Int) (u4 u5 u6 u7 u8 u9 : BitVec 32) (u10 : List Sapi_Item) (x01 : List By) : Option ((List By) × (List Int) × Int) :=
  (m_r17_Valid u0 u1 u2 u3 u4 u5 u6 u7 u8 u9 u10).bind fun x5 =>
  if x5 = true then
    if (x01.length : Int) = (6 : Int) then
      m_r17_Rebuild_j0 u0 u1 u10 u2 u3 u4 u5 u6 u7 u8 u9 x01
    else
      some (([] : List By), ([] : List Int), (1 : Int))
  else
    some (([] : List By), ([] : List Int), (1 : Int))
def m_shards_Make_j1 (x00 : By) (v0 v1 v2 : Int) (x10 : List Sapi_Item) (x47 : (List By) × Int) (x72 : (List By)) (x92 x93 x94 x95 x96 x97 : BitVec 32) : Option ((List By) × Int × Int × Int × Int × (BitVec 32) × (BitVec 32) × (BitVec 32) × (BitVec 32) × (BitVec 32) × (BitVec 32) × (List Sapi_Item) × Int) :=
  some (x72, v0, v1, v2, (x00.length : Int), x92, x93, x94, x95, x96, x97, x10, x47.2)
def m_shards_Make_l2 (x00 : By) (v0 v1 v2 : Int) (x10 : List Sapi_Item) (x47 : (List By) × Int) (x72 : (List By)) : Nat -> (BitVec 32) -> (BitVec 32) -> (BitVec 32) -> (BitVec 32) -> (BitVec 32) -> (BitVec 32) -> Int -> Option ((List By) × Int × Int × Int × Int × (BitVec 32) × (BitVec 32) × (BitVec 32) × (BitVec 32) × (BitVec 32) × (BitVec 32) × (List Sapi_Item) × Int)
  | 0, _, _, _, _, _, _, _ => none
  | q107 + 1, x100, x101, x102, x103, x104, x105, x106 =>
    if x106 < (x72.length : Int) then
      (idx x72 x106).bind fun x114 =>
      (m_crc32c_Sum x114).bind fun x119 =>
      (idx ([x100, x101, x102, x103, x104, x105] : List (BitVec 32)) x106).bind fun x121 =>
      (upd ([x100, x101, x102, x103, x104, x105] : List (BitVec 32)) x106 x119).bind fun x122 =>
      (ck (x106 + (1 : Int))).bind fun x124 =>
      (m_shards_Make_l2 x00 v0 v1 v2 x10 x47 x72 q107) (x122.getD 0 0#32) (x122.getD 1 0#32) (x122.getD 2 0#32) (x122.getD 3 0#32) (x122.getD 4 0#32) (x122.getD 5 0#32) x124
    else
      m_shards_Make_j1 x00 v0 v1 v2 x10 x47 x72 x100 x101 x102 x103 x104 x105
def m_shards_Make_j0 (x00 : By) (v0 v1 v2 : Int) (x10 : List Sapi_Item) : Option ((List By) × Int × Int × Int × Int × (BitVec 32) × (BitVec 32) × (BitVec 32) × (BitVec 32) × (BitVec 32) × (BitVec 32) × (List Sapi_Item) × Int) :=
  (m_shards_Valid v0 v1 v2 (x00.length : Int) 0#32 0#32 0#32 0#32 0#32 0#32 x10).bind fun x24 =>
  if x24 = true then
    (m_stripe_Split x00).bind fun x28 =>
    (m_rs_Encode x28).bind fun x47 =>
    (m_slices_Concat_byte_byte ([x28, x47.1] : List (List By))).bind fun x72 =>
    m_shards_Make_l2 x00 v0 v1 v2 x10 x47 x72 forever 0#32 0#32 0#32 0#32 0#32 0#32 (0 : Int)
  else
    some (([] : List By), (0 : Int), (0 : Int), (0 : Int), (0 : Int), 0#32, 0#32, 0#32, 0#32, 0#32, 0#32, ([] : List Sapi_Item), (1 : Int))
def m_shards_Make (x00 : By) (v0 v1 v2 : Int) (x02 : List Sapi_Item) : Option ((List By) × Int × Int × Int × Int × (BitVec 32) × (BitVec 32) × (BitVec 32) × (BitVec 32) × (BitVec 32) × (BitVec 32) × (List Sapi_Item) × Int) :=
  (m_slices_Clone_api_Item_api_Item x02).bind fun x13 =>
  m_shards_Make_j0 x00 v0 v1 v2 x13
def m_shards_Head_good (u0 u1 u2 u3 : Int) (u4 u5 u6 u7 u8 u9 : BitVec 32) (u10 : List Sapi_Item) (x01 : Int) (x02 : By) : Option Bool :=
  (m_stripe_Size u3).bind fun x4 =>
  if (x02.length : Int) = x4 then
    (m_crc32c_Sum x02).bind fun x7 =>
    (idx ([u4, u5, u6, u7, u8, u9] : List (BitVec 32)) x01).bind fun x9 =>
    (idx ([u4, u5, u6, u7, u8, u9] : List (BitVec 32)) x01).bind fun x10 =>
    some ((x7 == x10))
  else
    some (false)
def m_shards_Head_damaged_j2 (x41 : List Int) : Option ((List Int)) :=
  (srt x41).bind fun x80 =>
  some (x80)
def m_shards_Head_damaged_j0 (x7 : List (Int × Bool)) : Option ((List Int)) :=
  mrangeK x7 (fun x60 => fun x50 =>
    if x60.2 = true then
      some (x50)
    else
      (apd 8 x50 ([x60.1] : List Int)).bind fun x76 =>
      some (x76)) ([] : List Int) fun x50 =>
  m_shards_Head_damaged_j2 x50
def m_shards_Head_damaged_l1 (u0 u1 : Int) (u10 : List Sapi_Item) (u2 u3 : Int) (u4 u5 u6 u7 u8 u9 : BitVec 32) (x01 : List By) : Nat -> (List (Int × Bool)) -> Int -> Option ((List Int))
  | 0, _, _ => none
  | q16 + 1, x13, x15 =>
    if x15 < (x01.length : Int) then
      (idx x01 x15).bind fun x23 =>
      (m_shards_Head_good u0 u1 u2 u3 u4 u5 u6 u7 u8 u9 u10 x15 x23).bind fun x28 =>
      (ck (x15 + (1 : Int))).bind fun x34 =>
      (m_shards_Head_damaged_l1 u0 u1 u10 u2 u3 u4 u5 u6 u7 u8 u9 x01 q16) (mset x13 x15 x28) x34
    else
      m_shards_Head_damaged_j0 x13
def m_shards_Head_damaged (u0 u1 u2 u3 : Int) (u4 u5 u6 u7 u8 u9 : BitVec 32) (u10 : List Sapi_Item) (x01 : List By) : Option ((List Int)) :=
  m_shards_Head_damaged_l1 u0 u1 u10 u2 u3 u4 u5 u6 u7 u8 u9 x01 forever ([] : List (Int × Bool)) (0 : Int)
def m_shards_Good (u0 u1 u2 u3 : Int) (u4 u5 u6 u7 u8 u9 : BitVec 32) (u10 : List Sapi_Item) (x01 : Int) (x02 : By) : Option Bool :=
  if (0 : Int) <= x01 then
    if x01 < (6 : Int) then
      (m_shards_Valid u0 u1 u2 u3 u4 u5 u6 u7 u8 u9 u10).bind fun x6 =>
      if x6 = true then
        (m_shards_Head_good u0 u1 u2 u3 u4 u5 u6 u7 u8 u9 u10 x01 x02).bind fun x9 =>
        some (x9)
      else
        some (false)
    else
      some (false)
  else
    some (false)
def m_shards_Rebuild_j1 (u0 u1 : Int) (u10 : List Sapi_Item) (u2 u3 : Int) (u4 u5 u6 u7 u8 u9 : BitVec 32) (x01 : List By) (x16 : (List Int)) (x26 : List Bool) : Option ((List By) × (List Int) × Int) :=
  (m_rs_Restore x01 x26).bind fun x45 =>
  if x45.2 = (0 : Int) then
    (m_shards_Head_damaged u0 u1 u2 u3 u4 u5 u6 u7 u8 u9 u10 x45.1).bind fun x70 =>
    if (0 : Int) < (x70.length : Int) then
      some (([] : List By), ([] : List Int), (5 : Int))
    else
      some (x45.1, x16, (0 : Int))
  else
    some (([] : List By), ([] : List Int), x45.2)
def m_shards_Rebuild_l2 (u0 u1 : Int) (u10 : List Sapi_Item) (u2 u3 : Int) (u4 u5 u6 u7 u8 u9 : BitVec 32) (x01 : List By) (x16 : (List Int)) : Nat -> (List Bool) -> Int -> Option ((List By) × (List Int) × Int)
  | 0, _, _ => none
  | q31 + 1, x29, x30 =>
    if x30 < (x16.length : Int) then
      (idx x16 x30).bind fun x38 =>
      (idx x29 x38).bind fun x40 =>
      (upd x29 x38 false).bind fun x41 =>
      (ck (x30 + (1 : Int))).bind fun x43 =>
      (m_shards_Rebuild_l2 u0 u1 u10 u2 u3 u4 u5 u6 u7 u8 u9 x01 x16 q31) x41 x43
    else
      m_shards_Rebuild_j1 u0 u1 u10 u2 u3 u4 u5 u6 u7 u8 u9 x01 x16 x29
def m_shards_Rebuild_j0 (u0 u1 : Int) (u10 : List Sapi_Item) (u2 u3 : Int) (u4 u5 u6 u7 u8 u9 : BitVec 32) (x01 : List By) : Option ((List By) × (List Int) × Int) :=
  (m_shards_Head_damaged u0 u1 u2 u3 u4 u5 u6 u7 u8 u9 u10 x01).bind fun x16 =>
  m_shards_Rebuild_l2 u0 u1 u10 u2 u3 u4 u5 u6 u7 u8 u9 x01 x16 forever ([true, true, true, true, true, true] : List Bool) (0 : Int)
def m_shards_Rebuild (u0 u1 u2 u3 : Int) (u4 u5 u6 u7 u8 u9 : BitVec 32) (u10 : List Sapi_Item) (x01 : List By) : Option ((List By) × (List Int) × Int) :=
  (m_shards_Valid u0 u1 u2 u3 u4 u5 u6 u7 u8 u9 u10).bind fun x5 =>
  if x5 = true then
    if (x01.length : Int) = (6 : Int) then
      m_shards_Rebuild_j0 u0 u1 u10 u2 u3 u4 u5 u6 u7 u8 u9 x01
    else
      some (([] : List By), ([] : List Int), (1 : Int))
  else
    some (([] : List By), ([] : List Int), (1 : Int))
structure Sapi_Needle where
  fKey : BitVec 64
  fCookie : BitVec 32
  fDeleted : Bool
  fData : By
  deriving DecidableEq
structure Sneedlestoreref09_Record where
  fOff : Int
  fNeedle : Sapi_Needle
  deriving DecidableEq
def m_r09_Records_j0 (x4 : Int) (x10 : List Sneedlestoreref09_Record) : Option ((List Sneedlestoreref09_Record) × Int) :=
  some (x10, x4)
def m_r09_Records_l1 (x00 : By) : Nat -> Int -> (List Sneedlestoreref09_Record) -> Option ((List Sneedlestoreref09_Record) × Int)
  | 0, _, _ => none
  | q24 + 1, x15, x21 =>
    if x15 <= (x00.length : Int) then
      (slc x00 x15 (x00.length : Int)).bind fun x30 =>
      (m_r06_Decode x30).bind fun x31 =>
      if x31.2.2.2.2.2 = (0 : Int) then
        (apd 48 x21 ([(Sneedlestoreref09_Record.mk x15 (Sapi_Needle.mk x31.1 x31.2.1 x31.2.2.1 x31.2.2.2.1))] : List Sneedlestoreref09_Record)).bind fun x48 =>
        (ck (x15 + x31.2.2.2.2.1)).bind fun x54 =>
        (m_r09_Records_l1 x00 q24) x54 x48
      else
        m_r09_Records_j0 x15 x21
    else
      m_r09_Records_j0 x15 x21
def m_r09_Records (x00 : By) (x01 : Int) : Option ((List Sneedlestoreref09_Record) × Int) :=
  m_r09_Records_l1 x00 forever x01 ([] : List Sneedlestoreref09_Record)
def m_r09_Open (x00 : By) : Option (Int × Int × Int × (List Sneedlestoreref09_Record) × Int × Int) :=
  (m_r07_Decode x00).bind fun x4 =>
  if x4.2.2.2 = (0 : Int) then
    (m_r09_Records x00 (16 : Int)).bind fun x11 =>
    some (x4.1, x4.2.1, x4.2.2.1, x11.1, x11.2, (0 : Int))
  else
    some ((0 : Int), (0 : Int), (0 : Int), ([] : List Sneedlestoreref09_Record), (0 : Int), x4.2.2.2)
def m_r09_Items_j0 (x8 : List Sapi_Item) : Option ((List Sapi_Item)) :=
  some (x8)
def m_r09_Items_l1 (x00 : List Sneedlestoreref09_Record) : Nat -> (List Sapi_Item) -> Int -> Option ((List Sapi_Item))
  | 0, _, _ => none
  | q18 + 1, x16, x17 =>
    if x17 < (x00.length : Int) then
      (idx x00 x17).bind fun x25 =>
      if x25.fNeedle.fDeleted = true then
        (m_r08_Drop x16 x25.fNeedle.fKey).bind fun x33 =>
        (ck (x17 + (1 : Int))).bind fun x42 =>
        (m_r09_Items_l1 x00 q18) x33 x42
      else
        (idx x00 x17).bind fun x44 =>
        (m_r08_Put x16 x25.fNeedle.fKey x25.fNeedle.fCookie x44.fOff (x25.fNeedle.fData.length : Int)).bind fun x48 =>
        (ck (x17 + (1 : Int))).bind fun x57 =>
        (m_r09_Items_l1 x00 q18) x48 x57
    else
      m_r09_Items_j0 x16
def m_r09_Items (x00 : List Sneedlestoreref09_Record) : Option ((List Sapi_Item)) :=
  m_r09_Items_l1 x00 forever ([] : List Sapi_Item) (0 : Int)
def m_law17_file_j4 (x23 : By) (x24 : Int) (x33 : Sapi_Needle) (r1 : By -> Int -> Option (By × Int × Int × Int × (List Sapi_Item))) (x51 : By) : Option (By × Int × Int × Int × (List Sapi_Item)) :=
  if 1000#64 < x33.fKey then
    (m_r06_Encode (x33.fKey &&& 15#64) x33.fCookie x33.fDeleted x51).bind fun x62 =>
    (apd 1 x23 x62.1).bind fun x71 =>
    (ck (x24 + (1 : Int))).bind fun x75 =>
    r1 x71 x75
  else
    (m_r06_Encode x33.fKey x33.fCookie x33.fDeleted x51).bind fun x77 =>
    (apd 1 x23 x77.1).bind fun x86 =>
    (ck (x24 + (1 : Int))).bind fun x90 =>
    r1 x86 x90
def m_law17_file_j3 (x23 : By) (x24 : Int) (x33 : Sapi_Needle) (r1 : By -> Int -> Option (By × Int × Int × Int × (List Sapi_Item))) (x41 : By) : Option (By × Int × Int × Int × (List Sapi_Item)) :=
  if x33.fDeleted = true then
    m_law17_file_j4 x23 x24 x33 r1 ([] : By)
  else
    m_law17_file_j4 x23 x24 x33 r1 x41
def m_law17_file_j2 (x00 : List Sapi_Needle) (x23 : By) (x24 : Int) (r1 : By -> Int -> Option (By × Int × Int × Int × (List Sapi_Item))) : Option (By × Int × Int × Int × (List Sapi_Item)) :=
  (idx x00 x24).bind fun x33 =>
  if (100 : Int) < (x33.fData.length : Int) then
    (slc x33.fData 0 (100 : Int)).bind fun x47 =>
    m_law17_file_j3 x23 x24 x33 r1 x47
  else
    m_law17_file_j3 x23 x24 x33 r1 x33.fData
def m_law17_file_j0 (x17 : By) : Option (By × Int × Int × Int × (List Sapi_Item)) :=
  (m_r09_Open x17).bind fun x92 =>
  (m_r09_Items x92.2.2.2.1).bind fun x114 =>
  some (x17, (1 : Int), (2 : Int), (3 : Int), x114)
def m_law17_file_l1 (x00 : List Sapi_Needle) : Nat -> By -> Int -> Option (By × Int × Int × Int × (List Sapi_Item))
  | 0, _, _ => none
  | q25 + 1, x23, x24 =>
    if x24 < (x00.length : Int) then
      if x24 < (12 : Int) then
        m_law17_file_j2 x00 x23 x24 (m_law17_file_l1 x00 q25)
      else
        m_law17_file_j0 x23
    else
      m_law17_file_j0 x23
def m_law17_file (x00 : List Sapi_Needle) : Option (By × Int × Int × Int × (List Sapi_Item)) :=
  (m_r07_Encode (1 : Int) (2 : Int) (3 : Int)).bind fun x6 =>
  m_law17_file_l1 x00 forever x6.1 (0 : Int)
def m_law17_light (u0 u1 u2 u3 : Int) (u4 u5 u6 u7 u8 u9 : BitVec 32) (u10 : List Sapi_Item) : Option Bool :=
  some ((decide ((u10.length : Int) <= (30 : Int))))
def m_law17_given (u0 u1 u2 u3 : Int) (u4 u5 u6 u7 u8 u9 : BitVec 32) (u10 : List Sapi_Item) : Option (Int × Int × Int × Int × (BitVec 32) × (BitVec 32) × (BitVec 32) × (BitVec 32) × (BitVec 32) × (BitVec 32) × (List Sapi_Item)) :=
  some (u0, u1, u2, u3, u4, u5, u6, u7, u8, u9, u10)
def m_law17_awake : Option Bool :=
  (m_law17_file ([] : List Sapi_Needle)).bind fun x3 =>
  (m_shards_Make x3.1 x3.2.1 x3.2.2.1 x3.2.2.2.1 ([] : List Sapi_Item)).bind fun x29 =>
  (m_shards_Rebuild x29.2.1 x29.2.2.1 x29.2.2.2.1 x29.2.2.2.2.1 x29.2.2.2.2.2.1 x29.2.2.2.2.2.2.1 x29.2.2.2.2.2.2.2.1 x29.2.2.2.2.2.2.2.2.1 x29.2.2.2.2.2.2.2.2.2.1 x29.2.2.2.2.2.2.2.2.2.2.1 x29.2.2.2.2.2.2.2.2.2.2.2.1 ([] : List By)).bind fun x59 =>
  (mks 24 (6 : Int) ([] : By)).bind fun x91 =>
  (m_shards_Rebuild x29.2.1 x29.2.2.1 x29.2.2.2.1 x29.2.2.2.2.1 x29.2.2.2.2.2.1 x29.2.2.2.2.2.2.1 x29.2.2.2.2.2.2.2.1 x29.2.2.2.2.2.2.2.2.1 x29.2.2.2.2.2.2.2.2.2.1 x29.2.2.2.2.2.2.2.2.2.2.1 x29.2.2.2.2.2.2.2.2.2.2.2.1 x91).bind fun x94 =>
  if x29.2.2.2.2.2.2.2.2.2.2.2.2 = (0 : Int) then
    if (x29.1.length : Int) = (6 : Int) then
      (idx x29.1 (0 : Int)).bind fun x127 =>
      if (x127.length : Int) = (64 : Int) then
        if x59.2.2 = (1 : Int) then
          some ((x94.2.2 == (11 : Int)))
        else
          some (false)
      else
        some (false)
    else
      some (false)
  else
    some (false)
end Go.Proofs.YthjnhlmfcejhkaaGreat
