/-
  Models of functions of the program (b): what each computes, as an option. Printed by a program of ours (vcm.py). No conditions.
-/
import Derived.Test.YtcncappgheopgaaGreatMda
namespace Go.Proofs.YtcncappgheopgaaGreat
set_option linter.unusedVariables false
def m_gfmatrix_mayHave (x00 : Int) : Option (Bool) :=
  if (1 : Int) <= x00 then
    some ((decide (x00 <= (16 : Int))))
  else
    some (false)
def m_gfmatrix_Valid (x00_0 x00_1 : Int) (x00_2 : List (BitVec 8)) : Option (Bool) :=
  Option.bind (m_gfmatrix_mayHave x00_0) fun x4 =>
  if x4 = true then
    Option.bind (m_gfmatrix_mayHave x00_1) fun x7 =>
    if x7 = true then
      Option.bind (ck (x00_0 * x00_1)) fun x10 =>
      some (((x00_2.length : Int) == x10))
    else
      some (false)
  else
    some (false)
def m_gfmatrix_empty (x00 x01 : Int) : Option (Int × Int × (List (BitVec 8))) :=
  Option.bind (ck (x00 * x01)) fun x4 =>
  Option.bind (mks 1 x4 0#8) fun x6 =>
  some (x00, x01, x6)
def m_gfmatrix_Matrix_row (x00_0 x00_1 x01 : Int) : Option (Int × Int) :=
  Option.bind (ck (x01 * x00_1)) fun x4 =>
  Option.bind (ck (x01 + (1 : Int))) fun x5 =>
  Option.bind (ck (x5 * x00_1)) fun x6 =>
  some (x4, x6)
def m_gfmatrix_Matrix_at (x00_0 x00_1 : Int) (x00_2 : List (BitVec 8)) (x01 x02 : Int) : Option ((BitVec 8)) :=
  Option.bind (ck (x01 * x00_1)) fun x4 =>
  Option.bind (ck (x4 + x02)) fun x5 =>
  Option.bind (idx x00_2 x5) fun x6 =>
  some (x6)
def m_gfmatrix_Identity_j0 (x9 : Int × Int × (List (BitVec 8))) (x18 : List (BitVec 8)) : Option (Int × Int × (List (BitVec 8)) × Int) :=
  some (x9.1, x9.2.1, x18, (0 : Int))
def m_gfmatrix_Identity_l1 (x00 : Int) (x9 : Int × Int × (List (BitVec 8))) : Nat -> (List (BitVec 8)) -> Int -> Option (Int × Int × (List (BitVec 8)) × Int)
  | 0, _, _ => none
  | q23 + 1, x21, x22 =>
    if x22 < x00 then
      Option.bind (m_gfmatrix_Matrix_row x9.1 x9.2.1 x22) fun x31 =>
      Option.bind (slc x21 x31.1 x31.2) fun x32 =>
      Option.bind (slc x21 x31.1 x31.2) fun x33 =>
      Option.bind (idx x33 x22) fun x34 =>
      Option.bind (ups x21 x31.1 x31.2 x22 1#8) fun x35 =>
      Option.bind (ck (x22 + (1 : Int))) fun x37 =>
      (m_gfmatrix_Identity_l1 x00 x9 q23) x35 x37
    else
      m_gfmatrix_Identity_j0 x9 x21
def m_gfmatrix_Identity (x00 : Int) : Option (Int × Int × (List (BitVec 8)) × Int) :=
  Option.bind (m_gfmatrix_mayHave x00) fun x5 =>
  if x5 = true then
    Option.bind (m_gfmatrix_empty x00 x00) fun x9 =>
    m_gfmatrix_Identity_l1 x00 x9 forever x9.2.2 (0 : Int)
  else
    some ((0 : Int), (0 : Int), ([] : List (BitVec 8)), (1 : Int))
def m_gfmatrix_Vandermonde_j3 (x29 : Int) (r2 : (List (BitVec 8)) -> Int -> Option (Int × Int × (List (BitVec 8)) × Int)) (x35 : List (BitVec 8)) : Option (Int × Int × (List (BitVec 8)) × Int) :=
  Option.bind (ck (x29 + (1 : Int))) fun x59 =>
  r2 x35 x59
def m_gfmatrix_Vandermonde_l4 (x01 : Int) (x16 : Int × Int × (List (BitVec 8))) (x29 : Int) (r2 : (List (BitVec 8)) -> Int -> Option (Int × Int × (List (BitVec 8)) × Int)) : Nat -> (List (BitVec 8)) -> Int -> Option (Int × Int × (List (BitVec 8)) × Int)
  | 0, _, _ => none
  | q41 + 1, x39, x40 =>
    if x40 < x01 then
      Option.bind (m_gfmatrix_Matrix_row x16.1 x16.2.1 x29) fun x49 =>
      Option.bind (slc x39 x49.1 x49.2) fun x50 =>
      Option.bind (m_gf256_Pow (BitVec.ofInt 8 x29) x40) fun x51 =>
      Option.bind (slc x39 x49.1 x49.2) fun x53 =>
      Option.bind (idx x53 x40) fun x54 =>
      Option.bind (ups x39 x49.1 x49.2 x40 x51) fun x55 =>
      Option.bind (ck (x40 + (1 : Int))) fun x57 =>
      (m_gfmatrix_Vandermonde_l4 x01 x16 x29 r2 q41) x55 x57
    else
      m_gfmatrix_Vandermonde_j3 x29 r2 x39
def m_gfmatrix_Vandermonde_j1 (x16 : Int × Int × (List (BitVec 8))) (x25 : List (BitVec 8)) : Option (Int × Int × (List (BitVec 8)) × Int) :=
  some (x16.1, x16.2.1, x25, (0 : Int))
def m_gfmatrix_Vandermonde_l2 (x00 x01 : Int) (x16 : Int × Int × (List (BitVec 8))) : Nat -> (List (BitVec 8)) -> Int -> Option (Int × Int × (List (BitVec 8)) × Int)
  | 0, _, _ => none
  | q30 + 1, x28, x29 =>
    if x29 < x00 then
      m_gfmatrix_Vandermonde_l4 x01 x16 x29 (m_gfmatrix_Vandermonde_l2 x00 x01 x16 q30) forever x28 (0 : Int)
    else
      m_gfmatrix_Vandermonde_j1 x16 x28
def m_gfmatrix_Vandermonde_j0 (x00 x01 : Int) : Option (Int × Int × (List (BitVec 8)) × Int) :=
  Option.bind (m_gfmatrix_empty x00 x01) fun x16 =>
  m_gfmatrix_Vandermonde_l2 x00 x01 x16 forever x16.2.2 (0 : Int)
def m_gfmatrix_Vandermonde (x00 x01 : Int) : Option (Int × Int × (List (BitVec 8)) × Int) :=
  Option.bind (m_gfmatrix_mayHave x00) fun x5 =>
  if x5 = true then
    Option.bind (m_gfmatrix_mayHave x01) fun x8 =>
    if x8 = true then
      m_gfmatrix_Vandermonde_j0 x00 x01
    else
      some ((0 : Int), (0 : Int), ([] : List (BitVec 8)), (1 : Int))
  else
    some ((0 : Int), (0 : Int), ([] : List (BitVec 8)), (1 : Int))
def m_gfmatrix_Mul_j5 (x45 : Int) (r4 : (List (BitVec 8)) -> Int -> Option (Int × Int × (List (BitVec 8)) × Int)) (x51 : List (BitVec 8)) : Option (Int × Int × (List (BitVec 8)) × Int) :=
  Option.bind (ck (x45 + (1 : Int))) fun x99 =>
  r4 x51 x99
def m_gfmatrix_Mul_l6 (x00_0 x00_1 : Int) (x00_2 : List (BitVec 8)) (x01_0 x01_1 : Int) (x01_2 : List (BitVec 8)) (x21 : Int × Int × (List (BitVec 8))) (x34 x45 : Int) (r4 : (List (BitVec 8)) -> Int -> Option (Int × Int × (List (BitVec 8)) × Int)) : Nat -> (List (BitVec 8)) -> Int -> Option (Int × Int × (List (BitVec 8)) × Int)
  | 0, _, _ => none
  | q57 + 1, x55, x56 =>
    if x56 < x00_1 then
      Option.bind (m_gfmatrix_Matrix_row x21.1 x21.2.1 x34) fun x65 =>
      Option.bind (slc x55 x65.1 x65.2) fun x66 =>
      Option.bind (slc x55 x65.1 x65.2) fun x67 =>
      Option.bind (idx x67 x45) fun x68 =>
      Option.bind (m_gfmatrix_Matrix_at x00_0 x00_1 x00_2 x34 x56) fun x69 =>
      Option.bind (m_gfmatrix_Matrix_at x01_0 x01_1 x01_2 x56 x45) fun x71 =>
      Option.bind (m_gf256_Mul x69 x71) fun x73 =>
      Option.bind (slc x55 x65.1 x65.2) fun x75 =>
      Option.bind (idx x75 x45) fun x76 =>
      Option.bind (ups x55 x65.1 x65.2 x45 (x68 ^^^ x73)) fun x77 =>
      Option.bind (ck (x56 + (1 : Int))) fun x97 =>
      (m_gfmatrix_Mul_l6 x00_0 x00_1 x00_2 x01_0 x01_1 x01_2 x21 x34 x45 r4 q57) x77 x97
    else
      m_gfmatrix_Mul_j5 x45 r4 x55
def m_gfmatrix_Mul_j3 (x34 : Int) (r2 : (List (BitVec 8)) -> Int -> Option (Int × Int × (List (BitVec 8)) × Int)) (x40 : List (BitVec 8)) : Option (Int × Int × (List (BitVec 8)) × Int) :=
  Option.bind (ck (x34 + (1 : Int))) fun x101 =>
  r2 x40 x101
def m_gfmatrix_Mul_l4 (x00_0 x00_1 : Int) (x00_2 : List (BitVec 8)) (x01_0 x01_1 : Int) (x01_2 : List (BitVec 8)) (x21 : Int × Int × (List (BitVec 8))) (x34 : Int) (r2 : (List (BitVec 8)) -> Int -> Option (Int × Int × (List (BitVec 8)) × Int)) : Nat -> (List (BitVec 8)) -> Int -> Option (Int × Int × (List (BitVec 8)) × Int)
  | 0, _, _ => none
  | q46 + 1, x44, x45 =>
    if x45 < x01_1 then
      m_gfmatrix_Mul_l6 x00_0 x00_1 x00_2 x01_0 x01_1 x01_2 x21 x34 x45 (m_gfmatrix_Mul_l4 x00_0 x00_1 x00_2 x01_0 x01_1 x01_2 x21 x34 r2 q46) forever x44 (0 : Int)
    else
      m_gfmatrix_Mul_j3 x34 r2 x44
def m_gfmatrix_Mul_j1 (x21 : Int × Int × (List (BitVec 8))) (x30 : List (BitVec 8)) : Option (Int × Int × (List (BitVec 8)) × Int) :=
  some (x21.1, x21.2.1, x30, (0 : Int))
def m_gfmatrix_Mul_l2 (x00_0 x00_1 : Int) (x00_2 : List (BitVec 8)) (x01_0 x01_1 : Int) (x01_2 : List (BitVec 8)) (x21 : Int × Int × (List (BitVec 8))) : Nat -> (List (BitVec 8)) -> Int -> Option (Int × Int × (List (BitVec 8)) × Int)
  | 0, _, _ => none
  | q35 + 1, x33, x34 =>
    if x34 < x00_0 then
      m_gfmatrix_Mul_l4 x00_0 x00_1 x00_2 x01_0 x01_1 x01_2 x21 x34 (m_gfmatrix_Mul_l2 x00_0 x00_1 x00_2 x01_0 x01_1 x01_2 x21 q35) forever x33 (0 : Int)
    else
      m_gfmatrix_Mul_j1 x21 x33
def m_gfmatrix_Mul_j0 (x00_0 x00_1 : Int) (x00_2 : List (BitVec 8)) (x01_0 x01_1 : Int) (x01_2 : List (BitVec 8)) : Option (Int × Int × (List (BitVec 8)) × Int) :=
  Option.bind (m_gfmatrix_empty x00_0 x01_1) fun x21 =>
  m_gfmatrix_Mul_l2 x00_0 x00_1 x00_2 x01_0 x01_1 x01_2 x21 forever x21.2.2 (0 : Int)
def m_gfmatrix_Mul (x00_0 x00_1 : Int) (x00_2 : List (BitVec 8)) (x01_0 x01_1 : Int) (x01_2 : List (BitVec 8)) : Option (Int × Int × (List (BitVec 8)) × Int) :=
  Option.bind (m_gfmatrix_Valid x00_0 x00_1 x00_2) fun x7 =>
  if x7 = true then
    Option.bind (m_gfmatrix_Valid x01_0 x01_1 x01_2) fun x10 =>
    if x10 = true then
      if x00_1 = x01_0 then
        m_gfmatrix_Mul_j0 x00_0 x00_1 x00_2 x01_0 x01_1 x01_2
      else
        some ((0 : Int), (0 : Int), ([] : List (BitVec 8)), (1 : Int))
    else
      some ((0 : Int), (0 : Int), ([] : List (BitVec 8)), (1 : Int))
  else
    some ((0 : Int), (0 : Int), ([] : List (BitVec 8)), (1 : Int))
def m_gfmatrix_Pick_j1 (x00_1 : Int) (x01 : List (Int)) (x23 : List (BitVec 8)) : Option (Int × Int × (List (BitVec 8)) × Int) :=
  some ((x01.length : Int), x00_1, x23, (0 : Int))
def m_gfmatrix_Pick_l2 (x00_0 x00_1 : Int) (x00_2 : List (BitVec 8)) (x01 : List (Int)) : Nat -> (List (BitVec 8)) -> Int -> Option (Int × Int × (List (BitVec 8)) × Int)
  | 0, _, _ => none
  | q33 + 1, x31, x32 =>
    if x32 < (x01.length : Int) then
      Option.bind (idx x01 x32) fun x40 =>
      if x40 < (0 : Int) then
        some ((0 : Int), (0 : Int), ([] : List (BitVec 8)), (1 : Int))
      else
        if x00_0 <= x40 then
          some ((0 : Int), (0 : Int), ([] : List (BitVec 8)), (1 : Int))
        else
          Option.bind (m_gfmatrix_Matrix_row x00_0 x00_1 x40) fun x50 =>
          Option.bind (slc x00_2 x50.1 x50.2) fun x51 =>
          Option.bind (apd 1 x31 x51) fun x52 =>
          Option.bind (ck (x32 + (1 : Int))) fun x58 =>
          (m_gfmatrix_Pick_l2 x00_0 x00_1 x00_2 x01 q33) x52 x58
    else
      m_gfmatrix_Pick_j1 x00_1 x01 x31
def m_gfmatrix_Pick_j0 (x00_0 x00_1 : Int) (x00_2 : List (BitVec 8)) (x01 : List (Int)) : Option (Int × Int × (List (BitVec 8)) × Int) :=
  m_gfmatrix_Pick_l2 x00_0 x00_1 x00_2 x01 forever ([] : List (BitVec 8)) (0 : Int)
def m_gfmatrix_Pick (x00_0 x00_1 : Int) (x00_2 : List (BitVec 8)) (x01 : List (Int)) : Option (Int × Int × (List (BitVec 8)) × Int) :=
  Option.bind (m_gfmatrix_Valid x00_0 x00_1 x00_2) fun x6 =>
  if x6 = true then
    Option.bind (m_gfmatrix_mayHave (x01.length : Int)) fun x9 =>
    if x9 = true then
      m_gfmatrix_Pick_j0 x00_0 x00_1 x00_2 x01
    else
      some ((0 : Int), (0 : Int), ([] : List (BitVec 8)), (1 : Int))
  else
    some ((0 : Int), (0 : Int), ([] : List (BitVec 8)), (1 : Int))
def m_gfmatrix_scale_l0 (x00hi x00lo : Int) (x01 : BitVec 8) (x2 : List (BitVec 8)) : Nat -> (List (BitVec 8)) -> Int -> Option (List (BitVec 8))
  | 0, _, _ => none
  | q5 + 1, x3, x4 =>
    if x4 < (x2.length : Int) then
      Option.bind (slc x3 x00lo x00hi) fun x12 =>
      Option.bind (idx x12 x4) fun x13 =>
      Option.bind (m_gf256_Mul x13 x01) fun x15 =>
      Option.bind (slc x3 x00lo x00hi) fun x17 =>
      Option.bind (idx x17 x4) fun x18 =>
      Option.bind (ups x3 x00lo x00hi x4 x15) fun x19 =>
      Option.bind (ck (x4 + (1 : Int))) fun x21 =>
      (m_gfmatrix_scale_l0 x00hi x00lo x01 x2 q5) x19 x21
    else
      some (x3)
def m_gfmatrix_scale (x0c : List (BitVec 8)) (x00lo x00hi : Int) (x01 : BitVec 8) : Option (List (BitVec 8)) :=
  Option.bind (slc x0c x00lo x00hi) fun x2 =>
  m_gfmatrix_scale_l0 x00hi x00lo x01 x2 forever x0c (0 : Int)
def m_gfmatrix_add_l0 (x00hi x00lo x01hi x01lo : Int) (x02 : BitVec 8) (x2 : List (BitVec 8)) : Nat -> (List (BitVec 8)) -> Int -> Option (List (BitVec 8))
  | 0, _, _ => none
  | q5 + 1, x3, x4 =>
    if x4 < (x2.length : Int) then
      Option.bind (slc x3 x01lo x01hi) fun x12 =>
      Option.bind (idx x12 x4) fun x13 =>
      Option.bind (slc x3 x00lo x00hi) fun x15 =>
      Option.bind (idx x15 x4) fun x16 =>
      Option.bind (m_gf256_Mul x13 x02) fun x17 =>
      Option.bind (slc x3 x00lo x00hi) fun x19 =>
      Option.bind (idx x19 x4) fun x20 =>
      Option.bind (ups x3 x00lo x00hi x4 (x16 ^^^ x17)) fun x21 =>
      Option.bind (ck (x4 + (1 : Int))) fun x27 =>
      (m_gfmatrix_add_l0 x00hi x00lo x01hi x01lo x02 x2 q5) x21 x27
    else
      some (x3)
def m_gfmatrix_add (x0c : List (BitVec 8)) (x00lo x00hi x01lo x01hi : Int) (x02 : BitVec 8) : Option (List (BitVec 8)) :=
  Option.bind (slc x0c x01lo x01hi) fun x2 =>
  m_gfmatrix_add_l0 x00hi x00lo x01hi x01lo x02 x2 forever x0c (0 : Int)
def m_gfmatrix_Matrix_swap_l0 (x4 x6 : Int × Int) (x9 : List (BitVec 8)) : Nat -> (List (BitVec 8)) -> Int -> Option (List (BitVec 8))
  | 0, _, _ => none
  | q12 + 1, x10, x11 =>
    if x11 < (x9.length : Int) then
      Option.bind (slc x10 x6.1 x6.2) fun x20 =>
      Option.bind (idx x20 x11) fun x21 =>
      Option.bind (slc x10 x4.1 x4.2) fun x22 =>
      Option.bind (idx x22 x11) fun x23 =>
      Option.bind (slc x10 x4.1 x4.2) fun x24 =>
      Option.bind (idx x24 x11) fun x25 =>
      Option.bind (ups x10 x4.1 x4.2 x11 x21) fun x26 =>
      Option.bind (slc x26 x6.1 x6.2) fun x27 =>
      Option.bind (idx x27 x11) fun x28 =>
      Option.bind (ups x26 x6.1 x6.2 x11 x23) fun x29 =>
      Option.bind (ck (x11 + (1 : Int))) fun x41 =>
      (m_gfmatrix_Matrix_swap_l0 x4 x6 x9 q12) x29 x41
    else
      some (x10)
def m_gfmatrix_Matrix_swap (x0c : List (BitVec 8)) (x00_0 x00_1 x01 x02 : Int) : Option (List (BitVec 8)) :=
  Option.bind (m_gfmatrix_Matrix_row x00_0 x00_1 x01) fun x4 =>
  Option.bind (slc x0c x4.1 x4.2) fun x5 =>
  Option.bind (m_gfmatrix_Matrix_row x00_0 x00_1 x02) fun x6 =>
  Option.bind (slc x0c x6.1 x6.2) fun x7 =>
  Option.bind (slc x0c x4.1 x4.2) fun x9 =>
  m_gfmatrix_Matrix_swap_l0 x4 x6 x9 forever x0c (0 : Int)
def m_slices_Clone_byte_byte (x00 : List (BitVec 8)) : Option ((List (BitVec 8))) :=
  Option.bind (apd 1 ([] : List (BitVec 8)) x00) fun x9 =>
  some (x9)
def m_gfmatrix_Invert_j3 (x40 : Int) (r2 : (List (BitVec 8)) -> (List (BitVec 8)) -> Int -> Option (Int × Int × (List (BitVec 8)) × Int)) (x46 x47 : List (BitVec 8)) : Option (Int × Int × (List (BitVec 8)) × Int) :=
  Option.bind (ck (x40 + (1 : Int))) fun x119 =>
  r2 x46 x47 x119
def m_gfmatrix_Invert_j7 (x40 : Int) (r2 : (List (BitVec 8)) -> (List (BitVec 8)) -> Int -> Option (Int × Int × (List (BitVec 8)) × Int)) (x79 x80 : List (BitVec 8)) : Option (Int × Int × (List (BitVec 8)) × Int) :=
  m_gfmatrix_Invert_j3 x40 r2 x79 x80
def m_gfmatrix_Invert_l8 (x00_0 x00_1 : Int) (x25 : Int × Int × (List (BitVec 8)) × Int) (x40 : Int) (r2 : (List (BitVec 8)) -> (List (BitVec 8)) -> Int -> Option (Int × Int × (List (BitVec 8)) × Int)) : Nat -> (List (BitVec 8)) -> (List (BitVec 8)) -> Int -> Option (Int × Int × (List (BitVec 8)) × Int)
  | 0, _, _, _ => none
  | q86 + 1, x83, x84, x85 =>
    if x85 < x00_0 then
      Option.bind (m_gfmatrix_Matrix_at x00_0 x00_1 x83 x85 x40) fun x94 =>
      if x85 = x40 then
        Option.bind (ck (x85 + (1 : Int))) fun x99 =>
        (m_gfmatrix_Invert_l8 x00_0 x00_1 x25 x40 r2 q86) x83 x84 x99
      else
        Option.bind (m_gfmatrix_Matrix_row x00_0 x00_1 x85) fun x101 =>
        Option.bind (slc x83 x101.1 x101.2) fun x102 =>
        Option.bind (m_gfmatrix_Matrix_row x00_0 x00_1 x40) fun x103 =>
        Option.bind (slc x83 x103.1 x103.2) fun x104 =>
        Option.bind (m_gfmatrix_add x83 x101.1 x101.2 x103.1 x103.2 x94) fun x105 =>
        Option.bind (m_gfmatrix_Matrix_row x25.1 x25.2.1 x85) fun x107 =>
        Option.bind (slc x84 x107.1 x107.2) fun x108 =>
        Option.bind (m_gfmatrix_Matrix_row x25.1 x25.2.1 x40) fun x109 =>
        Option.bind (slc x84 x109.1 x109.2) fun x110 =>
        Option.bind (m_gfmatrix_add x84 x107.1 x107.2 x109.1 x109.2 x94) fun x111 =>
        Option.bind (ck (x85 + (1 : Int))) fun x113 =>
        (m_gfmatrix_Invert_l8 x00_0 x00_1 x25 x40 r2 q86) x105 x111 x113
    else
      m_gfmatrix_Invert_j7 x40 r2 x83 x84
def m_gfmatrix_Invert_j6 (x52 : Int) (r5 : Int -> Option (Int × Int × (List (BitVec 8)) × Int)) : Option (Int × Int × (List (BitVec 8)) × Int) :=
  Option.bind (ck (x52 + (1 : Int))) fun x115 =>
  r5 x115
def m_gfmatrix_Invert_j4 : Option (Int × Int × (List (BitVec 8)) × Int) :=
  some ((0 : Int), (0 : Int), ([] : List (BitVec 8)), (14 : Int))
def m_gfmatrix_Invert_l5 (x00_0 x00_1 : Int) (x25 : Int × Int × (List (BitVec 8)) × Int) (x38 x39 : List (BitVec 8)) (x40 : Int) (r2 : (List (BitVec 8)) -> (List (BitVec 8)) -> Int -> Option (Int × Int × (List (BitVec 8)) × Int)) : Nat -> Int -> Option (Int × Int × (List (BitVec 8)) × Int)
  | 0, _ => none
  | q53 + 1, x52 =>
    if x52 < x00_0 then
      Option.bind (m_gfmatrix_Matrix_at x00_0 x00_1 x38 x52 x40) fun x60 =>
      Option.bind (m_gf256_Inv x60) fun x62 =>
      if x62.2 = (0 : Int) then
        Option.bind (m_gfmatrix_Matrix_swap x38 x00_0 x00_1 x52 x40) fun x68 =>
        Option.bind (m_gfmatrix_Matrix_swap x39 x25.1 x25.2.1 x52 x40) fun x70 =>
        Option.bind (m_gfmatrix_Matrix_row x00_0 x00_1 x40) fun x72 =>
        Option.bind (slc x68 x72.1 x72.2) fun x73 =>
        Option.bind (m_gfmatrix_scale x68 x72.1 x72.2 x62.1) fun x74 =>
        Option.bind (m_gfmatrix_Matrix_row x25.1 x25.2.1 x40) fun x76 =>
        Option.bind (slc x70 x76.1 x76.2) fun x77 =>
        Option.bind (m_gfmatrix_scale x70 x76.1 x76.2 x62.1) fun x78 =>
        m_gfmatrix_Invert_l8 x00_0 x00_1 x25 x40 r2 forever x74 x78 (0 : Int)
      else
        m_gfmatrix_Invert_j6 x52 (m_gfmatrix_Invert_l5 x00_0 x00_1 x25 x38 x39 x40 r2 q53)
    else
      m_gfmatrix_Invert_j4
def m_gfmatrix_Invert_j1 (x25 : Int × Int × (List (BitVec 8)) × Int) (x35 : List (BitVec 8)) : Option (Int × Int × (List (BitVec 8)) × Int) :=
  some (x25.1, x25.2.1, x35, (0 : Int))
def m_gfmatrix_Invert_l2 (x00_0 x00_1 : Int) (x25 : Int × Int × (List (BitVec 8)) × Int) : Nat -> (List (BitVec 8)) -> (List (BitVec 8)) -> Int -> Option (Int × Int × (List (BitVec 8)) × Int)
  | 0, _, _, _ => none
  | q41 + 1, x38, x39, x40 =>
    if x40 < x00_0 then
      m_gfmatrix_Invert_l5 x00_0 x00_1 x25 x38 x39 x40 (m_gfmatrix_Invert_l2 x00_0 x00_1 x25 q41) forever x40
    else
      m_gfmatrix_Invert_j1 x25 x39
def m_gfmatrix_Invert_j0 (x00_0 x00_1 : Int) (x00_2 : List (BitVec 8)) : Option (Int × Int × (List (BitVec 8)) × Int) :=
  Option.bind (m_slices_Clone_byte_byte x00_2) fun x16 =>
  Option.bind (m_gfmatrix_Identity x00_0) fun x25 =>
  m_gfmatrix_Invert_l2 x00_0 x00_1 x25 forever x16 x25.2.2.1 (0 : Int)
def m_gfmatrix_Invert (x00_0 x00_1 : Int) (x00_2 : List (BitVec 8)) : Option (Int × Int × (List (BitVec 8)) × Int) :=
  Option.bind (m_gfmatrix_Valid x00_0 x00_1 x00_2) fun x6 =>
  if x6 = true then
    if x00_0 = x00_1 then
      m_gfmatrix_Invert_j0 x00_0 x00_1 x00_2
    else
      some ((0 : Int), (0 : Int), ([] : List (BitVec 8)), (1 : Int))
  else
    some ((0 : Int), (0 : Int), ([] : List (BitVec 8)), (1 : Int))
def m_gfmatrix_Apply_j5 (x52 : Int) (r4 : (List (List (BitVec 8))) -> Int -> Option ((List (List (BitVec 8))) × Int)) (x59 : List (List (BitVec 8))) : Option ((List (List (BitVec 8))) × Int) :=
  Option.bind (ck (x52 + (1 : Int))) fun x128 =>
  r4 x59 x128
def m_gfmatrix_Apply_l6 (x00_0 x00_1 : Int) (x00_2 : List (BitVec 8)) (x01 : List (List (BitVec 8))) (x52 : Int) (r4 : (List (List (BitVec 8))) -> Int -> Option ((List (List (BitVec 8))) × Int)) : Nat -> (List (List (BitVec 8))) -> Int -> Option ((List (List (BitVec 8))) × Int)
  | 0, _, _ => none
  | q86 + 1, x82, x85 =>
    if x85 < (x01.length : Int) then
      Option.bind (idx x01 x85) fun x93 =>
      Option.bind (idx x82 x52) fun x98 =>
      Option.bind (m_gfmatrix_Matrix_at x00_0 x00_1 x00_2 x52 x85) fun x102 =>
      Option.bind (m_gf256_MulAdd x98 x93 x102) fun x104 =>
      Option.bind (idx x82 x52) fun x112 =>
      Option.bind (upd x82 x52 x104.1) fun x118 =>
      Option.bind (ck (x85 + (1 : Int))) fun x126 =>
      (m_gfmatrix_Apply_l6 x00_0 x00_1 x00_2 x01 x52 r4 q86) x118 x126
    else
      m_gfmatrix_Apply_j5 x52 r4 x82
def m_gfmatrix_Apply_j3 (x43 : List (List (BitVec 8))) : Option ((List (List (BitVec 8))) × Int) :=
  some (x43, (0 : Int))
def m_gfmatrix_Apply_l4 (x00_0 x00_1 : Int) (x00_2 : List (BitVec 8)) (x01 x39 : List (List (BitVec 8))) : Nat -> (List (List (BitVec 8))) -> Int -> Option ((List (List (BitVec 8))) × Int)
  | 0, _, _ => none
  | q53 + 1, x49, x52 =>
    if x52 < (x39.length : Int) then
      Option.bind (idx x01 (0 : Int)) fun x65 =>
      Option.bind (mks 1 (x65.length : Int) 0#8) fun x70 =>
      Option.bind (idx x49 x52) fun x71 =>
      Option.bind (upd x49 x52 x70) fun x77 =>
      m_gfmatrix_Apply_l6 x00_0 x00_1 x00_2 x01 x52 (m_gfmatrix_Apply_l4 x00_0 x00_1 x00_2 x01 x39 q53) forever x77 (0 : Int)
    else
      m_gfmatrix_Apply_j3 x49
def m_gfmatrix_Apply_j1 (x00_0 x00_1 : Int) (x00_2 : List (BitVec 8)) (x01 : List (List (BitVec 8))) : Option ((List (List (BitVec 8))) × Int) :=
  Option.bind (mks 24 x00_0 ([] : List (BitVec 8))) fun x39 =>
  m_gfmatrix_Apply_l4 x00_0 x00_1 x00_2 x01 x39 forever x39 (0 : Int)
def m_gfmatrix_Apply_l2 (x00_0 x00_1 : Int) (x00_2 : List (BitVec 8)) (x01 : List (List (BitVec 8))) : Nat -> Int -> Option ((List (List (BitVec 8))) × Int)
  | 0, _ => none
  | q16 + 1, x15 =>
    if x15 < (x01.length : Int) then
      Option.bind (idx x01 x15) fun x23 =>
      Option.bind (idx x01 (0 : Int)) fun x28 =>
      if (x23.length : Int) = (x28.length : Int) then
        Option.bind (ck (x15 + (1 : Int))) fun x34 =>
        (m_gfmatrix_Apply_l2 x00_0 x00_1 x00_2 x01 q16) x34
      else
        some (([] : List (List (BitVec 8))), (1 : Int))
    else
      m_gfmatrix_Apply_j1 x00_0 x00_1 x00_2 x01
def m_gfmatrix_Apply_j0 (x00_0 x00_1 : Int) (x00_2 : List (BitVec 8)) (x01 : List (List (BitVec 8))) : Option ((List (List (BitVec 8))) × Int) :=
  m_gfmatrix_Apply_l2 x00_0 x00_1 x00_2 x01 forever (0 : Int)
def m_gfmatrix_Apply (x00_0 x00_1 : Int) (x00_2 : List (BitVec 8)) (x01 : List (List (BitVec 8))) : Option ((List (List (BitVec 8))) × Int) :=
  Option.bind (m_gfmatrix_Valid x00_0 x00_1 x00_2) fun x5 =>
  if x5 = true then
    if (x01.length : Int) = x00_1 then
      m_gfmatrix_Apply_j0 x00_0 x00_1 x00_2 x01
    else
      some (([] : List (List (BitVec 8))), (1 : Int))
  else
    some (([] : List (List (BitVec 8))), (1 : Int))
end Go.Proofs.YtcncappgheopgaaGreat
