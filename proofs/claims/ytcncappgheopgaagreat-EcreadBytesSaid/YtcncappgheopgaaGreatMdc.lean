/-
  Models of functions of the program (c): what each computes, as an option. Printed by a program of ours (vcm.py). No conditions.
-/
import Derived.Test.YtcncappgheopgaaGreatMdb
namespace Go.Proofs.YtcncappgheopgaaGreat
set_option linter.unusedVariables false
def m_r03_size (x00 x01 : Int) : Option (Bool) :=
  if (1 : Int) <= x00 then
    if x00 <= (16 : Int) then
      if (1 : Int) <= x01 then
        some ((decide (x01 <= (16 : Int))))
      else
        some (false)
    else
      some (false)
  else
    some (false)
def m_r03_Valid (x00_0 x00_1 : Int) (x00_2 : List (BitVec 8)) : Option (Bool) :=
  Option.bind (m_r03_size x00_0 x00_1) fun x4 =>
  if x4 = true then
    Option.bind (ck (x00_0 * x00_1)) fun x7 =>
    some (((x00_2.length : Int) == x7))
  else
    some (false)
def m_r03_Identity_j0 (x00 : Int) (x13 : List (BitVec 8)) : Option (Int × Int × (List (BitVec 8)) × Int) :=
  some (x00, x00, x13, (0 : Int))
def m_r03_Identity_l1 (x00 : Int) : Nat -> (List (BitVec 8)) -> Int -> Option (Int × Int × (List (BitVec 8)) × Int)
  | 0, _, _ => none
  | q18 + 1, x16, x17 =>
    if x17 < x00 then
      Option.bind (ck (x17 * x00)) fun x25 =>
      Option.bind (ck (x25 + x17)) fun x26 =>
      Option.bind (idx x16 x26) fun x27 =>
      Option.bind (upd x16 x26 1#8) fun x28 =>
      Option.bind (ck (x17 + (1 : Int))) fun x30 =>
      (m_r03_Identity_l1 x00 q18) x28 x30
    else
      m_r03_Identity_j0 x00 x16
def m_r03_Identity (x00 : Int) : Option (Int × Int × (List (BitVec 8)) × Int) :=
  Option.bind (m_r03_size x00 x00) fun x5 =>
  if x5 = true then
    Option.bind (ck (x00 * x00)) fun x9 =>
    Option.bind (mks 1 x9 0#8) fun x11 =>
    m_r03_Identity_l1 x00 forever x11 (0 : Int)
  else
    some ((0 : Int), (0 : Int), ([] : List (BitVec 8)), (1 : Int))
def m_r03_Vandermonde_j2 (x24 : Int) (r1 : (List (BitVec 8)) -> Int -> Option (Int × Int × (List (BitVec 8)) × Int)) (x33 : List (BitVec 8)) : Option (Int × Int × (List (BitVec 8)) × Int) :=
  Option.bind (ck (x24 + (1 : Int))) fun x60 =>
  r1 x33 x60
def m_r03_Vandermonde_l3 (x01 x24 : Int) (r1 : (List (BitVec 8)) -> Int -> Option (Int × Int × (List (BitVec 8)) × Int)) : Nat -> (List (BitVec 8)) -> (BitVec 8) -> Int -> Option (Int × Int × (List (BitVec 8)) × Int)
  | 0, _, _, _ => none
  | q43 + 1, x40, x41, x42 =>
    if x42 < x01 then
      Option.bind (apd 1 x40 ([x41] : List (BitVec 8))) fun x51 =>
      Option.bind (m_r02_Mul x41 (BitVec.ofInt 8 x24)) fun x55 =>
      Option.bind (ck (x42 + (1 : Int))) fun x58 =>
      (m_r03_Vandermonde_l3 x01 x24 r1 q43) x51 x55 x58
    else
      m_r03_Vandermonde_j2 x24 r1 x40
def m_r03_Vandermonde_j0 (x00 x01 : Int) (x15 : List (BitVec 8)) : Option (Int × Int × (List (BitVec 8)) × Int) :=
  some (x00, x01, x15, (0 : Int))
def m_r03_Vandermonde_l1 (x00 x01 : Int) : Nat -> (List (BitVec 8)) -> Int -> Option (Int × Int × (List (BitVec 8)) × Int)
  | 0, _, _ => none
  | q25 + 1, x23, x24 =>
    if x24 < x00 then
      m_r03_Vandermonde_l3 x01 x24 (m_r03_Vandermonde_l1 x00 x01 q25) forever x23 1#8 (0 : Int)
    else
      m_r03_Vandermonde_j0 x00 x01 x23
def m_r03_Vandermonde (x00 x01 : Int) : Option (Int × Int × (List (BitVec 8)) × Int) :=
  Option.bind (m_r03_size x00 x01) fun x5 =>
  if x5 = true then
    m_r03_Vandermonde_l1 x00 x01 forever ([] : List (BitVec 8)) (0 : Int)
  else
    some ((0 : Int), (0 : Int), ([] : List (BitVec 8)), (1 : Int))
def m_r03_Mul_j5 (x52 : Int) (r4 : (List (BitVec 8)) -> Int -> Option (Int × Int × (List (BitVec 8)) × Int)) (x61 : List (BitVec 8)) : Option (Int × Int × (List (BitVec 8)) × Int) :=
  Option.bind (ck (x52 + (1 : Int))) fun x92 =>
  r4 x61 x92
def m_r03_Mul_j6 (x51 : List (BitVec 8)) (x52 : Int) (r4 : (List (BitVec 8)) -> Int -> Option (Int × Int × (List (BitVec 8)) × Int)) (x64 : BitVec 8) : Option (Int × Int × (List (BitVec 8)) × Int) :=
  Option.bind (apd 1 x51 ([x64] : List (BitVec 8))) fun x88 =>
  m_r03_Mul_j5 x52 r4 x88
def m_r03_Mul_l7 (x00_1 : Int) (x00_2 : List (BitVec 8)) (x01_1 : Int) (x01_2 : List (BitVec 8)) (x36 : Int) (x51 : List (BitVec 8)) (x52 : Int) (r4 : (List (BitVec 8)) -> Int -> Option (Int × Int × (List (BitVec 8)) × Int)) : Nat -> (BitVec 8) -> Int -> Option (Int × Int × (List (BitVec 8)) × Int)
  | 0, _, _ => none
  | q69 + 1, x67, x68 =>
    if x68 < x00_1 then
      Option.bind (ck (x36 * x00_1)) fun x76 =>
      Option.bind (ck (x76 + x68)) fun x77 =>
      Option.bind (idx x00_2 x77) fun x78 =>
      Option.bind (ck (x68 * x01_1)) fun x79 =>
      Option.bind (ck (x79 + x52)) fun x80 =>
      Option.bind (idx x01_2 x80) fun x81 =>
      Option.bind (m_r02_Mul x78 x81) fun x82 =>
      Option.bind (ck (x68 + (1 : Int))) fun x85 =>
      (m_r03_Mul_l7 x00_1 x00_2 x01_1 x01_2 x36 x51 x52 r4 q69) (x67 ^^^ x82) x85
    else
      m_r03_Mul_j6 x51 x52 r4 x67
def m_r03_Mul_j3 (x36 : Int) (r2 : (List (BitVec 8)) -> Int -> Option (Int × Int × (List (BitVec 8)) × Int)) (x45 : List (BitVec 8)) : Option (Int × Int × (List (BitVec 8)) × Int) :=
  Option.bind (ck (x36 + (1 : Int))) fun x94 =>
  r2 x45 x94
def m_r03_Mul_l4 (x00_1 : Int) (x00_2 : List (BitVec 8)) (x01_1 : Int) (x01_2 : List (BitVec 8)) (x36 : Int) (r2 : (List (BitVec 8)) -> Int -> Option (Int × Int × (List (BitVec 8)) × Int)) : Nat -> (List (BitVec 8)) -> Int -> Option (Int × Int × (List (BitVec 8)) × Int)
  | 0, _, _ => none
  | q53 + 1, x51, x52 =>
    if x52 < x01_1 then
      m_r03_Mul_l7 x00_1 x00_2 x01_1 x01_2 x36 x51 x52 (m_r03_Mul_l4 x00_1 x00_2 x01_1 x01_2 x36 r2 q53) forever 0#8 (0 : Int)
    else
      m_r03_Mul_j3 x36 r2 x51
def m_r03_Mul_j1 (x00_0 x01_1 : Int) (x27 : List (BitVec 8)) : Option (Int × Int × (List (BitVec 8)) × Int) :=
  some (x00_0, x01_1, x27, (0 : Int))
def m_r03_Mul_l2 (x00_0 x00_1 : Int) (x00_2 : List (BitVec 8)) (x01_1 : Int) (x01_2 : List (BitVec 8)) : Nat -> (List (BitVec 8)) -> Int -> Option (Int × Int × (List (BitVec 8)) × Int)
  | 0, _, _ => none
  | q37 + 1, x35, x36 =>
    if x36 < x00_0 then
      m_r03_Mul_l4 x00_1 x00_2 x01_1 x01_2 x36 (m_r03_Mul_l2 x00_0 x00_1 x00_2 x01_1 x01_2 q37) forever x35 (0 : Int)
    else
      m_r03_Mul_j1 x00_0 x01_1 x35
def m_r03_Mul_j0 (x00_0 x00_1 : Int) (x00_2 : List (BitVec 8)) (x01_1 : Int) (x01_2 : List (BitVec 8)) : Option (Int × Int × (List (BitVec 8)) × Int) :=
  m_r03_Mul_l2 x00_0 x00_1 x00_2 x01_1 x01_2 forever ([] : List (BitVec 8)) (0 : Int)
def m_r03_Mul (x00_0 x00_1 : Int) (x00_2 : List (BitVec 8)) (x01_0 x01_1 : Int) (x01_2 : List (BitVec 8)) : Option (Int × Int × (List (BitVec 8)) × Int) :=
  Option.bind (m_r03_Valid x00_0 x00_1 x00_2) fun x7 =>
  if x7 = true then
    Option.bind (m_r03_Valid x01_0 x01_1 x01_2) fun x10 =>
    if x10 = true then
      if x00_1 = x01_0 then
        m_r03_Mul_j0 x00_0 x00_1 x00_2 x01_1 x01_2
      else
        some ((0 : Int), (0 : Int), ([] : List (BitVec 8)), (1 : Int))
    else
      some ((0 : Int), (0 : Int), ([] : List (BitVec 8)), (1 : Int))
  else
    some ((0 : Int), (0 : Int), ([] : List (BitVec 8)), (1 : Int))
def m_r03_Pick_j3 (x00_1 : Int) (x00_2 : List (BitVec 8)) (x01 : List (Int)) (x31 : List (BitVec 8)) (x32 : Int) (r2 : (List (BitVec 8)) -> Int -> Option (Int × Int × (List (BitVec 8)) × Int)) : Option (Int × Int × (List (BitVec 8)) × Int) :=
  Option.bind (idx x01 x32) fun x50 =>
  Option.bind (ck (x50 * x00_1)) fun x51 =>
  Option.bind (idx x01 x32) fun x52 =>
  Option.bind (ck (x52 + (1 : Int))) fun x53 =>
  Option.bind (ck (x53 * x00_1)) fun x54 =>
  Option.bind (slc x00_2 x51 x54) fun x55 =>
  Option.bind (apd 1 x31 x55) fun x56 =>
  Option.bind (ck (x32 + (1 : Int))) fun x60 =>
  r2 x56 x60
def m_r03_Pick_j1 (x00_1 : Int) (x01 : List (Int)) (x23 : List (BitVec 8)) : Option (Int × Int × (List (BitVec 8)) × Int) :=
  some ((x01.length : Int), x00_1, x23, (0 : Int))
def m_r03_Pick_l2 (x00_0 x00_1 : Int) (x00_2 : List (BitVec 8)) (x01 : List (Int)) : Nat -> (List (BitVec 8)) -> Int -> Option (Int × Int × (List (BitVec 8)) × Int)
  | 0, _, _ => none
  | q33 + 1, x31, x32 =>
    if x32 < (x01.length : Int) then
      Option.bind (idx x01 x32) fun x41 =>
      if x41 < (0 : Int) then
        some ((0 : Int), (0 : Int), ([] : List (BitVec 8)), (1 : Int))
      else
        Option.bind (idx x01 x32) fun x45 =>
        if x00_0 <= x45 then
          some ((0 : Int), (0 : Int), ([] : List (BitVec 8)), (1 : Int))
        else
          m_r03_Pick_j3 x00_1 x00_2 x01 x31 x32 (m_r03_Pick_l2 x00_0 x00_1 x00_2 x01 q33)
    else
      m_r03_Pick_j1 x00_1 x01 x31
def m_r03_Pick_j0 (x00_0 x00_1 : Int) (x00_2 : List (BitVec 8)) (x01 : List (Int)) : Option (Int × Int × (List (BitVec 8)) × Int) :=
  m_r03_Pick_l2 x00_0 x00_1 x00_2 x01 forever ([] : List (BitVec 8)) (0 : Int)
def m_r03_Pick (x00_0 x00_1 : Int) (x00_2 : List (BitVec 8)) (x01 : List (Int)) : Option (Int × Int × (List (BitVec 8)) × Int) :=
  Option.bind (m_r03_Valid x00_0 x00_1 x00_2) fun x6 =>
  if x6 = true then
    Option.bind (m_r03_size (x01.length : Int) x00_1) fun x9 =>
    if x9 = true then
      m_r03_Pick_j0 x00_0 x00_1 x00_2 x01
    else
      some ((0 : Int), (0 : Int), ([] : List (BitVec 8)), (1 : Int))
  else
    some ((0 : Int), (0 : Int), ([] : List (BitVec 8)), (1 : Int))
def m_r03_add_l0 (x01 : Int) : Nat -> (List (BitVec 8)) -> Int -> Int -> (BitVec 8) -> Int -> Option (List (BitVec 8))
  | 0, _, _, _, _, _ => none
  | q7 + 1, x2, x3, x4, x5, x6 =>
    if x6 < x01 then
      Option.bind (ck (x3 * x01)) fun x14 =>
      Option.bind (ck (x14 + x6)) fun x15 =>
      Option.bind (idx x2 x15) fun x16 =>
      Option.bind (ck (x4 * x01)) fun x17 =>
      Option.bind (ck (x17 + x6)) fun x18 =>
      Option.bind (idx x2 x18) fun x19 =>
      Option.bind (m_r02_Mul x5 x19) fun x20 =>
      Option.bind (idx x2 x15) fun x22 =>
      Option.bind (upd x2 x15 (x16 ^^^ x20)) fun x23 =>
      Option.bind (ck (x6 + (1 : Int))) fun x43 =>
      (m_r03_add_l0 x01 q7) x23 x3 x4 x5 x43
    else
      some (x2)
def m_r03_add (x0c : List (BitVec 8)) (x01 x02 x03 : Int) (x04 : BitVec 8) : Option (List (BitVec 8)) :=
  m_r03_add_l0 x01 forever x0c x02 x03 x04 (0 : Int)
def m_r03_Invert_j3 (x35 : Int) (r2 : (List (BitVec 8)) -> (List (BitVec 8)) -> Int -> Option (Int × Int × (List (BitVec 8)) × Int)) (x41 x42 : List (BitVec 8)) : Option (Int × Int × (List (BitVec 8)) × Int) :=
  Option.bind (ck (x35 + (1 : Int))) fun x115 =>
  r2 x41 x42 x115
def m_r03_Invert_l7 (x00_0 x35 : Int) (r2 : (List (BitVec 8)) -> (List (BitVec 8)) -> Int -> Option (Int × Int × (List (BitVec 8)) × Int)) : Nat -> (List (BitVec 8)) -> (List (BitVec 8)) -> Int -> Option (Int × Int × (List (BitVec 8)) × Int)
  | 0, _, _, _ => none
  | q91 + 1, x88, x89, x90 =>
    if x90 < x00_0 then
      Option.bind (ck (x90 * x00_0)) fun x98 =>
      Option.bind (ck (x98 + x35)) fun x99 =>
      Option.bind (idx x88 x99) fun x100 =>
      if x90 = x35 then
        Option.bind (ck (x90 + (1 : Int))) fun x104 =>
        (m_r03_Invert_l7 x00_0 x35 r2 q91) x88 x89 x104
      else
        if x100 = 0#8 then
          Option.bind (ck (x90 + (1 : Int))) fun x107 =>
          (m_r03_Invert_l7 x00_0 x35 r2 q91) x88 x89 x107
        else
          Option.bind (m_r03_add x89 x00_0 x90 x35 x100) fun x109 =>
          Option.bind (m_r03_add x88 x00_0 x90 x35 x100) fun x111 =>
          Option.bind (ck (x90 + (1 : Int))) fun x113 =>
          (m_r03_Invert_l7 x00_0 x35 r2 q91) x111 x109 x113
    else
      m_r03_Invert_j3 x35 r2 x88 x89
def m_r03_Invert_j4 (x00_0 x35 : Int) (r2 : (List (BitVec 8)) -> (List (BitVec 8)) -> Int -> Option (Int × Int × (List (BitVec 8)) × Int)) (x44 x45 : List (BitVec 8)) : Option (Int × Int × (List (BitVec 8)) × Int) :=
  Option.bind (ck (x35 * x00_0)) fun x78 =>
  Option.bind (ck (x78 + x35)) fun x79 =>
  Option.bind (idx x44 x79) fun x80 =>
  Option.bind (m_r02_Inv x80) fun x81 =>
  Option.bind (m_r03_add x45 x00_0 x35 x35 (x81.1 ^^^ 1#8)) fun x84 =>
  Option.bind (m_r03_add x44 x00_0 x35 x35 (x81.1 ^^^ 1#8)) fun x86 =>
  m_r03_Invert_l7 x00_0 x35 r2 forever x86 x84 (0 : Int)
def m_r03_Invert_j5 (x00_0 : Int) (x33 x34 : List (BitVec 8)) (x35 : Int) (r2 : (List (BitVec 8)) -> (List (BitVec 8)) -> Int -> Option (Int × Int × (List (BitVec 8)) × Int)) (x54 : Int) : Option (Int × Int × (List (BitVec 8)) × Int) :=
  if x54 = x00_0 then
    some ((0 : Int), (0 : Int), ([] : List (BitVec 8)), (14 : Int))
  else
    Option.bind (m_r03_add x33 x00_0 x35 x54 1#8) fun x74 =>
    Option.bind (m_r03_add x34 x00_0 x35 x54 1#8) fun x76 =>
    m_r03_Invert_j4 x00_0 x35 r2 x74 x76
def m_r03_Invert_l6 (x00_0 : Int) (x33 x34 : List (BitVec 8)) (x35 : Int) (r2 : (List (BitVec 8)) -> (List (BitVec 8)) -> Int -> Option (Int × Int × (List (BitVec 8)) × Int)) : Nat -> Int -> Option (Int × Int × (List (BitVec 8)) × Int)
  | 0, _ => none
  | q57 + 1, x56 =>
    if x56 < x00_0 then
      Option.bind (ck (x56 * x00_0)) fun x62 =>
      Option.bind (ck (x62 + x35)) fun x63 =>
      Option.bind (idx x33 x63) fun x64 =>
      if x64 = 0#8 then
        Option.bind (ck (x56 + (1 : Int))) fun x67 =>
        (m_r03_Invert_l6 x00_0 x33 x34 x35 r2 q57) x67
      else
        m_r03_Invert_j5 x00_0 x33 x34 x35 r2 x56
    else
      m_r03_Invert_j5 x00_0 x33 x34 x35 r2 x56
def m_r03_Invert_j1 (x21 : Int × Int × (List (BitVec 8)) × Int) (x30 : List (BitVec 8)) : Option (Int × Int × (List (BitVec 8)) × Int) :=
  some (x21.1, x21.2.1, x30, (0 : Int))
def m_r03_Invert_l2 (x00_0 : Int) (x21 : Int × Int × (List (BitVec 8)) × Int) : Nat -> (List (BitVec 8)) -> (List (BitVec 8)) -> Int -> Option (Int × Int × (List (BitVec 8)) × Int)
  | 0, _, _, _ => none
  | q36 + 1, x33, x34, x35 =>
    if x35 < x00_0 then
      Option.bind (ck (x35 * x00_0)) fun x48 =>
      Option.bind (ck (x48 + x35)) fun x49 =>
      Option.bind (idx x33 x49) fun x50 =>
      if x50 = 0#8 then
        Option.bind (ck (x35 + (1 : Int))) fun x53 =>
        m_r03_Invert_l6 x00_0 x33 x34 x35 (m_r03_Invert_l2 x00_0 x21 q36) forever x53
      else
        m_r03_Invert_j4 x00_0 x35 (m_r03_Invert_l2 x00_0 x21 q36) x33 x34
    else
      m_r03_Invert_j1 x21 x34
def m_r03_Invert_j0 (x00_0 : Int) (x00_2 : List (BitVec 8)) : Option (Int × Int × (List (BitVec 8)) × Int) :=
  Option.bind (apd 1 ([] : List (BitVec 8)) x00_2) fun x17 =>
  Option.bind (m_r03_Identity x00_0) fun x21 =>
  m_r03_Invert_l2 x00_0 x21 forever x17 x21.2.2.1 (0 : Int)
def m_r03_Invert (x00_0 x00_1 : Int) (x00_2 : List (BitVec 8)) : Option (Int × Int × (List (BitVec 8)) × Int) :=
  Option.bind (m_r03_Valid x00_0 x00_1 x00_2) fun x6 =>
  if x6 = true then
    if x00_0 = x00_1 then
      m_r03_Invert_j0 x00_0 x00_2
    else
      some ((0 : Int), (0 : Int), ([] : List (BitVec 8)), (1 : Int))
  else
    some ((0 : Int), (0 : Int), ([] : List (BitVec 8)), (1 : Int))
def m_r03_Apply_j5 (x57 : Int) (r4 : (List (List (BitVec 8))) -> Int -> Option ((List (List (BitVec 8))) × Int)) (x67 : List (List (BitVec 8))) : Option ((List (List (BitVec 8))) × Int) :=
  Option.bind (ck (x57 + (1 : Int))) fun x128 =>
  r4 x67 x128
def m_r03_Apply_j6 (x54 : List (List (BitVec 8))) (x57 : Int) (r4 : (List (List (BitVec 8))) -> Int -> Option ((List (List (BitVec 8))) × Int)) (x83 : List (BitVec 8)) : Option ((List (List (BitVec 8))) × Int) :=
  Option.bind (apd 24 x54 ([x83] : List (List (BitVec 8)))) fun x122 =>
  m_r03_Apply_j5 x57 r4 x122
def m_r03_Apply_l7 (x00_1 : Int) (x00_2 : List (BitVec 8)) (x01 x54 : List (List (BitVec 8))) (x57 : Int) (r4 : (List (List (BitVec 8))) -> Int -> Option ((List (List (BitVec 8))) × Int)) : Nat -> (List (BitVec 8)) -> Int -> Option ((List (List (BitVec 8))) × Int)
  | 0, _, _ => none
  | q93 + 1, x91, x92 =>
    if x92 < x00_1 then
      Option.bind (idx x01 x92) fun x100 =>
      Option.bind (ck (x57 * x00_1)) fun x104 =>
      Option.bind (ck (x104 + x92)) fun x105 =>
      Option.bind (idx x00_2 x105) fun x106 =>
      Option.bind (m_r02_MulAdd x91 x100 x106) fun x107 =>
      Option.bind (ck (x92 + (1 : Int))) fun x116 =>
      (m_r03_Apply_l7 x00_1 x00_2 x01 x54 x57 r4 q93) x107.1 x116
    else
      m_r03_Apply_j6 x54 x57 r4 x91
def m_r03_Apply_j3 (x43 : List (List (BitVec 8))) : Option ((List (List (BitVec 8))) × Int) :=
  some (x43, (0 : Int))
def m_r03_Apply_l4 (x00_0 x00_1 : Int) (x00_2 : List (BitVec 8)) (x01 : List (List (BitVec 8))) : Nat -> (List (List (BitVec 8))) -> Int -> Option ((List (List (BitVec 8))) × Int)
  | 0, _, _ => none
  | q58 + 1, x54, x57 =>
    if x57 < x00_0 then
      Option.bind (idx x01 (0 : Int)) fun x72 =>
      Option.bind (mks 1 (x72.length : Int) 0#8) fun x77 =>
      m_r03_Apply_l7 x00_1 x00_2 x01 x54 x57 (m_r03_Apply_l4 x00_0 x00_1 x00_2 x01 q58) forever x77 (0 : Int)
    else
      m_r03_Apply_j3 x54
def m_r03_Apply_j1 (x00_0 x00_1 : Int) (x00_2 : List (BitVec 8)) (x01 : List (List (BitVec 8))) : Option ((List (List (BitVec 8))) × Int) :=
  m_r03_Apply_l4 x00_0 x00_1 x00_2 x01 forever ([] : List (List (BitVec 8))) (0 : Int)
def m_r03_Apply_l2 (x00_0 x00_1 : Int) (x00_2 : List (BitVec 8)) (x01 : List (List (BitVec 8))) : Nat -> Int -> Option ((List (List (BitVec 8))) × Int)
  | 0, _ => none
  | q16 + 1, x15 =>
    if x15 < (x01.length : Int) then
      Option.bind (idx x01 x15) fun x23 =>
      Option.bind (idx x01 (0 : Int)) fun x27 =>
      if (x23.length : Int) = (x27.length : Int) then
        Option.bind (ck (x15 + (1 : Int))) fun x33 =>
        (m_r03_Apply_l2 x00_0 x00_1 x00_2 x01 q16) x33
      else
        some (([] : List (List (BitVec 8))), (1 : Int))
    else
      m_r03_Apply_j1 x00_0 x00_1 x00_2 x01
def m_r03_Apply_j0 (x00_0 x00_1 : Int) (x00_2 : List (BitVec 8)) (x01 : List (List (BitVec 8))) : Option ((List (List (BitVec 8))) × Int) :=
  m_r03_Apply_l2 x00_0 x00_1 x00_2 x01 forever (0 : Int)
def m_r03_Apply (x00_0 x00_1 : Int) (x00_2 : List (BitVec 8)) (x01 : List (List (BitVec 8))) : Option ((List (List (BitVec 8))) × Int) :=
  Option.bind (m_r03_Valid x00_0 x00_1 x00_2) fun x5 =>
  if x5 = true then
    if (x01.length : Int) = x00_1 then
      m_r03_Apply_j0 x00_0 x00_1 x00_2 x01
    else
      some (([] : List (List (BitVec 8))), (1 : Int))
  else
    some (([] : List (List (BitVec 8))), (1 : Int))
end Go.Proofs.YtcncappgheopgaaGreat
