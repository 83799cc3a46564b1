/- A part of the proof. Conditions: as each theorem says. -/
import Derived.Test.YtcncappgheopgaaGreatMdb
namespace Go.Proofs.YtcncappgheopgaaGreat
set_option linter.unusedVariables false
def m_r03_size (x00 x01 : Int) : Option Bool :=
  if (1 : Int) <= x00 then
    if x00 <= (16 : Int) then
      if (1 : Int) <= x01 then
        some ((decide (x01 <= (16 : Int))))
      else
        some (false)
    else
      some (false)
  else
    some (false)
def m_r03_Valid (u0 u1 : Int) (u2 : By) : Option Bool :=
  (m_r03_size u0 u1).bind fun x4 =>
  if x4 = true then
    (ck (u0 * u1)).bind fun x7 =>
    some (((u2.length : Int) == x7))
  else
    some (false)
def m_r03_Identity_j0 (x00 : Int) (x13 : By) : Option (Int × Int × By × Int) :=
  some (x00, x00, x13, (0 : Int))
def m_r03_Identity_l1 (x00 : Int) : Nat -> By -> Int -> Option (Int × Int × By × Int)
  | 0, _, _ => none
  | q18 + 1, x16, x17 =>
    if x17 < x00 then
      (ck (x17 * x00)).bind fun x25 =>
      (ck (x25 + x17)).bind fun x26 =>
      (idx x16 x26).bind fun x27 =>
      (upd x16 x26 1#8).bind fun x28 =>
      (ck (x17 + (1 : Int))).bind fun x30 =>
      (m_r03_Identity_l1 x00 q18) x28 x30
    else
      m_r03_Identity_j0 x00 x16
def m_r03_Identity (x00 : Int) : Option (Int × Int × By × Int) :=
  (m_r03_size x00 x00).bind fun x5 =>
  if x5 = true then
    (ck (x00 * x00)).bind fun x9 =>
    (mks 1 x9 0#8).bind fun x11 =>
    m_r03_Identity_l1 x00 forever x11 (0 : Int)
  else
    some ((0 : Int), (0 : Int), ([] : By), (1 : Int))
def m_r03_Vandermonde_j2 (x24 : Int) (r1 : By -> Int -> Option (Int × Int × By × Int)) (x33 : By) : Option (Int × Int × By × Int) :=
  (ck (x24 + (1 : Int))).bind fun x60 =>
  r1 x33 x60
def m_r03_Vandermonde_l3 (x01 x24 : Int) (r1 : By -> Int -> Option (Int × Int × By × Int)) : Nat -> By -> (BitVec 8) -> Int -> Option (Int × Int × By × Int)
  | 0, _, _, _ => none
  | q43 + 1, x40, x41, x42 =>
    if x42 < x01 then
      (apd 1 x40 ([x41] : By)).bind fun x51 =>
      (m_r02_Mul x41 (BitVec.ofInt 8 x24)).bind fun x55 =>
      (ck (x42 + (1 : Int))).bind fun x58 =>
      (m_r03_Vandermonde_l3 x01 x24 r1 q43) x51 x55 x58
    else
      m_r03_Vandermonde_j2 x24 r1 x40
def m_r03_Vandermonde_j0 (x00 x01 : Int) (x15 : By) : Option (Int × Int × By × Int) :=
  some (x00, x01, x15, (0 : Int))
def m_r03_Vandermonde_l1 (x00 x01 : Int) : Nat -> By -> Int -> Option (Int × Int × By × Int)
  | 0, _, _ => none
  | q25 + 1, x23, x24 =>
    if x24 < x00 then
      m_r03_Vandermonde_l3 x01 x24 (m_r03_Vandermonde_l1 x00 x01 q25) forever x23 1#8 (0 : Int)
    else
      m_r03_Vandermonde_j0 x00 x01 x23
def m_r03_Vandermonde (x00 x01 : Int) : Option (Int × Int × By × Int) :=
  (m_r03_size x00 x01).bind fun x5 =>
  if x5 = true then
    m_r03_Vandermonde_l1 x00 x01 forever ([] : By) (0 : Int)
  else
    some ((0 : Int), (0 : Int), ([] : By), (1 : Int))
def m_r03_Mul_j5 (x52 : Int) (r4 : By -> Int -> Option (Int × Int × By × Int)) (x61 : By) : Option (Int × Int × By × Int) :=
  (ck (x52 + (1 : Int))).bind fun x92 =>
  r4 x61 x92
def m_r03_Mul_j6 (x51 : By) (x52 : Int) (r4 : By -> Int -> Option (Int × Int × By × Int)) (x64 : BitVec 8) : Option (Int × Int × By × Int) :=
  (apd 1 x51 ([x64] : By)).bind fun x88 =>
  m_r03_Mul_j5 x52 r4 x88
def m_r03_Mul_l7 (u1 : Int) (u2 : By) (v1 : Int) (v2 : By) (x36 : Int) (x51 : By) (x52 : Int) (r4 : By -> Int -> Option (Int × Int × By × Int)) : Nat -> (BitVec 8) -> Int -> Option (Int × Int × By × Int)
  | 0, _, _ => none
  | q69 + 1, x67, x68 =>
    if x68 < u1 then
      (ck (x36 * u1)).bind fun x76 =>
      (ck (x76 + x68)).bind fun x77 =>
      (idx u2 x77).bind fun x78 =>
      (ck (x68 * v1)).bind fun x79 =>
      (ck (x79 + x52)).bind fun x80 =>
      (idx v2 x80).bind fun x81 =>
      (m_r02_Mul x78 x81).bind fun x82 =>
      (ck (x68 + (1 : Int))).bind fun x85 =>
      (m_r03_Mul_l7 u1 u2 v1 v2 x36 x51 x52 r4 q69) (x67 ^^^ x82) x85
    else
      m_r03_Mul_j6 x51 x52 r4 x67
def m_r03_Mul_j3 (x36 : Int) (r2 : By -> Int -> Option (Int × Int × By × Int)) (x45 : By) : Option (Int × Int × By × Int) :=
  (ck (x36 + (1 : Int))).bind fun x94 =>
  r2 x45 x94
def m_r03_Mul_l4 (u1 : Int) (u2 : By) (v1 : Int) (v2 : By) (x36 : Int) (r2 : By -> Int -> Option (Int × Int × By × Int)) : Nat -> By -> Int -> Option (Int × Int × By × Int)
  | 0, _, _ => none
  | q53 + 1, x51, x52 =>
    if x52 < v1 then
      m_r03_Mul_l7 u1 u2 v1 v2 x36 x51 x52 (m_r03_Mul_l4 u1 u2 v1 v2 x36 r2 q53) forever 0#8 (0 : Int)
    else
      m_r03_Mul_j3 x36 r2 x51
def m_r03_Mul_j1 (u0 v1 : Int) (x27 : By) : Option (Int × Int × By × Int) :=
  some (u0, v1, x27, (0 : Int))
def m_r03_Mul_l2 (u0 u1 : Int) (u2 : By) (v1 : Int) (v2 : By) : Nat -> By -> Int -> Option (Int × Int × By × Int)
  | 0, _, _ => none
  | q37 + 1, x35, x36 =>
    if x36 < u0 then
      m_r03_Mul_l4 u1 u2 v1 v2 x36 (m_r03_Mul_l2 u0 u1 u2 v1 v2 q37) forever x35 (0 : Int)
    else
      m_r03_Mul_j1 u0 v1 x35
def m_r03_Mul_j0 (u0 u1 : Int) (u2 : By) (v1 : Int) (v2 : By) : Option (Int × Int × By × Int) :=
  m_r03_Mul_l2 u0 u1 u2 v1 v2 forever ([] : By) (0 : Int)
def m_r03_Mul (u0 u1 : Int) (u2 : By) (v0 v1 : Int) (v2 : By) : Option (Int × Int × By × Int) :=
  (m_r03_Valid u0 u1 u2).bind fun x7 =>
  if x7 = true then
    (m_r03_Valid v0 v1 v2).bind fun x10 =>
    if x10 = true then
      if u1 = v0 then
        m_r03_Mul_j0 u0 u1 u2 v1 v2
      else
        some ((0 : Int), (0 : Int), ([] : By), (1 : Int))
    else
      some ((0 : Int), (0 : Int), ([] : By), (1 : Int))
  else
    some ((0 : Int), (0 : Int), ([] : By), (1 : Int))
def m_r03_Pick_j3 (u1 : Int) (u2 : By) (x01 : List Int) (x31 : By) (x32 : Int) (r2 : By -> Int -> Option (Int × Int × By × Int)) : Option (Int × Int × By × Int) :=
  (idx x01 x32).bind fun x50 =>
  (ck (x50 * u1)).bind fun x51 =>
  (idx x01 x32).bind fun x52 =>
  (ck (x52 + (1 : Int))).bind fun x53 =>
  (ck (x53 * u1)).bind fun x54 =>
  (slc u2 x51 x54).bind fun x55 =>
  (apd 1 x31 x55).bind fun x56 =>
  (ck (x32 + (1 : Int))).bind fun x60 =>
  r2 x56 x60
def m_r03_Pick_j1 (u1 : Int) (x01 : List Int) (x23 : By) : Option (Int × Int × By × Int) :=
  some ((x01.length : Int), u1, x23, (0 : Int))
def m_r03_Pick_l2 (u0 u1 : Int) (u2 : By) (x01 : List Int) : Nat -> By -> Int -> Option (Int × Int × By × Int)
  | 0, _, _ => none
  | q33 + 1, x31, x32 =>
    if x32 < (x01.length : Int) then
      (idx x01 x32).bind fun x41 =>
      if x41 < (0 : Int) then
        some ((0 : Int), (0 : Int), ([] : By), (1 : Int))
      else
        (idx x01 x32).bind fun x45 =>
        if u0 <= x45 then
          some ((0 : Int), (0 : Int), ([] : By), (1 : Int))
        else
          m_r03_Pick_j3 u1 u2 x01 x31 x32 (m_r03_Pick_l2 u0 u1 u2 x01 q33)
    else
      m_r03_Pick_j1 u1 x01 x31
def m_r03_Pick_j0 (u0 u1 : Int) (u2 : By) (x01 : List Int) : Option (Int × Int × By × Int) :=
  m_r03_Pick_l2 u0 u1 u2 x01 forever ([] : By) (0 : Int)
def m_r03_Pick (u0 u1 : Int) (u2 : By) (x01 : List Int) : Option (Int × Int × By × Int) :=
  (m_r03_Valid u0 u1 u2).bind fun x6 =>
  if x6 = true then
    (m_r03_size (x01.length : Int) u1).bind fun x9 =>
    if x9 = true then
      m_r03_Pick_j0 u0 u1 u2 x01
    else
      some ((0 : Int), (0 : Int), ([] : By), (1 : Int))
  else
    some ((0 : Int), (0 : Int), ([] : By), (1 : Int))
def m_r03_add_l0 (x01 : Int) : Nat -> By -> Int -> Int -> (BitVec 8) -> Int -> Option By
  | 0, _, _, _, _, _ => none
  | q7 + 1, x2, x3, x4, x5, x6 =>
    if x6 < x01 then
      (ck (x3 * x01)).bind fun x14 =>
      (ck (x14 + x6)).bind fun x15 =>
      (idx x2 x15).bind fun x16 =>
      (ck (x4 * x01)).bind fun x17 =>
      (ck (x17 + x6)).bind fun x18 =>
      (idx x2 x18).bind fun x19 =>
      (m_r02_Mul x5 x19).bind fun x20 =>
      (idx x2 x15).bind fun x22 =>
      (upd x2 x15 (x16 ^^^ x20)).bind fun x23 =>
      (ck (x6 + (1 : Int))).bind fun x43 =>
      (m_r03_add_l0 x01 q7) x23 x3 x4 x5 x43
    else
      some (x2)
def m_r03_add (x0c : By) (x01 x02 x03 : Int) (x04 : BitVec 8) : Option By :=
  m_r03_add_l0 x01 forever x0c x02 x03 x04 (0 : Int)
def m_r03_Invert_j3 (x35 : Int) (r2 : By -> By -> Int -> Option (Int × Int × By × Int)) (x41 x42 : By) : Option (Int × Int × By × Int) :=
  (ck (x35 + (1 : Int))).bind fun x115 =>
  r2 x41 x42 x115
def m_r03_Invert_l7 (u0 x35 : Int) (r2 : By -> By -> Int -> Option (Int × Int × By × Int)) : Nat -> By -> By -> Int -> Option (Int × Int × By × Int)
  | 0, _, _, _ => none
  | q91 + 1, x88, x89, x90 =>
    if x90 < u0 then
      (ck (x90 * u0)).bind fun x98 =>
      (ck (x98 + x35)).bind fun x99 =>
      (idx x88 x99).bind fun x100 =>
      if x90 = x35 then
        (ck (x90 + (1 : Int))).bind fun x104 =>
        (m_r03_Invert_l7 u0 x35 r2 q91) x88 x89 x104
      else
        if x100 = 0#8 then
          (ck (x90 + (1 : Int))).bind fun x107 =>
          (m_r03_Invert_l7 u0 x35 r2 q91) x88 x89 x107
        else
          (m_r03_add x89 u0 x90 x35 x100).bind fun x109 =>
          (m_r03_add x88 u0 x90 x35 x100).bind fun x111 =>
          (ck (x90 + (1 : Int))).bind fun x113 =>
          (m_r03_Invert_l7 u0 x35 r2 q91) x111 x109 x113
    else
      m_r03_Invert_j3 x35 r2 x88 x89
def m_r03_Invert_j4 (u0 x35 : Int) (r2 : By -> By -> Int -> Option (Int × Int × By × Int)) (x44 x45 : By) : Option (Int × Int × By × Int) :=
  (ck (x35 * u0)).bind fun x78 =>
  (ck (x78 + x35)).bind fun x79 =>
  (idx x44 x79).bind fun x80 =>
  (m_r02_Inv x80).bind fun x81 =>
  (m_r03_add x45 u0 x35 x35 (x81.1 ^^^ 1#8)).bind fun x84 =>
  (m_r03_add x44 u0 x35 x35 (x81.1 ^^^ 1#8)).bind fun x86 =>
  m_r03_Invert_l7 u0 x35 r2 forever x86 x84 (0 : Int)
def m_r03_Invert_j5 (u0 : Int) (x33 x34 : By) (x35 : Int) (r2 : By -> By -> Int -> Option (Int × Int × By × Int)) (x54 : Int) : Option (Int × Int × By × Int) :=
  if x54 = u0 then
    some ((0 : Int), (0 : Int), ([] : By), (14 : Int))
  else
    (m_r03_add x33 u0 x35 x54 1#8).bind fun x74 =>
    (m_r03_add x34 u0 x35 x54 1#8).bind fun x76 =>
    m_r03_Invert_j4 u0 x35 r2 x74 x76
def m_r03_Invert_l6 (u0 : Int) (x33 x34 : By) (x35 : Int) (r2 : By -> By -> Int -> Option (Int × Int × By × Int)) : Nat -> Int -> Option (Int × Int × By × Int)
  | 0, _ => none
  | q57 + 1, x56 =>
    if x56 < u0 then
      (ck (x56 * u0)).bind fun x62 =>
      (ck (x62 + x35)).bind fun x63 =>
      (idx x33 x63).bind fun x64 =>
      if x64 = 0#8 then
        (ck (x56 + (1 : Int))).bind fun x67 =>
        (m_r03_Invert_l6 u0 x33 x34 x35 r2 q57) x67
      else
        m_r03_Invert_j5 u0 x33 x34 x35 r2 x56
    else
      m_r03_Invert_j5 u0 x33 x34 x35 r2 x56
def m_r03_Invert_j1 (x21 : Int × Int × By × Int) (x30 : By) : Option (Int × Int × By × Int) :=
  some (x21.1, x21.2.1, x30, (0 : Int))
def m_r03_Invert_l2 (u0 : Int) (x21 : Int × Int × By × Int) : Nat -> By -> By -> Int -> Option (Int × Int × By × Int)
  | 0, _, _, _ => none
  | q36 + 1, x33, x34, x35 =>
    if x35 < u0 then
      (ck (x35 * u0)).bind fun x48 =>
      (ck (x48 + x35)).bind fun x49 =>
      (idx x33 x49).bind fun x50 =>
      if x50 = 0#8 then
        (ck (x35 + (1 : Int))).bind fun x53 =>
        m_r03_Invert_l6 u0 x33 x34 x35 (m_r03_Invert_l2 u0 x21 q36) forever x53
      else
        m_r03_Invert_j4 u0 x35 (m_r03_Invert_l2 u0 x21 q36) x33 x34
    else
      m_r03_Invert_j1 x21 x34
def m_r03_Invert_j0 (u0 : Int) (u2 : By) : Option (Int × Int × By × Int) :=
  (apd 1 ([] : By) u2).bind fun x17 =>
  (m_r03_Identity u0).bind fun x21 =>
  m_r03_Invert_l2 u0 x21 forever x17 x21.2.2.1 (0 : Int)
def m_r03_Invert (u0 u1 : Int) (u2 : By) : Option (Int × Int × By × Int) :=
  (m_r03_Valid u0 u1 u2).bind fun x6 =>
  if x6 = true then
    if u0 = u1 then
      m_r03_Invert_j0 u0 u2
    else
      some ((0 : Int), (0 : Int), ([] : By), (1 : Int))
  else
    some ((0 : Int), (0 : Int), ([] : By), (1 : Int))
def m_r03_Apply_j5 (x57 : Int) (r4 : (List By) -> Int -> Option ((List By) × Int)) (x67 : List By) : Option ((List By) × Int) :=
  (ck (x57 + (1 : Int))).bind fun x128 =>
  r4 x67 x128
def m_r03_Apply_j6 (x54 : List By) (x57 : Int) (r4 : (List By) -> Int -> Option ((List By) × Int)) (x83 : By) : Option ((List By) × Int) :=
  (apd 24 x54 ([x83] : List By)).bind fun x122 =>
  m_r03_Apply_j5 x57 r4 x122
def m_r03_Apply_l7 (u1 : Int) (u2 : By) (x01 x54 : List By) (x57 : Int) (r4 : (List By) -> Int -> Option ((List By) × Int)) : Nat -> By -> Int -> Option ((List By) × Int)
  | 0, _, _ => none
  | q93 + 1, x91, x92 =>
    if x92 < u1 then
      (idx x01 x92).bind fun x100 =>
      (ck (x57 * u1)).bind fun x104 =>
      (ck (x104 + x92)).bind fun x105 =>
      (idx u2 x105).bind fun x106 =>
      (m_r02_MulAdd x91 x100 x106).bind fun x107 =>
      (ck (x92 + (1 : Int))).bind fun x116 =>
      (m_r03_Apply_l7 u1 u2 x01 x54 x57 r4 q93) x107.1 x116
    else
      m_r03_Apply_j6 x54 x57 r4 x91
def m_r03_Apply_j3 (x43 : List By) : Option ((List By) × Int) :=
  some (x43, (0 : Int))
def m_r03_Apply_l4 (u0 u1 : Int) (u2 : By) (x01 : List By) : Nat -> (List By) -> Int -> Option ((List By) × Int)
  | 0, _, _ => none
  | q58 + 1, x54, x57 =>
    if x57 < u0 then
      (idx x01 (0 : Int)).bind fun x72 =>
      (mks 1 (x72.length : Int) 0#8).bind fun x77 =>
      m_r03_Apply_l7 u1 u2 x01 x54 x57 (m_r03_Apply_l4 u0 u1 u2 x01 q58) forever x77 (0 : Int)
    else
      m_r03_Apply_j3 x54
def m_r03_Apply_j1 (u0 u1 : Int) (u2 : By) (x01 : List By) : Option ((List By) × Int) :=
  m_r03_Apply_l4 u0 u1 u2 x01 forever ([] : List By) (0 : Int)
def m_r03_Apply_l2 (u0 u1 : Int) (u2 : By) (x01 : List By) : Nat -> Int -> Option ((List By) × Int)
  | 0, _ => none
  | q16 + 1, x15 =>
    if x15 < (x01.length : Int) then
      (idx x01 x15).bind fun x23 =>
      (idx x01 (0 : Int)).bind fun x27 =>
      if (x23.length : Int) = (x27.length : Int) then
        (ck (x15 + (1 : Int))).bind fun x33 =>
        (m_r03_Apply_l2 u0 u1 u2 x01 q16) x33
      else
        some (([] : List By), (1 : Int))
    else
      m_r03_Apply_j1 u0 u1 u2 x01
def m_r03_Apply_j0 (u0 u1 : Int) (u2 : By) (x01 : List By) : Option ((List By) × Int) :=
  m_r03_Apply_l2 u0 u1 u2 x01 forever (0 : Int)
def m_r03_Apply (u0 u1 : Int) (u2 : By) (x01 : List By) : Option ((List By) × Int) :=
  (m_r03_Valid u0 u1 u2).bind fun x5 =>
  if x5 = true then
    if (x01.length : Int) = u1 then
      m_r03_Apply_j0 u0 u1 u2 x01
    else
      some (([] : List By), (1 : Int))
  else
    some (([] : List By), (1 : Int))
end Go.Proofs.YtcncappgheopgaaGreat
