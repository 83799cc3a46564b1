/- A part of the proof. Conditions: as each theorem says. -/
import Derived.Test.YtcncappgheopgaaGreatMde
namespace Go.Proofs.YtcncappgheopgaaGreat
set_option linter.unusedVariables false
def m_crc32c_Extend_j2 (x7 : Int) (r1 : (BitVec 32) -> Int -> Option ((BitVec 32))) (x13 : BitVec 32) : Option ((BitVec 32)) :=
  (ck (x7 + (1 : Int))).bind fun x37 =>
  r1 x13 x37
def m_crc32c_Extend_l3 (x7 : Int) (r1 : (BitVec 32) -> Int -> Option ((BitVec 32))) : Nat -> (BitVec 32) -> Int -> Option ((BitVec 32))
  | 0, _, _ => none
  | q21 + 1, x19, x20 =>
    if x20 < (8 : Int) then
      if (x19 &&& 1#32) = 1#32 then
        (ck (x20 + (1 : Int))).bind fun x33 =>
        (m_crc32c_Extend_l3 x7 r1 q21) ((x19 >>> 1) ^^^ 2197175160#32) x33
      else
        (ck (x20 + (1 : Int))).bind fun x35 =>
        (m_crc32c_Extend_l3 x7 r1 q21) (x19 >>> 1) x35
    else
      m_crc32c_Extend_j2 x7 r1 x19
def m_crc32c_Extend_j0 (x3 : BitVec 32) : Option ((BitVec 32)) :=
  some (~~~x3)
def m_crc32c_Extend_l1 (x01 : By) : Nat -> (BitVec 32) -> Int -> Option ((BitVec 32))
  | 0, _, _ => none
  | q8 + 1, x6, x7 =>
    if x7 < (x01.length : Int) then
      (idx x01 x7).bind fun x16 =>
      m_crc32c_Extend_l3 x7 (m_crc32c_Extend_l1 x01 q8) forever (x6 ^^^ (x16.setWidth 32)) (0 : Int)
    else
      m_crc32c_Extend_j0 x6
def m_crc32c_Extend (x00 : BitVec 32) (x01 : By) : Option ((BitVec 32)) :=
  m_crc32c_Extend_l1 x01 forever (~~~x00) (0 : Int)
def m_crc32c_Sum (x00 : By) : Option ((BitVec 32)) :=
  (m_crc32c_Extend 0#32 x00).bind fun x3 =>
  some (x3)
def m_r01_shift_j0 (x2 : BitVec 32) : Option ((BitVec 32)) :=
  some (x2)
def m_r01_shift_l1 : Nat -> (BitVec 32) -> Int -> Option ((BitVec 32))
  | 0, _, _ => none
  | q7 + 1, x5, x6 =>
    if x6 < (8 : Int) then
      if (x5 &&& 1#32) = 1#32 then
        (ck (x6 + (1 : Int))).bind fun x17 =>
        (m_r01_shift_l1 q7) ((x5 >>> 1) ^^^ 2197175160#32) x17
      else
        (ck (x6 + (1 : Int))).bind fun x20 =>
        (m_r01_shift_l1 q7) (x5 >>> 1) x20
    else
      m_r01_shift_j0 x5
def m_r01_shift (x00 : BitVec 32) : Option ((BitVec 32)) :=
  m_r01_shift_l1 forever x00 (0 : Int)
def m_r01_Extend_j0 (x3 : BitVec 32) : Option ((BitVec 32)) :=
  some (~~~x3)
def m_r01_Extend_l1 (x01 : By) : Nat -> (BitVec 32) -> Int -> Option ((BitVec 32))
  | 0, _, _ => none
  | q8 + 1, x6, x7 =>
    if x7 < (x01.length : Int) then
      (idx x01 x7).bind fun x15 =>
      (m_r01_shift (x6 ^^^ (x15.setWidth 32))).bind fun x16 =>
      (ck (x7 + (1 : Int))).bind fun x19 =>
      (m_r01_Extend_l1 x01 q8) x16 x19
    else
      m_r01_Extend_j0 x6
def m_r01_Extend (x00 : BitVec 32) (x01 : By) : Option ((BitVec 32)) :=
  m_r01_Extend_l1 x01 forever (~~~x00) (0 : Int)
def m_r01_Sum (x00 : By) : Option ((BitVec 32)) :=
  (m_r01_Extend 0#32 x00).bind fun x3 =>
  some (x3)
def m_needle_Size (x00 : Int) : Option Int :=
  if x00 < (0 : Int) then
    some ((0 : Int))
  else
    if (4096 : Int) < x00 then
      some ((0 : Int))
    else
      (ck ((20 : Int) + x00)).bind fun x9 =>
      (ck (x9 + (4 : Int))).bind fun x10 =>
      (ck (x10 + (8 : Int))).bind fun x11 =>
      (ck (x11 - (1 : Int))).bind fun x12 =>
      (dvi x12 (8 : Int)).bind fun x13 =>
      (ck (x13 * (8 : Int))).bind fun x14 =>
      some (x14)
def m_r06_Size (x00 : Int) : Option Int :=
  if x00 < (0 : Int) then
    some ((0 : Int))
  else
    if (4096 : Int) < x00 then
      some ((0 : Int))
    else
      (ck ((20 : Int) + x00)).bind fun x9 =>
      (ck (x9 + (4 : Int))).bind fun x10 =>
      (ck (x10 + (7 : Int))).bind fun x11 =>
      (dvi x11 (8 : Int)).bind fun x12 =>
      (ck (x12 * (8 : Int))).bind fun x13 =>
      some (x13)
def m_r06_Valid (u0 : BitVec 64) (u1 : BitVec 32) (u2 : Bool) (u3 : By) : Option Bool :=
  if (u3.length : Int) <= (4096 : Int) then
    if u2 = true then
      some ((!(decide ((0 : Int) < (u3.length : Int)))))
    else
      some (true)
  else
    some (false)
def m_needle_big_j0 (x3 : BitVec 64) : Option ((BitVec 64)) :=
  some (x3)
def m_needle_big_l1 (x00 : By) : Nat -> (BitVec 64) -> Int -> Option ((BitVec 64))
  | 0, _, _ => none
  | q8 + 1, x6, x7 =>
    if x7 < (x00.length : Int) then
      (idx x00 x7).bind fun x15 =>
      (ck (x7 + (1 : Int))).bind fun x18 =>
      (m_needle_big_l1 x00 q8) ((x6 <<< 8) ||| (x15.setWidth 64)) x18
    else
      m_needle_big_j0 x6
def m_needle_big (x00 : By) : Option ((BitVec 64)) :=
  m_needle_big_l1 x00 forever 0#64 (0 : Int)
def m_r06_Value_j0 (x3 : BitVec 64) : Option ((BitVec 64)) :=
  some (x3)
def m_r06_Value_l1 (x00 : By) : Nat -> (BitVec 64) -> Int -> Option ((BitVec 64))
  | 0, _, _ => none
  | q8 + 1, x6, x7 =>
    if x7 < (x00.length : Int) then
      (idx x00 x7).bind fun x15 =>
      (ck (x7 + (1 : Int))).bind fun x17 =>
      (m_r06_Value_l1 x00 q8) ((x6 <<< 8) ||| (x15.setWidth 64)) x17
    else
      m_r06_Value_j0 x6
def m_r06_Value (x00 : By) : Option ((BitVec 64)) :=
  m_r06_Value_l1 x00 forever 0#64 (0 : Int)
def m_r06_Number_j0 (x8 : By) : Option (By) :=
  some (x8)
def m_r06_Number_l1 (x00 : BitVec 64) : Nat -> By -> Int -> Option (By)
  | 0, _, _ => none
  | q19 + 1, x17, x18 =>
    if (0 : Int) <= x18 then
      (ck ((8 : Int) * x18)).bind fun x26 =>
      (apd 1 x17 ([(x00 >>> (BitVec.ofInt 64 x26).toNat).setWidth 8] : By)).bind fun x28 =>
      (ck (x18 - (1 : Int))).bind fun x32 =>
      (m_r06_Number_l1 x00 q19) x28 x32
    else
      m_r06_Number_j0 x17
def m_r06_Number (x00 : BitVec 64) (x01 : Int) : Option (By) :=
  (ck (x01 - (1 : Int))).bind fun x11 =>
  m_r06_Number_l1 x00 forever ([] : By) x11
def m_r06_Check (x00 : By) : Option (By) :=
  (m_r01_Sum x00).bind fun x3 =>
  some (([x3.setWidth 8, (x3 >>> 8).setWidth 8, (x3 >>> 16).setWidth 8, (x3 >>> 24).setWidth 8] : By))
def m_slices_Equal_byte_byte_j0 : Option Bool :=
  some (true)
def m_slices_Equal_byte_byte_l1 (x00 x01 : By) : Nat -> Int -> Option Bool
  | 0, _ => none
  | q8 + 1, x7 =>
    if x7 < (x00.length : Int) then
      (idx x00 x7).bind fun x16 =>
      (idx x01 x7).bind fun x17 =>
      if x16 = x17 then
        (ck (x7 + (1 : Int))).bind fun x20 =>
        (m_slices_Equal_byte_byte_l1 x00 x01 q8) x20
      else
        some (false)
    else
      m_slices_Equal_byte_byte_j0
def m_slices_Equal_byte_byte (x00 x01 : By) : Option Bool :=
  if (x00.length : Int) = (x01.length : Int) then
    m_slices_Equal_byte_byte_l1 x00 x01 forever (0 : Int)
  else
    some (false)
def m_r06_Encode_j1 (x77 : By) : Option (By × Int) :=
  some (x77, (0 : Int))
def m_r06_Encode_l2 (u3 : By) : Nat -> By -> Option (By × Int)
  | 0, _ => none
  | q83 + 1, x82 =>
    (m_r06_Size (u3.length : Int)).bind fun x87 =>
    if (x82.length : Int) < x87 then
      (apd 1 x82 ([0#8] : By)).bind fun x92 =>
      (m_r06_Encode_l2 u3 q83) x92
    else
      m_r06_Encode_j1 x82
def m_r06_Encode_j0 (u0 : BitVec 64) (u1 : BitVec 32) (u3 x15 : By) : Option (By × Int) :=
  (m_r06_Number (u1.setWidth 64) (4 : Int)).bind fun x23 =>
  (apd 1 x15 x23).bind fun x31 =>
  (m_r06_Number u0 (8 : Int)).bind fun x35 =>
  (apd 1 x31 x35).bind fun x43 =>
  (m_r06_Number (BitVec.ofInt 64 (u3.length : Int)) (4 : Int)).bind fun x47 =>
  (apd 1 x43 x47).bind fun x55 =>
  (apd 1 x55 u3).bind fun x59 =>
  (m_r06_Check x59).bind fun x63 =>
  (apd 1 x59 x63).bind fun x71 =>
  m_r06_Encode_l2 u3 forever x71
def m_r06_Encode (u0 : BitVec 64) (u1 : BitVec 32) (u2 : Bool) (u3 : By) : Option (By × Int) :=
  if (4096 : Int) < (u3.length : Int) then
    some (([] : By), (8 : Int))
  else
    (m_r06_Valid u0 u1 u2 u3).bind fun x10 =>
    if x10 = true then
      if u2 = true then
        (idx ([78#8, 165#8, 0#8, 0#8] : By) (2 : Int)).bind fun x20 =>
        (upd ([78#8, 165#8, 0#8, 0#8] : By) (2 : Int) 1#8).bind fun x21 =>
        m_r06_Encode_j0 u0 u1 u3 x21
      else
        m_r06_Encode_j0 u0 u1 u3 ([78#8, 165#8, 0#8, 0#8] : By)
    else
      some (([] : By), (1 : Int))
def m_r06_Decode_j1 (x00 : By) (x39 x41 : Int) : Option ((BitVec 64) × (BitVec 32) × Bool × By × Int × Int) :=
  (slc x00 (8 : Int) (16 : Int)).bind fun x79 =>
  (m_r06_Value x79).bind fun x80 =>
  (slc x00 (4 : Int) (8 : Int)).bind fun x82 =>
  (m_r06_Value x82).bind fun x83 =>
  (idx x00 (2 : Int)).bind fun x85 =>
  (slc x00 (20 : Int) x41).bind fun x87 =>
  (apd 1 ([] : By) x87).bind fun x88 =>
  some (x80, x83.setWidth 32, (x85 == 1#8), x88, x39, (0 : Int))
def m_r06_Decode_l2 (x00 : By) (x39 x41 : Int) : Nat -> Int -> Option ((BitVec 64) × (BitVec 32) × Bool × By × Int × Int)
  | 0, _ => none
  | q65 + 1, x64 =>
    if x64 < x39 then
      (idx x00 x64).bind fun x72 =>
      if x72 = 0#8 then
        (ck (x64 + (1 : Int))).bind fun x75 =>
        (m_r06_Decode_l2 x00 x39 x41 q65) x75
      else
        some (0#64, 0#32, false, ([] : By), (0 : Int), (3 : Int))
    else
      m_r06_Decode_j1 x00 x39 x41
def m_r06_Decode_j0 (x00 : By) (x10 : (BitVec 64)) : Option ((BitVec 64) × (BitVec 32) × Bool × By × Int × Int) :=
  (m_r06_Size x10.toInt).bind fun x39 =>
  (ck ((20 : Int) + x10.toInt)).bind fun x41 =>
  if (x00.length : Int) < x39 then
    some (0#64, 0#32, false, ([] : By), (0 : Int), (4 : Int))
  else
    (slc x00 0 x41).bind fun x49 =>
    (m_r06_Check x49).bind fun x50 =>
    (ck (x41 + (4 : Int))).bind fun x58 =>
    (slc x00 x41 x58).bind fun x59 =>
    if x50 = x59 then
      (ck (x41 + (4 : Int))).bind fun x63 =>
      m_r06_Decode_l2 x00 x39 x41 forever x63
    else
      some (0#64, 0#32, false, ([] : By), (0 : Int), (5 : Int))
def m_r06_Decode (x00 : By) : Option ((BitVec 64) × (BitVec 32) × Bool × By × Int × Int) :=
  if (x00.length : Int) < (20 : Int) then
    some (0#64, 0#32, false, ([] : By), (0 : Int), (4 : Int))
  else
    (slc x00 (16 : Int) (20 : Int)).bind fun x9 =>
    (m_r06_Value x9).bind fun x10 =>
    (idx x00 (0 : Int)).bind fun x14 =>
    if x14 = 78#8 then
      (idx x00 (1 : Int)).bind fun x16 =>
      if x16 = 165#8 then
        (idx x00 (2 : Int)).bind fun x18 =>
        if 1#8 < x18 then
          some (0#64, 0#32, false, ([] : By), (0 : Int), (3 : Int))
        else
          (idx x00 (3 : Int)).bind fun x22 =>
          if x22 = 0#8 then
            if 4096#64 < x10 then
              some (0#64, 0#32, false, ([] : By), (0 : Int), (3 : Int))
            else
              (idx x00 (2 : Int)).bind fun x27 =>
              if x27 = 1#8 then
                if 0#64 < x10 then
                  some (0#64, 0#32, false, ([] : By), (0 : Int), (3 : Int))
                else
                  m_r06_Decode_j0 x00 x10
              else
                m_r06_Decode_j0 x00 x10
          else
            some (0#64, 0#32, false, ([] : By), (0 : Int), (3 : Int))
      else
        some (0#64, 0#32, false, ([] : By), (0 : Int), (3 : Int))
    else
      some (0#64, 0#32, false, ([] : By), (0 : Int), (3 : Int))
def m_needle_Decode_j2 (x00 : By) (x39 x41 : Int) : Option ((BitVec 64) × (BitVec 32) × Bool × By × Int × Int) :=
  (slc x00 (8 : Int) (16 : Int)).bind fun x106 =>
  (m_needle_big x106).bind fun x107 =>
  (slc x00 (4 : Int) (8 : Int)).bind fun x109 =>
  (m_needle_big x109).bind fun x110 =>
  (idx x00 (2 : Int)).bind fun x112 =>
  (slc x00 (20 : Int) x41).bind fun x113 =>
  (m_slices_Clone_byte_byte x113).bind fun x114 =>
  some (x107, x110.setWidth 32, (x112 == 1#8), x114, x39, (0 : Int))
def m_needle_Decode_l3 (x00 : By) (x39 x41 : Int) (x89 : By) : Nat -> Int -> Option ((BitVec 64) × (BitVec 32) × Bool × By × Int × Int)
  | 0, _ => none
  | q91 + 1, x90 =>
    if x90 < (x89.length : Int) then
      (idx x89 x90).bind fun x98 =>
      if x98 = 0#8 then
        (ck (x90 + (1 : Int))).bind fun x102 =>
        (m_needle_Decode_l3 x00 x39 x41 x89 q91) x102
      else
        some (0#64, 0#32, false, ([] : By), (0 : Int), (3 : Int))
    else
      m_needle_Decode_j2 x00 x39 x41
def m_needle_Decode_l1 (x00 : By) (x39 x41 : Int) (x51 : (BitVec 32)) : Nat -> By -> Int -> Option ((BitVec 64) × (BitVec 32) × Bool × By × Int × Int)
  | 0, _, _ => none
  | q61 + 1, x59, x60 =>
    if x60 < (4 : Int) then
      (ck ((8 : Int) * x60)).bind fun x69 =>
      (shru (x51.setWidth 64) x69).bind fun x70 =>
      (apd 1 x59 ([x70.setWidth 8] : By)).bind fun x72 =>
      (ck (x60 + (1 : Int))).bind fun x78 =>
      (m_needle_Decode_l1 x00 x39 x41 x51 q61) x72 x78
    else
      (ck (x41 + (4 : Int))).bind fun x81 =>
      (slc x00 x41 x81).bind fun x82 =>
      (m_slices_Equal_byte_byte x59 x82).bind fun x83 =>
      if x83 = true then
        (ck (x41 + (4 : Int))).bind fun x88 =>
        (slc x00 x88 x39).bind fun x89 =>
        m_needle_Decode_l3 x00 x39 x41 x89 forever (0 : Int)
      else
        some (0#64, 0#32, false, ([] : By), (0 : Int), (5 : Int))
def m_needle_Decode_j0 (x00 : By) (x10 : (BitVec 64)) : Option ((BitVec 64) × (BitVec 32) × Bool × By × Int × Int) :=
  (m_needle_Size x10.toInt).bind fun x39 =>
  (ck ((20 : Int) + x10.toInt)).bind fun x41 =>
  if (x00.length : Int) < x39 then
    some (0#64, 0#32, false, ([] : By), (0 : Int), (4 : Int))
  else
    (slc x00 0 x41).bind fun x50 =>
    (m_crc32c_Sum x50).bind fun x51 =>
    m_needle_Decode_l1 x00 x39 x41 x51 forever ([] : By) (0 : Int)
def m_needle_Decode (x00 : By) : Option ((BitVec 64) × (BitVec 32) × Bool × By × Int × Int) :=
  if (x00.length : Int) < (20 : Int) then
    some (0#64, 0#32, false, ([] : By), (0 : Int), (4 : Int))
  else
    (slc x00 (16 : Int) (20 : Int)).bind fun x9 =>
    (m_needle_big x9).bind fun x10 =>
    (idx x00 (0 : Int)).bind fun x14 =>
    if x14 = 78#8 then
      (idx x00 (1 : Int)).bind fun x16 =>
      if x16 = 165#8 then
        (idx x00 (2 : Int)).bind fun x18 =>
        if 1#8 < x18 then
          some (0#64, 0#32, false, ([] : By), (0 : Int), (3 : Int))
        else
          (idx x00 (3 : Int)).bind fun x22 =>
          if x22 = 0#8 then
            if 4096#64 < x10 then
              some (0#64, 0#32, false, ([] : By), (0 : Int), (3 : Int))
            else
              (idx x00 (2 : Int)).bind fun x27 =>
              if x27 = 1#8 then
                if 0#64 < x10 then
                  some (0#64, 0#32, false, ([] : By), (0 : Int), (3 : Int))
                else
                  m_needle_Decode_j0 x00 x10
              else
                m_needle_Decode_j0 x00 x10
          else
            some (0#64, 0#32, false, ([] : By), (0 : Int), (3 : Int))
      else
        some (0#64, 0#32, false, ([] : By), (0 : Int), (3 : Int))
    else
      some (0#64, 0#32, false, ([] : By), (0 : Int), (3 : Int))
def m_r06_Same (u0 : BitVec 64) (u1 : BitVec 32) (u2 : Bool) (u3 : By) (v0 : BitVec 64) (v1 : BitVec 32) (v2 : Bool) (v3 : By) : Option Bool :=
  if u0 = v0 then
    if u1 = v1 then
      if u2 = v2 then
        some ((u3 == v3))
      else
        some (false)
    else
      some (false)
  else
    some (false)
end Go.Proofs.YtcncappgheopgaaGreat
