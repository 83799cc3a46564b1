/-
  Models of functions of the program (f): what each computes, as an option. Printed by a program of ours (vcm.py). No conditions.
-/
import Derived.Test.YtcncappgheopgaaGreatMde
namespace Go.Proofs.YtcncappgheopgaaGreat
set_option linter.unusedVariables false
def m_crc32c_Extend_j2 (x7 : Int) (r1 : (BitVec 32) -> Int -> Option ((BitVec 32))) (x13 : BitVec 32) : Option ((BitVec 32)) :=
  Option.bind (ck (x7 + (1 : Int))) fun x37 =>
  r1 x13 x37
def m_crc32c_Extend_l3 (x7 : Int) (r1 : (BitVec 32) -> Int -> Option ((BitVec 32))) : Nat -> (BitVec 32) -> Int -> Option ((BitVec 32))
  | 0, _, _ => none
  | q21 + 1, x19, x20 =>
    if x20 < (8 : Int) then
      if (x19 &&& 1#32) = 1#32 then
        Option.bind (ck (x20 + (1 : Int))) fun x33 =>
        (m_crc32c_Extend_l3 x7 r1 q21) ((x19 >>> 1) ^^^ 2197175160#32) x33
      else
        Option.bind (ck (x20 + (1 : Int))) fun x35 =>
        (m_crc32c_Extend_l3 x7 r1 q21) (x19 >>> 1) x35
    else
      m_crc32c_Extend_j2 x7 r1 x19
def m_crc32c_Extend_j0 (x3 : BitVec 32) : Option ((BitVec 32)) :=
  some (~~~x3)
def m_crc32c_Extend_l1 (x01 : List (BitVec 8)) : Nat -> (BitVec 32) -> Int -> Option ((BitVec 32))
  | 0, _, _ => none
  | q8 + 1, x6, x7 =>
    if x7 < (x01.length : Int) then
      Option.bind (idx x01 x7) fun x16 =>
      m_crc32c_Extend_l3 x7 (m_crc32c_Extend_l1 x01 q8) forever (x6 ^^^ (x16.setWidth 32)) (0 : Int)
    else
      m_crc32c_Extend_j0 x6
def m_crc32c_Extend (x00 : BitVec 32) (x01 : List (BitVec 8)) : Option ((BitVec 32)) :=
  m_crc32c_Extend_l1 x01 forever (~~~x00) (0 : Int)
def m_crc32c_Sum (x00 : List (BitVec 8)) : Option ((BitVec 32)) :=
  Option.bind (m_crc32c_Extend 0#32 x00) fun x3 =>
  some (x3)
def m_r01_shift_j0 (x2 : BitVec 32) : Option ((BitVec 32)) :=
  some (x2)
def m_r01_shift_l1 : Nat -> (BitVec 32) -> Int -> Option ((BitVec 32))
  | 0, _, _ => none
  | q7 + 1, x5, x6 =>
    if x6 < (8 : Int) then
      if (x5 &&& 1#32) = 1#32 then
        Option.bind (ck (x6 + (1 : Int))) fun x17 =>
        (m_r01_shift_l1 q7) ((x5 >>> 1) ^^^ 2197175160#32) x17
      else
        Option.bind (ck (x6 + (1 : Int))) fun x20 =>
        (m_r01_shift_l1 q7) (x5 >>> 1) x20
    else
      m_r01_shift_j0 x5
def m_r01_shift (x00 : BitVec 32) : Option ((BitVec 32)) :=
  m_r01_shift_l1 forever x00 (0 : Int)
def m_r01_Extend_j0 (x3 : BitVec 32) : Option ((BitVec 32)) :=
  some (~~~x3)
def m_r01_Extend_l1 (x01 : List (BitVec 8)) : Nat -> (BitVec 32) -> Int -> Option ((BitVec 32))
  | 0, _, _ => none
  | q8 + 1, x6, x7 =>
    if x7 < (x01.length : Int) then
      Option.bind (idx x01 x7) fun x15 =>
      Option.bind (m_r01_shift (x6 ^^^ (x15.setWidth 32))) fun x16 =>
      Option.bind (ck (x7 + (1 : Int))) fun x19 =>
      (m_r01_Extend_l1 x01 q8) x16 x19
    else
      m_r01_Extend_j0 x6
def m_r01_Extend (x00 : BitVec 32) (x01 : List (BitVec 8)) : Option ((BitVec 32)) :=
  m_r01_Extend_l1 x01 forever (~~~x00) (0 : Int)
def m_r01_Sum (x00 : List (BitVec 8)) : Option ((BitVec 32)) :=
  Option.bind (m_r01_Extend 0#32 x00) fun x3 =>
  some (x3)
def m_needle_Size (x00 : Int) : Option (Int) :=
  if x00 < (0 : Int) then
    some ((0 : Int))
  else
    if (4096 : Int) < x00 then
      some ((0 : Int))
    else
      Option.bind (ck ((20 : Int) + x00)) fun x9 =>
      Option.bind (ck (x9 + (4 : Int))) fun x10 =>
      Option.bind (ck (x10 + (8 : Int))) fun x11 =>
      Option.bind (ck (x11 - (1 : Int))) fun x12 =>
      Option.bind (dvi x12 (8 : Int)) fun x13 =>
      Option.bind (ck (x13 * (8 : Int))) fun x14 =>
      some (x14)
def m_r06_Size (x00 : Int) : Option (Int) :=
  if x00 < (0 : Int) then
    some ((0 : Int))
  else
    if (4096 : Int) < x00 then
      some ((0 : Int))
    else
      Option.bind (ck ((20 : Int) + x00)) fun x9 =>
      Option.bind (ck (x9 + (4 : Int))) fun x10 =>
      Option.bind (ck (x10 + (7 : Int))) fun x11 =>
      Option.bind (dvi x11 (8 : Int)) fun x12 =>
      Option.bind (ck (x12 * (8 : Int))) fun x13 =>
      some (x13)
def m_r06_Valid (x00_0 : BitVec 64) (x00_1 : BitVec 32) (x00_2 : Bool) (x00_3 : List (BitVec 8)) : Option (Bool) :=
  if (x00_3.length : Int) <= (4096 : Int) then
    if x00_2 = true then
      some ((!(decide ((0 : Int) < (x00_3.length : Int)))))
    else
      some (true)
  else
    some (false)
def m_needle_big_j0 (x3 : BitVec 64) : Option ((BitVec 64)) :=
  some (x3)
def m_needle_big_l1 (x00 : List (BitVec 8)) : Nat -> (BitVec 64) -> Int -> Option ((BitVec 64))
  | 0, _, _ => none
  | q8 + 1, x6, x7 =>
    if x7 < (x00.length : Int) then
      Option.bind (idx x00 x7) fun x15 =>
      Option.bind (ck (x7 + (1 : Int))) fun x18 =>
      (m_needle_big_l1 x00 q8) ((x6 <<< 8) ||| (x15.setWidth 64)) x18
    else
      m_needle_big_j0 x6
def m_needle_big (x00 : List (BitVec 8)) : Option ((BitVec 64)) :=
  m_needle_big_l1 x00 forever 0#64 (0 : Int)
def m_r06_Value_j0 (x3 : BitVec 64) : Option ((BitVec 64)) :=
  some (x3)
def m_r06_Value_l1 (x00 : List (BitVec 8)) : Nat -> (BitVec 64) -> Int -> Option ((BitVec 64))
  | 0, _, _ => none
  | q8 + 1, x6, x7 =>
    if x7 < (x00.length : Int) then
      Option.bind (idx x00 x7) fun x15 =>
      Option.bind (ck (x7 + (1 : Int))) fun x17 =>
      (m_r06_Value_l1 x00 q8) ((x6 <<< 8) ||| (x15.setWidth 64)) x17
    else
      m_r06_Value_j0 x6
def m_r06_Value (x00 : List (BitVec 8)) : Option ((BitVec 64)) :=
  m_r06_Value_l1 x00 forever 0#64 (0 : Int)
def m_r06_Number_j0 (x8 : List (BitVec 8)) : Option ((List (BitVec 8))) :=
  some (x8)
def m_r06_Number_l1 (x00 : BitVec 64) : Nat -> (List (BitVec 8)) -> Int -> Option ((List (BitVec 8)))
  | 0, _, _ => none
  | q19 + 1, x17, x18 =>
    if (0 : Int) <= x18 then
      Option.bind (ck ((8 : Int) * x18)) fun x26 =>
      Option.bind (apd 1 x17 ([(x00 >>> (BitVec.ofInt 64 x26).toNat).setWidth 8] : List (BitVec 8))) fun x28 =>
      Option.bind (ck (x18 - (1 : Int))) fun x32 =>
      (m_r06_Number_l1 x00 q19) x28 x32
    else
      m_r06_Number_j0 x17
def m_r06_Number (x00 : BitVec 64) (x01 : Int) : Option ((List (BitVec 8))) :=
  Option.bind (ck (x01 - (1 : Int))) fun x11 =>
  m_r06_Number_l1 x00 forever ([] : List (BitVec 8)) x11
def m_r06_Check (x00 : List (BitVec 8)) : Option ((List (BitVec 8))) :=
  Option.bind (m_r01_Sum x00) fun x3 =>
  some (([x3.setWidth 8, (x3 >>> 8).setWidth 8, (x3 >>> 16).setWidth 8, (x3 >>> 24).setWidth 8] : List (BitVec 8)))
def m_slices_Equal_byte_byte_j0 : Option (Bool) :=
  some (true)
def m_slices_Equal_byte_byte_l1 (x00 x01 : List (BitVec 8)) : Nat -> Int -> Option (Bool)
  | 0, _ => none
  | q8 + 1, x7 =>
    if x7 < (x00.length : Int) then
      Option.bind (idx x00 x7) fun x16 =>
      Option.bind (idx x01 x7) fun x17 =>
      if x16 = x17 then
        Option.bind (ck (x7 + (1 : Int))) fun x20 =>
        (m_slices_Equal_byte_byte_l1 x00 x01 q8) x20
      else
        some (false)
    else
      m_slices_Equal_byte_byte_j0
def m_slices_Equal_byte_byte (x00 x01 : List (BitVec 8)) : Option (Bool) :=
  if (x00.length : Int) = (x01.length : Int) then
    m_slices_Equal_byte_byte_l1 x00 x01 forever (0 : Int)
  else
    some (false)
def m_r06_Encode_j1 (x77 : List (BitVec 8)) : Option ((List (BitVec 8)) × Int) :=
  some (x77, (0 : Int))
def m_r06_Encode_l2 (x00_3 : List (BitVec 8)) : Nat -> (List (BitVec 8)) -> Option ((List (BitVec 8)) × Int)
  | 0, _ => none
  | q83 + 1, x82 =>
    Option.bind (m_r06_Size (x00_3.length : Int)) fun x87 =>
    if (x82.length : Int) < x87 then
      Option.bind (apd 1 x82 ([0#8] : List (BitVec 8))) fun x92 =>
      (m_r06_Encode_l2 x00_3 q83) x92
    else
      m_r06_Encode_j1 x82
def m_r06_Encode_j0 (x00_0 : BitVec 64) (x00_1 : BitVec 32) (x00_3 x15 : List (BitVec 8)) : Option ((List (BitVec 8)) × Int) :=
  Option.bind (m_r06_Number (x00_1.setWidth 64) (4 : Int)) fun x23 =>
  Option.bind (apd 1 x15 x23) fun x31 =>
  Option.bind (m_r06_Number x00_0 (8 : Int)) fun x35 =>
  Option.bind (apd 1 x31 x35) fun x43 =>
  Option.bind (m_r06_Number (BitVec.ofInt 64 (x00_3.length : Int)) (4 : Int)) fun x47 =>
  Option.bind (apd 1 x43 x47) fun x55 =>
  Option.bind (apd 1 x55 x00_3) fun x59 =>
  Option.bind (m_r06_Check x59) fun x63 =>
  Option.bind (apd 1 x59 x63) fun x71 =>
  m_r06_Encode_l2 x00_3 forever x71
def m_r06_Encode (x00_0 : BitVec 64) (x00_1 : BitVec 32) (x00_2 : Bool) (x00_3 : List (BitVec 8)) : Option ((List (BitVec 8)) × Int) :=
  if (4096 : Int) < (x00_3.length : Int) then
    some (([] : List (BitVec 8)), (8 : Int))
  else
    Option.bind (m_r06_Valid x00_0 x00_1 x00_2 x00_3) fun x10 =>
    if x10 = true then
      if x00_2 = true then
        Option.bind (idx ([78#8, 165#8, 0#8, 0#8] : List (BitVec 8)) (2 : Int)) fun x20 =>
        Option.bind (upd ([78#8, 165#8, 0#8, 0#8] : List (BitVec 8)) (2 : Int) 1#8) fun x21 =>
        m_r06_Encode_j0 x00_0 x00_1 x00_3 x21
      else
        m_r06_Encode_j0 x00_0 x00_1 x00_3 ([78#8, 165#8, 0#8, 0#8] : List (BitVec 8))
    else
      some (([] : List (BitVec 8)), (1 : Int))
def m_r06_Decode_j1 (x00 : List (BitVec 8)) (x39 x41 : Int) : Option ((BitVec 64) × (BitVec 32) × Bool × (List (BitVec 8)) × Int × Int) :=
  Option.bind (slc x00 (8 : Int) (16 : Int)) fun x79 =>
  Option.bind (m_r06_Value x79) fun x80 =>
  Option.bind (slc x00 (4 : Int) (8 : Int)) fun x82 =>
  Option.bind (m_r06_Value x82) fun x83 =>
  Option.bind (idx x00 (2 : Int)) fun x85 =>
  Option.bind (slc x00 (20 : Int) x41) fun x87 =>
  Option.bind (apd 1 ([] : List (BitVec 8)) x87) fun x88 =>
  some (x80, x83.setWidth 32, (x85 == 1#8), x88, x39, (0 : Int))
def m_r06_Decode_l2 (x00 : List (BitVec 8)) (x39 x41 : Int) : Nat -> Int -> Option ((BitVec 64) × (BitVec 32) × Bool × (List (BitVec 8)) × Int × Int)
  | 0, _ => none
  | q65 + 1, x64 =>
    if x64 < x39 then
      Option.bind (idx x00 x64) fun x72 =>
      if x72 = 0#8 then
        Option.bind (ck (x64 + (1 : Int))) fun x75 =>
        (m_r06_Decode_l2 x00 x39 x41 q65) x75
      else
        some (0#64, 0#32, false, ([] : List (BitVec 8)), (0 : Int), (3 : Int))
    else
      m_r06_Decode_j1 x00 x39 x41
def m_r06_Decode_j0 (x00 : List (BitVec 8)) (x10 : (BitVec 64)) : Option ((BitVec 64) × (BitVec 32) × Bool × (List (BitVec 8)) × Int × Int) :=
  Option.bind (m_r06_Size x10.toInt) fun x39 =>
  Option.bind (ck ((20 : Int) + x10.toInt)) fun x41 =>
  if (x00.length : Int) < x39 then
    some (0#64, 0#32, false, ([] : List (BitVec 8)), (0 : Int), (4 : Int))
  else
    Option.bind (slc x00 0 x41) fun x49 =>
    Option.bind (m_r06_Check x49) fun x50 =>
    Option.bind (ck (x41 + (4 : Int))) fun x58 =>
    Option.bind (slc x00 x41 x58) fun x59 =>
    if x50 = x59 then
      Option.bind (ck (x41 + (4 : Int))) fun x63 =>
      m_r06_Decode_l2 x00 x39 x41 forever x63
    else
      some (0#64, 0#32, false, ([] : List (BitVec 8)), (0 : Int), (5 : Int))
def m_r06_Decode (x00 : List (BitVec 8)) : Option ((BitVec 64) × (BitVec 32) × Bool × (List (BitVec 8)) × Int × Int) :=
  if (x00.length : Int) < (20 : Int) then
    some (0#64, 0#32, false, ([] : List (BitVec 8)), (0 : Int), (4 : Int))
  else
    Option.bind (slc x00 (16 : Int) (20 : Int)) fun x9 =>
    Option.bind (m_r06_Value x9) fun x10 =>
    Option.bind (idx x00 (0 : Int)) fun x14 =>
    if x14 = 78#8 then
      Option.bind (idx x00 (1 : Int)) fun x16 =>
      if x16 = 165#8 then
        Option.bind (idx x00 (2 : Int)) fun x18 =>
        if 1#8 < x18 then
          some (0#64, 0#32, false, ([] : List (BitVec 8)), (0 : Int), (3 : Int))
        else
          Option.bind (idx x00 (3 : Int)) fun x22 =>
          if x22 = 0#8 then
            if 4096#64 < x10 then
              some (0#64, 0#32, false, ([] : List (BitVec 8)), (0 : Int), (3 : Int))
            else
              Option.bind (idx x00 (2 : Int)) fun x27 =>
              if x27 = 1#8 then
                if 0#64 < x10 then
                  some (0#64, 0#32, false, ([] : List (BitVec 8)), (0 : Int), (3 : Int))
                else
                  m_r06_Decode_j0 x00 x10
              else
                m_r06_Decode_j0 x00 x10
          else
            some (0#64, 0#32, false, ([] : List (BitVec 8)), (0 : Int), (3 : Int))
      else
        some (0#64, 0#32, false, ([] : List (BitVec 8)), (0 : Int), (3 : Int))
    else
      some (0#64, 0#32, false, ([] : List (BitVec 8)), (0 : Int), (3 : Int))
def m_needle_Decode_j2 (x00 : List (BitVec 8)) (x39 x41 : Int) : Option ((BitVec 64) × (BitVec 32) × Bool × (List (BitVec 8)) × Int × Int) :=
  Option.bind (slc x00 (8 : Int) (16 : Int)) fun x106 =>
  Option.bind (m_needle_big x106) fun x107 =>
  Option.bind (slc x00 (4 : Int) (8 : Int)) fun x109 =>
  Option.bind (m_needle_big x109) fun x110 =>
  Option.bind (idx x00 (2 : Int)) fun x112 =>
  Option.bind (slc x00 (20 : Int) x41) fun x113 =>
  Option.bind (m_slices_Clone_byte_byte x113) fun x114 =>
  some (x107, x110.setWidth 32, (x112 == 1#8), x114, x39, (0 : Int))
def m_needle_Decode_l3 (x00 : List (BitVec 8)) (x39 x41 : Int) (x89 : List (BitVec 8)) : Nat -> Int -> Option ((BitVec 64) × (BitVec 32) × Bool × (List (BitVec 8)) × Int × Int)
  | 0, _ => none
  | q91 + 1, x90 =>
    if x90 < (x89.length : Int) then
      Option.bind (idx x89 x90) fun x98 =>
      if x98 = 0#8 then
        Option.bind (ck (x90 + (1 : Int))) fun x102 =>
        (m_needle_Decode_l3 x00 x39 x41 x89 q91) x102
      else
        some (0#64, 0#32, false, ([] : List (BitVec 8)), (0 : Int), (3 : Int))
    else
      m_needle_Decode_j2 x00 x39 x41
def m_needle_Decode_l1 (x00 : List (BitVec 8)) (x39 x41 : Int) (x51 : (BitVec 32)) : Nat -> (List (BitVec 8)) -> Int -> Option ((BitVec 64) × (BitVec 32) × Bool × (List (BitVec 8)) × Int × Int)
  | 0, _, _ => none
  | q61 + 1, x59, x60 =>
    if x60 < (4 : Int) then
      Option.bind (ck ((8 : Int) * x60)) fun x69 =>
      Option.bind (shru (x51.setWidth 64) x69) fun x70 =>
      Option.bind (apd 1 x59 ([x70.setWidth 8] : List (BitVec 8))) fun x72 =>
      Option.bind (ck (x60 + (1 : Int))) fun x78 =>
      (m_needle_Decode_l1 x00 x39 x41 x51 q61) x72 x78
    else
      Option.bind (ck (x41 + (4 : Int))) fun x81 =>
      Option.bind (slc x00 x41 x81) fun x82 =>
      Option.bind (m_slices_Equal_byte_byte x59 x82) fun x83 =>
      if x83 = true then
        Option.bind (ck (x41 + (4 : Int))) fun x88 =>
        Option.bind (slc x00 x88 x39) fun x89 =>
        m_needle_Decode_l3 x00 x39 x41 x89 forever (0 : Int)
      else
        some (0#64, 0#32, false, ([] : List (BitVec 8)), (0 : Int), (5 : Int))
def m_needle_Decode_j0 (x00 : List (BitVec 8)) (x10 : (BitVec 64)) : Option ((BitVec 64) × (BitVec 32) × Bool × (List (BitVec 8)) × Int × Int) :=
  Option.bind (m_needle_Size x10.toInt) fun x39 =>
  Option.bind (ck ((20 : Int) + x10.toInt)) fun x41 =>
  if (x00.length : Int) < x39 then
    some (0#64, 0#32, false, ([] : List (BitVec 8)), (0 : Int), (4 : Int))
  else
    Option.bind (slc x00 0 x41) fun x50 =>
    Option.bind (m_crc32c_Sum x50) fun x51 =>
    m_needle_Decode_l1 x00 x39 x41 x51 forever ([] : List (BitVec 8)) (0 : Int)
def m_needle_Decode (x00 : List (BitVec 8)) : Option ((BitVec 64) × (BitVec 32) × Bool × (List (BitVec 8)) × Int × Int) :=
  if (x00.length : Int) < (20 : Int) then
    some (0#64, 0#32, false, ([] : List (BitVec 8)), (0 : Int), (4 : Int))
  else
    Option.bind (slc x00 (16 : Int) (20 : Int)) fun x9 =>
    Option.bind (m_needle_big x9) fun x10 =>
    Option.bind (idx x00 (0 : Int)) fun x14 =>
    if x14 = 78#8 then
      Option.bind (idx x00 (1 : Int)) fun x16 =>
      if x16 = 165#8 then
        Option.bind (idx x00 (2 : Int)) fun x18 =>
        if 1#8 < x18 then
          some (0#64, 0#32, false, ([] : List (BitVec 8)), (0 : Int), (3 : Int))
        else
          Option.bind (idx x00 (3 : Int)) fun x22 =>
          if x22 = 0#8 then
            if 4096#64 < x10 then
              some (0#64, 0#32, false, ([] : List (BitVec 8)), (0 : Int), (3 : Int))
            else
              Option.bind (idx x00 (2 : Int)) fun x27 =>
              if x27 = 1#8 then
                if 0#64 < x10 then
                  some (0#64, 0#32, false, ([] : List (BitVec 8)), (0 : Int), (3 : Int))
                else
                  m_needle_Decode_j0 x00 x10
              else
                m_needle_Decode_j0 x00 x10
          else
            some (0#64, 0#32, false, ([] : List (BitVec 8)), (0 : Int), (3 : Int))
      else
        some (0#64, 0#32, false, ([] : List (BitVec 8)), (0 : Int), (3 : Int))
    else
      some (0#64, 0#32, false, ([] : List (BitVec 8)), (0 : Int), (3 : Int))
end Go.Proofs.YtcncappgheopgaaGreat
