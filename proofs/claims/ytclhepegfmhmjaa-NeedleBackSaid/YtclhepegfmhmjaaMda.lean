/-
  Models of functions of the program (a): what each computes, as a partial function. Printed by a program of ours (vcm.py). No conditions.
-/
import Derived.Test.YtclhepegfmhmjaaMo
namespace Go.Proofs.Ytclhepegfmhmjaa
set_option linter.unusedVariables false

def m_crc32c_Extend_j2 (x7 : Int) (r1 : (BitVec 32) → Int → Option ((BitVec 32))) (x13 : BitVec 32) : Option ((BitVec 32)) :=
  Option.bind (ck (x7 + (1 : Int))) fun x37 =>
  r1 x13 x37
def m_crc32c_Extend_l3 (x7 : Int) (r1 : (BitVec 32) → Int → Option ((BitVec 32))) : Nat → (BitVec 32) → Int → Option ((BitVec 32))
  | 0, _, _ => none
  | q21 + 1, x19, x20 =>
    if x20 < (8 : Int) then
      if (x19 &&& 1#32) = 1#32 then
        Option.bind (ck (x20 + (1 : Int))) fun x33 =>
        (m_crc32c_Extend_l3 x7 r1 q21) ((x19 >>> 1) ^^^ 2197175160#32) x33
      else
        Option.bind (ck (x20 + (1 : Int))) fun x35 =>
        (m_crc32c_Extend_l3 x7 r1 q21) (x19 >>> 1) x35
    else
      m_crc32c_Extend_j2 x7 r1 x19
def m_crc32c_Extend_j0 (x3 : BitVec 32) : Option ((BitVec 32)) :=
  some (~~~x3)
def m_crc32c_Extend_l1 (x01 : List (BitVec 8)) : Nat → (BitVec 32) → Int → Option ((BitVec 32))
  | 0, _, _ => none
  | q8 + 1, x6, x7 =>
    if x7 < (x01.length : Int) then
      Option.bind (idx x01 x7) fun x16 =>
      m_crc32c_Extend_l3 x7 (m_crc32c_Extend_l1 x01 q8) forever (x6 ^^^ (x16.setWidth 32)) (0 : Int)
    else
      m_crc32c_Extend_j0 x6
def m_crc32c_Extend (x00 : BitVec 32) (x01 : List (BitVec 8)) : Option ((BitVec 32)) :=
  m_crc32c_Extend_l1 x01 forever (~~~x00) (0 : Int)

def m_crc32c_Sum (x00 : List (BitVec 8)) : Option ((BitVec 32)) :=
  Option.bind (m_crc32c_Extend 0#32 x00) fun x3 =>
  some (x3)

def m_r01_shift_j0 (x2 : BitVec 32) : Option ((BitVec 32)) :=
  some (x2)
def m_r01_shift_l1 : Nat → (BitVec 32) → Int → Option ((BitVec 32))
  | 0, _, _ => none
  | q7 + 1, x5, x6 =>
    if x6 < (8 : Int) then
      if (x5 &&& 1#32) = 1#32 then
        Option.bind (ck (x6 + (1 : Int))) fun x17 =>
        (m_r01_shift_l1 q7) ((x5 >>> 1) ^^^ 2197175160#32) x17
      else
        Option.bind (ck (x6 + (1 : Int))) fun x20 =>
        (m_r01_shift_l1 q7) (x5 >>> 1) x20
    else
      m_r01_shift_j0 x5
def m_r01_shift (x00 : BitVec 32) : Option ((BitVec 32)) :=
  m_r01_shift_l1 forever x00 (0 : Int)

def m_r01_Extend_j0 (x3 : BitVec 32) : Option ((BitVec 32)) :=
  some (~~~x3)
def m_r01_Extend_l1 (x01 : List (BitVec 8)) : Nat → (BitVec 32) → Int → Option ((BitVec 32))
  | 0, _, _ => none
  | q8 + 1, x6, x7 =>
    if x7 < (x01.length : Int) then
      Option.bind (idx x01 x7) fun x15 =>
      Option.bind (m_r01_shift (x6 ^^^ (x15.setWidth 32))) fun x16 =>
      Option.bind (ck (x7 + (1 : Int))) fun x19 =>
      (m_r01_Extend_l1 x01 q8) x16 x19
    else
      m_r01_Extend_j0 x6
def m_r01_Extend (x00 : BitVec 32) (x01 : List (BitVec 8)) : Option ((BitVec 32)) :=
  m_r01_Extend_l1 x01 forever (~~~x00) (0 : Int)

def m_r01_Sum (x00 : List (BitVec 8)) : Option ((BitVec 32)) :=
  Option.bind (m_r01_Extend 0#32 x00) fun x3 =>
  some (x3)

def m_needle_Size (x00 : Int) : Option (Int) :=
  if x00 < (0 : Int) then
    some ((0 : Int))
  else
    if (4096 : Int) < x00 then
      some ((0 : Int))
    else
      Option.bind (ck ((20 : Int) + x00)) fun x9 =>
      Option.bind (ck (x9 + (4 : Int))) fun x10 =>
      Option.bind (ck (x10 + (8 : Int))) fun x11 =>
      Option.bind (ck (x11 - (1 : Int))) fun x12 =>
      Option.bind (dvi x12 (8 : Int)) fun x13 =>
      Option.bind (ck (x13 * (8 : Int))) fun x14 =>
      some (x14)

def m_r06_Size (x00 : Int) : Option (Int) :=
  if x00 < (0 : Int) then
    some ((0 : Int))
  else
    if (4096 : Int) < x00 then
      some ((0 : Int))
    else
      Option.bind (ck ((20 : Int) + x00)) fun x9 =>
      Option.bind (ck (x9 + (4 : Int))) fun x10 =>
      Option.bind (ck (x10 + (7 : Int))) fun x11 =>
      Option.bind (dvi x11 (8 : Int)) fun x12 =>
      Option.bind (ck (x12 * (8 : Int))) fun x13 =>
      some (x13)

def m_needle_Valid (x00_0 : BitVec 64) (x00_1 : BitVec 32) (x00_2 : Bool) (x00_3 : List (BitVec 8)) : Option (Bool) :=
  if (x00_3.length : Int) ≤ (4096 : Int) then
    if x00_2 = true then
      some ((!(decide ((0 : Int) < (x00_3.length : Int)))))
    else
      some (true)
  else
    some (false)

def m_r06_Valid (x00_0 : BitVec 64) (x00_1 : BitVec 32) (x00_2 : Bool) (x00_3 : List (BitVec 8)) : Option (Bool) :=
  if (x00_3.length : Int) ≤ (4096 : Int) then
    if x00_2 = true then
      some ((!(decide ((0 : Int) < (x00_3.length : Int)))))
    else
      some (true)
  else
    some (false)

def m_needle_big_j0 (x3 : BitVec 64) : Option ((BitVec 64)) :=
  some (x3)
def m_needle_big_l1 (x00 : List (BitVec 8)) : Nat → (BitVec 64) → Int → Option ((BitVec 64))
  | 0, _, _ => none
  | q8 + 1, x6, x7 =>
    if x7 < (x00.length : Int) then
      Option.bind (idx x00 x7) fun x15 =>
      Option.bind (ck (x7 + (1 : Int))) fun x18 =>
      (m_needle_big_l1 x00 q8) ((x6 <<< 8) ||| (x15.setWidth 64)) x18
    else
      m_needle_big_j0 x6
def m_needle_big (x00 : List (BitVec 8)) : Option ((BitVec 64)) :=
  m_needle_big_l1 x00 forever 0#64 (0 : Int)

def m_r06_Value_j0 (x3 : BitVec 64) : Option ((BitVec 64)) :=
  some (x3)
def m_r06_Value_l1 (x00 : List (BitVec 8)) : Nat → (BitVec 64) → Int → Option ((BitVec 64))
  | 0, _, _ => none
  | q8 + 1, x6, x7 =>
    if x7 < (x00.length : Int) then
      Option.bind (idx x00 x7) fun x15 =>
      Option.bind (ck (x7 + (1 : Int))) fun x17 =>
      (m_r06_Value_l1 x00 q8) ((x6 <<< 8) ||| (x15.setWidth 64)) x17
    else
      m_r06_Value_j0 x6
def m_r06_Value (x00 : List (BitVec 8)) : Option ((BitVec 64)) :=
  m_r06_Value_l1 x00 forever 0#64 (0 : Int)

def m_r06_Number_j0 (x8 : List (BitVec 8)) : Option ((List (BitVec 8))) :=
  some (x8)
def m_r06_Number_l1 (x00 : BitVec 64) : Nat → (List (BitVec 8)) → Int → Option ((List (BitVec 8)))
  | 0, _, _ => none
  | q19 + 1, x17, x18 =>
    if (0 : Int) ≤ x18 then
      Option.bind (ck ((8 : Int) * x18)) fun x26 =>
      Option.bind (apd 1 x17 ([(x00 >>> (BitVec.ofInt 64 x26).toNat).setWidth 8] : List (BitVec 8))) fun x28 =>
      Option.bind (ck (x18 - (1 : Int))) fun x32 =>
      (m_r06_Number_l1 x00 q19) x28 x32
    else
      m_r06_Number_j0 x17
def m_r06_Number (x00 : BitVec 64) (x01 : Int) : Option ((List (BitVec 8))) :=
  Option.bind (ck (x01 - (1 : Int))) fun x11 =>
  m_r06_Number_l1 x00 forever ([] : List (BitVec 8)) x11

def m_r06_Check (x00 : List (BitVec 8)) : Option ((List (BitVec 8))) :=
  Option.bind (m_r01_Sum x00) fun x3 =>
  some (([x3.setWidth 8, (x3 >>> 8).setWidth 8, (x3 >>> 16).setWidth 8, (x3 >>> 24).setWidth 8] : List (BitVec 8)))

end Go.Proofs.Ytclhepegfmhmjaa
