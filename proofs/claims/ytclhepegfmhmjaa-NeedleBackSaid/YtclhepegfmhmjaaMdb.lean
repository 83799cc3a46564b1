/-
  Models of functions of the program (b): what each computes, as a partial function. Printed by a program of ours (vcm.py). No conditions.
-/
import Derived.Test.YtclhepegfmhmjaaMda
namespace Go.Proofs.Ytclhepegfmhmjaa
set_option linter.unusedVariables false

def m_slices_Equal_byte_byte_j0 : Option (Bool) :=
  some (true)
def m_slices_Equal_byte_byte_l1 (x00 : List (BitVec 8)) (x01 : List (BitVec 8)) : Nat → Int → Option (Bool)
  | 0, _ => none
  | q8 + 1, x7 =>
    if x7 < (x00.length : Int) then
      Option.bind (idx x00 x7) fun x16 =>
      Option.bind (idx x01 x7) fun x17 =>
      if x16 = x17 then
        Option.bind (ck (x7 + (1 : Int))) fun x20 =>
        (m_slices_Equal_byte_byte_l1 x00 x01 q8) x20
      else
        some (false)
    else
      m_slices_Equal_byte_byte_j0
def m_slices_Equal_byte_byte (x00 : List (BitVec 8)) (x01 : List (BitVec 8)) : Option (Bool) :=
  if (x00.length : Int) = (x01.length : Int) then
    m_slices_Equal_byte_byte_l1 x00 x01 forever (0 : Int)
  else
    some (false)

def m_r06_Encode_j1 (x77 : List (BitVec 8)) : Option ((List (BitVec 8)) × Int) :=
  some (x77, (0 : Int))
def m_r06_Encode_l2 (x00_3 : List (BitVec 8)) : Nat → (List (BitVec 8)) → Option ((List (BitVec 8)) × Int)
  | 0, _ => none
  | q83 + 1, x82 =>
    Option.bind (m_r06_Size (x00_3.length : Int)) fun x87 =>
    if (x82.length : Int) < x87 then
      Option.bind (apd 1 x82 ([0#8] : List (BitVec 8))) fun x92 =>
      (m_r06_Encode_l2 x00_3 q83) x92
    else
      m_r06_Encode_j1 x82
def m_r06_Encode_j0 (x00_0 : BitVec 64) (x00_1 : BitVec 32) (x00_3 : List (BitVec 8)) (x15 : List (BitVec 8)) : Option ((List (BitVec 8)) × Int) :=
  Option.bind (m_r06_Number (x00_1.setWidth 64) (4 : Int)) fun x23 =>
  Option.bind (apd 1 x15 x23) fun x31 =>
  Option.bind (m_r06_Number x00_0 (8 : Int)) fun x35 =>
  Option.bind (apd 1 x31 x35) fun x43 =>
  Option.bind (m_r06_Number (BitVec.ofInt 64 (x00_3.length : Int)) (4 : Int)) fun x47 =>
  Option.bind (apd 1 x43 x47) fun x55 =>
  Option.bind (apd 1 x55 x00_3) fun x59 =>
  Option.bind (m_r06_Check x59) fun x63 =>
  Option.bind (apd 1 x59 x63) fun x71 =>
  m_r06_Encode_l2 x00_3 forever x71
def m_r06_Encode (x00_0 : BitVec 64) (x00_1 : BitVec 32) (x00_2 : Bool) (x00_3 : List (BitVec 8)) : Option ((List (BitVec 8)) × Int) :=
  if (4096 : Int) < (x00_3.length : Int) then
    some (([] : List (BitVec 8)), (8 : Int))
  else
    Option.bind (m_r06_Valid x00_0 x00_1 x00_2 x00_3) fun x10 =>
    if x10 = true then
      if x00_2 = true then
        Option.bind (idx ([78#8, 165#8, 0#8, 0#8] : List (BitVec 8)) (2 : Int)) fun x20 =>
        Option.bind (upd ([78#8, 165#8, 0#8, 0#8] : List (BitVec 8)) (2 : Int) 1#8) fun x21 =>
        m_r06_Encode_j0 x00_0 x00_1 x00_3 x21
      else
        m_r06_Encode_j0 x00_0 x00_1 x00_3 ([78#8, 165#8, 0#8, 0#8] : List (BitVec 8))
    else
      some (([] : List (BitVec 8)), (1 : Int))

def m_needle_Encode_l11 (r10 : (List (BitVec 8)) → Option ((List (BitVec 8)) × Int)) : Nat → (List (BitVec 8)) → Int → Option ((List (BitVec 8)) × Int)
  | 0, _, _ => none
  | q252 + 1, x250, x251 =>
    if x251 < (1 : Int) then
      Option.bind (ck ((8 : Int) * x251)) fun x260 =>
      Option.bind (shru 0#64 x260) fun x261 =>
      Option.bind (apd 1 x250 ([x261.setWidth 8] : List (BitVec 8))) fun x263 =>
      Option.bind (ck (x251 + (1 : Int))) fun x269 =>
      (m_needle_Encode_l11 r10 q252) x263 x269
    else
      r10 x250
def m_needle_Encode_j9 (x233 : List (BitVec 8)) : Option ((List (BitVec 8)) × Int) :=
  some (x233, (0 : Int))
def m_needle_Encode_l10 : Nat → (List (BitVec 8)) → Option ((List (BitVec 8)) × Int)
  | 0, _ => none
  | q239 + 1, x238 =>
    Option.bind (rmi (x238.length : Int) (8 : Int)) fun x243 =>
    if x243 = (0 : Int) then
      m_needle_Encode_j9 x238
    else
      m_needle_Encode_l11 (m_needle_Encode_l10 q239) forever x238 (0 : Int)
def m_needle_Encode_l8 (x204 : (BitVec 32)) : Nat → (List (BitVec 8)) → Int → Option ((List (BitVec 8)) × Int)
  | 0, _, _ => none
  | q212 + 1, x210, x211 =>
    if x211 < (4 : Int) then
      Option.bind (ck ((8 : Int) * x211)) fun x220 =>
      Option.bind (shru (x204.setWidth 64) x220) fun x221 =>
      Option.bind (apd 1 x210 ([x221.setWidth 8] : List (BitVec 8))) fun x223 =>
      Option.bind (ck (x211 + (1 : Int))) fun x229 =>
      (m_needle_Encode_l8 x204 q212) x223 x229
    else
      m_needle_Encode_l10 forever x210
def m_needle_Encode_l7 (x00_3 : List (BitVec 8)) : Nat → (List (BitVec 8)) → Int → Option ((List (BitVec 8)) × Int)
  | 0, _, _ => none
  | q181 + 1, x179, x180 =>
    if (0 : Int) ≤ x180 then
      Option.bind (ck ((8 : Int) * x180)) fun x188 =>
      Option.bind (shru (BitVec.ofInt 64 (x00_3.length : Int)) x188) fun x189 =>
      Option.bind (apd 1 x179 ([x189.setWidth 8] : List (BitVec 8))) fun x191 =>
      Option.bind (ck (x180 - (1 : Int))) fun x197 =>
      (m_needle_Encode_l7 x00_3 q181) x191 x197
    else
      Option.bind (apd 1 x179 x00_3) fun x199 =>
      Option.bind (m_crc32c_Sum x199) fun x204 =>
      m_needle_Encode_l8 x204 forever x199 (0 : Int)
def m_needle_Encode_l6 (x00_0 : BitVec 64) (x00_3 : List (BitVec 8)) : Nat → (List (BitVec 8)) → Int → Option ((List (BitVec 8)) × Int)
  | 0, _, _ => none
  | q156 + 1, x154, x155 =>
    if (0 : Int) ≤ x155 then
      Option.bind (ck ((8 : Int) * x155)) fun x163 =>
      Option.bind (shru x00_0 x163) fun x164 =>
      Option.bind (apd 1 x154 ([x164.setWidth 8] : List (BitVec 8))) fun x166 =>
      Option.bind (ck (x155 - (1 : Int))) fun x172 =>
      (m_needle_Encode_l6 x00_0 x00_3 q156) x166 x172
    else
      Option.bind (ck ((4 : Int) - (1 : Int))) fun x175 =>
      m_needle_Encode_l7 x00_3 forever x154 x175
def m_needle_Encode_l5 (x00_0 : BitVec 64) (x00_1 : BitVec 32) (x00_3 : List (BitVec 8)) : Nat → (List (BitVec 8)) → Int → Option ((List (BitVec 8)) × Int)
  | 0, _, _ => none
  | q131 + 1, x129, x130 =>
    if (0 : Int) ≤ x130 then
      Option.bind (ck ((8 : Int) * x130)) fun x138 =>
      Option.bind (shru (x00_1.setWidth 64) x138) fun x139 =>
      Option.bind (apd 1 x129 ([x139.setWidth 8] : List (BitVec 8))) fun x141 =>
      Option.bind (ck (x130 - (1 : Int))) fun x147 =>
      (m_needle_Encode_l5 x00_0 x00_1 x00_3 q131) x141 x147
    else
      Option.bind (ck ((8 : Int) - (1 : Int))) fun x150 =>
      m_needle_Encode_l6 x00_0 x00_3 forever x129 x150
def m_needle_Encode_l4 (x00_0 : BitVec 64) (x00_1 : BitVec 32) (x00_3 : List (BitVec 8)) : Nat → (List (BitVec 8)) → Int → Option ((List (BitVec 8)) × Int)
  | 0, _, _ => none
  | q106 + 1, x104, x105 =>
    if (0 : Int) ≤ x105 then
      Option.bind (ck ((8 : Int) * x105)) fun x113 =>
      Option.bind (shru 0#64 x113) fun x114 =>
      Option.bind (apd 1 x104 ([x114.setWidth 8] : List (BitVec 8))) fun x116 =>
      Option.bind (ck (x105 - (1 : Int))) fun x122 =>
      (m_needle_Encode_l4 x00_0 x00_1 x00_3 q106) x116 x122
    else
      Option.bind (ck ((4 : Int) - (1 : Int))) fun x125 =>
      m_needle_Encode_l5 x00_0 x00_1 x00_3 forever x104 x125
def m_needle_Encode_l3 (x00_0 : BitVec 64) (x00_1 : BitVec 32) (x00_3 : List (BitVec 8)) (x16 : BitVec 64) : Nat → (List (BitVec 8)) → Int → Option ((List (BitVec 8)) × Int)
  | 0, _, _ => none
  | q81 + 1, x79, x80 =>
    if (0 : Int) ≤ x80 then
      Option.bind (ck ((8 : Int) * x80)) fun x88 =>
      Option.bind (shru x16 x88) fun x89 =>
      Option.bind (apd 1 x79 ([x89.setWidth 8] : List (BitVec 8))) fun x91 =>
      Option.bind (ck (x80 - (1 : Int))) fun x97 =>
      (m_needle_Encode_l3 x00_0 x00_1 x00_3 x16 q81) x91 x97
    else
      Option.bind (ck ((1 : Int) - (1 : Int))) fun x100 =>
      m_needle_Encode_l4 x00_0 x00_1 x00_3 forever x79 x100
def m_needle_Encode_l2 (x00_0 : BitVec 64) (x00_1 : BitVec 32) (x00_3 : List (BitVec 8)) (x16 : BitVec 64) : Nat → (List (BitVec 8)) → Int → Option ((List (BitVec 8)) × Int)
  | 0, _, _ => none
  | q56 + 1, x54, x55 =>
    if (0 : Int) ≤ x55 then
      Option.bind (ck ((8 : Int) * x55)) fun x63 =>
      Option.bind (shru 165#64 x63) fun x64 =>
      Option.bind (apd 1 x54 ([x64.setWidth 8] : List (BitVec 8))) fun x66 =>
      Option.bind (ck (x55 - (1 : Int))) fun x72 =>
      (m_needle_Encode_l2 x00_0 x00_1 x00_3 x16 q56) x66 x72
    else
      Option.bind (ck ((1 : Int) - (1 : Int))) fun x75 =>
      m_needle_Encode_l3 x00_0 x00_1 x00_3 x16 forever x54 x75
def m_needle_Encode_l1 (x00_0 : BitVec 64) (x00_1 : BitVec 32) (x00_3 : List (BitVec 8)) (x16 : BitVec 64) : Nat → (List (BitVec 8)) → Int → Option ((List (BitVec 8)) × Int)
  | 0, _, _ => none
  | q31 + 1, x29, x30 =>
    if (0 : Int) ≤ x30 then
      Option.bind (ck ((8 : Int) * x30)) fun x38 =>
      Option.bind (shru 78#64 x38) fun x39 =>
      Option.bind (apd 1 x29 ([x39.setWidth 8] : List (BitVec 8))) fun x41 =>
      Option.bind (ck (x30 - (1 : Int))) fun x47 =>
      (m_needle_Encode_l1 x00_0 x00_1 x00_3 x16 q31) x41 x47
    else
      Option.bind (ck ((1 : Int) - (1 : Int))) fun x50 =>
      m_needle_Encode_l2 x00_0 x00_1 x00_3 x16 forever x29 x50
def m_needle_Encode_j0 (x00_0 : BitVec 64) (x00_1 : BitVec 32) (x00_3 : List (BitVec 8)) (x16 : BitVec 64) : Option ((List (BitVec 8)) × Int) :=
  Option.bind (ck ((1 : Int) - (1 : Int))) fun x23 =>
  m_needle_Encode_l1 x00_0 x00_1 x00_3 x16 forever ([] : List (BitVec 8)) x23
def m_needle_Encode (x00_0 : BitVec 64) (x00_1 : BitVec 32) (x00_2 : Bool) (x00_3 : List (BitVec 8)) : Option ((List (BitVec 8)) × Int) :=
  if (4096 : Int) < (x00_3.length : Int) then
    some (([] : List (BitVec 8)), (8 : Int))
  else
    Option.bind (m_needle_Valid x00_0 x00_1 x00_2 x00_3) fun x9 =>
    if x9 = true then
      if x00_2 = true then
        m_needle_Encode_j0 x00_0 x00_1 x00_3 1#64
      else
        m_needle_Encode_j0 x00_0 x00_1 x00_3 0#64
    else
      some (([] : List (BitVec 8)), (1 : Int))

def m_r06_Decode_j1 (x00 : List (BitVec 8)) (x39 : Int) (x41 : Int) : Option ((BitVec 64) × (BitVec 32) × Bool × (List (BitVec 8)) × Int × Int) :=
  Option.bind (slc x00 (8 : Int) (16 : Int)) fun x79 =>
  Option.bind (m_r06_Value x79) fun x80 =>
  Option.bind (slc x00 (4 : Int) (8 : Int)) fun x82 =>
  Option.bind (m_r06_Value x82) fun x83 =>
  Option.bind (idx x00 (2 : Int)) fun x85 =>
  Option.bind (slc x00 (20 : Int) x41) fun x87 =>
  Option.bind (apd 1 ([] : List (BitVec 8)) x87) fun x88 =>
  some (x80, x83.setWidth 32, (x85 == 1#8), x88, x39, (0 : Int))
def m_r06_Decode_l2 (x00 : List (BitVec 8)) (x39 : Int) (x41 : Int) : Nat → Int → Option ((BitVec 64) × (BitVec 32) × Bool × (List (BitVec 8)) × Int × Int)
  | 0, _ => none
  | q65 + 1, x64 =>
    if x64 < x39 then
      Option.bind (idx x00 x64) fun x72 =>
      if x72 = 0#8 then
        Option.bind (ck (x64 + (1 : Int))) fun x75 =>
        (m_r06_Decode_l2 x00 x39 x41 q65) x75
      else
        some (0#64, 0#32, false, ([] : List (BitVec 8)), (0 : Int), (3 : Int))
    else
      m_r06_Decode_j1 x00 x39 x41
def m_r06_Decode_j0 (x00 : List (BitVec 8)) (x10 : (BitVec 64)) : Option ((BitVec 64) × (BitVec 32) × Bool × (List (BitVec 8)) × Int × Int) :=
  Option.bind (m_r06_Size x10.toInt) fun x39 =>
  Option.bind (ck ((20 : Int) + x10.toInt)) fun x41 =>
  if (x00.length : Int) < x39 then
    some (0#64, 0#32, false, ([] : List (BitVec 8)), (0 : Int), (4 : Int))
  else
    Option.bind (slc x00 0 x41) fun x49 =>
    Option.bind (m_r06_Check x49) fun x50 =>
    Option.bind (ck (x41 + (4 : Int))) fun x58 =>
    Option.bind (slc x00 x41 x58) fun x59 =>
    if x50 = x59 then
      Option.bind (ck (x41 + (4 : Int))) fun x63 =>
      m_r06_Decode_l2 x00 x39 x41 forever x63
    else
      some (0#64, 0#32, false, ([] : List (BitVec 8)), (0 : Int), (5 : Int))
def m_r06_Decode (x00 : List (BitVec 8)) : Option ((BitVec 64) × (BitVec 32) × Bool × (List (BitVec 8)) × Int × Int) :=
  if (x00.length : Int) < (20 : Int) then
    some (0#64, 0#32, false, ([] : List (BitVec 8)), (0 : Int), (4 : Int))
  else
    Option.bind (slc x00 (16 : Int) (20 : Int)) fun x9 =>
    Option.bind (m_r06_Value x9) fun x10 =>
    Option.bind (idx x00 (0 : Int)) fun x14 =>
    if x14 = 78#8 then
      Option.bind (idx x00 (1 : Int)) fun x16 =>
      if x16 = 165#8 then
        Option.bind (idx x00 (2 : Int)) fun x18 =>
        if 1#8 < x18 then
          some (0#64, 0#32, false, ([] : List (BitVec 8)), (0 : Int), (3 : Int))
        else
          Option.bind (idx x00 (3 : Int)) fun x22 =>
          if x22 = 0#8 then
            if 4096#64 < x10 then
              some (0#64, 0#32, false, ([] : List (BitVec 8)), (0 : Int), (3 : Int))
            else
              Option.bind (idx x00 (2 : Int)) fun x27 =>
              if x27 = 1#8 then
                if 0#64 < x10 then
                  some (0#64, 0#32, false, ([] : List (BitVec 8)), (0 : Int), (3 : Int))
                else
                  m_r06_Decode_j0 x00 x10
              else
                m_r06_Decode_j0 x00 x10
          else
            some (0#64, 0#32, false, ([] : List (BitVec 8)), (0 : Int), (3 : Int))
      else
        some (0#64, 0#32, false, ([] : List (BitVec 8)), (0 : Int), (3 : Int))
    else
      some (0#64, 0#32, false, ([] : List (BitVec 8)), (0 : Int), (3 : Int))

def m_slices_Clone_byte_byte (x00 : List (BitVec 8)) : Option ((List (BitVec 8))) :=
  Option.bind (apd 1 ([] : List (BitVec 8)) x00) fun x9 =>
  some (x9)

def m_needle_Decode_j2 (x00 : List (BitVec 8)) (x39 : Int) (x41 : Int) : Option ((BitVec 64) × (BitVec 32) × Bool × (List (BitVec 8)) × Int × Int) :=
  Option.bind (slc x00 (8 : Int) (16 : Int)) fun x106 =>
  Option.bind (m_needle_big x106) fun x107 =>
  Option.bind (slc x00 (4 : Int) (8 : Int)) fun x109 =>
  Option.bind (m_needle_big x109) fun x110 =>
  Option.bind (idx x00 (2 : Int)) fun x112 =>
  Option.bind (slc x00 (20 : Int) x41) fun x113 =>
  Option.bind (m_slices_Clone_byte_byte x113) fun x114 =>
  some (x107, x110.setWidth 32, (x112 == 1#8), x114, x39, (0 : Int))
def m_needle_Decode_l3 (x00 : List (BitVec 8)) (x39 : Int) (x41 : Int) (x89 : List (BitVec 8)) : Nat → Int → Option ((BitVec 64) × (BitVec 32) × Bool × (List (BitVec 8)) × Int × Int)
  | 0, _ => none
  | q91 + 1, x90 =>
    if x90 < (x89.length : Int) then
      Option.bind (idx x89 x90) fun x98 =>
      if x98 = 0#8 then
        Option.bind (ck (x90 + (1 : Int))) fun x102 =>
        (m_needle_Decode_l3 x00 x39 x41 x89 q91) x102
      else
        some (0#64, 0#32, false, ([] : List (BitVec 8)), (0 : Int), (3 : Int))
    else
      m_needle_Decode_j2 x00 x39 x41
def m_needle_Decode_l1 (x00 : List (BitVec 8)) (x39 : Int) (x41 : Int) (x51 : (BitVec 32)) : Nat → (List (BitVec 8)) → Int → Option ((BitVec 64) × (BitVec 32) × Bool × (List (BitVec 8)) × Int × Int)
  | 0, _, _ => none
  | q61 + 1, x59, x60 =>
    if x60 < (4 : Int) then
      Option.bind (ck ((8 : Int) * x60)) fun x69 =>
      Option.bind (shru (x51.setWidth 64) x69) fun x70 =>
      Option.bind (apd 1 x59 ([x70.setWidth 8] : List (BitVec 8))) fun x72 =>
      Option.bind (ck (x60 + (1 : Int))) fun x78 =>
      (m_needle_Decode_l1 x00 x39 x41 x51 q61) x72 x78
    else
      Option.bind (ck (x41 + (4 : Int))) fun x81 =>
      Option.bind (slc x00 x41 x81) fun x82 =>
      Option.bind (m_slices_Equal_byte_byte x59 x82) fun x83 =>
      if x83 = true then
        Option.bind (ck (x41 + (4 : Int))) fun x88 =>
        Option.bind (slc x00 x88 x39) fun x89 =>
        m_needle_Decode_l3 x00 x39 x41 x89 forever (0 : Int)
      else
        some (0#64, 0#32, false, ([] : List (BitVec 8)), (0 : Int), (5 : Int))
def m_needle_Decode_j0 (x00 : List (BitVec 8)) (x10 : (BitVec 64)) : Option ((BitVec 64) × (BitVec 32) × Bool × (List (BitVec 8)) × Int × Int) :=
  Option.bind (m_needle_Size x10.toInt) fun x39 =>
  Option.bind (ck ((20 : Int) + x10.toInt)) fun x41 =>
  if (x00.length : Int) < x39 then
    some (0#64, 0#32, false, ([] : List (BitVec 8)), (0 : Int), (4 : Int))
  else
    Option.bind (slc x00 0 x41) fun x50 =>
    Option.bind (m_crc32c_Sum x50) fun x51 =>
    m_needle_Decode_l1 x00 x39 x41 x51 forever ([] : List (BitVec 8)) (0 : Int)
def m_needle_Decode (x00 : List (BitVec 8)) : Option ((BitVec 64) × (BitVec 32) × Bool × (List (BitVec 8)) × Int × Int) :=
  if (x00.length : Int) < (20 : Int) then
    some (0#64, 0#32, false, ([] : List (BitVec 8)), (0 : Int), (4 : Int))
  else
    Option.bind (slc x00 (16 : Int) (20 : Int)) fun x9 =>
    Option.bind (m_needle_big x9) fun x10 =>
    Option.bind (idx x00 (0 : Int)) fun x14 =>
    if x14 = 78#8 then
      Option.bind (idx x00 (1 : Int)) fun x16 =>
      if x16 = 165#8 then
        Option.bind (idx x00 (2 : Int)) fun x18 =>
        if 1#8 < x18 then
          some (0#64, 0#32, false, ([] : List (BitVec 8)), (0 : Int), (3 : Int))
        else
          Option.bind (idx x00 (3 : Int)) fun x22 =>
          if x22 = 0#8 then
            if 4096#64 < x10 then
              some (0#64, 0#32, false, ([] : List (BitVec 8)), (0 : Int), (3 : Int))
            else
              Option.bind (idx x00 (2 : Int)) fun x27 =>
              if x27 = 1#8 then
                if 0#64 < x10 then
                  some (0#64, 0#32, false, ([] : List (BitVec 8)), (0 : Int), (3 : Int))
                else
                  m_needle_Decode_j0 x00 x10
              else
                m_needle_Decode_j0 x00 x10
          else
            some (0#64, 0#32, false, ([] : List (BitVec 8)), (0 : Int), (3 : Int))
      else
        some (0#64, 0#32, false, ([] : List (BitVec 8)), (0 : Int), (3 : Int))
    else
      some (0#64, 0#32, false, ([] : List (BitVec 8)), (0 : Int), (3 : Int))

def m_r06_Same (x00_0 : BitVec 64) (x00_1 : BitVec 32) (x00_2 : Bool) (x00_3 : List (BitVec 8)) (x01_0 : BitVec 64) (x01_1 : BitVec 32) (x01_2 : Bool) (x01_3 : List (BitVec 8)) : Option (Bool) :=
  if x00_0 = x01_0 then
    if x00_1 = x01_1 then
      if x00_2 = x01_2 then
        some ((x00_3 == x01_3))
      else
        some (false)
    else
      some (false)
  else
    some (false)

def m_law06_cut (x00_0 : BitVec 64) (x00_1 : BitVec 32) (x00_2 : Bool) (x00_3 : List (BitVec 8)) : Option ((BitVec 64) × (BitVec 32) × Bool × (List (BitVec 8))) :=
  if (6000 : Int) < (x00_3.length : Int) then
    Option.bind (slc x00_3 0 (6000 : Int)) fun x8 =>
    some (x00_0, x00_1, x00_2, x8)
  else
    some (x00_0, x00_1, x00_2, x00_3)

def m_law06_awake : Option (Bool) :=
  Option.bind (mks 1 (20 : Int) 0#8) fun x4 =>
  Option.bind (m_needle_Decode x4) fun x5 =>
  Option.bind (m_needle_Encode 0#64 0#32 true ([] : List (BitVec 8))) fun x15 =>
  Option.bind (m_needle_Size (0 : Int)) fun x24 =>
  if x24 = (24 : Int) then
    Option.bind (m_needle_Size (1 : Int)) fun x27 =>
    if x27 = (32 : Int) then
      Option.bind (m_needle_Size (8 : Int)) fun x30 =>
      if x30 = (32 : Int) then
        Option.bind (m_needle_Size (9 : Int)) fun x33 =>
        if x33 = (40 : Int) then
          if x5.2.2.2.2.2 = (3 : Int) then
            if x15.2 = (0 : Int) then
              if (x15.1.length : Int) = (24 : Int) then
                Option.bind (slc x15.1 0 (4 : Int)) fun x39 =>
                some ((x39 == ([78#8, 165#8, 1#8, 0#8] : List (BitVec 8))))
              else
                some (false)
            else
              some (false)
          else
            some (false)
        else
          some (false)
      else
        some (false)
    else
      some (false)
  else
    some (false)

end Go.Proofs.Ytclhepegfmhmjaa
