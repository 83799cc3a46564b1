/-
  Models of functions of the program (g): what each computes, as an option. Printed by a program of ours (vcm.py). No conditions.
-/
import Derived.Test.YtcncappgheopgaaGreatMdf
namespace Go.Proofs.YtcncappgheopgaaGreat
set_option linter.unusedVariables false
structure Sapi_Item where
  fKey : BitVec 64
  fCookie : BitVec 32
  fOff : Int
  fSize : Int
  deriving DecidableEq
def m_superblock_Valid (x00_0 x00_1 x00_2 : Int) : Option (Bool) :=
  if (0 : Int) <= x00_0 then
    if x00_0 < (4 : Int) then
      if (1 : Int) <= x00_1 then
        if x00_1 <= (8 : Int) then
          if (0 : Int) <= x00_2 then
            some ((decide (x00_2 <= (4294967295 : Int))))
          else
            some (false)
        else
          some (false)
      else
        some (false)
    else
      some (false)
  else
    some (false)
def m_r07_Valid (x00_0 x00_1 x00_2 : Int) : Option (Bool) :=
  if (0 : Int) <= x00_0 then
    if x00_0 < (4 : Int) then
      if (1 : Int) <= x00_1 then
        if x00_1 <= (8 : Int) then
          if (0 : Int) <= x00_2 then
            some ((decide (x00_2 < (4294967296 : Int))))
          else
            some (false)
        else
          some (false)
      else
        some (false)
    else
      some (false)
  else
    some (false)
def m_r07_Encode (x00_0 x00_1 x00_2 : Int) : Option ((List (BitVec 8)) × Int) :=
  Option.bind (m_r07_Valid x00_0 x00_1 x00_2) fun x5 =>
  if x5 = true then
    Option.bind (m_r06_Number (BitVec.ofInt 64 x00_0) (2 : Int)) fun x10 =>
    Option.bind (apg 1 ([78#8, 86#8, 79#8, 76#8] : List (BitVec 8)) x10) fun x19 =>
    Option.bind (m_r06_Number (BitVec.ofInt 64 x00_1) (2 : Int)) fun x23 =>
    Option.bind (apd 1 x19 x23) fun x31 =>
    Option.bind (m_r06_Number (BitVec.ofInt 64 x00_2) (4 : Int)) fun x34 =>
    Option.bind (apd 1 x31 x34) fun x42 =>
    Option.bind (m_r06_Check x42) fun x46 =>
    Option.bind (apd 1 x42 x46) fun x54 =>
    some (x54, (0 : Int))
  else
    some (([] : List (BitVec 8)), (1 : Int))
def m_r07_Decode (x00 : List (BitVec 8)) : Option (Int × Int × Int × Int) :=
  if (x00.length : Int) < (16 : Int) then
    some ((0 : Int), (0 : Int), (0 : Int), (4 : Int))
  else
    Option.bind (slc x00 0 (4 : Int)) fun x9 =>
    if x9 = ([78#8, 86#8, 79#8, 76#8] : List (BitVec 8)) then
      Option.bind (slc x00 0 (12 : Int)) fun x13 =>
      Option.bind (m_r06_Check x13) fun x14 =>
      Option.bind (slc x00 (12 : Int) (16 : Int)) fun x22 =>
      if x14 = x22 then
        Option.bind (slc x00 (4 : Int) (6 : Int)) fun x25 =>
        Option.bind (m_r06_Value x25) fun x26 =>
        Option.bind (slc x00 (6 : Int) (8 : Int)) fun x28 =>
        Option.bind (m_r06_Value x28) fun x29 =>
        Option.bind (slc x00 (8 : Int) (12 : Int)) fun x31 =>
        Option.bind (m_r06_Value x31) fun x32 =>
        Option.bind (m_r07_Valid x26.toInt x29.toInt x32.toInt) fun x58 =>
        if x58 = true then
          some (x26.toInt, x29.toInt, x32.toInt, (0 : Int))
        else
          some ((0 : Int), (0 : Int), (0 : Int), (3 : Int))
      else
        some ((0 : Int), (0 : Int), (0 : Int), (5 : Int))
    else
      some ((0 : Int), (0 : Int), (0 : Int), (3 : Int))
def m_index_ascending_j0 : Option (Bool) :=
  some (true)
def m_index_ascending_l1 (x00 : List (Sapi_Item)) : Nat -> Int -> Option (Bool)
  | 0, _ => none
  | q5 + 1, x4 =>
    if x4 < (x00.length : Int) then
      Option.bind (idx x00 x4) fun x12 =>
      if (0 : Int) < x4 then
        Option.bind (ck (x4 - (1 : Int))) fun x16 =>
        Option.bind (idx x00 x16) fun x17 =>
        if x12.fKey <= x17.fKey then
          some (false)
        else
          Option.bind (ck (x4 + (1 : Int))) fun x21 =>
          (m_index_ascending_l1 x00 q5) x21
      else
        Option.bind (ck (x4 + (1 : Int))) fun x23 =>
        (m_index_ascending_l1 x00 q5) x23
    else
      m_index_ascending_j0
def m_index_ascending (x00 : List (Sapi_Item)) : Option (Bool) :=
  m_index_ascending_l1 x00 forever (0 : Int)
def m_index_valid (x00_0 : BitVec 64) (x00_1 : BitVec 32) (x00_2 x00_3 : Int) : Option (Bool) :=
  if (16 : Int) <= x00_2 then
    if x00_2 <= (1048576 : Int) then
      Option.bind (rmi x00_2 (8 : Int)) fun x6 =>
      if x6 = (0 : Int) then
        if (0 : Int) <= x00_3 then
          some ((decide (x00_3 <= (4096 : Int))))
        else
          some (false)
      else
        some (false)
    else
      some (false)
  else
    some (false)
def m_index_Valid_j0 : Option (Bool) :=
  some ((!(decide ((0 : Int) <= (-1 : Int)))))
def m_index_Valid_l1 (x00 : List (Sapi_Item)) : Nat -> Int -> Option (Bool)
  | 0, _ => none
  | q12 + 1, x11 =>
    if x11 < (x00.length : Int) then
      Option.bind (idx x00 x11) fun x20 =>
      Option.bind (m_index_valid x20.fKey x20.fCookie x20.fOff x20.fSize) fun x24 =>
      if x24 = true then
        Option.bind (ck (x11 + (1 : Int))) fun x28 =>
        (m_index_Valid_l1 x00 q12) x28
      else
        some ((!(decide ((0 : Int) <= x11))))
    else
      m_index_Valid_j0
def m_index_Valid (x00 : List (Sapi_Item)) : Option (Bool) :=
  Option.bind (m_index_ascending x00) fun x3 =>
  if x3 = true then
    m_index_Valid_l1 x00 forever (0 : Int)
  else
    some (false)
def m_r08_ValidItem (x00_0 : BitVec 64) (x00_1 : BitVec 32) (x00_2 x00_3 : Int) : Option (Bool) :=
  if (16 : Int) <= x00_2 then
    if x00_2 <= (1048576 : Int) then
      Option.bind (rmi x00_2 (8 : Int)) fun x6 =>
      if x6 = (0 : Int) then
        if (0 : Int) <= x00_3 then
          some ((decide (x00_3 <= (4096 : Int))))
        else
          some (false)
      else
        some (false)
    else
      some (false)
  else
    some (false)
def m_r08_Valid_j0 : Option (Bool) :=
  some (true)
def m_r08_Valid_l1 (x00 : List (Sapi_Item)) : Nat -> Int -> Option (Bool)
  | 0, _ => none
  | q5 + 1, x4 =>
    if x4 < (x00.length : Int) then
      Option.bind (idx x00 x4) fun x12 =>
      Option.bind (m_r08_ValidItem x12.fKey x12.fCookie x12.fOff x12.fSize) fun x13 =>
      if x13 = true then
        if (0 : Int) < x4 then
          Option.bind (idx x00 x4) fun x17 =>
          Option.bind (ck (x4 - (1 : Int))) fun x18 =>
          Option.bind (idx x00 x18) fun x19 =>
          if x17.fKey <= x19.fKey then
            some (false)
          else
            Option.bind (ck (x4 + (1 : Int))) fun x23 =>
            (m_r08_Valid_l1 x00 q5) x23
        else
          Option.bind (ck (x4 + (1 : Int))) fun x25 =>
          (m_r08_Valid_l1 x00 q5) x25
      else
        some (false)
    else
      m_r08_Valid_j0
def m_r08_Valid (x00 : List (Sapi_Item)) : Option (Bool) :=
  m_r08_Valid_l1 x00 forever (0 : Int)
def m_r08_Sorted_j2 (x17 : Int) (r1 : (List (Sapi_Item)) -> Int -> Option ((List (Sapi_Item)))) (x26 : List (Sapi_Item)) : Option ((List (Sapi_Item))) :=
  Option.bind (ck (x17 + (1 : Int))) fun x87 =>
  r1 x26 x87
def m_r08_Sorted_j3 (x00 x16 : List (Sapi_Item)) (x17 : Int) (r1 : (List (Sapi_Item)) -> Int -> Option ((List (Sapi_Item)))) (x29 : Int) : Option ((List (Sapi_Item))) :=
  Option.bind (slc x16 x29 (x16.length : Int)) fun x44 =>
  Option.bind (apd 32 ([] : List (Sapi_Item)) x44) fun x45 =>
  if (0 : Int) < (x45.length : Int) then
    Option.bind (idx x45 (0 : Int)) fun x51 =>
    Option.bind (idx x00 x17) fun x52 =>
    if x51.fKey = x52.fKey then
      Option.bind (slc x45 (1 : Int) (x45.length : Int)) fun x55 =>
      Option.bind (slc x16 0 x29) fun x57 =>
      Option.bind (idx x00 x17) fun x58 =>
      Option.bind (apd 32 x57 ([x58] : List (Sapi_Item))) fun x60 =>
      Option.bind (apd 32 x60 x55) fun x63 =>
      m_r08_Sorted_j2 x17 r1 x63
    else
      Option.bind (slc x16 0 x29) fun x67 =>
      Option.bind (idx x00 x17) fun x68 =>
      Option.bind (apd 32 x67 ([x68] : List (Sapi_Item))) fun x70 =>
      Option.bind (apd 32 x70 x45) fun x73 =>
      m_r08_Sorted_j2 x17 r1 x73
  else
    Option.bind (slc x16 0 x29) fun x77 =>
    Option.bind (idx x00 x17) fun x78 =>
    Option.bind (apd 32 x77 ([x78] : List (Sapi_Item))) fun x80 =>
    Option.bind (apd 32 x80 x45) fun x83 =>
    m_r08_Sorted_j2 x17 r1 x83
def m_r08_Sorted_l4 (x00 x16 : List (Sapi_Item)) (x17 : Int) (r1 : (List (Sapi_Item)) -> Int -> Option ((List (Sapi_Item)))) : Nat -> Int -> Option ((List (Sapi_Item)))
  | 0, _ => none
  | q32 + 1, x31 =>
    if x31 < (x16.length : Int) then
      Option.bind (idx x16 x31) fun x37 =>
      Option.bind (idx x00 x17) fun x38 =>
      if x37.fKey < x38.fKey then
        Option.bind (ck (x31 + (1 : Int))) fun x41 =>
        (m_r08_Sorted_l4 x00 x16 x17 r1 q32) x41
      else
        m_r08_Sorted_j3 x00 x16 x17 r1 x31
    else
      m_r08_Sorted_j3 x00 x16 x17 r1 x31
def m_r08_Sorted_j0 (x8 : List (Sapi_Item)) : Option ((List (Sapi_Item))) :=
  some (x8)
def m_r08_Sorted_l1 (x00 : List (Sapi_Item)) : Nat -> (List (Sapi_Item)) -> Int -> Option ((List (Sapi_Item)))
  | 0, _, _ => none
  | q18 + 1, x16, x17 =>
    if x17 < (x00.length : Int) then
      m_r08_Sorted_l4 x00 x16 x17 (m_r08_Sorted_l1 x00 q18) forever (0 : Int)
    else
      m_r08_Sorted_j0 x16
def m_r08_Sorted (x00 : List (Sapi_Item)) : Option ((List (Sapi_Item))) :=
  m_r08_Sorted_l1 x00 forever ([] : List (Sapi_Item)) (0 : Int)
def m_r08_Put_j0 (x01_0 : BitVec 64) (x01_1 : BitVec 32) (x01_2 x01_3 : Int) (x19 : List (Sapi_Item)) (x20 : Bool) : Option ((List (Sapi_Item))) :=
  if x20 = true then
    some (x19)
  else
    Option.bind (apd 32 x19 ([(Sapi_Item.mk x01_0 x01_1 x01_2 x01_3)] : List (Sapi_Item))) fun x92 =>
    some (x92)
def m_r08_Put_l1 (x01_0 : BitVec 64) (x01_1 : BitVec 32) (x01_2 x01_3 : Int) (x6 : (List (Sapi_Item))) : Nat -> (List (Sapi_Item)) -> Bool -> Int -> Option ((List (Sapi_Item)))
  | 0, _, _, _ => none
  | q31 + 1, x28, x29, x30 =>
    if x30 < (x6.length : Int) then
      if x29 = true then
        Option.bind (idx x6 x30) fun x41 =>
        if x41.fKey = x01_0 then
          Option.bind (ck (x30 + (1 : Int))) fun x44 =>
          (m_r08_Put_l1 x01_0 x01_1 x01_2 x01_3 x6 q31) x28 x29 x44
        else
          Option.bind (idx x6 x30) fun x46 =>
          Option.bind (apd 32 x28 ([x46] : List (Sapi_Item))) fun x48 =>
          Option.bind (ck (x30 + (1 : Int))) fun x52 =>
          (m_r08_Put_l1 x01_0 x01_1 x01_2 x01_3 x6 q31) x48 x29 x52
      else
        Option.bind (idx x6 x30) fun x53 =>
        if x01_0 <= x53.fKey then
          Option.bind (apd 32 x28 ([(Sapi_Item.mk x01_0 x01_1 x01_2 x01_3)] : List (Sapi_Item))) fun x57 =>
          Option.bind (idx x6 x30) fun x61 =>
          if x61.fKey = x01_0 then
            Option.bind (ck (x30 + (1 : Int))) fun x64 =>
            (m_r08_Put_l1 x01_0 x01_1 x01_2 x01_3 x6 q31) x57 true x64
          else
            Option.bind (idx x6 x30) fun x66 =>
            Option.bind (apd 32 x57 ([x66] : List (Sapi_Item))) fun x68 =>
            Option.bind (ck (x30 + (1 : Int))) fun x72 =>
            (m_r08_Put_l1 x01_0 x01_1 x01_2 x01_3 x6 q31) x68 true x72
        else
          Option.bind (idx x6 x30) fun x74 =>
          if x74.fKey = x01_0 then
            Option.bind (ck (x30 + (1 : Int))) fun x77 =>
            (m_r08_Put_l1 x01_0 x01_1 x01_2 x01_3 x6 q31) x28 x29 x77
          else
            Option.bind (idx x6 x30) fun x79 =>
            Option.bind (apd 32 x28 ([x79] : List (Sapi_Item))) fun x81 =>
            Option.bind (ck (x30 + (1 : Int))) fun x85 =>
            (m_r08_Put_l1 x01_0 x01_1 x01_2 x01_3 x6 q31) x81 x29 x85
    else
      m_r08_Put_j0 x01_0 x01_1 x01_2 x01_3 x28 x29
def m_r08_Put (x00 : List (Sapi_Item)) (x01_0 : BitVec 64) (x01_1 : BitVec 32) (x01_2 x01_3 : Int) : Option ((List (Sapi_Item))) :=
  Option.bind (m_r08_Sorted x00) fun x6 =>
  m_r08_Put_l1 x01_0 x01_1 x01_2 x01_3 x6 forever ([] : List (Sapi_Item)) false (0 : Int)
def m_r08_Drop_j0 (x17 : List (Sapi_Item)) : Option ((List (Sapi_Item))) :=
  some (x17)
def m_r08_Drop_l1 (x01 : BitVec 64) (x4 : (List (Sapi_Item))) : Nat -> (List (Sapi_Item)) -> Int -> Option ((List (Sapi_Item)))
  | 0, _, _ => none
  | q27 + 1, x25, x26 =>
    if x26 < (x4.length : Int) then
      Option.bind (idx x4 x26) fun x34 =>
      if x34.fKey = x01 then
        Option.bind (ck (x26 + (1 : Int))) fun x37 =>
        (m_r08_Drop_l1 x01 x4 q27) x25 x37
      else
        Option.bind (idx x4 x26) fun x39 =>
        Option.bind (apd 32 x25 ([x39] : List (Sapi_Item))) fun x41 =>
        Option.bind (ck (x26 + (1 : Int))) fun x45 =>
        (m_r08_Drop_l1 x01 x4 q27) x41 x45
    else
      m_r08_Drop_j0 x25
def m_r08_Drop (x00 : List (Sapi_Item)) (x01 : BitVec 64) : Option ((List (Sapi_Item))) :=
  Option.bind (m_r08_Sorted x00) fun x4 =>
  m_r08_Drop_l1 x01 x4 forever ([] : List (Sapi_Item)) (0 : Int)
def m_slices_Index_api_Item_api_Item_j0 : Option (Int) :=
  some ((-1 : Int))
def m_slices_Index_api_Item_api_Item_l1 (x00 : List (Sapi_Item)) (x01_0 : BitVec 64) (x01_1 : BitVec 32) (x01_2 x01_3 : Int) : Nat -> Int -> Option (Int)
  | 0, _ => none
  | q6 + 1, x5 =>
    if x5 < (x00.length : Int) then
      Option.bind (idx x00 x5) fun x14 =>
      if x01_0 = x14.fKey /\ x01_1 = x14.fCookie /\ x01_2 = x14.fOff /\ x01_3 = x14.fSize /\ True then
        some (x5)
      else
        Option.bind (ck (x5 + (1 : Int))) fun x18 =>
        (m_slices_Index_api_Item_api_Item_l1 x00 x01_0 x01_1 x01_2 x01_3 q6) x18
    else
      m_slices_Index_api_Item_api_Item_j0
def m_slices_Index_api_Item_api_Item (x00 : List (Sapi_Item)) (x01_0 : BitVec 64) (x01_1 : BitVec 32) (x01_2 x01_3 : Int) : Option (Int) :=
  m_slices_Index_api_Item_api_Item_l1 x00 x01_0 x01_1 x01_2 x01_3 forever (0 : Int)
def m_slices_Contains_api_Item_api_Item (x00 : List (Sapi_Item)) (x01_0 : BitVec 64) (x01_1 : BitVec 32) (x01_2 x01_3 : Int) : Option (Bool) :=
  Option.bind (m_slices_Index_api_Item_api_Item x00 x01_0 x01_1 x01_2 x01_3) fun x4 =>
  some ((decide ((0 : Int) <= x4)))
def m_slices_Index_int_int_j0 : Option (Int) :=
  some ((-1 : Int))
def m_slices_Index_int_int_l1 (x00 : List (Int)) (x01 : Int) : Nat -> Int -> Option (Int)
  | 0, _ => none
  | q5 + 1, x4 =>
    if x4 < (x00.length : Int) then
      Option.bind (idx x00 x4) fun x13 =>
      if x01 = x13 then
        some (x4)
      else
        Option.bind (ck (x4 + (1 : Int))) fun x17 =>
        (m_slices_Index_int_int_l1 x00 x01 q5) x17
    else
      m_slices_Index_int_int_j0
def m_slices_Index_int_int (x00 : List (Int)) (x01 : Int) : Option (Int) :=
  m_slices_Index_int_int_l1 x00 x01 forever (0 : Int)
def m_slices_Contains_int_int (x00 : List (Int)) (x01 : Int) : Option (Bool) :=
  Option.bind (m_slices_Index_int_int x00 x01) fun x3 =>
  some ((decide ((0 : Int) <= x3)))
end Go.Proofs.YtcncappgheopgaaGreat
