/- A part of the proof. Conditions: as each theorem says. -/
import Derived.Test.YtcncappgheopgaaGreatMdf
namespace Go.Proofs.YtcncappgheopgaaGreat
set_option linter.unusedVariables false
structure Sapi_Item where
  fKey : BitVec 64
  fCookie : BitVec 32
  fOff : Int
  fSize : Int
  deriving DecidableEq
def m_superblock_Valid (u0 u1 u2 : Int) : Option Bool :=
  if (0 : Int) <= u0 then
    if u0 < (4 : Int) then
      if (1 : Int) <= u1 then
        if u1 <= (8 : Int) then
          if (0 : Int) <= u2 then
            some ((decide (u2 <= (4294967295 : Int))))
          else
            some (false)
        else
          some (false)
      else
        some (false)
    else
      some (false)
  else
    some (false)
def m_r07_Valid (u0 u1 u2 : Int) : Option Bool :=
  if (0 : Int) <= u0 then
    if u0 < (4 : Int) then
      if (1 : Int) <= u1 then
        if u1 <= (8 : Int) then
          if (0 : Int) <= u2 then
            some ((decide (u2 < (4294967296 : Int))))
          else
            some (false)
        else
          some (false)
      else
        some (false)
    else
      some (false)
  else
    some (false)
def m_r07_Encode (u0 u1 u2 : Int) : Option (By × Int) :=
  (m_r07_Valid u0 u1 u2).bind fun x5 =>
  if x5 = true then
    (m_r06_Number (BitVec.ofInt 64 u0) (2 : Int)).bind fun x10 =>
    (apg 1 ([78#8, 86#8, 79#8, 76#8] : By) x10).bind fun x19 =>
    (m_r06_Number (BitVec.ofInt 64 u1) (2 : Int)).bind fun x23 =>
    (apd 1 x19 x23).bind fun x31 =>
    (m_r06_Number (BitVec.ofInt 64 u2) (4 : Int)).bind fun x34 =>
    (apd 1 x31 x34).bind fun x42 =>
    (m_r06_Check x42).bind fun x46 =>
    (apd 1 x42 x46).bind fun x54 =>
    some (x54, (0 : Int))
  else
    some (([] : By), (1 : Int))
def m_r07_Decode (x00 : By) : Option (Int × Int × Int × Int) :=
  if (x00.length : Int) < (16 : Int) then
    some ((0 : Int), (0 : Int), (0 : Int), (4 : Int))
  else
    (slc x00 0 (4 : Int)).bind fun x9 =>
    if x9 = ([78#8, 86#8, 79#8, 76#8] : By) then
      (slc x00 0 (12 : Int)).bind fun x13 =>
      (m_r06_Check x13).bind fun x14 =>
      (slc x00 (12 : Int) (16 : Int)).bind fun x22 =>
      if x14 = x22 then
        (slc x00 (4 : Int) (6 : Int)).bind fun x25 =>
        (m_r06_Value x25).bind fun x26 =>
        (slc x00 (6 : Int) (8 : Int)).bind fun x28 =>
        (m_r06_Value x28).bind fun x29 =>
        (slc x00 (8 : Int) (12 : Int)).bind fun x31 =>
        (m_r06_Value x31).bind fun x32 =>
        (m_r07_Valid x26.toInt x29.toInt x32.toInt).bind fun x58 =>
        if x58 = true then
          some (x26.toInt, x29.toInt, x32.toInt, (0 : Int))
        else
          some ((0 : Int), (0 : Int), (0 : Int), (3 : Int))
      else
        some ((0 : Int), (0 : Int), (0 : Int), (5 : Int))
    else
      some ((0 : Int), (0 : Int), (0 : Int), (3 : Int))
def m_index_ascending_j0 : Option Bool :=
  some (true)
def m_index_ascending_l1 (x00 : List Sapi_Item) : Nat -> Int -> Option Bool
  | 0, _ => none
  | q5 + 1, x4 =>
    if x4 < (x00.length : Int) then
      (idx x00 x4).bind fun x12 =>
      if (0 : Int) < x4 then
        (ck (x4 - (1 : Int))).bind fun x16 =>
        (idx x00 x16).bind fun x17 =>
        if x12.fKey <= x17.fKey then
          some (false)
        else
          (ck (x4 + (1 : Int))).bind fun x21 =>
          (m_index_ascending_l1 x00 q5) x21
      else
        (ck (x4 + (1 : Int))).bind fun x23 =>
        (m_index_ascending_l1 x00 q5) x23
    else
      m_index_ascending_j0
def m_index_ascending (x00 : List Sapi_Item) : Option Bool :=
  m_index_ascending_l1 x00 forever (0 : Int)
def m_index_valid (u0 : BitVec 64) (u1 : BitVec 32) (u2 u3 : Int) : Option Bool :=
  if (16 : Int) <= u2 then
    if u2 <= (1048576 : Int) then
      (rmi u2 (8 : Int)).bind fun x6 =>
      if x6 = (0 : Int) then
        if (0 : Int) <= u3 then
          some ((decide (u3 <= (4096 : Int))))
        else
          some (false)
      else
        some (false)
    else
      some (false)
  else
    some (false)
def m_index_Valid_j0 : Option Bool :=
  some ((!(decide ((0 : Int) <= (-1 : Int)))))
def m_index_Valid_l1 (x00 : List Sapi_Item) : Nat -> Int -> Option Bool
  | 0, _ => none
  | q12 + 1, x11 =>
    if x11 < (x00.length : Int) then
      (idx x00 x11).bind fun x20 =>
      (m_index_valid x20.fKey x20.fCookie x20.fOff x20.fSize).bind fun x24 =>
      if x24 = true then
        (ck (x11 + (1 : Int))).bind fun x28 =>
        (m_index_Valid_l1 x00 q12) x28
      else
        some ((!(decide ((0 : Int) <= x11))))
    else
      m_index_Valid_j0
def m_index_Valid (x00 : List Sapi_Item) : Option Bool :=
  (m_index_ascending x00).bind fun x3 =>
  if x3 = true then
    m_index_Valid_l1 x00 forever (0 : Int)
  else
    some (false)
def m_r08_ValidItem (u0 : BitVec 64) (u1 : BitVec 32) (u2 u3 : Int) : Option Bool :=
  if (16 : Int) <= u2 then
    if u2 <= (1048576 : Int) then
      (rmi u2 (8 : Int)).bind fun x6 =>
      if x6 = (0 : Int) then
        if (0 : Int) <= u3 then
          some ((decide (u3 <= (4096 : Int))))
        else
          some (false)
      else
        some (false)
    else
      some (false)
  else
    some (false)
def m_r08_Valid_j0 : Option Bool :=
  some (true)
def m_r08_Valid_l1 (x00 : List Sapi_Item) : Nat -> Int -> Option Bool
  | 0, _ => none
  | q5 + 1, x4 =>
    if x4 < (x00.length : Int) then
      (idx x00 x4).bind fun x12 =>
      (m_r08_ValidItem x12.fKey x12.fCookie x12.fOff x12.fSize).bind fun x13 =>
      if x13 = true then
        if (0 : Int) < x4 then
          (idx x00 x4).bind fun x17 =>
          (ck (x4 - (1 : Int))).bind fun x18 =>
          (idx x00 x18).bind fun x19 =>
          if x17.fKey <= x19.fKey then
            some (false)
          else
            (ck (x4 + (1 : Int))).bind fun x23 =>
            (m_r08_Valid_l1 x00 q5) x23
        else
          (ck (x4 + (1 : Int))).bind fun x25 =>
          (m_r08_Valid_l1 x00 q5) x25
      else
        some (false)
    else
      m_r08_Valid_j0
def m_r08_Valid (x00 : List Sapi_Item) : Option Bool :=
  m_r08_Valid_l1 x00 forever (0 : Int)
def m_r08_Sorted_j2 (x17 : Int) (r1 : (List Sapi_Item) -> Int -> Option ((List Sapi_Item))) (x26 : List Sapi_Item) : Option ((List Sapi_Item)) :=
  (ck (x17 + (1 : Int))).bind fun x87 =>
  r1 x26 x87
def m_r08_Sorted_j3 (x00 x16 : List Sapi_Item) (x17 : Int) (r1 : (List Sapi_Item) -> Int -> Option ((List Sapi_Item))) (x29 : Int) : Option ((List Sapi_Item)) :=
  (slc x16 x29 (x16.length : Int)).bind fun x44 =>
  (apd 32 ([] : List Sapi_Item) x44).bind fun x45 =>
  if (0 : Int) < (x45.length : Int) then
    (idx x45 (0 : Int)).bind fun x51 =>
    (idx x00 x17).bind fun x52 =>
    if x51.fKey = x52.fKey then
      (slc x45 (1 : Int) (x45.length : Int)).bind fun x55 =>
      (slc x16 0 x29).bind fun x57 =>
      (idx x00 x17).bind fun x58 =>
      (apd 32 x57 ([x58] : List Sapi_Item)).bind fun x60 =>
      (apd 32 x60 x55).bind fun x63 =>
      m_r08_Sorted_j2 x17 r1 x63
    else
      (slc x16 0 x29).bind fun x67 =>
      (idx x00 x17).bind fun x68 =>
      (apd 32 x67 ([x68] : List Sapi_Item)).bind fun x70 =>
      (apd 32 x70 x45).bind fun x73 =>
      m_r08_Sorted_j2 x17 r1 x73
  else
    (slc x16 0 x29).bind fun x77 =>
    (idx x00 x17).bind fun x78 =>
    (apd 32 x77 ([x78] : List Sapi_Item)).bind fun x80 =>
    (apd 32 x80 x45).bind fun x83 =>
    m_r08_Sorted_j2 x17 r1 x83
def m_r08_Sorted_l4 (x00 x16 : List Sapi_Item) (x17 : Int) (r1 : (List Sapi_Item) -> Int -> Option ((List Sapi_Item))) : Nat -> Int -> Option ((List Sapi_Item))
  | 0, _ => none
  | q32 + 1, x31 =>
    if x31 < (x16.length : Int) then
      (idx x16 x31).bind fun x37 =>
      (idx x00 x17).bind fun x38 =>
      if x37.fKey < x38.fKey then
        (ck (x31 + (1 : Int))).bind fun x41 =>
        (m_r08_Sorted_l4 x00 x16 x17 r1 q32) x41
      else
        m_r08_Sorted_j3 x00 x16 x17 r1 x31
    else
      m_r08_Sorted_j3 x00 x16 x17 r1 x31
def m_r08_Sorted_j0 (x8 : List Sapi_Item) : Option ((List Sapi_Item)) :=
  some (x8)
def m_r08_Sorted_l1 (x00 : List Sapi_Item) : Nat -> (List Sapi_Item) -> Int -> Option ((List Sapi_Item))
  | 0, _, _ => none
  | q18 + 1, x16, x17 =>
    if x17 < (x00.length : Int) then
      m_r08_Sorted_l4 x00 x16 x17 (m_r08_Sorted_l1 x00 q18) forever (0 : Int)
    else
      m_r08_Sorted_j0 x16
def m_r08_Sorted (x00 : List Sapi_Item) : Option ((List Sapi_Item)) :=
  m_r08_Sorted_l1 x00 forever ([] : List Sapi_Item) (0 : Int)
def m_r08_Put_j0 (v0 : BitVec 64) (v1 : BitVec 32) (v2 v3 : Int) (x19 : List Sapi_Item) (x20 : Bool) : Option ((List Sapi_Item)) :=
  if x20 = true then
    some (x19)
  else
    (apd 32 x19 ([(Sapi_Item.mk v0 v1 v2 v3)] : List Sapi_Item)).bind fun x92 =>
    some (x92)
def m_r08_Put_l1 (v0 : BitVec 64) (v1 : BitVec 32) (v2 v3 : Int) (x6 : (List Sapi_Item)) : Nat -> (List Sapi_Item) -> Bool -> Int -> Option ((List Sapi_Item))
  | 0, _, _, _ => none
  | q31 + 1, x28, x29, x30 =>
    if x30 < (x6.length : Int) then
      if x29 = true then
        (idx x6 x30).bind fun x41 =>
        if x41.fKey = v0 then
          (ck (x30 + (1 : Int))).bind fun x44 =>
          (m_r08_Put_l1 v0 v1 v2 v3 x6 q31) x28 x29 x44
        else
          (idx x6 x30).bind fun x46 =>
          (apd 32 x28 ([x46] : List Sapi_Item)).bind fun x48 =>
          (ck (x30 + (1 : Int))).bind fun x52 =>
          (m_r08_Put_l1 v0 v1 v2 v3 x6 q31) x48 x29 x52
      else
        (idx x6 x30).bind fun x53 =>
        if v0 <= x53.fKey then
          (apd 32 x28 ([(Sapi_Item.mk v0 v1 v2 v3)] : List Sapi_Item)).bind fun x57 =>
          (idx x6 x30).bind fun x61 =>
          if x61.fKey = v0 then
            (ck (x30 + (1 : Int))).bind fun x64 =>
            (m_r08_Put_l1 v0 v1 v2 v3 x6 q31) x57 true x64
          else
            (idx x6 x30).bind fun x66 =>
            (apd 32 x57 ([x66] : List Sapi_Item)).bind fun x68 =>
            (ck (x30 + (1 : Int))).bind fun x72 =>
            (m_r08_Put_l1 v0 v1 v2 v3 x6 q31) x68 true x72
        else
          (idx x6 x30).bind fun x74 =>
          if x74.fKey = v0 then
            (ck (x30 + (1 : Int))).bind fun x77 =>
            (m_r08_Put_l1 v0 v1 v2 v3 x6 q31) x28 x29 x77
          else
            (idx x6 x30).bind fun x79 =>
            (apd 32 x28 ([x79] : List Sapi_Item)).bind fun x81 =>
            (ck (x30 + (1 : Int))).bind fun x85 =>
            (m_r08_Put_l1 v0 v1 v2 v3 x6 q31) x81 x29 x85
    else
      m_r08_Put_j0 v0 v1 v2 v3 x28 x29
def m_r08_Put (x00 : List Sapi_Item) (v0 : BitVec 64) (v1 : BitVec 32) (v2 v3 : Int) : Option ((List Sapi_Item)) :=
  (m_r08_Sorted x00).bind fun x6 =>
  m_r08_Put_l1 v0 v1 v2 v3 x6 forever ([] : List Sapi_Item) false (0 : Int)
def m_r08_Drop_j0 (x17 : List Sapi_Item) : Option ((List Sapi_Item)) :=
  some (x17)
def m_r08_Drop_l1 (x01 : BitVec 64) (x4 : (List Sapi_Item)) : Nat -> (List Sapi_Item) -> Int -> Option ((List Sapi_Item))
  | 0, _, _ => none
  | q27 + 1, x25, x26 =>
    if x26 < (x4.length : Int) then
      (idx x4 x26).bind fun x34 =>
      if x34.fKey = x01 then
        (ck (x26 + (1 : Int))).bind fun x37 =>
        (m_r08_Drop_l1 x01 x4 q27) x25 x37
      else
        (idx x4 x26).bind fun x39 =>
        (apd 32 x25 ([x39] : List Sapi_Item)).bind fun x41 =>
        (ck (x26 + (1 : Int))).bind fun x45 =>
        (m_r08_Drop_l1 x01 x4 q27) x41 x45
    else
      m_r08_Drop_j0 x25
def m_r08_Drop (x00 : List Sapi_Item) (x01 : BitVec 64) : Option ((List Sapi_Item)) :=
  (m_r08_Sorted x00).bind fun x4 =>
  m_r08_Drop_l1 x01 x4 forever ([] : List Sapi_Item) (0 : Int)
def m_slices_Index_api_Item_api_Item_j0 : Option Int :=
  some ((-1 : Int))
def m_slices_Index_api_Item_api_Item_l1 (x00 : List Sapi_Item) (v0 : BitVec 64) (v1 : BitVec 32) (v2 v3 : Int) : Nat -> Int -> Option Int
  | 0, _ => none
  | q6 + 1, x5 =>
    if x5 < (x00.length : Int) then
      (idx x00 x5).bind fun x14 =>
      if v0 = x14.fKey /\ v1 = x14.fCookie /\ v2 = x14.fOff /\ v3 = x14.fSize /\ True then
        some (x5)
      else
        (ck (x5 + (1 : Int))).bind fun x18 =>
        (m_slices_Index_api_Item_api_Item_l1 x00 v0 v1 v2 v3 q6) x18
    else
      m_slices_Index_api_Item_api_Item_j0
def m_slices_Index_api_Item_api_Item (x00 : List Sapi_Item) (v0 : BitVec 64) (v1 : BitVec 32) (v2 v3 : Int) : Option Int :=
  m_slices_Index_api_Item_api_Item_l1 x00 v0 v1 v2 v3 forever (0 : Int)
def m_slices_Contains_api_Item_api_Item (x00 : List Sapi_Item) (v0 : BitVec 64) (v1 : BitVec 32) (v2 v3 : Int) : Option Bool :=
  (m_slices_Index_api_Item_api_Item x00 v0 v1 v2 v3).bind fun x4 =>
  some ((decide ((0 : Int) <= x4)))
def m_slices_Index_int_int_j0 : Option Int :=
  some ((-1 : Int))
def m_slices_Index_int_int_l1 (x00 : List Int) (x01 : Int) : Nat -> Int -> Option Int
  | 0, _ => none
  | q5 + 1, x4 =>
    if x4 < (x00.length : Int) then
      (idx x00 x4).bind fun x13 =>
      if x01 = x13 then
        some (x4)
      else
        (ck (x4 + (1 : Int))).bind fun x17 =>
        (m_slices_Index_int_int_l1 x00 x01 q5) x17
    else
      m_slices_Index_int_int_j0
def m_slices_Index_int_int (x00 : List Int) (x01 : Int) : Option Int :=
  m_slices_Index_int_int_l1 x00 x01 forever (0 : Int)
def m_slices_Contains_int_int (x00 : List Int) (x01 : Int) : Option Bool :=
  (m_slices_Index_int_int x00 x01).bind fun x3 =>
  some ((decide ((0 : Int) <= x3)))
end Go.Proofs.YtcncappgheopgaaGreat
