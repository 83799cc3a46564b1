/- A part of the proof. Conditions: as each theorem says. -/
import Derived.Test.YtcncappgheopgaaGreatMdh
namespace Go.Proofs.YtcncappgheopgaaGreat
set_option linter.unusedVariables false
def m_ecread_Exclude_j3 (x56 : Int) (r2 : Int -> Int -> Option ((List Int))) (x62 : Int) : Option ((List Int)) :=
  r2 x62 (wri (x56 + (1 : Int)))
def m_ecread_Exclude_l4 (x56 : Int) (r2 : Int -> Int -> Option ((List Int))) : Nat -> Int -> Int -> Option ((List Int))
  | 0, _, _ => none
  | q68 + 1, x66, x67 =>
    if x67 < (6 : Int) then
      if x66 = (0 : Int) then
        some (([x56, x67] : List Int))
      else
        (m_ecread_Exclude_l4 x56 r2 q68) (wri (x66 - (1 : Int))) (wri (x67 + (1 : Int)))
    else
      m_ecread_Exclude_j3 x56 r2 x66
def m_ecread_Exclude_l2 : Nat -> Int -> Int -> Option ((List Int))
  | 0, _, _ => none
  | q57 + 1, x55, x56 =>
    if x56 < (6 : Int) then
      m_ecread_Exclude_l4 x56 (m_ecread_Exclude_l2 q57) forever x55 (wri (x56 + (1 : Int)))
    else
      some (([] : List Int))
def m_ecread_Exclude_j0 (x27 : Int) : Option ((List Int)) :=
  m_ecread_Exclude_l2 forever x27 (0 : Int)
def m_ecread_Exclude_l1 : Nat -> Int -> Int -> Option ((List Int))
  | 0, _, _ => none
  | q32 + 1, x30, x31 =>
    if x31 < (6 : Int) then
      if x30 = (0 : Int) then
        some (([x31] : List Int))
      else
        (m_ecread_Exclude_l1 q32) (wri (x30 - (1 : Int))) (wri (x31 + (1 : Int)))
    else
      m_ecread_Exclude_j0 x30
def m_ecread_Exclude (x00 : Int) : Option ((List Int)) :=
  if x00 = (0 : Int) then
    some (([] : List Int))
  else
    m_ecread_Exclude_l1 forever (wri (x00 - (1 : Int))) (0 : Int)
def m_ecread_shaped (u0 u1 u2 u3 : Int) (u4 u5 u6 u7 u8 u9 : BitVec 32) (u10 : List Sapi_Item) (x01 : List By) (x02 : List Bool) : Option Bool :=
  (m_shards_Valid u0 u1 u2 u3 u4 u5 u6 u7 u8 u9 u10).bind fun x4 =>
  if x4 = true then
    if (x01.length : Int) = (6 : Int) then
      some (((x02.length : Int) == (6 : Int)))
    else
      some (false)
  else
    some (false)
def m_ecread_usable_j0 (x6 : List Bool) (x7 : Int) : Option ((List Bool) × Int) :=
  some (x6, x7)
def m_ecread_usable_l1 (u3 : Int) (x01 : List By) (x02 : List Bool) (x03 : List Int) : Nat -> (List Bool) -> Int -> Int -> Option ((List Bool) × Int)
  | 0, _, _, _ => none
  | q13 + 1, x10, x11, x12 =>
    if x12 < (x01.length : Int) then
      (idx x01 x12).bind fun x20 =>
      (idx x02 x12).bind fun x25 =>
      if x25 = true then
        (m_slices_Contains_int_int x03 x12).bind fun x27 =>
        if x27 = true then
          (idx x10 x12).bind fun x30 =>
          (upd x10 x12 false).bind fun x31 =>
          (idx x31 x12).bind fun x33 =>
          if x33 = true then
            (ck (x11 + (1 : Int))).bind fun x36 =>
            (ck (x12 + (1 : Int))).bind fun x38 =>
            (m_ecread_usable_l1 u3 x01 x02 x03 q13) x31 x36 x38
          else
            (ck (x12 + (1 : Int))).bind fun x40 =>
            (m_ecread_usable_l1 u3 x01 x02 x03 q13) x31 x11 x40
        else
          (m_stripe_Size u3).bind fun x41 =>
          (idx x10 x12).bind fun x43 =>
          (upd x10 x12 ((x20.length : Int) == x41)).bind fun x44 =>
          (idx x44 x12).bind fun x46 =>
          if x46 = true then
            (ck (x11 + (1 : Int))).bind fun x49 =>
            (ck (x12 + (1 : Int))).bind fun x51 =>
            (m_ecread_usable_l1 u3 x01 x02 x03 q13) x44 x49 x51
          else
            (ck (x12 + (1 : Int))).bind fun x53 =>
            (m_ecread_usable_l1 u3 x01 x02 x03 q13) x44 x11 x53
      else
        (idx x10 x12).bind fun x54 =>
        (upd x10 x12 false).bind fun x55 =>
        (idx x55 x12).bind fun x57 =>
        if x57 = true then
          (ck (x11 + (1 : Int))).bind fun x60 =>
          (ck (x12 + (1 : Int))).bind fun x62 =>
          (m_ecread_usable_l1 u3 x01 x02 x03 q13) x55 x60 x62
        else
          (ck (x12 + (1 : Int))).bind fun x64 =>
          (m_ecread_usable_l1 u3 x01 x02 x03 q13) x55 x11 x64
    else
      m_ecread_usable_j0 x10 x11
def m_ecread_usable (u0 u1 u2 u3 : Int) (u4 u5 u6 u7 u8 u9 : BitVec 32) (u10 : List Sapi_Item) (x01 : List By) (x02 : List Bool) (x03 : List Int) : Option ((List Bool) × Int) :=
  (mks 1 (6 : Int) false).bind fun x5 =>
  m_ecread_usable_l1 u3 x01 x02 x03 forever x5 (0 : Int) (0 : Int)
def m_ecread_restore_j0 (x01 : List Bool) (y0 : Int) (x8 : List By) : Option (By) :=
  (m_rs_Restore x8 x01).bind fun x46 =>
  (idx x46.1 y0).bind fun x67 =>
  some (x67)
def m_ecread_restore_l1 (x00 : List By) (x01 : List Bool) (y0 y1 y2 : Int) : Nat -> (List By) -> Int -> Option (By)
  | 0, _, _ => none
  | q17 + 1, x13, x16 =>
    if x16 < (x00.length : Int) then
      (idx x00 x16).bind fun x24 =>
      (idx x01 x16).bind fun x29 =>
      if x29 = true then
        (ck (y1 + y2)).bind fun x32 =>
        (slc x24 y1 x32).bind fun x33 =>
        (idx x13 x16).bind fun x34 =>
        (upd x13 x16 x33).bind fun x38 =>
        (ck (x16 + (1 : Int))).bind fun x42 =>
        (m_ecread_restore_l1 x00 x01 y0 y1 y2 q17) x38 x42
      else
        (ck (x16 + (1 : Int))).bind fun x44 =>
        (m_ecread_restore_l1 x00 x01 y0 y1 y2 q17) x13 x44
    else
      m_ecread_restore_j0 x01 y0 x13
def m_ecread_restore (x00 : List By) (x01 : List Bool) (y0 y1 y2 : Int) : Option (By) :=
  (mks 24 (6 : Int) ([] : By)).bind fun x5 =>
  m_ecread_restore_l1 x00 x01 y0 y1 y2 forever x5 (0 : Int)
def m_ecread_Bytes_j1 (x55 : By) : Option (By × Bool) :=
  some (x55, true)
def m_ecread_Bytes_l2 (x01 : List By) (x31 : (List Bool) × Int) (x40 : (List Sstripe_Piece) × Int) : Nat -> (List Bool) -> By -> Int -> Option (By × Bool)
  | 0, _, _, _ => none
  | q73 + 1, x64, x71, x72 =>
    if x72 < (x40.1.length : Int) then
      (idx x40.1 x72).bind fun x82 =>
      (idx x64 x82.fShard).bind fun x85 =>
      if x85 = true then
        (idx x01 x82.fShard).bind fun x88 =>
        (ck (x82.fAt + x82.fLen)).bind fun x92 =>
        (slc x88 x82.fAt x92).bind fun x93 =>
        (apd 1 x71 x93).bind fun x94 =>
        (ck (x72 + (1 : Int))).bind fun x98 =>
        (m_ecread_Bytes_l2 x01 x31 x40 q73) x64 x94 x98
      else
        if (4 : Int) <= x31.2 then
          (m_ecread_restore x01 x64 x82.fShard x82.fAt x82.fLen).bind fun x102 =>
          (apd 1 x71 x102).bind fun x117 =>
          (ck (x72 + (1 : Int))).bind fun x121 =>
          (m_ecread_Bytes_l2 x01 x31 x40 q73) x64 x117 x121
        else
          some (([] : By), false)
    else
      m_ecread_Bytes_j1 x71
def m_ecread_Bytes_j0 (u0 u1 : Int) (u10 : List Sapi_Item) (u2 u3 : Int) (u4 u5 u6 u7 u8 u9 : BitVec 32) (x01 : List By) (x02 : List Bool) (x6 : List Int) (x8 x9 : Int) : Option (By × Bool) :=
  (m_ecread_usable u0 u1 u2 u3 u4 u5 u6 u7 u8 u9 u10 x01 x02 x6).bind fun x31 =>
  (m_stripe_Pieces x8 x9).bind fun x40 =>
  m_ecread_Bytes_l2 x01 x31 x40 forever x31.1 ([] : By) (0 : Int)
def m_ecread_Bytes (u0 u1 u2 u3 : Int) (u4 u5 u6 u7 u8 u9 : BitVec 32) (u10 : List Sapi_Item) (x01 : List By) (x02 : List Bool) (x03 : List Int) (x04 x05 : Int) : Option (By × Bool) :=
  (m_ecread_shaped u0 u1 u2 u3 u4 u5 u6 u7 u8 u9 u10 x01 x02).bind fun x12 =>
  if x12 = true then
    if x04 < (0 : Int) then
      some (([] : By), false)
    else
      if x05 < (0 : Int) then
        some (([] : By), false)
      else
        if u3 < x04 then
          some (([] : By), false)
        else
          (ck (u3 - x04)).bind fun x24 =>
          if x24 < x05 then
            some (([] : By), false)
          else
            m_ecread_Bytes_j0 u0 u1 u10 u2 u3 u4 u5 u6 u7 u8 u9 x01 x02 x03 x04 x05
  else
    some (([] : By), false)
def m_ecread_candidate_j0 (x04_0 : BitVec 64) (x04_1 : BitVec 32) (x04_3 x6 : Int) (x9 : By × Bool) : Option ((BitVec 64) × (BitVec 32) × Bool × By × Bool) :=
  (m_needle_Decode x9.1).bind fun x26 =>
  if x26.2.2.2.2.2 = (0 : Int) then
    if x26.2.2.2.2.1 = x6 then
      if x26.2.2.1 = true then
        some (0#64, 0#32, false, ([] : By), false)
      else
        if x26.1 = x04_0 then
          if x26.2.1 = x04_1 then
            if (x26.2.2.2.1.length : Int) = x04_3 then
              some (x26.1, x26.2.1, x26.2.2.1, x26.2.2.2.1, true)
            else
              some (0#64, 0#32, false, ([] : By), false)
          else
            some (0#64, 0#32, false, ([] : By), false)
        else
          some (0#64, 0#32, false, ([] : By), false)
    else
      some (0#64, 0#32, false, ([] : By), false)
  else
    some (0#64, 0#32, false, ([] : By), false)
def m_ecread_candidate (u0 u1 u2 u3 : Int) (u4 u5 u6 u7 u8 u9 : BitVec 32) (u10 : List Sapi_Item) (x01 : List By) (x02 : List Bool) (x03 : List Int) (x04_0 : BitVec 64) (x04_1 : BitVec 32) (x04_2 x04_3 : Int) : Option ((BitVec 64) × (BitVec 32) × Bool × By × Bool) :=
  (m_needle_Size x04_3).bind fun x6 =>
  (m_ecread_Bytes u0 u1 u2 u3 u4 u5 u6 u7 u8 u9 u10 x01 x02 x03 x04_2 x6).bind fun x9 =>
  if x9.2 = true then
    if x6 = (0 : Int) then
      some (0#64, 0#32, false, ([] : By), false)
    else
      m_ecread_candidate_j0 x04_0 x04_1 x04_3 x6 x9
  else
    some (0#64, 0#32, false, ([] : By), false)
def m_ecread_Read_j4 (x85 : Int) (r3 : Int -> Option ((BitVec 64) × (BitVec 32) × Bool × By × Int)) : Option ((BitVec 64) × (BitVec 32) × Bool × By × Int) :=
  (ck (x85 + (1 : Int))).bind fun x127 =>
  r3 x127
def m_ecread_Read_l5 (u0 u1 : Int) (u10 : List Sapi_Item) (u2 u3 : Int) (u4 u5 u6 u7 u8 u9 : BitVec 32) (x01 : List By) (x02 : List Bool) (z0 : BitVec 64) (z1 : BitVec 32) (z2 z3 x85 : Int) (r3 : Int -> Option ((BitVec 64) × (BitVec 32) × Bool × By × Int)) : Nat -> Int -> Option ((BitVec 64) × (BitVec 32) × Bool × By × Int)
  | 0, _ => none
  | q96 + 1, x95 =>
    if x95 < (6 : Int) then
      (m_ecread_candidate u0 u1 u2 u3 u4 u5 u6 u7 u8 u9 u10 x01 x02 ([x85, x95] : List Int) z0 z1 z2 z3).bind fun x112 =>
      if x112.2.2.2.2 = true then
        some (x112.1, x112.2.1, x112.2.2.1, x112.2.2.2.1, (0 : Int))
      else
        (ck (x95 + (1 : Int))).bind fun x125 =>
        (m_ecread_Read_l5 u0 u1 u10 u2 u3 u4 u5 u6 u7 u8 u9 x01 x02 z0 z1 z2 z3 x85 r3 q96) x125
    else
      m_ecread_Read_j4 x85 r3
def m_ecread_Read_l3 (u0 u1 : Int) (u10 : List Sapi_Item) (u2 u3 : Int) (u4 u5 u6 u7 u8 u9 : BitVec 32) (x01 : List By) (x02 : List Bool) (z0 : BitVec 64) (z1 : BitVec 32) (z2 z3 : Int) : Nat -> Int -> Option ((BitVec 64) × (BitVec 32) × Bool × By × Int)
  | 0, _ => none
  | q86 + 1, x85 =>
    if x85 < (6 : Int) then
      (ck (x85 + (1 : Int))).bind fun x94 =>
      m_ecread_Read_l5 u0 u1 u10 u2 u3 u4 u5 u6 u7 u8 u9 x01 x02 z0 z1 z2 z3 x85 (m_ecread_Read_l3 u0 u1 u10 u2 u3 u4 u5 u6 u7 u8 u9 x01 x02 z0 z1 z2 z3 q86) forever x94
    else
      some (0#64, 0#32, false, ([] : By), (11 : Int))
def m_ecread_Read_j1 (u0 u1 : Int) (u10 : List Sapi_Item) (u2 u3 : Int) (u4 u5 u6 u7 u8 u9 : BitVec 32) (x01 : List By) (x02 : List Bool) (z0 : BitVec 64) (z1 : BitVec 32) (z2 z3 : Int) : Option ((BitVec 64) × (BitVec 32) × Bool × By × Int) :=
  m_ecread_Read_l3 u0 u1 u10 u2 u3 u4 u5 u6 u7 u8 u9 x01 x02 z0 z1 z2 z3 forever (0 : Int)
def m_ecread_Read_l2 (u0 u1 : Int) (u10 : List Sapi_Item) (u2 u3 : Int) (u4 u5 u6 u7 u8 u9 : BitVec 32) (x01 : List By) (x02 : List Bool) (z0 : BitVec 64) (z1 : BitVec 32) (z2 z3 : Int) : Nat -> Int -> Option ((BitVec 64) × (BitVec 32) × Bool × By × Int)
  | 0, _ => none
  | q53 + 1, x52 =>
    if x52 < (6 : Int) then
      (m_ecread_candidate u0 u1 u2 u3 u4 u5 u6 u7 u8 u9 u10 x01 x02 ([x52] : List Int) z0 z1 z2 z3).bind fun x70 =>
      if x70.2.2.2.2 = true then
        some (x70.1, x70.2.1, x70.2.2.1, x70.2.2.2.1, (0 : Int))
      else
        (ck (x52 + (1 : Int))).bind fun x83 =>
        (m_ecread_Read_l2 u0 u1 u10 u2 u3 u4 u5 u6 u7 u8 u9 x01 x02 z0 z1 z2 z3 q53) x83
    else
      m_ecread_Read_j1 u0 u1 u10 u2 u3 u4 u5 u6 u7 u8 u9 x01 x02 z0 z1 z2 z3
def m_ecread_Read_j0 (u0 u1 : Int) (u10 : List Sapi_Item) (u2 u3 : Int) (u4 u5 u6 u7 u8 u9 : BitVec 32) (x01 : List By) (x02 : List Bool) (z0 : BitVec 64) (z1 : BitVec 32) (z2 z3 : Int) : Option ((BitVec 64) × (BitVec 32) × Bool × By × Int) :=
  (m_ecread_candidate u0 u1 u2 u3 u4 u5 u6 u7 u8 u9 u10 x01 x02 ([] : List Int) z0 z1 z2 z3).bind fun x38 =>
  if x38.2.2.2.2 = true then
    some (x38.1, x38.2.1, x38.2.2.1, x38.2.2.2.1, (0 : Int))
  else
    m_ecread_Read_l2 u0 u1 u10 u2 u3 u4 u5 u6 u7 u8 u9 x01 x02 z0 z1 z2 z3 forever (0 : Int)
def m_ecread_Read (u0 u1 u2 u3 : Int) (u4 u5 u6 u7 u8 u9 : BitVec 32) (u10 : List Sapi_Item) (x01 : List By) (x02 : List Bool) (z0 : BitVec 64) (z1 : BitVec 32) (z2 z3 : Int) : Option ((BitVec 64) × (BitVec 32) × Bool × By × Int) :=
  (m_ecread_shaped u0 u1 u2 u3 u4 u5 u6 u7 u8 u9 u10 x01 x02).bind fun x10 =>
  if x10 = true then
    (m_slices_Contains_api_Item_api_Item u10 z0 z1 z2 z3).bind fun x13 =>
    if x13 = true then
      m_ecread_Read_j0 u0 u1 u10 u2 u3 u4 u5 u6 u7 u8 u9 x01 x02 z0 z1 z2 z3
    else
      some (0#64, 0#32, false, ([] : By), (1 : Int))
  else
    some (0#64, 0#32, false, ([] : By), (1 : Int))
end Go.Proofs.YtcncappgheopgaaGreat
