/-
  Models of functions of the program (i): what each computes, as an option. Printed by a program of ours (vcm.py). No conditions.
-/
import Derived.Test.YtcncappgheopgaaGreatMdh
namespace Go.Proofs.YtcncappgheopgaaGreat
set_option linter.unusedVariables false
def m_ecread_Exclude_j3 (x56 : Int) (r2 : Int -> Int -> Option ((List (Int)))) (x62 : Int) : Option ((List (Int))) :=
  r2 x62 (wri (x56 + (1 : Int)))
def m_ecread_Exclude_l4 (x56 : Int) (r2 : Int -> Int -> Option ((List (Int)))) : Nat -> Int -> Int -> Option ((List (Int)))
  | 0, _, _ => none
  | q68 + 1, x66, x67 =>
    if x67 < (6 : Int) then
      if x66 = (0 : Int) then
        some (([x56, x67] : List (Int)))
      else
        (m_ecread_Exclude_l4 x56 r2 q68) (wri (x66 - (1 : Int))) (wri (x67 + (1 : Int)))
    else
      m_ecread_Exclude_j3 x56 r2 x66
def m_ecread_Exclude_l2 : Nat -> Int -> Int -> Option ((List (Int)))
  | 0, _, _ => none
  | q57 + 1, x55, x56 =>
    if x56 < (6 : Int) then
      m_ecread_Exclude_l4 x56 (m_ecread_Exclude_l2 q57) forever x55 (wri (x56 + (1 : Int)))
    else
      some (([] : List (Int)))
def m_ecread_Exclude_j0 (x27 : Int) : Option ((List (Int))) :=
  m_ecread_Exclude_l2 forever x27 (0 : Int)
def m_ecread_Exclude_l1 : Nat -> Int -> Int -> Option ((List (Int)))
  | 0, _, _ => none
  | q32 + 1, x30, x31 =>
    if x31 < (6 : Int) then
      if x30 = (0 : Int) then
        some (([x31] : List (Int)))
      else
        (m_ecread_Exclude_l1 q32) (wri (x30 - (1 : Int))) (wri (x31 + (1 : Int)))
    else
      m_ecread_Exclude_j0 x30
def m_ecread_Exclude (x00 : Int) : Option ((List (Int))) :=
  if x00 = (0 : Int) then
    some (([] : List (Int)))
  else
    m_ecread_Exclude_l1 forever (wri (x00 - (1 : Int))) (0 : Int)
def m_ecread_shaped (x00_0 x00_1 x00_2 x00_3 : Int) (x00_4 x00_5 x00_6 x00_7 x00_8 x00_9 : BitVec 32) (x00_10 : List (Sapi_Item)) (x01 : List (List (BitVec 8))) (x02 : List (Bool)) : Option (Bool) :=
  Option.bind (m_shards_Valid x00_0 x00_1 x00_2 x00_3 x00_4 x00_5 x00_6 x00_7 x00_8 x00_9 x00_10) fun x4 =>
  if x4 = true then
    if (x01.length : Int) = (6 : Int) then
      some (((x02.length : Int) == (6 : Int)))
    else
      some (false)
  else
    some (false)
def m_ecread_usable_j0 (x6 : List (Bool)) (x7 : Int) : Option ((List (Bool)) × Int) :=
  some (x6, x7)
def m_ecread_usable_l1 (x00_3 : Int) (x01 : List (List (BitVec 8))) (x02 : List (Bool)) (x03 : List (Int)) : Nat -> (List (Bool)) -> Int -> Int -> Option ((List (Bool)) × Int)
  | 0, _, _, _ => none
  | q13 + 1, x10, x11, x12 =>
    if x12 < (x01.length : Int) then
      Option.bind (idx x01 x12) fun x20 =>
      Option.bind (idx x02 x12) fun x25 =>
      if x25 = true then
        Option.bind (m_slices_Contains_int_int x03 x12) fun x27 =>
        if x27 = true then
          Option.bind (idx x10 x12) fun x30 =>
          Option.bind (upd x10 x12 false) fun x31 =>
          Option.bind (idx x31 x12) fun x33 =>
          if x33 = true then
            Option.bind (ck (x11 + (1 : Int))) fun x36 =>
            Option.bind (ck (x12 + (1 : Int))) fun x38 =>
            (m_ecread_usable_l1 x00_3 x01 x02 x03 q13) x31 x36 x38
          else
            Option.bind (ck (x12 + (1 : Int))) fun x40 =>
            (m_ecread_usable_l1 x00_3 x01 x02 x03 q13) x31 x11 x40
        else
          Option.bind (m_stripe_Size x00_3) fun x41 =>
          Option.bind (idx x10 x12) fun x43 =>
          Option.bind (upd x10 x12 ((x20.length : Int) == x41)) fun x44 =>
          Option.bind (idx x44 x12) fun x46 =>
          if x46 = true then
            Option.bind (ck (x11 + (1 : Int))) fun x49 =>
            Option.bind (ck (x12 + (1 : Int))) fun x51 =>
            (m_ecread_usable_l1 x00_3 x01 x02 x03 q13) x44 x49 x51
          else
            Option.bind (ck (x12 + (1 : Int))) fun x53 =>
            (m_ecread_usable_l1 x00_3 x01 x02 x03 q13) x44 x11 x53
      else
        Option.bind (idx x10 x12) fun x54 =>
        Option.bind (upd x10 x12 false) fun x55 =>
        Option.bind (idx x55 x12) fun x57 =>
        if x57 = true then
          Option.bind (ck (x11 + (1 : Int))) fun x60 =>
          Option.bind (ck (x12 + (1 : Int))) fun x62 =>
          (m_ecread_usable_l1 x00_3 x01 x02 x03 q13) x55 x60 x62
        else
          Option.bind (ck (x12 + (1 : Int))) fun x64 =>
          (m_ecread_usable_l1 x00_3 x01 x02 x03 q13) x55 x11 x64
    else
      m_ecread_usable_j0 x10 x11
def m_ecread_usable (x00_0 x00_1 x00_2 x00_3 : Int) (x00_4 x00_5 x00_6 x00_7 x00_8 x00_9 : BitVec 32) (x00_10 : List (Sapi_Item)) (x01 : List (List (BitVec 8))) (x02 : List (Bool)) (x03 : List (Int)) : Option ((List (Bool)) × Int) :=
  Option.bind (mks 1 (6 : Int) false) fun x5 =>
  m_ecread_usable_l1 x00_3 x01 x02 x03 forever x5 (0 : Int) (0 : Int)
def m_ecread_restore_j0 (x01 : List (Bool)) (x02_0 : Int) (x8 : List (List (BitVec 8))) : Option ((List (BitVec 8))) :=
  Option.bind (m_rs_Restore x8 x01) fun x46 =>
  Option.bind (idx x46.1 x02_0) fun x67 =>
  some (x67)
def m_ecread_restore_l1 (x00 : List (List (BitVec 8))) (x01 : List (Bool)) (x02_0 x02_1 x02_2 : Int) : Nat -> (List (List (BitVec 8))) -> Int -> Option ((List (BitVec 8)))
  | 0, _, _ => none
  | q17 + 1, x13, x16 =>
    if x16 < (x00.length : Int) then
      Option.bind (idx x00 x16) fun x24 =>
      Option.bind (idx x01 x16) fun x29 =>
      if x29 = true then
        Option.bind (ck (x02_1 + x02_2)) fun x32 =>
        Option.bind (slc x24 x02_1 x32) fun x33 =>
        Option.bind (idx x13 x16) fun x34 =>
        Option.bind (upd x13 x16 x33) fun x38 =>
        Option.bind (ck (x16 + (1 : Int))) fun x42 =>
        (m_ecread_restore_l1 x00 x01 x02_0 x02_1 x02_2 q17) x38 x42
      else
        Option.bind (ck (x16 + (1 : Int))) fun x44 =>
        (m_ecread_restore_l1 x00 x01 x02_0 x02_1 x02_2 q17) x13 x44
    else
      m_ecread_restore_j0 x01 x02_0 x13
def m_ecread_restore (x00 : List (List (BitVec 8))) (x01 : List (Bool)) (x02_0 x02_1 x02_2 : Int) : Option ((List (BitVec 8))) :=
  Option.bind (mks 24 (6 : Int) ([] : List (BitVec 8))) fun x5 =>
  m_ecread_restore_l1 x00 x01 x02_0 x02_1 x02_2 forever x5 (0 : Int)
def m_ecread_Bytes_j1 (x55 : List (BitVec 8)) : Option ((List (BitVec 8)) × Bool) :=
  some (x55, true)
def m_ecread_Bytes_l2 (x01 : List (List (BitVec 8))) (x31 : (List (Bool)) × Int) (x40 : (List (Sstripe_Piece)) × Int) : Nat -> (List (Bool)) -> (List (BitVec 8)) -> Int -> Option ((List (BitVec 8)) × Bool)
  | 0, _, _, _ => none
  | q73 + 1, x64, x71, x72 =>
    if x72 < (x40.1.length : Int) then
      Option.bind (idx x40.1 x72) fun x82 =>
      Option.bind (idx x64 x82.fShard) fun x85 =>
      if x85 = true then
        Option.bind (idx x01 x82.fShard) fun x88 =>
        Option.bind (ck (x82.fAt + x82.fLen)) fun x92 =>
        Option.bind (slc x88 x82.fAt x92) fun x93 =>
        Option.bind (apd 1 x71 x93) fun x94 =>
        Option.bind (ck (x72 + (1 : Int))) fun x98 =>
        (m_ecread_Bytes_l2 x01 x31 x40 q73) x64 x94 x98
      else
        if (4 : Int) <= x31.2 then
          Option.bind (m_ecread_restore x01 x64 x82.fShard x82.fAt x82.fLen) fun x102 =>
          Option.bind (apd 1 x71 x102) fun x117 =>
          Option.bind (ck (x72 + (1 : Int))) fun x121 =>
          (m_ecread_Bytes_l2 x01 x31 x40 q73) x64 x117 x121
        else
          some (([] : List (BitVec 8)), false)
    else
      m_ecread_Bytes_j1 x71
def m_ecread_Bytes_j0 (x00_0 x00_1 : Int) (x00_10 : List (Sapi_Item)) (x00_2 x00_3 : Int) (x00_4 x00_5 x00_6 x00_7 x00_8 x00_9 : BitVec 32) (x01 : List (List (BitVec 8))) (x02 : List (Bool)) (x6 : List (Int)) (x8 x9 : Int) : Option ((List (BitVec 8)) × Bool) :=
  Option.bind (m_ecread_usable x00_0 x00_1 x00_2 x00_3 x00_4 x00_5 x00_6 x00_7 x00_8 x00_9 x00_10 x01 x02 x6) fun x31 =>
  Option.bind (m_stripe_Pieces x8 x9) fun x40 =>
  m_ecread_Bytes_l2 x01 x31 x40 forever x31.1 ([] : List (BitVec 8)) (0 : Int)
def m_ecread_Bytes (x00_0 x00_1 x00_2 x00_3 : Int) (x00_4 x00_5 x00_6 x00_7 x00_8 x00_9 : BitVec 32) (x00_10 : List (Sapi_Item)) (x01 : List (List (BitVec 8))) (x02 : List (Bool)) (x03 : List (Int)) (x04 x05 : Int) : Option ((List (BitVec 8)) × Bool) :=
  Option.bind (m_ecread_shaped x00_0 x00_1 x00_2 x00_3 x00_4 x00_5 x00_6 x00_7 x00_8 x00_9 x00_10 x01 x02) fun x12 =>
  if x12 = true then
    if x04 < (0 : Int) then
      some (([] : List (BitVec 8)), false)
    else
      if x05 < (0 : Int) then
        some (([] : List (BitVec 8)), false)
      else
        if x00_3 < x04 then
          some (([] : List (BitVec 8)), false)
        else
          Option.bind (ck (x00_3 - x04)) fun x24 =>
          if x24 < x05 then
            some (([] : List (BitVec 8)), false)
          else
            m_ecread_Bytes_j0 x00_0 x00_1 x00_10 x00_2 x00_3 x00_4 x00_5 x00_6 x00_7 x00_8 x00_9 x01 x02 x03 x04 x05
  else
    some (([] : List (BitVec 8)), false)
def m_ecread_candidate_j0 (x04_0 : BitVec 64) (x04_1 : BitVec 32) (x04_3 x6 : Int) (x9 : (List (BitVec 8)) × Bool) : Option ((BitVec 64) × (BitVec 32) × Bool × (List (BitVec 8)) × Bool) :=
  Option.bind (m_needle_Decode x9.1) fun x26 =>
  if x26.2.2.2.2.2 = (0 : Int) then
    if x26.2.2.2.2.1 = x6 then
      if x26.2.2.1 = true then
        some (0#64, 0#32, false, ([] : List (BitVec 8)), false)
      else
        if x26.1 = x04_0 then
          if x26.2.1 = x04_1 then
            if (x26.2.2.2.1.length : Int) = x04_3 then
              some (x26.1, x26.2.1, x26.2.2.1, x26.2.2.2.1, true)
            else
              some (0#64, 0#32, false, ([] : List (BitVec 8)), false)
          else
            some (0#64, 0#32, false, ([] : List (BitVec 8)), false)
        else
          some (0#64, 0#32, false, ([] : List (BitVec 8)), false)
    else
      some (0#64, 0#32, false, ([] : List (BitVec 8)), false)
  else
    some (0#64, 0#32, false, ([] : List (BitVec 8)), false)
def m_ecread_candidate (x00_0 x00_1 x00_2 x00_3 : Int) (x00_4 x00_5 x00_6 x00_7 x00_8 x00_9 : BitVec 32) (x00_10 : List (Sapi_Item)) (x01 : List (List (BitVec 8))) (x02 : List (Bool)) (x03 : List (Int)) (x04_0 : BitVec 64) (x04_1 : BitVec 32) (x04_2 x04_3 : Int) : Option ((BitVec 64) × (BitVec 32) × Bool × (List (BitVec 8)) × Bool) :=
  Option.bind (m_needle_Size x04_3) fun x6 =>
  Option.bind (m_ecread_Bytes x00_0 x00_1 x00_2 x00_3 x00_4 x00_5 x00_6 x00_7 x00_8 x00_9 x00_10 x01 x02 x03 x04_2 x6) fun x9 =>
  if x9.2 = true then
    if x6 = (0 : Int) then
      some (0#64, 0#32, false, ([] : List (BitVec 8)), false)
    else
      m_ecread_candidate_j0 x04_0 x04_1 x04_3 x6 x9
  else
    some (0#64, 0#32, false, ([] : List (BitVec 8)), false)
def m_ecread_Read_j4 (x85 : Int) (r3 : Int -> Option ((BitVec 64) × (BitVec 32) × Bool × (List (BitVec 8)) × Int)) : Option ((BitVec 64) × (BitVec 32) × Bool × (List (BitVec 8)) × Int) :=
  Option.bind (ck (x85 + (1 : Int))) fun x127 =>
  r3 x127
def m_ecread_Read_l5 (x00_0 x00_1 : Int) (x00_10 : List (Sapi_Item)) (x00_2 x00_3 : Int) (x00_4 x00_5 x00_6 x00_7 x00_8 x00_9 : BitVec 32) (x01 : List (List (BitVec 8))) (x02 : List (Bool)) (x03_0 : BitVec 64) (x03_1 : BitVec 32) (x03_2 x03_3 x85 : Int) (r3 : Int -> Option ((BitVec 64) × (BitVec 32) × Bool × (List (BitVec 8)) × Int)) : Nat -> Int -> Option ((BitVec 64) × (BitVec 32) × Bool × (List (BitVec 8)) × Int)
  | 0, _ => none
  | q96 + 1, x95 =>
    if x95 < (6 : Int) then
      Option.bind (m_ecread_candidate x00_0 x00_1 x00_2 x00_3 x00_4 x00_5 x00_6 x00_7 x00_8 x00_9 x00_10 x01 x02 ([x85, x95] : List (Int)) x03_0 x03_1 x03_2 x03_3) fun x112 =>
      if x112.2.2.2.2 = true then
        some (x112.1, x112.2.1, x112.2.2.1, x112.2.2.2.1, (0 : Int))
      else
        Option.bind (ck (x95 + (1 : Int))) fun x125 =>
        (m_ecread_Read_l5 x00_0 x00_1 x00_10 x00_2 x00_3 x00_4 x00_5 x00_6 x00_7 x00_8 x00_9 x01 x02 x03_0 x03_1 x03_2 x03_3 x85 r3 q96) x125
    else
      m_ecread_Read_j4 x85 r3
def m_ecread_Read_l3 (x00_0 x00_1 : Int) (x00_10 : List (Sapi_Item)) (x00_2 x00_3 : Int) (x00_4 x00_5 x00_6 x00_7 x00_8 x00_9 : BitVec 32) (x01 : List (List (BitVec 8))) (x02 : List (Bool)) (x03_0 : BitVec 64) (x03_1 : BitVec 32) (x03_2 x03_3 : Int) : Nat -> Int -> Option ((BitVec 64) × (BitVec 32) × Bool × (List (BitVec 8)) × Int)
  | 0, _ => none
  | q86 + 1, x85 =>
    if x85 < (6 : Int) then
      Option.bind (ck (x85 + (1 : Int))) fun x94 =>
      m_ecread_Read_l5 x00_0 x00_1 x00_10 x00_2 x00_3 x00_4 x00_5 x00_6 x00_7 x00_8 x00_9 x01 x02 x03_0 x03_1 x03_2 x03_3 x85 (m_ecread_Read_l3 x00_0 x00_1 x00_10 x00_2 x00_3 x00_4 x00_5 x00_6 x00_7 x00_8 x00_9 x01 x02 x03_0 x03_1 x03_2 x03_3 q86) forever x94
    else
      some (0#64, 0#32, false, ([] : List (BitVec 8)), (11 : Int))
def m_ecread_Read_j1 (x00_0 x00_1 : Int) (x00_10 : List (Sapi_Item)) (x00_2 x00_3 : Int) (x00_4 x00_5 x00_6 x00_7 x00_8 x00_9 : BitVec 32) (x01 : List (List (BitVec 8))) (x02 : List (Bool)) (x03_0 : BitVec 64) (x03_1 : BitVec 32) (x03_2 x03_3 : Int) : Option ((BitVec 64) × (BitVec 32) × Bool × (List (BitVec 8)) × Int) :=
  m_ecread_Read_l3 x00_0 x00_1 x00_10 x00_2 x00_3 x00_4 x00_5 x00_6 x00_7 x00_8 x00_9 x01 x02 x03_0 x03_1 x03_2 x03_3 forever (0 : Int)
def m_ecread_Read_l2 (x00_0 x00_1 : Int) (x00_10 : List (Sapi_Item)) (x00_2 x00_3 : Int) (x00_4 x00_5 x00_6 x00_7 x00_8 x00_9 : BitVec 32) (x01 : List (List (BitVec 8))) (x02 : List (Bool)) (x03_0 : BitVec 64) (x03_1 : BitVec 32) (x03_2 x03_3 : Int) : Nat -> Int -> Option ((BitVec 64) × (BitVec 32) × Bool × (List (BitVec 8)) × Int)
  | 0, _ => none
  | q53 + 1, x52 =>
    if x52 < (6 : Int) then
      Option.bind (m_ecread_candidate x00_0 x00_1 x00_2 x00_3 x00_4 x00_5 x00_6 x00_7 x00_8 x00_9 x00_10 x01 x02 ([x52] : List (Int)) x03_0 x03_1 x03_2 x03_3) fun x70 =>
      if x70.2.2.2.2 = true then
        some (x70.1, x70.2.1, x70.2.2.1, x70.2.2.2.1, (0 : Int))
      else
        Option.bind (ck (x52 + (1 : Int))) fun x83 =>
        (m_ecread_Read_l2 x00_0 x00_1 x00_10 x00_2 x00_3 x00_4 x00_5 x00_6 x00_7 x00_8 x00_9 x01 x02 x03_0 x03_1 x03_2 x03_3 q53) x83
    else
      m_ecread_Read_j1 x00_0 x00_1 x00_10 x00_2 x00_3 x00_4 x00_5 x00_6 x00_7 x00_8 x00_9 x01 x02 x03_0 x03_1 x03_2 x03_3
def m_ecread_Read_j0 (x00_0 x00_1 : Int) (x00_10 : List (Sapi_Item)) (x00_2 x00_3 : Int) (x00_4 x00_5 x00_6 x00_7 x00_8 x00_9 : BitVec 32) (x01 : List (List (BitVec 8))) (x02 : List (Bool)) (x03_0 : BitVec 64) (x03_1 : BitVec 32) (x03_2 x03_3 : Int) : Option ((BitVec 64) × (BitVec 32) × Bool × (List (BitVec 8)) × Int) :=
  Option.bind (m_ecread_candidate x00_0 x00_1 x00_2 x00_3 x00_4 x00_5 x00_6 x00_7 x00_8 x00_9 x00_10 x01 x02 ([] : List (Int)) x03_0 x03_1 x03_2 x03_3) fun x38 =>
  if x38.2.2.2.2 = true then
    some (x38.1, x38.2.1, x38.2.2.1, x38.2.2.2.1, (0 : Int))
  else
    m_ecread_Read_l2 x00_0 x00_1 x00_10 x00_2 x00_3 x00_4 x00_5 x00_6 x00_7 x00_8 x00_9 x01 x02 x03_0 x03_1 x03_2 x03_3 forever (0 : Int)
def m_ecread_Read (x00_0 x00_1 x00_2 x00_3 : Int) (x00_4 x00_5 x00_6 x00_7 x00_8 x00_9 : BitVec 32) (x00_10 : List (Sapi_Item)) (x01 : List (List (BitVec 8))) (x02 : List (Bool)) (x03_0 : BitVec 64) (x03_1 : BitVec 32) (x03_2 x03_3 : Int) : Option ((BitVec 64) × (BitVec 32) × Bool × (List (BitVec 8)) × Int) :=
  Option.bind (m_ecread_shaped x00_0 x00_1 x00_2 x00_3 x00_4 x00_5 x00_6 x00_7 x00_8 x00_9 x00_10 x01 x02) fun x10 =>
  if x10 = true then
    Option.bind (m_slices_Contains_api_Item_api_Item x00_10 x03_0 x03_1 x03_2 x03_3) fun x13 =>
    if x13 = true then
      m_ecread_Read_j0 x00_0 x00_1 x00_10 x00_2 x00_3 x00_4 x00_5 x00_6 x00_7 x00_8 x00_9 x01 x02 x03_0 x03_1 x03_2 x03_3
    else
      some (0#64, 0#32, false, ([] : List (BitVec 8)), (1 : Int))
  else
    some (0#64, 0#32, false, ([] : List (BitVec 8)), (1 : Int))
end Go.Proofs.YtcncappgheopgaaGreat
