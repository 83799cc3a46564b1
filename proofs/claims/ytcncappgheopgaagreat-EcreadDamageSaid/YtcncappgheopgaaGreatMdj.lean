/- A part of the proof. Conditions: as each theorem says. -/
import Derived.Test.YtcncappgheopgaaGreatMdi
namespace Go.Proofs.YtcncappgheopgaaGreat
set_option linter.unusedVariables false
def m_r18_Exclude_j4 (x57 : Int) (r3 : (List (List Int)) -> Int -> Option ((List Int))) (x67 : List (List Int)) : Option ((List Int)) :=
  (ck (x57 + (1 : Int))).bind fun x101 =>
  r3 x67 x101
def m_r18_Exclude_l5 (x57 : Int) (r3 : (List (List Int)) -> Int -> Option ((List Int))) : Nat -> (List (List Int)) -> Int -> Option ((List Int))
  | 0, _, _ => none
  | q81 + 1, x77, x80 =>
    if x80 < (6 : Int) then
      (apd 24 x77 ([([x57, x80] : List Int)] : List (List Int))).bind fun x93 =>
      (ck (x80 + (1 : Int))).bind fun x99 =>
      (m_r18_Exclude_l5 x57 r3 q81) x93 x99
    else
      m_r18_Exclude_j4 x57 r3 x77
def m_r18_Exclude_j2 (x00 : Int) (x45 : List (List Int)) : Option ((List Int)) :=
  if x00 < (0 : Int) then
    some (([] : List Int))
  else
    if (x45.length : Int) <= x00 then
      some (([] : List Int))
    else
      (idx x45 x00).bind fun x109 =>
      some (x109)
def m_r18_Exclude_l3 (x00 : Int) : Nat -> (List (List Int)) -> Int -> Option ((List Int))
  | 0, _, _ => none
  | q58 + 1, x54, x57 =>
    if x57 < (6 : Int) then
      (ck (x57 + (1 : Int))).bind fun x72 =>
      m_r18_Exclude_l5 x57 (m_r18_Exclude_l3 x00 q58) forever x54 x72
    else
      m_r18_Exclude_j2 x00 x54
def m_r18_Exclude_j0 (x00 : Int) (x9 : List (List Int)) : Option ((List Int)) :=
  m_r18_Exclude_l3 x00 forever x9 (0 : Int)
def m_r18_Exclude_l1 (x00 : Int) : Nat -> (List (List Int)) -> Int -> Option ((List Int))
  | 0, _, _ => none
  | q22 + 1, x18, x21 =>
    if x21 < (6 : Int) then
      (apd 24 x18 ([([x21] : List Int)] : List (List Int))).bind fun x34 =>
      (ck (x21 + (1 : Int))).bind fun x40 =>
      (m_r18_Exclude_l1 x00 q22) x34 x40
    else
      m_r18_Exclude_j0 x00 x18
def m_r18_Exclude (x00 : Int) : Option ((List Int)) :=
  m_r18_Exclude_l1 x00 forever ([([] : List Int)] : List (List Int)) (0 : Int)
def m_r18_usable_j2 (x10 : Int) (r1 : (List Bool) -> Int -> Option ((List Bool))) (x16 : List Bool) : Option ((List Bool)) :=
  (ck (x10 + (1 : Int))).bind fun x55 =>
  r1 x16 x55
def m_r18_usable_l4 (x03 : List Int) (x10 : Int) (r1 : (List Bool) -> Int -> Option ((List Bool))) : Nat -> (List Bool) -> Int -> Option ((List Bool))
  | 0, _, _ => none
  | q36 + 1, x34, x35 =>
    if x35 < (x03.length : Int) then
      (idx x34 x10).bind fun x43 =>
      if x43 = true then
        (idx x03 x35).bind fun x45 =>
        (idx x34 x10).bind fun x46 =>
        (upd x34 x10 (x45 != x10)).bind fun x47 =>
        (ck (x35 + (1 : Int))).bind fun x49 =>
        (m_r18_usable_l4 x03 x10 r1 q36) x47 x49
      else
        (idx x34 x10).bind fun x50 =>
        (upd x34 x10 false).bind fun x51 =>
        (ck (x35 + (1 : Int))).bind fun x53 =>
        (m_r18_usable_l4 x03 x10 r1 q36) x51 x53
    else
      m_r18_usable_j2 x10 r1 x34
def m_r18_usable_j3 (x03 : List Int) (x10 : Int) (r1 : (List Bool) -> Int -> Option ((List Bool))) (x18 : List Bool) : Option ((List Bool)) :=
  m_r18_usable_l4 x03 x10 r1 forever x18 (0 : Int)
def m_r18_usable_j0 (x6 : List Bool) : Option ((List Bool)) :=
  some (x6)
def m_r18_usable_l1 (u3 : Int) (x01 : List By) (x02 : List Bool) (x03 : List Int) : Nat -> (List Bool) -> Int -> Option ((List Bool))
  | 0, _, _ => none
  | q11 + 1, x9, x10 =>
    if x10 < (6 : Int) then
      (idx x02 x10).bind fun x21 =>
      if x21 = true then
        (idx x01 x10).bind fun x23 =>
        (m_r05_Size u3).bind fun x27 =>
        (idx x9 x10).bind fun x29 =>
        (upd x9 x10 ((x23.length : Int) == x27)).bind fun x30 =>
        m_r18_usable_j3 x03 x10 (m_r18_usable_l1 u3 x01 x02 x03 q11) x30
      else
        (idx x9 x10).bind fun x31 =>
        (upd x9 x10 false).bind fun x32 =>
        m_r18_usable_j3 x03 x10 (m_r18_usable_l1 u3 x01 x02 x03 q11) x32
    else
      m_r18_usable_j0 x9
def m_r18_usable (u0 u1 u2 u3 : Int) (u4 u5 u6 u7 u8 u9 : BitVec 32) (u10 : List Sapi_Item) (x01 : List By) (x02 : List Bool) (x03 : List Int) : Option ((List Bool)) :=
  (mks 1 (6 : Int) false).bind fun x5 =>
  m_r18_usable_l1 u3 x01 x02 x03 forever x5 (0 : Int)
def m_r18_Bytes_j3 (x70 : List Bool) (x78 : Int) (r2 : (List Bool) -> By -> Int -> Option (By × Bool)) (x90 : By) : Option (By × Bool) :=
  (ck (x78 + (1 : Int))).bind fun x201 =>
  r2 x70 x90 x201
def m_r18_Bytes_j4 (x70 : List Bool) (x77 : By) (x78 : Int) (x93 : Sneedlestoreref05_Piece) (r2 : (List Bool) -> By -> Int -> Option (By × Bool)) (x101 : List By) : Option (By × Bool) :=
  (idx x70 x93.fShard).bind fun x155 =>
  if x155 = true then
    (idx x101 x93.fShard).bind fun x158 =>
    (apd 1 x77 x158).bind fun x162 =>
    m_r18_Bytes_j3 x70 x78 r2 x162
  else
    (m_r04_Restore x101 x70).bind fun x166 =>
    if x166.2 = (0 : Int) then
      (idx x166.1 x93.fShard).bind fun x191 =>
      (apd 1 x77 x191).bind fun x195 =>
      m_r18_Bytes_j3 x70 x78 r2 x195
    else
      some (([] : By), false)
def m_r18_Bytes_l5 (x01 : List By) (x70 : List Bool) (x77 : By) (x78 : Int) (x93 : Sneedlestoreref05_Piece) (r2 : (List Bool) -> By -> Int -> Option (By × Bool)) : Nat -> (List By) -> Int -> Option (By × Bool)
  | 0, _, _ => none
  | q115 + 1, x111, x114 =>
    if x114 < (6 : Int) then
      (idx x70 x114).bind fun x124 =>
      if x124 = true then
        (idx x01 x114).bind fun x127 =>
        (ck (x93.fAt + x93.fLen)).bind fun x131 =>
        (slc x127 x93.fAt x131).bind fun x132 =>
        (apd 24 x111 ([x132] : List By)).bind fun x136 =>
        (ck (x114 + (1 : Int))).bind fun x142 =>
        (m_r18_Bytes_l5 x01 x70 x77 x78 x93 r2 q115) x136 x142
      else
        (apd 24 x111 ([([] : By)] : List By)).bind fun x146 =>
        (ck (x114 + (1 : Int))).bind fun x152 =>
        (m_r18_Bytes_l5 x01 x70 x77 x78 x93 r2 q115) x146 x152
    else
      m_r18_Bytes_j4 x70 x77 x78 x93 r2 x111
def m_r18_Bytes_j1 (x61 : By) : Option (By × Bool) :=
  some (x61, true)
def m_r18_Bytes_l2 (x01 : List By) (x46 : (List Sneedlestoreref05_Piece) × Int) : Nat -> (List Bool) -> By -> Int -> Option (By × Bool)
  | 0, _, _, _ => none
  | q79 + 1, x70, x77, x78 =>
    if x78 < (x46.1.length : Int) then
      (idx x46.1 x78).bind fun x93 =>
      m_r18_Bytes_l5 x01 x70 x77 x78 x93 (m_r18_Bytes_l2 x01 x46 q79) forever ([] : List By) (0 : Int)
    else
      m_r18_Bytes_j1 x77
def m_r18_Bytes_j0 (u0 u1 : Int) (u10 : List Sapi_Item) (u2 u3 : Int) (u4 u5 u6 u7 u8 u9 : BitVec 32) (x01 : List By) (x02 : List Bool) (x6 : List Int) (x8 x9 : Int) : Option (By × Bool) :=
  (m_r18_usable u0 u1 u2 u3 u4 u5 u6 u7 u8 u9 u10 x01 x02 x6).bind fun x37 =>
  (m_r05_Pieces x8 x9).bind fun x46 =>
  m_r18_Bytes_l2 x01 x46 forever x37 ([] : By) (0 : Int)
def m_r18_Bytes (u0 u1 u2 u3 : Int) (u4 u5 u6 u7 u8 u9 : BitVec 32) (u10 : List Sapi_Item) (x01 : List By) (x02 : List Bool) (x03 : List Int) (x04 x05 : Int) : Option (By × Bool) :=
  (m_r17_Valid u0 u1 u2 u3 u4 u5 u6 u7 u8 u9 u10).bind fun x12 =>
  if x12 = true then
    if (x01.length : Int) = (6 : Int) then
      if (x02.length : Int) = (6 : Int) then
        if x04 < (0 : Int) then
          some (([] : By), false)
        else
          if x05 < (0 : Int) then
            some (([] : By), false)
          else
            if u3 < x04 then
              some (([] : By), false)
            else
              (ck (u3 - x04)).bind fun x26 =>
              if x26 < x05 then
                some (([] : By), false)
              else
                m_r18_Bytes_j0 u0 u1 u10 u2 u3 u4 u5 u6 u7 u8 u9 x01 x02 x03 x04 x05
      else
        some (([] : By), false)
    else
      some (([] : By), false)
  else
    some (([] : By), false)
def m_r18_Candidate_j0 (u0 u1 : Int) (u10 : List Sapi_Item) (u2 u3 : Int) (u4 u5 u6 u7 u8 u9 : BitVec 32) (x01 : List By) (x02 : List Bool) (x03 : Int) (x04_0 : BitVec 64) (x04_1 : BitVec 32) (x04_2 x04_3 : Int) : Option ((BitVec 64) × (BitVec 32) × Bool × By × Bool) :=
  (m_r18_Exclude x03).bind fun x20 =>
  (m_r06_Size x04_3).bind fun x35 =>
  (m_r18_Bytes u0 u1 u2 u3 u4 u5 u6 u7 u8 u9 u10 x01 x02 x20 x04_2 x35).bind fun x37 =>
  if x37.2 = true then
    (m_r06_Decode x37.1).bind fun x49 =>
    if x49.2.2.2.2.2 = (0 : Int) then
      if x49.2.2.2.2.1 = (x37.1.length : Int) then
        if x49.2.2.1 = true then
          some (0#64, 0#32, false, ([] : By), false)
        else
          if x49.1 = x04_0 then
            if x49.2.1 = x04_1 then
              if (x49.2.2.2.1.length : Int) = x04_3 then
                some (x49.1, x49.2.1, x49.2.2.1, x49.2.2.2.1, true)
              else
                some (0#64, 0#32, false, ([] : By), false)
            else
              some (0#64, 0#32, false, ([] : By), false)
          else
            some (0#64, 0#32, false, ([] : By), false)
      else
        some (0#64, 0#32, false, ([] : By), false)
    else
      some (0#64, 0#32, false, ([] : By), false)
  else
    some (0#64, 0#32, false, ([] : By), false)
def m_r18_Candidate (u0 u1 u2 u3 : Int) (u4 u5 u6 u7 u8 u9 : BitVec 32) (u10 : List Sapi_Item) (x01 : List By) (x02 : List Bool) (x03 : Int) (x04_0 : BitVec 64) (x04_1 : BitVec 32) (x04_2 x04_3 : Int) : Option ((BitVec 64) × (BitVec 32) × Bool × By × Bool) :=
  if x03 < (0 : Int) then
    some (0#64, 0#32, false, ([] : By), false)
  else
    if (22 : Int) <= x03 then
      some (0#64, 0#32, false, ([] : By), false)
    else
      if x04_3 < (0 : Int) then
        some (0#64, 0#32, false, ([] : By), false)
      else
        if (4096 : Int) < x04_3 then
          some (0#64, 0#32, false, ([] : By), false)
        else
          m_r18_Candidate_j0 u0 u1 u10 u2 u3 u4 u5 u6 u7 u8 u9 x01 x02 x03 x04_0 x04_1 x04_2 x04_3
end Go.Proofs.YtcncappgheopgaaGreat
