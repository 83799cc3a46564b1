/-
  Models of functions of the program (j): what each computes, as an option. Printed by a program of ours (vcm.py). No conditions.
-/
import Derived.Test.YtcncappgheopgaaGreatMdi
namespace Go.Proofs.YtcncappgheopgaaGreat
set_option linter.unusedVariables false
def m_r18_usable_j2 (x10 : Int) (r1 : (List (Bool)) -> Int -> Option ((List (Bool)))) (x16 : List (Bool)) : Option ((List (Bool))) :=
  Option.bind (ck (x10 + (1 : Int))) fun x55 =>
  r1 x16 x55
def m_r18_usable_l4 (x03 : List (Int)) (x10 : Int) (r1 : (List (Bool)) -> Int -> Option ((List (Bool)))) : Nat -> (List (Bool)) -> Int -> Option ((List (Bool)))
  | 0, _, _ => none
  | q36 + 1, x34, x35 =>
    if x35 < (x03.length : Int) then
      Option.bind (idx x34 x10) fun x43 =>
      if x43 = true then
        Option.bind (idx x03 x35) fun x45 =>
        Option.bind (idx x34 x10) fun x46 =>
        Option.bind (upd x34 x10 (x45 != x10)) fun x47 =>
        Option.bind (ck (x35 + (1 : Int))) fun x49 =>
        (m_r18_usable_l4 x03 x10 r1 q36) x47 x49
      else
        Option.bind (idx x34 x10) fun x50 =>
        Option.bind (upd x34 x10 false) fun x51 =>
        Option.bind (ck (x35 + (1 : Int))) fun x53 =>
        (m_r18_usable_l4 x03 x10 r1 q36) x51 x53
    else
      m_r18_usable_j2 x10 r1 x34
def m_r18_usable_j3 (x03 : List (Int)) (x10 : Int) (r1 : (List (Bool)) -> Int -> Option ((List (Bool)))) (x18 : List (Bool)) : Option ((List (Bool))) :=
  m_r18_usable_l4 x03 x10 r1 forever x18 (0 : Int)
def m_r18_usable_j0 (x6 : List (Bool)) : Option ((List (Bool))) :=
  some (x6)
def m_r18_usable_l1 (x00_3 : Int) (x01 : List (List (BitVec 8))) (x02 : List (Bool)) (x03 : List (Int)) : Nat -> (List (Bool)) -> Int -> Option ((List (Bool)))
  | 0, _, _ => none
  | q11 + 1, x9, x10 =>
    if x10 < (6 : Int) then
      Option.bind (idx x02 x10) fun x21 =>
      if x21 = true then
        Option.bind (idx x01 x10) fun x23 =>
        Option.bind (m_r05_Size x00_3) fun x27 =>
        Option.bind (idx x9 x10) fun x29 =>
        Option.bind (upd x9 x10 ((x23.length : Int) == x27)) fun x30 =>
        m_r18_usable_j3 x03 x10 (m_r18_usable_l1 x00_3 x01 x02 x03 q11) x30
      else
        Option.bind (idx x9 x10) fun x31 =>
        Option.bind (upd x9 x10 false) fun x32 =>
        m_r18_usable_j3 x03 x10 (m_r18_usable_l1 x00_3 x01 x02 x03 q11) x32
    else
      m_r18_usable_j0 x9
def m_r18_usable (x00_0 x00_1 x00_2 x00_3 : Int) (x00_4 x00_5 x00_6 x00_7 x00_8 x00_9 : BitVec 32) (x00_10 : List (Sapi_Item)) (x01 : List (List (BitVec 8))) (x02 : List (Bool)) (x03 : List (Int)) : Option ((List (Bool))) :=
  Option.bind (mks 1 (6 : Int) false) fun x5 =>
  m_r18_usable_l1 x00_3 x01 x02 x03 forever x5 (0 : Int)
def m_r18_Bytes_j3 (x70 : List (Bool)) (x78 : Int) (r2 : (List (Bool)) -> (List (BitVec 8)) -> Int -> Option ((List (BitVec 8)) × Bool)) (x90 : List (BitVec 8)) : Option ((List (BitVec 8)) × Bool) :=
  Option.bind (ck (x78 + (1 : Int))) fun x201 =>
  r2 x70 x90 x201
def m_r18_Bytes_j4 (x70 : List (Bool)) (x77 : List (BitVec 8)) (x78 : Int) (x93 : Sneedlestoreref05_Piece) (r2 : (List (Bool)) -> (List (BitVec 8)) -> Int -> Option ((List (BitVec 8)) × Bool)) (x101 : List (List (BitVec 8))) : Option ((List (BitVec 8)) × Bool) :=
  Option.bind (idx x70 x93.fShard) fun x155 =>
  if x155 = true then
    Option.bind (idx x101 x93.fShard) fun x158 =>
    Option.bind (apd 1 x77 x158) fun x162 =>
    m_r18_Bytes_j3 x70 x78 r2 x162
  else
    Option.bind (m_r04_Restore x101 x70) fun x166 =>
    if x166.2 = (0 : Int) then
      Option.bind (idx x166.1 x93.fShard) fun x191 =>
      Option.bind (apd 1 x77 x191) fun x195 =>
      m_r18_Bytes_j3 x70 x78 r2 x195
    else
      some (([] : List (BitVec 8)), false)
def m_r18_Bytes_l5 (x01 : List (List (BitVec 8))) (x70 : List (Bool)) (x77 : List (BitVec 8)) (x78 : Int) (x93 : Sneedlestoreref05_Piece) (r2 : (List (Bool)) -> (List (BitVec 8)) -> Int -> Option ((List (BitVec 8)) × Bool)) : Nat -> (List (List (BitVec 8))) -> Int -> Option ((List (BitVec 8)) × Bool)
  | 0, _, _ => none
  | q115 + 1, x111, x114 =>
    if x114 < (6 : Int) then
      Option.bind (idx x70 x114) fun x124 =>
      if x124 = true then
        Option.bind (idx x01 x114) fun x127 =>
        Option.bind (ck (x93.fAt + x93.fLen)) fun x131 =>
        Option.bind (slc x127 x93.fAt x131) fun x132 =>
        Option.bind (apd 24 x111 ([x132] : List (List (BitVec 8)))) fun x136 =>
        Option.bind (ck (x114 + (1 : Int))) fun x142 =>
        (m_r18_Bytes_l5 x01 x70 x77 x78 x93 r2 q115) x136 x142
      else
        Option.bind (apd 24 x111 ([([] : List (BitVec 8))] : List (List (BitVec 8)))) fun x146 =>
        Option.bind (ck (x114 + (1 : Int))) fun x152 =>
        (m_r18_Bytes_l5 x01 x70 x77 x78 x93 r2 q115) x146 x152
    else
      m_r18_Bytes_j4 x70 x77 x78 x93 r2 x111
def m_r18_Bytes_j1 (x61 : List (BitVec 8)) : Option ((List (BitVec 8)) × Bool) :=
  some (x61, true)
def m_r18_Bytes_l2 (x01 : List (List (BitVec 8))) (x46 : (List (Sneedlestoreref05_Piece)) × Int) : Nat -> (List (Bool)) -> (List (BitVec 8)) -> Int -> Option ((List (BitVec 8)) × Bool)
  | 0, _, _, _ => none
  | q79 + 1, x70, x77, x78 =>
    if x78 < (x46.1.length : Int) then
      Option.bind (idx x46.1 x78) fun x93 =>
      m_r18_Bytes_l5 x01 x70 x77 x78 x93 (m_r18_Bytes_l2 x01 x46 q79) forever ([] : List (List (BitVec 8))) (0 : Int)
    else
      m_r18_Bytes_j1 x77
def m_r18_Bytes_j0 (x00_0 x00_1 : Int) (x00_10 : List (Sapi_Item)) (x00_2 x00_3 : Int) (x00_4 x00_5 x00_6 x00_7 x00_8 x00_9 : BitVec 32) (x01 : List (List (BitVec 8))) (x02 : List (Bool)) (x6 : List (Int)) (x8 x9 : Int) : Option ((List (BitVec 8)) × Bool) :=
  Option.bind (m_r18_usable x00_0 x00_1 x00_2 x00_3 x00_4 x00_5 x00_6 x00_7 x00_8 x00_9 x00_10 x01 x02 x6) fun x37 =>
  Option.bind (m_r05_Pieces x8 x9) fun x46 =>
  m_r18_Bytes_l2 x01 x46 forever x37 ([] : List (BitVec 8)) (0 : Int)
def m_r18_Bytes (x00_0 x00_1 x00_2 x00_3 : Int) (x00_4 x00_5 x00_6 x00_7 x00_8 x00_9 : BitVec 32) (x00_10 : List (Sapi_Item)) (x01 : List (List (BitVec 8))) (x02 : List (Bool)) (x03 : List (Int)) (x04 x05 : Int) : Option ((List (BitVec 8)) × Bool) :=
  Option.bind (m_r17_Valid x00_0 x00_1 x00_2 x00_3 x00_4 x00_5 x00_6 x00_7 x00_8 x00_9 x00_10) fun x12 =>
  if x12 = true then
    if (x01.length : Int) = (6 : Int) then
      if (x02.length : Int) = (6 : Int) then
        if x04 < (0 : Int) then
          some (([] : List (BitVec 8)), false)
        else
          if x05 < (0 : Int) then
            some (([] : List (BitVec 8)), false)
          else
            if x00_3 < x04 then
              some (([] : List (BitVec 8)), false)
            else
              Option.bind (ck (x00_3 - x04)) fun x26 =>
              if x26 < x05 then
                some (([] : List (BitVec 8)), false)
              else
                m_r18_Bytes_j0 x00_0 x00_1 x00_10 x00_2 x00_3 x00_4 x00_5 x00_6 x00_7 x00_8 x00_9 x01 x02 x03 x04 x05
      else
        some (([] : List (BitVec 8)), false)
    else
      some (([] : List (BitVec 8)), false)
  else
    some (([] : List (BitVec 8)), false)
end Go.Proofs.YtcncappgheopgaaGreat
