/- A part of the proof. Conditions: as each theorem says. -/
import Derived.Test.YtcncappgheopgaaGreatMdj
namespace Go.Proofs.YtcncappgheopgaaGreat
set_option linter.unusedVariables false
def m_law18_given (u0 u1 u2 u3 : Int) (u4 u5 u6 u7 u8 u9 : BitVec 32) (u10 : List Sapi_Item) : Option (Int × Int × Int × Int × (BitVec 32) × (BitVec 32) × (BitVec 32) × (BitVec 32) × (BitVec 32) × (BitVec 32) × (List Sapi_Item)) :=
  some (u0, u1, u2, u3, u4, u5, u6, u7, u8, u9, u10)
def m_law18_all : Option ((List Bool)) :=
  some (([true, true, true, true, true, true] : List Bool))
def m_law18_spoilt_j2 (x01 : List Int) (x26 : List By) (x29 : List Bool) (x30 : Int) (r1 : (List By) -> (List Bool) -> Int -> Option ((List By) × (List Bool))) : Option ((List By) × (List Bool)) :=
  (idx x01 x30).bind fun x40 =>
  (rmi (andi x40 (7 : Int)) (6 : Int)).bind fun x41 =>
  (idx x01 x30).bind fun x44 =>
  if (0 : Int) < (andi x44 (64 : Int)) then
    (idx x29 x41).bind fun x47 =>
    (upd x29 x41 false).bind fun x48 =>
    (ck (x30 + (2 : Int))).bind fun x50 =>
    r1 x26 x48 x50
  else
    (idx x26 x41).bind fun x53 =>
    (apd 1 ([] : By) x53).bind fun x57 =>
    if (0 : Int) < (x57.length : Int) then
      (ck (x30 + (1 : Int))).bind fun x64 =>
      (idx x01 x64).bind fun x65 =>
      (rmi x65 (x57.length : Int)).bind fun x66 =>
      (ck (x66 + (x57.length : Int))).bind fun x67 =>
      (rmi x67 (x57.length : Int)).bind fun x68 =>
      (idx x57 x68).bind fun x69 =>
      (idx x01 x30).bind fun x70 =>
      (shri x70 (7 : Nat)).bind fun x71 =>
      (idx x57 x68).bind fun x72 =>
      (upd x57 x68 (x69 ^^^ ((BitVec.ofInt 8 x71) ||| 1#8))).bind fun x73 =>
      (idx x26 x41).bind fun x135 =>
      (upd x26 x41 x73).bind fun x141 =>
      (ck (x30 + (2 : Int))).bind fun x145 =>
      r1 x141 x29 x145
    else
      (idx x26 x41).bind fun x147 =>
      (upd x26 x41 x57).bind fun x153 =>
      (ck (x30 + (2 : Int))).bind fun x157 =>
      r1 x153 x29 x157
def m_law18_spoilt_j0 (x19 : List By) (x22 : List Bool) : Option ((List By) × (List Bool)) :=
  some (x19, x22)
def m_law18_spoilt_l1 (x01 : List Int) : Nat -> (List By) -> (List Bool) -> Int -> Option ((List By) × (List Bool))
  | 0, _, _, _ => none
  | q31 + 1, x26, x29, x30 =>
    (ck (x30 + (1 : Int))).bind fun x35 =>
    if x35 < (x01.length : Int) then
      if x30 < (8 : Int) then
        m_law18_spoilt_j2 x01 x26 x29 x30 (m_law18_spoilt_l1 x01 q31)
      else
        m_law18_spoilt_j0 x26 x29
    else
      m_law18_spoilt_j0 x26 x29
def m_law18_spoilt (x00 : List By) (x01 : List Int) : Option ((List By) × (List Bool)) :=
  (apd 24 ([] : List By) x00).bind fun x5 =>
  (m_law18_all).bind fun x10 =>
  m_law18_spoilt_l1 x01 forever x5 x10 (0 : Int)
def m_law18_light_j0 (x00 : List By) (v10 : List Sapi_Item) : Option Bool :=
  if (x00.length : Int) <= (8 : Int) then
    some ((decide ((v10.length : Int) <= (30 : Int))))
  else
    some (false)
def m_law18_light_l1 (x00 : List By) (v10 : List Sapi_Item) : Nat -> Int -> Option Bool
  | 0, _ => none
  | q6 + 1, x5 =>
    if x5 < (x00.length : Int) then
      (idx x00 x5).bind fun x14 =>
      if (1000 : Int) < (x14.length : Int) then
        some (false)
      else
        (ck (x5 + (1 : Int))).bind fun x21 =>
        (m_law18_light_l1 x00 v10 q6) x21
    else
      m_law18_light_j0 x00 v10
def m_law18_light (x00 : List By) (v0 v1 v2 v3 : Int) (v4 v5 v6 v7 v8 v9 : BitVec 32) (v10 : List Sapi_Item) : Option Bool :=
  m_law18_light_l1 x00 v10 forever (0 : Int)
def m_law18_awake : Option Bool :=
  (m_ecread_Exclude (6 : Int)).bind fun x3 =>
  (m_ecread_Exclude (7 : Int)).bind fun x11 =>
  (m_ecread_Exclude (21 : Int)).bind fun x19 =>
  (m_ecread_Read (0 : Int) (0 : Int) (0 : Int) (0 : Int) 0#32 0#32 0#32 0#32 0#32 0#32 ([] : List Sapi_Item) ([] : List By) ([] : List Bool) 0#64 0#32 (0 : Int) (0 : Int)).bind fun x28 =>
  (m_ecread_Exclude (0 : Int)).bind fun x38 =>
  if (x38.length : Int) = (0 : Int) then
    if (x3.length : Int) = (1 : Int) then
      (idx x3 (0 : Int)).bind fun x48 =>
      if x48 = (5 : Int) then
        if (x11.length : Int) = (2 : Int) then
          (idx x11 (0 : Int)).bind fun x51 =>
          if x51 = (0 : Int) then
            (idx x11 (1 : Int)).bind fun x53 =>
            if x53 = (1 : Int) then
              if (x19.length : Int) = (2 : Int) then
                (idx x19 (0 : Int)).bind fun x56 =>
                if x56 = (4 : Int) then
                  (idx x19 (1 : Int)).bind fun x58 =>
                  if x58 = (5 : Int) then
                    some ((x28.2.2.2.2 == (1 : Int)))
                  else
                    some (false)
                else
                  some (false)
              else
                some (false)
            else
              some (false)
          else
            some (false)
        else
          some (false)
      else
        some (false)
    else
      some (false)
  else
    some (false)
end Go.Proofs.YtcncappgheopgaaGreat
