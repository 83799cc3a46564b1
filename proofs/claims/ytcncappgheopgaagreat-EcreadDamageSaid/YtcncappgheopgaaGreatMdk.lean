/- A part of the proof. Conditions: as each theorem says. -/
import Derived.Test.YtcncappgheopgaaGreatMdj
namespace Go.Proofs.YtcncappgheopgaaGreat
set_option linter.unusedVariables false
def m_law18_given (u0 u1 u2 u3 : Int) (u4 u5 u6 u7 u8 u9 : BitVec 32) (u10 : List Sapi_Item) : Option (Int × Int × Int × Int × (BitVec 32) × (BitVec 32) × (BitVec 32) × (BitVec 32) × (BitVec 32) × (BitVec 32) × (List Sapi_Item)) :=
  some (u0, u1, u2, u3, u4, u5, u6, u7, u8, u9, u10)
def m_law18_all : Option ((List Bool)) :=
  some (([true, true, true, true, true, true] : List Bool))
def m_law18_light_j0 (x00 : List By) (v10 : List Sapi_Item) : Option Bool :=
  if (x00.length : Int) <= (8 : Int) then
    some ((decide ((v10.length : Int) <= (30 : Int))))
  else
    some (false)
def m_law18_light_l1 (x00 : List By) (v10 : List Sapi_Item) : Nat -> Int -> Option Bool
  | 0, _ => none
  | q6 + 1, x5 =>
    if x5 < (x00.length : Int) then
      (idx x00 x5).bind fun x14 =>
      if (1000 : Int) < (x14.length : Int) then
        some (false)
      else
        (ck (x5 + (1 : Int))).bind fun x21 =>
        (m_law18_light_l1 x00 v10 q6) x21
    else
      m_law18_light_j0 x00 v10
def m_law18_collides_j0 : Option Bool :=
  some (false)
def m_law18_collides_l1 (u10 u11 : BitVec 32) (u12 : List Sapi_Item) (u2 u3 u4 u5 : Int) (u6 u7 u8 u9 : BitVec 32) (x01 : List By) (x02 : List Bool) (z0 : BitVec 64) (z1 : BitVec 32) (z2 z3 : Int) (x04_0 : BitVec 64) (x04_1 : BitVec 32) (x04_2 : Bool) (x04_3 : By) : Nat -> Int -> Option Bool
  | 0, _ => none
  | q8 + 1, x7 =>
    if x7 < (22 : Int) then
      (m_r18_Candidate u2 u3 u4 u5 u6 u7 u8 u9 u10 u11 u12 x01 x02 x7 z0 z1 z2 z3).bind fun x15 =>
      if x15.2.2.2.2 = true then
        (m_r06_Same x15.1 x15.2.1 x15.2.2.1 x15.2.2.2.1 x04_0 x04_1 x04_2 x04_3).bind fun x26 =>
        if x26 = true then
          (ck (x7 + (1 : Int))).bind fun x30 =>
          (m_law18_collides_l1 u10 u11 u12 u2 u3 u4 u5 u6 u7 u8 u9 x01 x02 z0 z1 z2 z3 x04_0 x04_1 x04_2 x04_3 q8) x30
        else
          some (true)
      else
        (ck (x7 + (1 : Int))).bind fun x33 =>
        (m_law18_collides_l1 u10 u11 u12 u2 u3 u4 u5 u6 u7 u8 u9 x01 x02 z0 z1 z2 z3 x04_0 x04_1 x04_2 x04_3 q8) x33
    else
      m_law18_collides_j0
def m_law18_collides (u0 : By) (u1 : List Sneedlestoreref09_Record) (u2 u3 u4 u5 : Int) (u6 u7 u8 u9 u10 u11 : BitVec 32) (u12 : List Sapi_Item) (u13 x01 : List By) (x02 : List Bool) (z0 : BitVec 64) (z1 : BitVec 32) (z2 z3 : Int) (x04_0 : BitVec 64) (x04_1 : BitVec 32) (x04_2 : Bool) (x04_3 : By) : Option Bool :=
  m_law18_collides_l1 u10 u11 u12 u2 u3 u4 u5 u6 u7 u8 u9 x01 x02 z0 z1 z2 z3 x04_0 x04_1 x04_2 x04_3 forever (0 : Int)
def m_law18_awake : Option Bool :=
  (m_ecread_Exclude (6 : Int)).bind fun x3 =>
  (m_ecread_Exclude (7 : Int)).bind fun x11 =>
  (m_ecread_Exclude (21 : Int)).bind fun x19 =>
  (m_ecread_Read (0 : Int) (0 : Int) (0 : Int) (0 : Int) 0#32 0#32 0#32 0#32 0#32 0#32 ([] : List Sapi_Item) ([] : List By) ([] : List Bool) 0#64 0#32 (0 : Int) (0 : Int)).bind fun x28 =>
  (m_ecread_Exclude (0 : Int)).bind fun x38 =>
  if (x38.length : Int) = (0 : Int) then
    if (x3.length : Int) = (1 : Int) then
      (idx x3 (0 : Int)).bind fun x48 =>
      if x48 = (5 : Int) then
        if (x11.length : Int) = (2 : Int) then
          (idx x11 (0 : Int)).bind fun x51 =>
          if x51 = (0 : Int) then
            (idx x11 (1 : Int)).bind fun x53 =>
            if x53 = (1 : Int) then
              if (x19.length : Int) = (2 : Int) then
                (idx x19 (0 : Int)).bind fun x56 =>
                if x56 = (4 : Int) then
                  (idx x19 (1 : Int)).bind fun x58 =>
                  if x58 = (5 : Int) then
                    some ((x28.2.2.2.2 == (1 : Int)))
                  else
                    some (false)
                else
                  some (false)
              else
                some (false)
            else
              some (false)
          else
            some (false)
        else
          some (false)
      else
        some (false)
    else
      some (false)
  else
    some (false)
end Go.Proofs.YtcncappgheopgaaGreat
