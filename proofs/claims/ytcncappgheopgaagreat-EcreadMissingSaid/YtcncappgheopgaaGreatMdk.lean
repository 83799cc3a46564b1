/-
  Models of functions of the program (k): what each computes, as an option. Printed by a program of ours (vcm.py). No conditions.
-/
import Derived.Test.YtcncappgheopgaaGreatMdj
namespace Go.Proofs.YtcncappgheopgaaGreat
set_option linter.unusedVariables false
def m_law18_given (x00_0 : Int) (x00_1 : Int) (x00_2 : Int) (x00_3 : Int) (x00_4 : BitVec 32) (x00_5 : BitVec 32) (x00_6 : BitVec 32) (x00_7 : BitVec 32) (x00_8 : BitVec 32) (x00_9 : BitVec 32) (x00_10 : List (Sapi_Item)) : Option (Int × Int × Int × Int × (BitVec 32) × (BitVec 32) × (BitVec 32) × (BitVec 32) × (BitVec 32) × (BitVec 32) × (List (Sapi_Item))) :=
  some (x00_0, x00_1, x00_2, x00_3, x00_4, x00_5, x00_6, x00_7, x00_8, x00_9, x00_10)
def m_law18_awake : Option (Bool) :=
  Option.bind (m_ecread_Exclude (6 : Int)) fun x3 =>
  Option.bind (m_ecread_Exclude (7 : Int)) fun x11 =>
  Option.bind (m_ecread_Exclude (21 : Int)) fun x19 =>
  Option.bind (m_ecread_Read (0 : Int) (0 : Int) (0 : Int) (0 : Int) 0#32 0#32 0#32 0#32 0#32 0#32 ([] : List (Sapi_Item)) ([] : List (List (BitVec 8))) ([] : List (Bool)) 0#64 0#32 (0 : Int) (0 : Int)) fun x28 =>
  Option.bind (m_ecread_Exclude (0 : Int)) fun x38 =>
  if (x38.length : Int) = (0 : Int) then
    if (x3.length : Int) = (1 : Int) then
      Option.bind (idx x3 (0 : Int)) fun x48 =>
      if x48 = (5 : Int) then
        if (x11.length : Int) = (2 : Int) then
          Option.bind (idx x11 (0 : Int)) fun x51 =>
          if x51 = (0 : Int) then
            Option.bind (idx x11 (1 : Int)) fun x53 =>
            if x53 = (1 : Int) then
              if (x19.length : Int) = (2 : Int) then
                Option.bind (idx x19 (0 : Int)) fun x56 =>
                if x56 = (4 : Int) then
                  Option.bind (idx x19 (1 : Int)) fun x58 =>
                  if x58 = (5 : Int) then
                    some ((x28.2.2.2.2 == (1 : Int)))
                  else
                    some (false)
                else
                  some (false)
              else
                some (false)
            else
              some (false)
          else
            some (false)
        else
          some (false)
      else
        some (false)
    else
      some (false)
  else
    some (false)
end Go.Proofs.YtcncappgheopgaaGreat
