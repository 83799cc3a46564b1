/-
  Models of functions of the program (c): what each computes, as an option. Printed by a program of ours (vcm.py). No conditions.
-/
import Derived.Test.YtcncappgheopgaaMdb
namespace Go.Proofs.Ytcncappgheopgaa
set_option linter.unusedVariables false

structure Sapi_Item where
  fKey : BitVec 64
  fCookie : BitVec 32
  fOff : Int
  fSize : Int
  deriving DecidableEq

def m_law18_awake : Option (Bool) :=
  Option.bind (m_ecread_Exclude (6 : Int)) fun x3 =>
  Option.bind (m_ecread_Exclude (7 : Int)) fun x11 =>
  Option.bind (m_ecread_Exclude (21 : Int)) fun x19 =>
  Option.bind (m_superblock_Valid (0 : Int) (0 : Int) (0 : Int)) fun x44 =>
  if x44 = true then
    Option.bind (m_ecread_Exclude (0 : Int)) fun x52 =>
    if (x52.length : Int) = (0 : Int) then
      if (x3.length : Int) = (1 : Int) then
        Option.bind (idx x3 (0 : Int)) fun x62 =>
        if x62 = (5 : Int) then
          if (x11.length : Int) = (2 : Int) then
            Option.bind (idx x11 (0 : Int)) fun x65 =>
            if x65 = (0 : Int) then
              Option.bind (idx x11 (1 : Int)) fun x67 =>
              if x67 = (1 : Int) then
                if (x19.length : Int) = (2 : Int) then
                  Option.bind (idx x19 (0 : Int)) fun x70 =>
                  if x70 = (4 : Int) then
                    Option.bind (idx x19 (1 : Int)) fun x72 =>
                    if x72 = (5 : Int) then
                      some (((1 : Int) == (1 : Int)))
                    else
                      some (false)
                  else
                    some (false)
                else
                  some (false)
              else
                some (false)
            else
              some (false)
          else
            some (false)
        else
          some (false)
      else
        some (false)
    else
      some (false)
  else
    Option.bind (m_ecread_Exclude (0 : Int)) fun x78 =>
    if (x78.length : Int) = (0 : Int) then
      if (x3.length : Int) = (1 : Int) then
        Option.bind (idx x3 (0 : Int)) fun x88 =>
        if x88 = (5 : Int) then
          if (x11.length : Int) = (2 : Int) then
            Option.bind (idx x11 (0 : Int)) fun x91 =>
            if x91 = (0 : Int) then
              Option.bind (idx x11 (1 : Int)) fun x93 =>
              if x93 = (1 : Int) then
                if (x19.length : Int) = (2 : Int) then
                  Option.bind (idx x19 (0 : Int)) fun x96 =>
                  if x96 = (4 : Int) then
                    Option.bind (idx x19 (1 : Int)) fun x98 =>
                    if x98 = (5 : Int) then
                      some (((1 : Int) == (1 : Int)))
                    else
                      some (false)
                  else
                    some (false)
                else
                  some (false)
              else
                some (false)
            else
              some (false)
          else
            some (false)
        else
          some (false)
      else
        some (false)
    else
      some (false)

end Go.Proofs.Ytcncappgheopgaa
