/-
  Models of functions of the program (m2): what each computes, as an option. Printed by a program of ours (vcm.py). No conditions.
-/
import Derived.Test.YtcncappgheopgaaGreatMdl
namespace Go.Proofs.YtcncappgheopgaaGreat
set_option linter.unusedVariables false
def m_law18_EcreadWhole (x00 : List (Sapi_Needle)) (x01 : Int) (x02 : Int) (x03 : Int) : Option (Bool) :=
  Option.bind (m_law18_made x00) fun x3 =>
  Option.bind (ck ((x3.1.length : Int) + (1 : Int))) fun x62 =>
  Option.bind (rmi x02 x62) fun x63 =>
  Option.bind (ck (x63 + (x3.1.length : Int))) fun x64 =>
  Option.bind (ck (x64 + (1 : Int))) fun x65 =>
  Option.bind (ck ((x3.1.length : Int) + (1 : Int))) fun x66 =>
  Option.bind (rmi x65 x66) fun x67 =>
  Option.bind (ck ((x3.1.length : Int) - x67)) fun x69 =>
  Option.bind (ck (x69 + (1 : Int))) fun x70 =>
  Option.bind (rmi x03 x70) fun x71 =>
  Option.bind (ck (x71 + (x3.1.length : Int))) fun x72 =>
  Option.bind (ck (x72 - x67)) fun x73 =>
  Option.bind (ck (x73 + (1 : Int))) fun x74 =>
  Option.bind (ck ((x3.1.length : Int) - x67)) fun x75 =>
  Option.bind (ck (x75 + (1 : Int))) fun x76 =>
  Option.bind (rmi x74 x76) fun x77 =>
  Option.bind (m_law18_given x3.2.2.1 x3.2.2.2.1 x3.2.2.2.2.1 x3.2.2.2.2.2.1 x3.2.2.2.2.2.2.1 x3.2.2.2.2.2.2.2.1 x3.2.2.2.2.2.2.2.2.1 x3.2.2.2.2.2.2.2.2.2.1 x3.2.2.2.2.2.2.2.2.2.2.1 x3.2.2.2.2.2.2.2.2.2.2.2.1 x3.2.2.2.2.2.2.2.2.2.2.2.2.1) fun x79 =>
  Option.bind (m_law18_all) fun x96 =>
  Option.bind (rmi x01 (22 : Int)) fun x104 =>
  Option.bind (ck (x104 + (22 : Int))) fun x105 =>
  Option.bind (rmi x105 (22 : Int)) fun x106 =>
  Option.bind (m_ecread_Exclude x106) fun x107 =>
  Option.bind (m_ecread_Bytes x79.1 x79.2.1 x79.2.2.1 x79.2.2.2.1 x79.2.2.2.2.1 x79.2.2.2.2.2.1 x79.2.2.2.2.2.2.1 x79.2.2.2.2.2.2.2.1 x79.2.2.2.2.2.2.2.2.1 x79.2.2.2.2.2.2.2.2.2.1 x79.2.2.2.2.2.2.2.2.2.2 x3.2.2.2.2.2.2.2.2.2.2.2.2.2 x96 x107 x67 x77) fun x115 =>
  if x115.2 = true then
    Option.bind (ck (x67 + x77)) fun x125 =>
    Option.bind (slc x3.1 x67 x125) fun x126 =>
    if x115.1 = x126 then
      Option.bind (m_law18_awake) fun x128 =>
      some (x128)
    else
      some (false)
  else
    some (false)
end Go.Proofs.YtcncappgheopgaaGreat
