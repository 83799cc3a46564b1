/-
  Models of functions of the program (g4): what each computes, as an option. Printed by a program of ours (vcm.py). No conditions.
-/
import Derived.Test.YtnbcphofimicdaaMdf
namespace Go.Proofs.Ytnbcphofimicdaa
set_option linter.unusedVariables false

def m_law04_RsEncodes_j1 (x01 : List (List (BitVec 8))) : Option (Bool) :=
  Option.bind (m_rs_Verify x01) fun x114 =>
  Option.bind (m_r04_Verify x01) fun x116 =>
  if x114 = x116 then
    Option.bind (m_law04_awake) fun x119 =>
    some (x119)
  else
    some (false)
def m_law04_RsEncodes_l2 (x00 : List (List (BitVec 8))) (x01 : List (List (BitVec 8))) (x25 : (List (List (BitVec 8)))) : Nat → Int → Option (Bool)
  | 0, _ => none
  | q49 + 1, x48 =>
    if x48 < (([x00, x25] : List (List (List (BitVec 8)))).length : Int) then
      Option.bind (idx ([x00, x25] : List (List (List (BitVec 8)))) x48) fun x56 =>
      Option.bind (m_rs_Encode x56) fun x64 =>
      Option.bind (m_r04_Encode x56) fun x83 =>
      if x64.2 = x83.2 then
        Option.bind (m_r03_SameRows x64.1 x83.1) fun x106 =>
        if x106 = true then
          Option.bind (ck (x48 + (1 : Int))) fun x110 =>
          (m_law04_RsEncodes_l2 x00 x01 x25 q49) x110
        else
          some (false)
      else
        some (false)
    else
      m_law04_RsEncodes_j1 x01
def m_law04_RsEncodes_j0 (x00 : List (List (BitVec 8))) (x01 : List (List (BitVec 8))) (x5 : List (BitVec 8)) (x7 : Int) : Option (Bool) :=
  Option.bind (m_law04_data x5 x7) fun x25 =>
  m_law04_RsEncodes_l2 x00 x01 x25 forever (0 : Int)
def m_law04_RsEncodes (x00 : List (List (BitVec 8))) (x01 : List (List (BitVec 8))) (x02 : List (BitVec 8)) (x03 : Int) : Option (Bool) :=
  Option.bind (m_law04_light x00) fun x10 =>
  if x10 = true then
    Option.bind (m_law04_light x01) fun x13 =>
    if x13 = true then
      m_law04_RsEncodes_j0 x00 x01 x02 x03
    else
      Option.bind (m_law04_awake) fun x17 =>
      some (x17)
  else
    Option.bind (m_law04_awake) fun x20 =>
    some (x20)

end Go.Proofs.Ytnbcphofimicdaa
