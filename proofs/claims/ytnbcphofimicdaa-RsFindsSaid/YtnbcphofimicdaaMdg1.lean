/-
  Models of functions of the program (g1): what each computes, as an option. Printed by a program of ours (vcm.py). No conditions.
-/
import Derived.Test.YtnbcphofimicdaaMdf
namespace Go.Proofs.Ytnbcphofimicdaa
set_option linter.unusedVariables false

def m_law04_RsRestores_j1 : Option (Bool) :=
  Option.bind (m_law04_awake) fun x157 =>
  some (x157)
def m_law04_RsRestores_l2 (x00 : List (List (BitVec 8))) (x01 : List (Bool)) (x81 : List (List (BitVec 8))) : Nat → Int → Option (Bool)
  | 0, _ => none
  | q95 + 1, x94 =>
    if x94 < (([x00, x81] : List (List (List (BitVec 8)))).length : Int) then
      Option.bind (idx ([x00, x81] : List (List (List (BitVec 8)))) x94) fun x102 =>
      Option.bind (m_rs_Restore x102 x01) fun x110 =>
      Option.bind (m_r04_Restore x102 x01) fun x129 =>
      if x110.2 = x129.2 then
        Option.bind (m_r03_SameRows x110.1 x129.1) fun x149 =>
        if x149 = true then
          Option.bind (ck (x94 + (1 : Int))) fun x153 =>
          (m_law04_RsRestores_l2 x00 x01 x81 q95) x153
        else
          some (false)
      else
        some (false)
    else
      m_law04_RsRestores_j1
def m_law04_RsRestores_j0 (x00 : List (List (BitVec 8))) (x01 : List (Bool)) (x5 : List (BitVec 8)) (x7 : Int) : Option (Bool) :=
  Option.bind (m_law04_data x5 x7) fun x21 =>
  Option.bind (m_r04_Encode x21) fun x39 =>
  Option.bind (m_law04_data x5 x7) fun x63 =>
  Option.bind (apd 24 x63 x39.1) fun x81 =>
  m_law04_RsRestores_l2 x00 x01 x81 forever (0 : Int)
def m_law04_RsRestores (x00 : List (List (BitVec 8))) (x01 : List (Bool)) (x02 : List (BitVec 8)) (x03 : Int) : Option (Bool) :=
  Option.bind (m_law04_light x00) fun x10 =>
  if x10 = true then
    if (20 : Int) < (x01.length : Int) then
      Option.bind (m_law04_awake) fun x15 =>
      some (x15)
    else
      m_law04_RsRestores_j0 x00 x01 x02 x03
  else
    Option.bind (m_law04_awake) fun x18 =>
    some (x18)

end Go.Proofs.Ytnbcphofimicdaa
