/-
  Models of functions of the program (g5): what each computes, as an option. Printed by a program of ours (vcm.py). No conditions.
-/
import Derived.Test.YtnbcphofimicdaaMdf
namespace Go.Proofs.Ytnbcphofimicdaa
set_option linter.unusedVariables false

def m_law04_RsAnyFour_j0 (x02 : Int) (x03 : Int) (x04 : List (List (BitVec 8))) (x3 : (List (List (BitVec 8))) × Bool) : Option (Bool) :=
  Option.bind (rmi x02 (6 : Int)) fun x40 =>
  Option.bind (ck (x40 + (6 : Int))) fun x41 =>
  Option.bind (rmi x41 (6 : Int)) fun x42 =>
  Option.bind (ck (x42 + (1 : Int))) fun x44 =>
  Option.bind (rmi x03 (5 : Int)) fun x45 =>
  Option.bind (ck (x45 + (5 : Int))) fun x46 =>
  Option.bind (rmi x46 (5 : Int)) fun x47 =>
  Option.bind (ck (x44 + x47)) fun x48 =>
  Option.bind (rmi x48 (6 : Int)) fun x49 =>
  Option.bind (idx ([true, true, true, true, true, true] : List (Bool)) x42) fun x53 =>
  Option.bind (upd ([true, true, true, true, true, true] : List (Bool)) x42 false) fun x54 =>
  Option.bind (idx x54 x49) fun x55 =>
  Option.bind (upd x54 x49 false) fun x56 =>
  Option.bind (apd 24 ([] : List (List (BitVec 8))) x3.1) fun x60 =>
  Option.bind (idx x60 x42) fun x66 =>
  Option.bind (upd x60 x42 ([] : List (BitVec 8))) fun x70 =>
  Option.bind (idx x70 x49) fun x73 =>
  Option.bind (upd x70 x49 ([] : List (BitVec 8))) fun x77 =>
  if (1 : Int) < (x04.length : Int) then
    Option.bind (idx x04 (0 : Int)) fun x84 =>
    Option.bind (idx x04 (1 : Int)) fun x88 =>
    Option.bind (idx x77 x42) fun x92 =>
    Option.bind (upd x77 x42 x84) fun x96 =>
    Option.bind (idx x96 x49) fun x99 =>
    Option.bind (upd x96 x49 x88) fun x103 =>
    Option.bind (m_rs_Restore x103 x56) fun x272 =>
    if x272.2 = (0 : Int) then
      Option.bind (m_r03_SameRows x272.1 x3.1) fun x296 =>
      if x296 = true then
        Option.bind (m_rs_Verify x272.1) fun x299 =>
        if x299 = true then
          Option.bind (m_law04_awake) fun x302 =>
          some (x302)
        else
          some (false)
      else
        some (false)
    else
      some (false)
  else
    Option.bind (m_rs_Restore x77 x56) fun x305 =>
    if x305.2 = (0 : Int) then
      Option.bind (m_r03_SameRows x305.1 x3.1) fun x329 =>
      if x329 = true then
        Option.bind (m_rs_Verify x305.1) fun x332 =>
        if x332 = true then
          Option.bind (m_law04_awake) fun x335 =>
          some (x335)
        else
          some (false)
      else
        some (false)
    else
      some (false)
def m_law04_RsAnyFour (x00 : List (BitVec 8)) (x01 : Int) (x02 : Int) (x03 : Int) (x04 : List (List (BitVec 8))) : Option (Bool) :=
  Option.bind (m_law04_full x00 x01) fun x3 =>
  if x3.2 = true then
    Option.bind (m_law04_light x04) fun x24 =>
    if x24 = true then
      m_law04_RsAnyFour_j0 x02 x03 x04 x3
    else
      Option.bind (m_law04_light x04) fun x28 =>
      if x28 = true then
        some (false)
      else
        Option.bind (m_law04_awake) fun x31 =>
        some (x31)
  else
    Option.bind (m_law04_light x04) fun x34 =>
    if x34 = true then
      some (false)
    else
      Option.bind (m_law04_awake) fun x37 =>
      some (x37)

end Go.Proofs.Ytnbcphofimicdaa
