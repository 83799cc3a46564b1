/-
  Models of functions of the program (g0): what each computes, as an option. Printed by a program of ours (vcm.py). No conditions.
-/
import Derived.Test.YtnbcphofimicdaaMdf
namespace Go.Proofs.Ytnbcphofimicdaa
set_option linter.unusedVariables false

def m_law04_RsCodes_j1 (x3 : Int × Int × (List (BitVec 8))) (x46 : List (Int)) : Option (Bool) :=
  Option.bind (m_gfmatrix_Pick x3.1 x3.2.1 x3.2.2 x46) fun x77 =>
  Option.bind (m_gfmatrix_Invert x77.1 x77.2.1 x77.2.2.1) fun x87 =>
  if x77.2.2.2 = (0 : Int) then
    if x87.2.2.2 = (0 : Int) then
      Option.bind (m_law04_awake) fun x99 =>
      some (x99)
    else
      some (false)
  else
    some (false)
def m_law04_RsCodes_l2 (x3 : Int × Int × (List (BitVec 8))) (x32 : Int) (x39 : Int) : Nat → (List (Int)) → Int → Option (Bool)
  | 0, _, _ => none
  | q56 + 1, x54, x55 =>
    if x55 < (6 : Int) then
      if x55 = x32 then
        Option.bind (ck (x55 + (1 : Int))) fun x65 =>
        (m_law04_RsCodes_l2 x3 x32 x39 q56) x54 x65
      else
        if x55 = x39 then
          Option.bind (ck (x55 + (1 : Int))) fun x68 =>
          (m_law04_RsCodes_l2 x3 x32 x39 q56) x54 x68
        else
          Option.bind (apd 8 x54 ([x55] : List (Int))) fun x71 =>
          Option.bind (ck (x55 + (1 : Int))) fun x75 =>
          (m_law04_RsCodes_l2 x3 x32 x39 q56) x71 x75
    else
      m_law04_RsCodes_j1 x3 x54
def m_law04_RsCodes_j0 (x00 : Int) (x01 : Int) (x3 : Int × Int × (List (BitVec 8))) : Option (Bool) :=
  Option.bind (rmi x00 (6 : Int)) fun x30 =>
  Option.bind (ck (x30 + (6 : Int))) fun x31 =>
  Option.bind (rmi x31 (6 : Int)) fun x32 =>
  Option.bind (ck (x32 + (1 : Int))) fun x34 =>
  Option.bind (rmi x01 (5 : Int)) fun x35 =>
  Option.bind (ck (x35 + (5 : Int))) fun x36 =>
  Option.bind (rmi x36 (5 : Int)) fun x37 =>
  Option.bind (ck (x34 + x37)) fun x38 =>
  Option.bind (rmi x38 (6 : Int)) fun x39 =>
  m_law04_RsCodes_l2 x3 x32 x39 forever ([] : List (Int)) (0 : Int)
def m_law04_RsCodes (x00 : Int) (x01 : Int) : Option (Bool) :=
  Option.bind (m_rs_Code) fun x3 =>
  Option.bind (m_r04_Code) fun x11 =>
  if x3.1 = x11.1 then
    if x3.2.1 = x11.2.1 then
      if x3.2.2 = x11.2.2 then
        m_law04_RsCodes_j0 x00 x01 x3
      else
        some (false)
    else
      some (false)
  else
    some (false)

end Go.Proofs.Ytnbcphofimicdaa
