/-
  Models of functions of the program (g7): what each computes, as an option. Printed by a program of ours (vcm.py). No conditions.
-/
import Derived.Test.YtnbcphofimicdaaMdf
namespace Go.Proofs.Ytnbcphofimicdaa
set_option linter.unusedVariables false

def m_law04_RsFinds_j0 (x3 : (List (List (BitVec 8))) × Bool) (x27 : Int) (x37 : List (BitVec 8)) : Option (Bool) :=
  Option.bind (idx x3.1 x27) fun x57 =>
  Option.bind (idx x3.1 x27) fun x62 =>
  Option.bind (upd x3.1 x27 x37) fun x68 =>
  Option.bind (m_rs_Locate x68) fun x72 =>
  if x37 = x57 then
    if x72.1 = (-1 : Int) then
      if x72.2 = (0 : Int) then
        Option.bind (m_law04_awake) fun x80 =>
        some (x80)
      else
        some (false)
    else
      some (false)
  else
    if x72.1 = x27 then
      if x72.2 = (0 : Int) then
        Option.bind (m_rs_Verify x68) fun x85 =>
        if x85 = true then
          some (false)
        else
          Option.bind (m_law04_awake) fun x88 =>
          some (x88)
      else
        some (false)
    else
      some (false)
def m_law04_RsFinds_l1 (x03 : List (BitVec 8)) (x3 : (List (List (BitVec 8))) × Bool) (x27 : Int) : Nat → (List (BitVec 8)) → Int → Option (Bool)
  | 0, _, _ => none
  | q42 + 1, x40, x41 =>
    if x41 < (x40.length : Int) then
      if x41 < (x03.length : Int) then
        Option.bind (idx x40 x41) fun x50 =>
        Option.bind (idx x03 x41) fun x51 =>
        Option.bind (idx x40 x41) fun x52 =>
        Option.bind (upd x40 x41 (x50 ^^^ x51)) fun x53 =>
        Option.bind (ck (x41 + (1 : Int))) fun x55 =>
        (m_law04_RsFinds_l1 x03 x3 x27 q42) x53 x55
      else
        m_law04_RsFinds_j0 x3 x27 x40
    else
      m_law04_RsFinds_j0 x3 x27 x40
def m_law04_RsFinds (x00 : List (BitVec 8)) (x01 : Int) (x02 : Int) (x03 : List (BitVec 8)) : Option (Bool) :=
  Option.bind (m_law04_full x00 x01) fun x3 =>
  if x3.2 = true then
    Option.bind (rmi x02 (6 : Int)) fun x25 =>
    Option.bind (ck (x25 + (6 : Int))) fun x26 =>
    Option.bind (rmi x26 (6 : Int)) fun x27 =>
    Option.bind (idx x3.1 x27) fun x30 =>
    Option.bind (apd 1 ([] : List (BitVec 8)) x30) fun x34 =>
    m_law04_RsFinds_l1 x03 x3 x27 forever x34 (0 : Int)
  else
    some (false)

end Go.Proofs.Ytnbcphofimicdaa
