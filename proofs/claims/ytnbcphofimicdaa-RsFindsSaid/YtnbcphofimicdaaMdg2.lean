/-
  Models of functions of the program (g2): what each computes, as an option. Printed by a program of ours (vcm.py). No conditions.
-/
import Derived.Test.YtnbcphofimicdaaMdf
namespace Go.Proofs.Ytnbcphofimicdaa
set_option linter.unusedVariables false

def m_law04_RsTooFew_j0 (x3 : (List (List (BitVec 8))) × Bool) (x25 : List (Bool)) (x26 : Int) : Option (Bool) :=
  Option.bind (m_rs_Restore x3.1 x25) fun x53 =>
  if x3.2 = true then
    if (decide ((4 : Int) ≤ x26)) = (x53.2 == (0 : Int)) then
      if x53.2 = (0 : Int) then
        Option.bind (m_law04_awake) fun x79 =>
        some (x79)
      else
        if x53.2 = (11 : Int) then
          if (x53.1.length : Int) = (0 : Int) then
            Option.bind (m_law04_awake) fun x83 =>
            some (x83)
          else
            some (false)
        else
          some (false)
    else
      some (false)
  else
    some (false)
def m_law04_RsTooFew_l1 (x02 : Int) (x3 : (List (List (BitVec 8))) × Bool) (x23 : List (Bool)) : Nat → (List (Bool)) → Int → Int → Option (Bool)
  | 0, _, _, _ => none
  | q32 + 1, x29, x30, x31 =>
    if x31 < (x23.length : Int) then
      Option.bind (shri x02 ((BitVec.ofInt 64 x31).toNat : Nat)) fun x40 =>
      Option.bind (idx x29 x31) fun x41 =>
      Option.bind (upd x29 x31 ((andi x40 (1 : Int)) == (1 : Int))) fun x42 =>
      Option.bind (idx x42 x31) fun x44 =>
      if x44 = true then
        Option.bind (ck (x30 + (1 : Int))) fun x47 =>
        Option.bind (ck (x31 + (1 : Int))) fun x49 =>
        (m_law04_RsTooFew_l1 x02 x3 x23 q32) x42 x47 x49
      else
        Option.bind (ck (x31 + (1 : Int))) fun x51 =>
        (m_law04_RsTooFew_l1 x02 x3 x23 q32) x42 x30 x51
    else
      m_law04_RsTooFew_j0 x3 x29 x30
def m_law04_RsTooFew (x00 : List (BitVec 8)) (x01 : Int) (x02 : Int) : Option (Bool) :=
  Option.bind (m_law04_full x00 x01) fun x3 =>
  Option.bind (mks 1 (6 : Int) false) fun x23 =>
  m_law04_RsTooFew_l1 x02 x3 x23 forever x23 (0 : Int) (0 : Int)

end Go.Proofs.Ytnbcphofimicdaa
