/-
  Models of functions of the program (f): what each computes, as an option. Printed by a program of ours (vcm.py). No conditions.
-/
import Derived.Test.YtnbcphofimicdaaMde
namespace Go.Proofs.Ytnbcphofimicdaa
set_option linter.unusedVariables false

def m_law04_data_j0 (x10 : List (List (BitVec 8))) : Option ((List (List (BitVec 8)))) :=
  some (x10)
def m_law04_data_l1 (x00 : List (BitVec 8)) (x01 : Int) : Nat → (List (List (BitVec 8))) → Int → Option ((List (List (BitVec 8))))
  | 0, _, _ => none
  | q25 + 1, x21, x24 =>
    if x24 < (4 : Int) then
      Option.bind (mks 1 (andi x01 (31 : Int)) 0#8) fun x33 =>
      Option.bind (ck (x24 * (andi x01 (31 : Int)))) fun x36 =>
      if x36 < (x00.length : Int) then
        Option.bind (ck (x24 * (andi x01 (31 : Int)))) fun x39 =>
        Option.bind (slc x00 x39 (x00.length : Int)) fun x40 =>
        Option.bind (cpw x33 x40) fun x41 =>
        Option.bind (apd 24 x21 ([x41] : List (List (BitVec 8)))) fun x47 =>
        Option.bind (ck (x24 + (1 : Int))) fun x53 =>
        (m_law04_data_l1 x00 x01 q25) x47 x53
      else
        Option.bind (apd 24 x21 ([x33] : List (List (BitVec 8)))) fun x59 =>
        Option.bind (ck (x24 + (1 : Int))) fun x65 =>
        (m_law04_data_l1 x00 x01 q25) x59 x65
    else
      m_law04_data_j0 x21
def m_law04_data (x00 : List (BitVec 8)) (x01 : Int) : Option ((List (List (BitVec 8)))) :=
  m_law04_data_l1 x00 x01 forever ([] : List (List (BitVec 8))) (0 : Int)

def m_law04_full (x00 : List (BitVec 8)) (x01 : Int) : Option ((List (List (BitVec 8))) × Bool) :=
  Option.bind (m_law04_data x00 x01) fun x3 =>
  Option.bind (m_rs_Encode x3) fun x22 =>
  Option.bind (apd 24 x3 x22.1) fun x41 =>
  if x22.2 = (0 : Int) then
    some (x41, ((x22.1.length : Int) == (2 : Int)))
  else
    some (x41, false)

def m_law04_awake : Option (Bool) :=
  Option.bind (m_rs_Encode ([([7#8] : List (BitVec 8)), ([7#8] : List (BitVec 8)), ([7#8] : List (BitVec 8)), ([7#8] : List (BitVec 8))] : List (List (BitVec 8)))) fun x17 =>
  Option.bind (mks 24 (6 : Int) ([] : List (BitVec 8))) fun x39 =>
  Option.bind (m_rs_Restore x39 ([true, true, true, false, false, false] : List (Bool))) fun x43 =>
  if x17.2 = (0 : Int) then
    if (x17.1.length : Int) = (2 : Int) then
      Option.bind (idx x17.1 (0 : Int)) fun x68 =>
      if x68 = ([7#8] : List (BitVec 8)) then
        Option.bind (idx x17.1 (1 : Int)) fun x74 =>
        if x74 = ([7#8] : List (BitVec 8)) then
          some ((x43.2 == (11 : Int)))
        else
          some (false)
      else
        some (false)
    else
      some (false)
  else
    some (false)

def m_law04_light_j0 (x00 : List (List (BitVec 8))) : Option (Bool) :=
  some ((decide ((x00.length : Int) ≤ (20 : Int))))
def m_law04_light_l1 (x00 : List (List (BitVec 8))) : Nat → Int → Option (Bool)
  | 0, _ => none
  | q5 + 1, x4 =>
    if x4 < (x00.length : Int) then
      Option.bind (idx x00 x4) fun x13 =>
      if (200 : Int) < (x13.length : Int) then
        some (false)
      else
        Option.bind (ck (x4 + (1 : Int))) fun x20 =>
        (m_law04_light_l1 x00 q5) x20
    else
      m_law04_light_j0 x00
def m_law04_light (x00 : List (List (BitVec 8))) : Option (Bool) :=
  m_law04_light_l1 x00 forever (0 : Int)

end Go.Proofs.Ytnbcphofimicdaa
