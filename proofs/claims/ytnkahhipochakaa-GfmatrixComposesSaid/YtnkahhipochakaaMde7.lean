/-
  Models of functions of the program (e7): what each computes, as a partial function. Printed by a program of ours (vcm.py). No conditions.
-/
import Derived.Test.YtnkahhipochakaaMdc
import Derived.Test.YtnkahhipochakaaMdd
namespace Go.Proofs.Ytnkahhipochakaa
set_option linter.unusedVariables false

def m_law03_GfmatrixApplies_j1 (x00_0 : Int) (x00_1 : Int) (x00_2 : List (BitVec 8)) (x01 : List (List (BitVec 8))) : Option (Bool) :=
  Option.bind (m_law03_given x00_0 x00_1 x00_2) fun x37 =>
  Option.bind (m_gfmatrix_Apply x37.1 x37.2.1 x37.2.2 x01) fun x52 =>
  Option.bind (m_r03_Apply x00_0 x00_1 x00_2 x01) fun x71 =>
  if x52.2 = x71.2 then
    Option.bind (m_r03_SameRows x52.1 x71.1) fun x91 =>
    if x91 = true then
      Option.bind (m_law03_awake) fun x94 =>
      some (x94)
    else
      some (false)
  else
    some (false)
def m_law03_GfmatrixApplies_l2 (x00_0 : Int) (x00_1 : Int) (x00_2 : List (BitVec 8)) (x01 : List (List (BitVec 8))) : Nat → Int → Option (Bool)
  | 0, _ => none
  | q18 + 1, x17 =>
    if x17 < (x01.length : Int) then
      Option.bind (idx x01 x17) fun x26 =>
      if (300 : Int) < (x26.length : Int) then
        Option.bind (m_law03_awake) fun x32 =>
        some (x32)
      else
        Option.bind (ck (x17 + (1 : Int))) fun x35 =>
        (m_law03_GfmatrixApplies_l2 x00_0 x00_1 x00_2 x01 q18) x35
    else
      m_law03_GfmatrixApplies_j1 x00_0 x00_1 x00_2 x01
def m_law03_GfmatrixApplies_j0 (x00_0 : Int) (x00_1 : Int) (x00_2 : List (BitVec 8)) (x01 : List (List (BitVec 8))) : Option (Bool) :=
  m_law03_GfmatrixApplies_l2 x00_0 x00_1 x00_2 x01 forever (0 : Int)
def m_law03_GfmatrixApplies (x00_0 : Int) (x00_1 : Int) (x00_2 : List (BitVec 8)) (x01 : List (List (BitVec 8))) : Option (Bool) :=
  Option.bind (m_law03_heavy x00_0 x00_1 x00_2) fun x5 =>
  if x5 = true then
    Option.bind (m_law03_awake) fun x9 =>
    some (x9)
  else
    if (40 : Int) < (x01.length : Int) then
      Option.bind (m_law03_awake) fun x13 =>
      some (x13)
    else
      m_law03_GfmatrixApplies_j0 x00_0 x00_1 x00_2 x01

end Go.Proofs.Ytnkahhipochakaa
