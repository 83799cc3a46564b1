/-
  Models of functions of the program (e1): what each computes, as a partial function. Printed by a program of ours (vcm.py). No conditions.
-/
import Derived.Test.YtnkahhipochakaaMdc
import Derived.Test.YtnkahhipochakaaMdd
namespace Go.Proofs.Ytnkahhipochakaa
set_option linter.unusedVariables false

def m_law03_GfmatrixProducts_j0 (x00_0 : Int) (x00_1 : Int) (x00_2 : List (BitVec 8)) (x01_0 : Int) (x01_1 : Int) (x01_2 : List (BitVec 8)) (x02 : List (Int)) : Option (Bool) :=
  Option.bind (m_law03_given x00_0 x00_1 x00_2) fun x23 =>
  Option.bind (m_law03_given x01_0 x01_1 x01_2) fun x38 =>
  Option.bind (m_gfmatrix_Mul x23.1 x23.2.1 x23.2.2 x38.1 x38.2.1 x38.2.2) fun x53 =>
  Option.bind (m_r03_Mul x00_0 x00_1 x00_2 x01_0 x01_1 x01_2) fun x231 =>
  Option.bind (m_law03_given x00_0 x00_1 x00_2) fun x241 =>
  Option.bind (m_gfmatrix_Pick x241.1 x241.2.1 x241.2.2 x02) fun x256 =>
  Option.bind (m_r03_Pick x00_0 x00_1 x00_2 x02) fun x266 =>
  if x53.2.2.2 = x231.2.2.2 then
    if x256.2.2.2 = x266.2.2.2 then
      Option.bind (m_law03_same x53.1 x53.2.1 x53.2.2.1 x231.1 x231.2.1 x231.2.2.1) fun x278 =>
      if x278 = true then
        Option.bind (m_law03_same x256.1 x256.2.1 x256.2.2.1 x266.1 x266.2.1 x266.2.2.1) fun x281 =>
        if x281 = true then
          Option.bind (m_law03_awake) fun x284 =>
          some (x284)
        else
          some (false)
      else
        some (false)
    else
      some (false)
  else
    some (false)
def m_law03_GfmatrixProducts (x00_0 : Int) (x00_1 : Int) (x00_2 : List (BitVec 8)) (x01_0 : Int) (x01_1 : Int) (x01_2 : List (BitVec 8)) (x02 : List (Int)) : Option (Bool) :=
  Option.bind (m_law03_heavy x00_0 x00_1 x00_2) fun x6 =>
  if x6 = true then
    Option.bind (m_law03_awake) fun x10 =>
    some (x10)
  else
    Option.bind (m_law03_heavy x01_0 x01_1 x01_2) fun x12 =>
    if x12 = true then
      Option.bind (m_law03_awake) fun x16 =>
      some (x16)
    else
      if (40 : Int) < (x02.length : Int) then
        Option.bind (m_law03_awake) fun x20 =>
        some (x20)
      else
        m_law03_GfmatrixProducts_j0 x00_0 x00_1 x00_2 x01_0 x01_1 x01_2 x02

end Go.Proofs.Ytnkahhipochakaa
