/-
  Models of functions of the program (e2): what each computes, as a partial function. Printed by a program of ours (vcm.py). No conditions.
-/
import Derived.Test.YtnkahhipochakaaMdc
import Derived.Test.YtnkahhipochakaaMdd
namespace Go.Proofs.Ytnkahhipochakaa
set_option linter.unusedVariables false

def m_law03_GfmatrixInverts (x00_0 : Int) (x00_1 : Int) (x00_2 : List (BitVec 8)) : Option (Bool) :=
  Option.bind (m_law03_heavy x00_0 x00_1 x00_2) fun x5 =>
  if x5 = true then
    Option.bind (m_law03_awake) fun x9 =>
    some (x9)
  else
    Option.bind (m_law03_given x00_0 x00_1 x00_2) fun x12 =>
    Option.bind (m_gfmatrix_Invert x12.1 x12.2.1 x12.2.2) fun x27 =>
    Option.bind (m_r03_Invert x00_0 x00_1 x00_2) fun x37 =>
    if x27.2.2.2 = x37.2.2.2 then
      Option.bind (m_law03_same x27.1 x27.2.1 x27.2.2.1 x37.1 x37.2.1 x37.2.2.1) fun x48 =>
      if x48 = true then
        Option.bind (m_law03_awake) fun x51 =>
        some (x51)
      else
        some (false)
    else
      some (false)

end Go.Proofs.Ytnkahhipochakaa
