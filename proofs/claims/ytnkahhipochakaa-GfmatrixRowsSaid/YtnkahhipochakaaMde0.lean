/-
  Models of functions of the program (e0): what each computes, as a partial function. Printed by a program of ours (vcm.py). No conditions.
-/
import Derived.Test.YtnkahhipochakaaMdc
import Derived.Test.YtnkahhipochakaaMdd
namespace Go.Proofs.Ytnkahhipochakaa
set_option linter.unusedVariables false

def m_law03_GfmatrixMakes (x00_0 : Int) (x00_1 : Int) (x00_2 : List (BitVec 8)) (x01 : Int) (x02 : Int) : Option (Bool) :=
  Option.bind (m_law03_heavy x00_0 x00_1 x00_2) fun x5 =>
  if x5 = true then
    Option.bind (m_law03_awake) fun x9 =>
    some (x9)
  else
    Option.bind (m_gfmatrix_Identity x01) fun x12 =>
    Option.bind (m_r03_Identity x01) fun x22 =>
    Option.bind (m_gfmatrix_Vandermonde x01 x02) fun x32 =>
    Option.bind (m_r03_Vandermonde x01 x02) fun x42 =>
    Option.bind (m_law03_given x00_0 x00_1 x00_2) fun x52 =>
    Option.bind (m_gfmatrix_Valid x52.1 x52.2.1 x52.2.2) fun x67 =>
    Option.bind (m_r03_Valid x00_0 x00_1 x00_2) fun x69 =>
    if x67 = x69 then
      if x12.2.2.2 = x22.2.2.2 then
        if x32.2.2.2 = x42.2.2.2 then
          Option.bind (m_law03_same x12.1 x12.2.1 x12.2.2.1 x22.1 x22.2.1 x22.2.2.1) fun x74 =>
          if x74 = true then
            Option.bind (m_law03_same x32.1 x32.2.1 x32.2.2.1 x42.1 x42.2.1 x42.2.2.1) fun x77 =>
            if x77 = true then
              Option.bind (m_law03_awake) fun x80 =>
              some (x80)
            else
              some (false)
          else
            some (false)
        else
          some (false)
      else
        some (false)
    else
      some (false)

end Go.Proofs.Ytnkahhipochakaa
