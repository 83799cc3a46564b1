/-
  Models of functions of the program (e3): what each computes, as a partial function. Printed by a program of ours (vcm.py). No conditions.
-/
import Derived.Test.YtnkahhipochakaaMdc
import Derived.Test.YtnkahhipochakaaMdd
namespace Go.Proofs.Ytnkahhipochakaa
set_option linter.unusedVariables false

def m_law03_GfmatrixInverse (x00 : Int) (x01 : List (BitVec 8)) : Option (Bool) :=
  Option.bind (m_law03_made x00 x00 x01) fun x3 =>
  Option.bind (m_gfmatrix_Invert x3.1 x3.2.1 x3.2.2) fun x13 =>
  if x13.2.2.2 = (0 : Int) then
    Option.bind (m_gfmatrix_Identity x3.1) fun x26 =>
    Option.bind (m_gfmatrix_Mul x3.1 x3.2.1 x3.2.2 x13.1 x13.2.1 x13.2.2.1) fun x36 =>
    Option.bind (m_gfmatrix_Mul x13.1 x13.2.1 x13.2.2.1 x3.1 x3.2.1 x3.2.2) fun x46 =>
    Option.bind (m_gfmatrix_Invert x13.1 x13.2.1 x13.2.2.1) fun x56 =>
    if x26.2.2.2 = (0 : Int) then
      if x36.2.2.2 = (0 : Int) then
        if x46.2.2.2 = (0 : Int) then
          if x56.2.2.2 = (0 : Int) then
            Option.bind (m_law03_equal x36.1 x36.2.1 x36.2.2.1 x26.1 x26.2.1 x26.2.2.1) fun x70 =>
            if x70 = true then
              Option.bind (m_law03_equal x46.1 x46.2.1 x46.2.2.1 x26.1 x26.2.1 x26.2.2.1) fun x73 =>
              if x73 = true then
                Option.bind (m_law03_equal x56.1 x56.2.1 x56.2.2.1 x3.1 x3.2.1 x3.2.2) fun x76 =>
                if x76 = true then
                  Option.bind (m_law03_awake) fun x79 =>
                  some (x79)
                else
                  some (false)
              else
                some (false)
            else
              some (false)
          else
            some (false)
        else
          some (false)
      else
        some (false)
    else
      some (false)
  else
    if x13.2.2.2 = (14 : Int) then
      Option.bind (m_law03_awake) fun x83 =>
      some (x83)
    else
      some (false)

end Go.Proofs.Ytnkahhipochakaa
