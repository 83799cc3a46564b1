/-
  Models of functions of the program (e5): what each computes, as a partial function. Printed by a program of ours (vcm.py). No conditions.
-/
import Derived.Test.YtnkahhipochakaaMdc
import Derived.Test.YtnkahhipochakaaMdd
namespace Go.Proofs.Ytnkahhipochakaa
set_option linter.unusedVariables false

def m_law03_GfmatrixAssociates (x00 : Int) (x01 : Int) (x02 : Int) (x03 : Int) (x04 : List (BitVec 8)) (x05 : List (BitVec 8)) (x06 : List (BitVec 8)) : Option (Bool) :=
  Option.bind (m_law03_made x00 x01 x04) fun x3 =>
  Option.bind (ck (x3.2.1 - (1 : Int))) fun x13 =>
  Option.bind (m_law03_made x13 x02 x05) fun x14 =>
  Option.bind (ck (x14.2.1 - (1 : Int))) fun x24 =>
  Option.bind (m_law03_made x24 x03 x06) fun x25 =>
  Option.bind (m_gfmatrix_Mul x3.1 x3.2.1 x3.2.2 x14.1 x14.2.1 x14.2.2) fun x35 =>
  Option.bind (m_gfmatrix_Mul x14.1 x14.2.1 x14.2.2 x25.1 x25.2.1 x25.2.2) fun x45 =>
  Option.bind (m_gfmatrix_Mul x35.1 x35.2.1 x35.2.2.1 x25.1 x25.2.1 x25.2.2) fun x55 =>
  Option.bind (m_gfmatrix_Mul x3.1 x3.2.1 x3.2.2 x45.1 x45.2.1 x45.2.2.1) fun x65 =>
  if x35.2.2.2 = (0 : Int) then
    if x45.2.2.2 = (0 : Int) then
      if x55.2.2.2 = (0 : Int) then
        if x65.2.2.2 = (0 : Int) then
          Option.bind (m_law03_equal x55.1 x55.2.1 x55.2.2.1 x65.1 x65.2.1 x65.2.2.1) fun x79 =>
          if x79 = true then
            Option.bind (m_law03_awake) fun x82 =>
            some (x82)
          else
            some (false)
        else
          some (false)
      else
        some (false)
    else
      some (false)
  else
    some (false)

end Go.Proofs.Ytnkahhipochakaa
