/-
  Models of functions of the program (e8): what each computes, as a partial function. Printed by a program of ours (vcm.py). No conditions.
-/
import Derived.Test.YtnkahhipochakaaMdc
import Derived.Test.YtnkahhipochakaaMdd
namespace Go.Proofs.Ytnkahhipochakaa
set_option linter.unusedVariables false

def m_law03_GfmatrixComposes_j0 (x3 : Int × Int × (List (BitVec 8))) (x14 : Int × Int × (List (BitVec 8))) (x30 : List (List (BitVec 8))) : Option (Bool) :=
  Option.bind (m_gfmatrix_Mul x3.1 x3.2.1 x3.2.2 x14.1 x14.2.1 x14.2.2) fun x88 =>
  Option.bind (m_gfmatrix_Apply x88.1 x88.2.1 x88.2.2.1 x30) fun x98 =>
  Option.bind (m_gfmatrix_Apply x14.1 x14.2.1 x14.2.2 x30) fun x121 =>
  Option.bind (m_gfmatrix_Apply x3.1 x3.2.1 x3.2.2 x121.1) fun x142 =>
  if x88.2.2.2 = (0 : Int) then
    if x98.2 = (0 : Int) then
      if x121.2 = (0 : Int) then
        if x142.2 = (0 : Int) then
          Option.bind (m_r03_SameRows x98.1 x142.1) fun x169 =>
          if x169 = true then
            Option.bind (m_law03_awake) fun x172 =>
            some (x172)
          else
            some (false)
        else
          some (false)
      else
        some (false)
    else
      some (false)
  else
    some (false)
def m_law03_GfmatrixComposes_l1 (x05 : List (List (BitVec 8))) (x3 : Int × Int × (List (BitVec 8))) (x14 : Int × Int × (List (BitVec 8))) : Nat → (List (List (BitVec 8))) → Int → Option (Bool)
  | 0, _, _ => none
  | q45 + 1, x41, x44 =>
    if x44 < x14.2.1 then
      Option.bind (mks 1 (9 : Int) 0#8) fun x53 =>
      if x44 < (x05.length : Int) then
        Option.bind (idx x05 x44) fun x58 =>
        Option.bind (cpw x53 x58) fun x62 =>
        Option.bind (apd 24 x41 ([x62] : List (List (BitVec 8)))) fun x68 =>
        Option.bind (ck (x44 + (1 : Int))) fun x74 =>
        (m_law03_GfmatrixComposes_l1 x05 x3 x14 q45) x68 x74
      else
        Option.bind (apd 24 x41 ([x53] : List (List (BitVec 8)))) fun x80 =>
        Option.bind (ck (x44 + (1 : Int))) fun x86 =>
        (m_law03_GfmatrixComposes_l1 x05 x3 x14 q45) x80 x86
    else
      m_law03_GfmatrixComposes_j0 x3 x14 x41
def m_law03_GfmatrixComposes (x00 : Int) (x01 : Int) (x02 : Int) (x03 : List (BitVec 8)) (x04 : List (BitVec 8)) (x05 : List (List (BitVec 8))) : Option (Bool) :=
  Option.bind (m_law03_made x00 x01 x03) fun x3 =>
  Option.bind (ck (x3.2.1 - (1 : Int))) fun x13 =>
  Option.bind (m_law03_made x13 x02 x04) fun x14 =>
  m_law03_GfmatrixComposes_l1 x05 x3 x14 forever ([] : List (List (BitVec 8))) (0 : Int)

end Go.Proofs.Ytnkahhipochakaa
