/-
  Models of functions of the program (e4): what each computes, as a partial function. Printed by a program of ours (vcm.py). No conditions.
-/
import Derived.Test.YtnkahhipochakaaMdc
import Derived.Test.YtnkahhipochakaaMdd
namespace Go.Proofs.Ytnkahhipochakaa
set_option linter.unusedVariables false

def m_law03_GfmatrixSingular_j0 (x3 : Int × Int × (List (BitVec 8))) (x37 : List (BitVec 8)) : Option (Bool) :=
  Option.bind (m_gfmatrix_Invert x3.1 x3.2.1 x37) fun x61 =>
  if x61.2.2.2 = (14 : Int) then
    Option.bind (m_law03_awake) fun x72 =>
    some (x72)
  else
    some (false)
def m_law03_GfmatrixSingular_l1 (x04 : BitVec 8) (x3 : Int × Int × (List (BitVec 8))) (x21 : Int) (x25 : Int) : Nat → (List (BitVec 8)) → Int → Option (Bool)
  | 0, _, _ => none
  | q42 + 1, x40, x41 =>
    if x41 < x3.2.1 then
      Option.bind (ck (x25 * x3.2.1)) fun x49 =>
      Option.bind (ck (x49 + x41)) fun x50 =>
      Option.bind (ck (x21 * x3.2.1)) fun x51 =>
      Option.bind (ck (x51 + x41)) fun x52 =>
      Option.bind (idx x40 x52) fun x53 =>
      Option.bind (m_gf256_Mul x04 x53) fun x54 =>
      Option.bind (idx x40 x50) fun x56 =>
      Option.bind (upd x40 x50 x54) fun x57 =>
      Option.bind (ck (x41 + (1 : Int))) fun x59 =>
      (m_law03_GfmatrixSingular_l1 x04 x3 x21 x25 q42) x57 x59
    else
      m_law03_GfmatrixSingular_j0 x3 x40
def m_law03_GfmatrixSingular (x00 : Int) (x01 : List (BitVec 8)) (x02 : Int) (x03 : Int) (x04 : BitVec 8) : Option (Bool) :=
  Option.bind (m_law03_made x00 x00 x01) fun x3 =>
  if x3.1 < (2 : Int) then
    Option.bind (m_law03_awake) fun x16 =>
    some (x16)
  else
    Option.bind (rmi x02 x3.1) fun x19 =>
    Option.bind (ck (x19 + x3.1)) fun x20 =>
    Option.bind (rmi x20 x3.1) fun x21 =>
    Option.bind (rmi x03 x3.1) fun x23 =>
    Option.bind (ck (x23 + x3.1)) fun x24 =>
    Option.bind (rmi x24 x3.1) fun x25 =>
    if x21 = x25 then
      Option.bind (m_law03_awake) fun x30 =>
      some (x30)
    else
      Option.bind (apd 1 ([] : List (BitVec 8)) x3.2.2) fun x34 =>
      m_law03_GfmatrixSingular_l1 x04 x3 x21 x25 forever x34 (0 : Int)

end Go.Proofs.Ytnkahhipochakaa
