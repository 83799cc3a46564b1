/-
  Models of functions of the program (e6): what each computes, as a partial function. Printed by a program of ours (vcm.py). No conditions.
-/
import Derived.Test.YtnkahhipochakaaMdc
import Derived.Test.YtnkahhipochakaaMdd
namespace Go.Proofs.Ytnkahhipochakaa
set_option linter.unusedVariables false

def m_law03_GfmatrixRows_j3 (x30 : Int) (r1 : (List (Int)) → Int → Option (Bool)) (x41 : List (Int)) : Option (Bool) :=
  Option.bind (ck (x30 + (1 : Int))) fun x73 =>
  r1 x41 x73
def m_law03_GfmatrixRows_j4 (x29 : List (Int)) (x30 : Int) (x44 : Int) (r1 : (List (Int)) → Int → Option (Bool)) (x46 : Bool) : Option (Bool) :=
  if x46 = true then
    Option.bind (apd 8 x29 ([andi x44 (15 : Int)] : List (Int))) fun x69 =>
    m_law03_GfmatrixRows_j3 x30 r1 x69
  else
    m_law03_GfmatrixRows_j3 x30 r1 x29
def m_law03_GfmatrixRows_l5 (x29 : List (Int)) (x30 : Int) (x44 : Int) (r1 : (List (Int)) → Int → Option (Bool)) : Nat → Bool → Int → Option (Bool)
  | 0, _, _ => none
  | q51 + 1, x49, x50 =>
    if x50 < (x29.length : Int) then
      if x49 = true then
        Option.bind (idx x29 x50) fun x60 =>
        Option.bind (ck (x50 + (1 : Int))) fun x62 =>
        (m_law03_GfmatrixRows_l5 x29 x30 x44 r1 q51) (x60 != (andi x44 (15 : Int))) x62
      else
        Option.bind (ck (x50 + (1 : Int))) fun x64 =>
        (m_law03_GfmatrixRows_l5 x29 x30 x44 r1 q51) false x64
    else
      m_law03_GfmatrixRows_j4 x29 x30 x44 r1 x49
def m_law03_GfmatrixRows_j2 (x01 : List (Int)) (x29 : List (Int)) (x30 : Int) (r1 : (List (Int)) → Int → Option (Bool)) : Option (Bool) :=
  Option.bind (idx x01 x30) fun x44 =>
  m_law03_GfmatrixRows_l5 x29 x30 x44 r1 forever true (0 : Int)
def m_law03_GfmatrixRows_j0 (x4 : Int) (x6 : Int × Int × (List (BitVec 8)) × Int) (x21 : List (Int)) : Option (Bool) :=
  if (x21.length : Int) < x4 then
    Option.bind (m_law03_awake) fun x78 =>
    some (x78)
  else
    Option.bind (m_gfmatrix_Pick x6.1 x6.2.1 x6.2.2.1 x21) fun x81 =>
    Option.bind (m_gfmatrix_Invert x81.1 x81.2.1 x81.2.2.1) fun x91 =>
    if x6.2.2.2 = (0 : Int) then
      if x81.2.2.2 = (0 : Int) then
        if x91.2.2.2 = (0 : Int) then
          Option.bind (m_law03_awake) fun x104 =>
          some (x104)
        else
          some (false)
      else
        some (false)
    else
      some (false)
def m_law03_GfmatrixRows_l1 (x01 : List (Int)) (x4 : Int) (x6 : Int × Int × (List (BitVec 8)) × Int) : Nat → (List (Int)) → Int → Option (Bool)
  | 0, _, _ => none
  | q31 + 1, x29, x30 =>
    if x30 < (x01.length : Int) then
      if x30 < (60 : Int) then
        if (x29.length : Int) < x4 then
          m_law03_GfmatrixRows_j2 x01 x29 x30 (m_law03_GfmatrixRows_l1 x01 x4 x6 q31)
        else
          m_law03_GfmatrixRows_j0 x4 x6 x29
      else
        m_law03_GfmatrixRows_j0 x4 x6 x29
    else
      m_law03_GfmatrixRows_j0 x4 x6 x29
def m_law03_GfmatrixRows (x00 : Int) (x01 : List (Int)) : Option (Bool) :=
  Option.bind (rmi (andi x00 (15 : Int)) (8 : Int)) fun x3 =>
  Option.bind (ck ((1 : Int) + x3)) fun x4 =>
  Option.bind (m_gfmatrix_Vandermonde (16 : Int) x4) fun x6 =>
  m_law03_GfmatrixRows_l1 x01 x4 x6 forever ([] : List (Int)) (0 : Int)

end Go.Proofs.Ytnkahhipochakaa
