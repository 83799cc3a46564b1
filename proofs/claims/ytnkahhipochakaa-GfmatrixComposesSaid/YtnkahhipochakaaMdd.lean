/-
  Models of functions of the program (d): what each computes, as a partial function. Printed by a program of ours (vcm.py). No conditions.
-/
import Derived.Test.YtnkahhipochakaaMdc
namespace Go.Proofs.Ytnkahhipochakaa
set_option linter.unusedVariables false

def m_law03_given (x00_0 : Int) (x00_1 : Int) (x00_2 : List (BitVec 8)) : Option (Int × Int × (List (BitVec 8))) :=
  some (x00_0, x00_1, x00_2)

def m_law03_same (x00_0 : Int) (x00_1 : Int) (x00_2 : List (BitVec 8)) (x01_0 : Int) (x01_1 : Int) (x01_2 : List (BitVec 8)) : Option (Bool) :=
  if x00_0 = x01_0 then
    if x00_1 = x01_1 then
      some ((x00_2 == x01_2))
    else
      some (false)
  else
    some (false)

def m_law03_equal (x00_0 : Int) (x00_1 : Int) (x00_2 : List (BitVec 8)) (x01_0 : Int) (x01_1 : Int) (x01_2 : List (BitVec 8)) : Option (Bool) :=
  if x00_0 = x01_0 then
    if x00_1 = x01_1 then
      some ((x00_2 == x01_2))
    else
      some (false)
  else
    some (false)

def m_law03_made_j0 (x5 : Int) (x7 : Int) (x14 : List (BitVec 8)) : Option (Int × Int × (List (BitVec 8))) :=
  some (x5, x7, x14)
def m_law03_made_l1 (x02 : List (BitVec 8)) (x5 : Int) (x7 : Int) : Nat → (List (BitVec 8)) → Int → Option (Int × Int × (List (BitVec 8)))
  | 0, _, _ => none
  | q24 + 1, x22, x23 =>
    Option.bind (ck (x5 * x7)) fun x28 =>
    if x23 < x28 then
      if x23 < (x02.length : Int) then
        Option.bind (idx x02 x23) fun x36 =>
        Option.bind (apd 1 x22 ([x36] : List (BitVec 8))) fun x39 =>
        Option.bind (ck (x23 + (1 : Int))) fun x43 =>
        (m_law03_made_l1 x02 x5 x7 q24) x39 x43
      else
        Option.bind (apd 1 x22 ([0#8] : List (BitVec 8))) fun x46 =>
        Option.bind (ck (x23 + (1 : Int))) fun x50 =>
        (m_law03_made_l1 x02 x5 x7 q24) x46 x50
    else
      m_law03_made_j0 x5 x7 x22
def m_law03_made (x00 : Int) (x01 : Int) (x02 : List (BitVec 8)) : Option (Int × Int × (List (BitVec 8))) :=
  Option.bind (rmi (andi x00 (15 : Int)) (5 : Int)) fun x4 =>
  Option.bind (ck ((1 : Int) + x4)) fun x5 =>
  Option.bind (rmi (andi x01 (15 : Int)) (5 : Int)) fun x6 =>
  Option.bind (ck ((1 : Int) + x6)) fun x7 =>
  m_law03_made_l1 x02 x5 x7 forever ([] : List (BitVec 8)) (0 : Int)

def m_law03_awake : Option (Bool) :=
  Option.bind (m_gfmatrix_Vandermonde (3 : Int) (2 : Int)) fun x3 =>
  Option.bind (m_gfmatrix_Invert (2 : Int) (2 : Int) ([1#8, 1#8, 1#8, 1#8] : List (BitVec 8))) fun x14 =>
  Option.bind (m_gfmatrix_Apply (1 : Int) (1 : Int) ([2#8] : List (BitVec 8)) ([([1#8, 128#8] : List (BitVec 8))] : List (List (BitVec 8)))) fun x30 =>
  if x3.2.2.2 = (0 : Int) then
    if x3.2.2.1 = ([1#8, 0#8, 1#8, 1#8, 1#8, 2#8] : List (BitVec 8)) then
      if x14.2.2.2 = (14 : Int) then
        if x30.2 = (0 : Int) then
          if (x30.1.length : Int) = (1 : Int) then
            Option.bind (idx x30.1 (0 : Int)) fun x59 =>
            some ((x59 == ([2#8, 29#8] : List (BitVec 8))))
          else
            some (false)
        else
          some (false)
      else
        some (false)
    else
      some (false)
  else
    some (false)

def m_law03_heavy (x00_0 : Int) (x00_1 : Int) (x00_2 : List (BitVec 8)) : Option (Bool) :=
  some ((decide ((400 : Int) < (x00_2.length : Int))))

end Go.Proofs.Ytnkahhipochakaa
