/-
  Models of functions of the program (d): what each computes, as an option. Printed by a program of ours (vcm.py). No conditions.
-/
import Derived.Test.YtcncappgheopgaaGreatMdc
namespace Go.Proofs.YtcncappgheopgaaGreat
set_option linter.unusedVariables false
def m_rs_Code : Option (Int × Int × (List (BitVec 8))) :=
  Option.bind (m_gfmatrix_Vandermonde (6 : Int) (4 : Int)) fun x4 =>
  Option.bind (m_gfmatrix_Pick x4.1 x4.2.1 x4.2.2.1 ([(0 : Int), (1 : Int), (2 : Int), (3 : Int)] : List (Int))) fun x15 =>
  Option.bind (m_gfmatrix_Invert x15.1 x15.2.1 x15.2.2.1) fun x25 =>
  Option.bind (m_gfmatrix_Mul x4.1 x4.2.1 x4.2.2.1 x25.1 x25.2.1 x25.2.2.1) fun x35 =>
  some (x35.1, x35.2.1, x35.2.2.1)
def m_rs_restore_j0 (x10 : List (Int)) (x16 : List (List (BitVec 8))) : Option ((List (List (BitVec 8)))) :=
  Option.bind (m_rs_Code) fun x74 =>
  Option.bind (m_gfmatrix_Pick x74.1 x74.2.1 x74.2.2 x10) fun x84 =>
  Option.bind (m_gfmatrix_Invert x84.1 x84.2.1 x84.2.2.1) fun x94 =>
  Option.bind (m_gfmatrix_Mul x74.1 x74.2.1 x74.2.2 x94.1 x94.2.1 x94.2.2.1) fun x104 =>
  Option.bind (m_gfmatrix_Apply x104.1 x104.2.1 x104.2.2.1 x16) fun x114 =>
  some (x114.1)
def m_rs_restore_l1 (x00 : List (List (BitVec 8))) (x01 : List (Bool)) : Nat -> (List (Int)) -> (List (List (BitVec 8))) -> Int -> Option ((List (List (BitVec 8))))
  | 0, _, _, _ => none
  | q36 + 1, x26, x32, x35 =>
    if x35 < (6 : Int) then
      Option.bind (idx x01 x35) fun x43 =>
      if x43 = true then
        if (x26.length : Int) < (4 : Int) then
          Option.bind (apd 8 x26 ([x35] : List (Int))) fun x49 =>
          Option.bind (idx x00 x35) fun x52 =>
          Option.bind (apd 24 x32 ([x52] : List (List (BitVec 8)))) fun x58 =>
          Option.bind (ck (x35 + (1 : Int))) fun x68 =>
          (m_rs_restore_l1 x00 x01 q36) x49 x58 x68
        else
          Option.bind (ck (x35 + (1 : Int))) fun x70 =>
          (m_rs_restore_l1 x00 x01 q36) x26 x32 x70
      else
        Option.bind (ck (x35 + (1 : Int))) fun x72 =>
        (m_rs_restore_l1 x00 x01 q36) x26 x32 x72
    else
      m_rs_restore_j0 x26 x32
def m_rs_restore (x00 : List (List (BitVec 8))) (x01 : List (Bool)) : Option ((List (List (BitVec 8)))) :=
  m_rs_restore_l1 x00 x01 forever ([] : List (Int)) ([] : List (List (BitVec 8))) (0 : Int)
def m_rs_Restore_j1 (x00 : List (List (BitVec 8))) (x11 : List (Bool)) (x14 : Int) : Option ((List (List (BitVec 8))) × Int) :=
  if x14 < (4 : Int) then
    some (([] : List (List (BitVec 8))), (11 : Int))
  else
    Option.bind (m_rs_restore x00 x11) fun x77 =>
    some (x77, (0 : Int))
def m_rs_Restore_l2 (x00 : List (List (BitVec 8))) (x11 : List (Bool)) : Nat -> Int -> Int -> Int -> Option ((List (List (BitVec 8))) × Int)
  | 0, _, _, _ => none
  | q20 + 1, x17, x18, x19 =>
    if x19 < (6 : Int) then
      Option.bind (idx x11 x19) fun x27 =>
      if x27 = true then
        if x17 < (0 : Int) then
          Option.bind (idx x00 x19) fun x37 =>
          Option.bind (idx x00 x19) fun x41 =>
          if (x37.length : Int) = (x41.length : Int) then
            Option.bind (ck (x18 + (1 : Int))) fun x47 =>
            Option.bind (ck (x19 + (1 : Int))) fun x49 =>
            (m_rs_Restore_l2 x00 x11 q20) x19 x47 x49
          else
            some (([] : List (List (BitVec 8))), (1 : Int))
        else
          Option.bind (idx x00 x19) fun x54 =>
          Option.bind (idx x00 x17) fun x58 =>
          if (x54.length : Int) = (x58.length : Int) then
            Option.bind (ck (x18 + (1 : Int))) fun x64 =>
            Option.bind (ck (x19 + (1 : Int))) fun x66 =>
            (m_rs_Restore_l2 x00 x11 q20) x17 x64 x66
          else
            some (([] : List (List (BitVec 8))), (1 : Int))
      else
        Option.bind (ck (x19 + (1 : Int))) fun x70 =>
        (m_rs_Restore_l2 x00 x11 q20) x17 x18 x70
    else
      m_rs_Restore_j1 x00 x11 x18
def m_rs_Restore_j0 (x00 : List (List (BitVec 8))) (x01 : List (Bool)) : Option ((List (List (BitVec 8))) × Int) :=
  Option.bind (tka x01 6) fun x11 =>
  m_rs_Restore_l2 x00 x11 forever (-1 : Int) (0 : Int) (0 : Int)
def m_rs_Restore (x00 : List (List (BitVec 8))) (x01 : List (Bool)) : Option ((List (List (BitVec 8))) × Int) :=
  if (x00.length : Int) = (6 : Int) then
    if (x01.length : Int) = (6 : Int) then
      m_rs_Restore_j0 x00 x01
    else
      some (([] : List (List (BitVec 8))), (1 : Int))
  else
    some (([] : List (List (BitVec 8))), (1 : Int))
end Go.Proofs.YtcncappgheopgaaGreat
