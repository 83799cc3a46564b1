/- A part of the proof. Conditions: as each theorem says. -/
import Derived.Test.YtcncappgheopgaaGreatMdc
namespace Go.Proofs.YtcncappgheopgaaGreat
set_option linter.unusedVariables false
def m_rs_Code : Option (Int × Int × By) :=
  (m_gfmatrix_Vandermonde (6 : Int) (4 : Int)).bind fun x4 =>
  (m_gfmatrix_Pick x4.1 x4.2.1 x4.2.2.1 ([(0 : Int), (1 : Int), (2 : Int), (3 : Int)] : List Int)).bind fun x15 =>
  (m_gfmatrix_Invert x15.1 x15.2.1 x15.2.2.1).bind fun x25 =>
  (m_gfmatrix_Mul x4.1 x4.2.1 x4.2.2.1 x25.1 x25.2.1 x25.2.2.1).bind fun x35 =>
  some (x35.1, x35.2.1, x35.2.2.1)
def m_rs_restore_j0 (x10 : List Int) (x16 : List By) : Option ((List By)) :=
  (m_rs_Code).bind fun x74 =>
  (m_gfmatrix_Pick x74.1 x74.2.1 x74.2.2 x10).bind fun x84 =>
  (m_gfmatrix_Invert x84.1 x84.2.1 x84.2.2.1).bind fun x94 =>
  (m_gfmatrix_Mul x74.1 x74.2.1 x74.2.2 x94.1 x94.2.1 x94.2.2.1).bind fun x104 =>
  (m_gfmatrix_Apply x104.1 x104.2.1 x104.2.2.1 x16).bind fun x114 =>
  some (x114.1)
def m_rs_restore_l1 (x00 : List By) (x01 : List Bool) : Nat -> (List Int) -> (List By) -> Int -> Option ((List By))
  | 0, _, _, _ => none
  | q36 + 1, x26, x32, x35 =>
    if x35 < (6 : Int) then
      (idx x01 x35).bind fun x43 =>
      if x43 = true then
        if (x26.length : Int) < (4 : Int) then
          (apd 8 x26 ([x35] : List Int)).bind fun x49 =>
          (idx x00 x35).bind fun x52 =>
          (apd 24 x32 ([x52] : List By)).bind fun x58 =>
          (ck (x35 + (1 : Int))).bind fun x68 =>
          (m_rs_restore_l1 x00 x01 q36) x49 x58 x68
        else
          (ck (x35 + (1 : Int))).bind fun x70 =>
          (m_rs_restore_l1 x00 x01 q36) x26 x32 x70
      else
        (ck (x35 + (1 : Int))).bind fun x72 =>
        (m_rs_restore_l1 x00 x01 q36) x26 x32 x72
    else
      m_rs_restore_j0 x26 x32
def m_rs_restore (x00 : List By) (x01 : List Bool) : Option ((List By)) :=
  m_rs_restore_l1 x00 x01 forever ([] : List Int) ([] : List By) (0 : Int)
def m_rs_Restore_j1 (x00 : List By) (x11 : List Bool) (x14 : Int) : Option ((List By) × Int) :=
  if x14 < (4 : Int) then
    some (([] : List By), (11 : Int))
  else
    (m_rs_restore x00 x11).bind fun x77 =>
    some (x77, (0 : Int))
def m_rs_Restore_l2 (x00 : List By) (x11 : List Bool) : Nat -> Int -> Int -> Int -> Option ((List By) × Int)
  | 0, _, _, _ => none
  | q20 + 1, x17, x18, x19 =>
    if x19 < (6 : Int) then
      (idx x11 x19).bind fun x27 =>
      if x27 = true then
        if x17 < (0 : Int) then
          (idx x00 x19).bind fun x37 =>
          (idx x00 x19).bind fun x41 =>
          if (x37.length : Int) = (x41.length : Int) then
            (ck (x18 + (1 : Int))).bind fun x47 =>
            (ck (x19 + (1 : Int))).bind fun x49 =>
            (m_rs_Restore_l2 x00 x11 q20) x19 x47 x49
          else
            some (([] : List By), (1 : Int))
        else
          (idx x00 x19).bind fun x54 =>
          (idx x00 x17).bind fun x58 =>
          if (x54.length : Int) = (x58.length : Int) then
            (ck (x18 + (1 : Int))).bind fun x64 =>
            (ck (x19 + (1 : Int))).bind fun x66 =>
            (m_rs_Restore_l2 x00 x11 q20) x17 x64 x66
          else
            some (([] : List By), (1 : Int))
      else
        (ck (x19 + (1 : Int))).bind fun x70 =>
        (m_rs_Restore_l2 x00 x11 q20) x17 x18 x70
    else
      m_rs_Restore_j1 x00 x11 x18
def m_rs_Restore_j0 (x00 : List By) (x01 : List Bool) : Option ((List By) × Int) :=
  (tka x01 6).bind fun x11 =>
  m_rs_Restore_l2 x00 x11 forever (-1 : Int) (0 : Int) (0 : Int)
def m_rs_Restore (x00 : List By) (x01 : List Bool) : Option ((List By) × Int) :=
  if (x00.length : Int) = (6 : Int) then
    if (x01.length : Int) = (6 : Int) then
      m_rs_Restore_j0 x00 x01
    else
      some (([] : List By), (1 : Int))
  else
    some (([] : List By), (1 : Int))
end Go.Proofs.YtcncappgheopgaaGreat
