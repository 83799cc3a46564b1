/- A part of the proof. Conditions: as each theorem says. -/
import Derived.Test.YtcncappgheopgaaGreatMdd
namespace Go.Proofs.YtcncappgheopgaaGreat
set_option linter.unusedVariables false
def m_r04_Code : Option (Int × Int × By) :=
  (m_r03_Vandermonde (6 : Int) (4 : Int)).bind fun x4 =>
  (m_r03_Pick x4.1 x4.2.1 x4.2.2.1 ([(0 : Int), (1 : Int), (2 : Int), (3 : Int)] : List Int)).bind fun x15 =>
  (m_r03_Invert x15.1 x15.2.1 x15.2.2.1).bind fun x25 =>
  (m_r03_Mul x4.1 x4.2.1 x4.2.2.1 x25.1 x25.2.1 x25.2.2.1).bind fun x35 =>
  some (x35.1, x35.2.1, x35.2.2.1)
def m_r04_Level_j0 : Option Bool :=
  some (true)
def m_r04_Level_l1 (x00 : List By) (x01 : Int) : Nat -> Int -> Option Bool
  | 0, _ => none
  | q8 + 1, x7 =>
    if x7 < x01 then
      (idx x00 x7).bind fun x15 =>
      (idx x00 (0 : Int)).bind fun x19 =>
      if (x15.length : Int) = (x19.length : Int) then
        (ck (x7 + (1 : Int))).bind fun x25 =>
        (m_r04_Level_l1 x00 x01 q8) x25
      else
        some (false)
    else
      m_r04_Level_j0
def m_r04_Level (x00 : List By) (x01 : Int) : Option Bool :=
  if (x00.length : Int) = x01 then
    m_r04_Level_l1 x00 x01 forever (0 : Int)
  else
    some (false)
def m_r04_all (x00 : List By) : Option ((List By)) :=
  (m_r04_Code).bind fun x3 =>
  (m_r03_Apply x3.1 x3.2.1 x3.2.2 x00).bind fun x11 =>
  some (x11.1)
def m_r04_Encode (x00 : List By) : Option ((List By) × Int) :=
  (m_r04_Level x00 (4 : Int)).bind fun x4 =>
  if x4 = true then
    (m_r04_all x00).bind fun x8 =>
    (slc x8 (4 : Int) (x8.length : Int)).bind fun x26 =>
    some (x26, (0 : Int))
  else
    some (([] : List By), (1 : Int))
def m_r04_Restore_j3 (x23 : List By) (x119 x120 : Int) (x126 : By) : Option ((List By) × Int) :=
  (m_r03_Invert x119 x120 x126).bind fun x148 =>
  (slc x23 0 (4 : Int)).bind fun x158 =>
  (m_r03_Apply x148.1 x148.2.1 x148.2.2.1 x158).bind fun x162 =>
  (m_r04_all x162.1).bind fun x185 =>
  some (x185, (0 : Int))
def m_r04_Restore_j1 (x17 : List Int) (x23 : List By) : Option ((List By) × Int) :=
  if (x17.length : Int) < (4 : Int) then
    some (([] : List By), (11 : Int))
  else
    (m_r04_Code).bind fun x129 =>
    (slc x17 0 (4 : Int)).bind fun x137 =>
    (m_r03_Pick x129.1 x129.2.1 x129.2.2 x137).bind fun x138 =>
    m_r04_Restore_j3 x23 x138.1 x138.2.1 x138.2.2.1
def m_r04_Restore_l2 (x00 : List By) (x01 : List Bool) : Nat -> (List Int) -> (List By) -> Int -> Option ((List By) × Int)
  | 0, _, _, _ => none
  | q43 + 1, x33, x39, x42 =>
    if x42 < (6 : Int) then
      (idx x01 x42).bind fun x51 =>
      if x51 = true then
        if (0 : Int) < (x39.length : Int) then
          (idx x00 x42).bind fun x56 =>
          (idx x39 (0 : Int)).bind fun x60 =>
          if (x56.length : Int) = (x60.length : Int) then
            (apd 8 x33 ([x42] : List Int)).bind fun x67 =>
            (idx x00 x42).bind fun x70 =>
            (apd 24 x39 ([x70] : List By)).bind fun x76 =>
            (ck (x42 + (1 : Int))).bind fun x86 =>
            (m_r04_Restore_l2 x00 x01 q43) x67 x76 x86
          else
            some (([] : List By), (1 : Int))
        else
          (apd 8 x33 ([x42] : List Int)).bind fun x91 =>
          (idx x00 x42).bind fun x94 =>
          (apd 24 x39 ([x94] : List By)).bind fun x100 =>
          (ck (x42 + (1 : Int))).bind fun x110 =>
          (m_r04_Restore_l2 x00 x01 q43) x91 x100 x110
      else
        (ck (x42 + (1 : Int))).bind fun x112 =>
        (m_r04_Restore_l2 x00 x01 q43) x33 x39 x112
    else
      m_r04_Restore_j1 x33 x39
def m_r04_Restore_j0 (x00 : List By) (x01 : List Bool) : Option ((List By) × Int) :=
  m_r04_Restore_l2 x00 x01 forever ([] : List Int) ([] : List By) (0 : Int)
def m_r04_Restore (x00 : List By) (x01 : List Bool) : Option ((List By) × Int) :=
  if (x00.length : Int) = (6 : Int) then
    if (x01.length : Int) = (6 : Int) then
      m_r04_Restore_j0 x00 x01
    else
      some (([] : List By), (1 : Int))
  else
    some (([] : List By), (1 : Int))
end Go.Proofs.YtcncappgheopgaaGreat
