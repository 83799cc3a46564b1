/-
  Models of functions of the program (a): what each computes, as an option. Printed by a program of ours (vcm.py). No conditions.
-/
import Derived.Test.YtcncappgheopgaaMo
namespace Go.Proofs.Ytcncappgheopgaa
set_option linter.unusedVariables false

def m_superblock_Valid (x00_0 : Int) (x00_1 : Int) (x00_2 : Int) : Option (Bool) :=
  if (0 : Int) ≤ x00_0 then
    if x00_0 < (4 : Int) then
      if (1 : Int) ≤ x00_1 then
        if x00_1 ≤ (8 : Int) then
          if (0 : Int) ≤ x00_2 then
            some ((decide (x00_2 ≤ (4294967295 : Int))))
          else
            some (false)
        else
          some (false)
      else
        some (false)
    else
      some (false)
  else
    some (false)

def m_ecread_Exclude_j3 (x56 : Int) (r2 : Int → Int → Option ((List (Int)))) (x62 : Int) : Option ((List (Int))) :=
  r2 x62 (wri (x56 + (1 : Int)))
def m_ecread_Exclude_l4 (x56 : Int) (r2 : Int → Int → Option ((List (Int)))) : Nat → Int → Int → Option ((List (Int)))
  | 0, _, _ => none
  | q68 + 1, x66, x67 =>
    if x67 < (6 : Int) then
      if x66 = (0 : Int) then
        some (([x56, x67] : List (Int)))
      else
        (m_ecread_Exclude_l4 x56 r2 q68) (wri (x66 - (1 : Int))) (wri (x67 + (1 : Int)))
    else
      m_ecread_Exclude_j3 x56 r2 x66
def m_ecread_Exclude_l2 : Nat → Int → Int → Option ((List (Int)))
  | 0, _, _ => none
  | q57 + 1, x55, x56 =>
    if x56 < (6 : Int) then
      m_ecread_Exclude_l4 x56 (m_ecread_Exclude_l2 q57) forever x55 (wri (x56 + (1 : Int)))
    else
      some (([] : List (Int)))
def m_ecread_Exclude_j0 (x27 : Int) : Option ((List (Int))) :=
  m_ecread_Exclude_l2 forever x27 (0 : Int)
def m_ecread_Exclude_l1 : Nat → Int → Int → Option ((List (Int)))
  | 0, _, _ => none
  | q32 + 1, x30, x31 =>
    if x31 < (6 : Int) then
      if x30 = (0 : Int) then
        some (([x31] : List (Int)))
      else
        (m_ecread_Exclude_l1 q32) (wri (x30 - (1 : Int))) (wri (x31 + (1 : Int)))
    else
      m_ecread_Exclude_j0 x30
def m_ecread_Exclude (x00 : Int) : Option ((List (Int))) :=
  if x00 = (0 : Int) then
    some (([] : List (Int)))
  else
    m_ecread_Exclude_l1 forever (wri (x00 - (1 : Int))) (0 : Int)

end Go.Proofs.Ytcncappgheopgaa
