/-
  Models of functions of the program (b): what each computes, as an option. Printed by a program of ours (vcm.py). No conditions.
-/
import Derived.Test.YtcncappgheopgaaMda
namespace Go.Proofs.Ytcncappgheopgaa
set_option linter.unusedVariables false

def m_r18_Exclude_j4 (x57 : Int) (r3 : (List (List (Int))) → Int → Option ((List (Int)))) (x67 : List (List (Int))) : Option ((List (Int))) :=
  Option.bind (ck (x57 + (1 : Int))) fun x101 =>
  r3 x67 x101
def m_r18_Exclude_l5 (x57 : Int) (r3 : (List (List (Int))) → Int → Option ((List (Int)))) : Nat → (List (List (Int))) → Int → Option ((List (Int)))
  | 0, _, _ => none
  | q81 + 1, x77, x80 =>
    if x80 < (6 : Int) then
      Option.bind (apd 24 x77 ([([x57, x80] : List (Int))] : List (List (Int)))) fun x93 =>
      Option.bind (ck (x80 + (1 : Int))) fun x99 =>
      (m_r18_Exclude_l5 x57 r3 q81) x93 x99
    else
      m_r18_Exclude_j4 x57 r3 x77
def m_r18_Exclude_j2 (x00 : Int) (x45 : List (List (Int))) : Option ((List (Int))) :=
  if x00 < (0 : Int) then
    some (([] : List (Int)))
  else
    if (x45.length : Int) ≤ x00 then
      some (([] : List (Int)))
    else
      Option.bind (idx x45 x00) fun x109 =>
      some (x109)
def m_r18_Exclude_l3 (x00 : Int) : Nat → (List (List (Int))) → Int → Option ((List (Int)))
  | 0, _, _ => none
  | q58 + 1, x54, x57 =>
    if x57 < (6 : Int) then
      Option.bind (ck (x57 + (1 : Int))) fun x72 =>
      m_r18_Exclude_l5 x57 (m_r18_Exclude_l3 x00 q58) forever x54 x72
    else
      m_r18_Exclude_j2 x00 x54
def m_r18_Exclude_j0 (x00 : Int) (x9 : List (List (Int))) : Option ((List (Int))) :=
  m_r18_Exclude_l3 x00 forever x9 (0 : Int)
def m_r18_Exclude_l1 (x00 : Int) : Nat → (List (List (Int))) → Int → Option ((List (Int)))
  | 0, _, _ => none
  | q22 + 1, x18, x21 =>
    if x21 < (6 : Int) then
      Option.bind (apd 24 x18 ([([x21] : List (Int))] : List (List (Int)))) fun x34 =>
      Option.bind (ck (x21 + (1 : Int))) fun x40 =>
      (m_r18_Exclude_l1 x00 q22) x34 x40
    else
      m_r18_Exclude_j0 x00 x18
def m_r18_Exclude (x00 : Int) : Option ((List (Int))) :=
  m_r18_Exclude_l1 x00 forever ([([] : List (Int))] : List (List (Int))) (0 : Int)

end Go.Proofs.Ytcncappgheopgaa
