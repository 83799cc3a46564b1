/-
  Models of functions of the program (d): what each computes, as an option. Printed by a program of ours (vcm.py). No conditions.
-/
import Derived.Test.YtcncappgheopgaaMdc
namespace Go.Proofs.Ytcncappgheopgaa
set_option linter.unusedVariables false

def m_law18_EcreadSets_j2 (x7 : Int) (r1 : Int → Option (Bool)) : Option (Bool) :=
  Option.bind (ck (x7 + (1 : Int))) fun x62 =>
  r1 x62
def m_law18_EcreadSets_l3 (x7 : Int) (x18 : (List (Int))) (x26 : (List (Int))) (r1 : Int → Option (Bool)) : Nat → Int → Option (Bool)
  | 0, _ => none
  | q46 + 1, x45 =>
    if x45 < (x18.length : Int) then
      Option.bind (idx x18 x45) fun x54 =>
      Option.bind (idx x26 x45) fun x55 =>
      if x54 = x55 then
        Option.bind (ck (x45 + (1 : Int))) fun x58 =>
        (m_law18_EcreadSets_l3 x7 x18 x26 r1 q46) x58
      else
        some (false)
    else
      m_law18_EcreadSets_j2 x7 r1
def m_law18_EcreadSets_j4 (x00 : Int) (x01 : Int) (x87 : Bool) : Option (Bool) :=
  Option.bind (rmi x00 (22 : Int)) fun x105 =>
  Option.bind (ck (x105 + (22 : Int))) fun x106 =>
  Option.bind (rmi x106 (22 : Int)) fun x107 =>
  Option.bind (rmi x01 (22 : Int)) fun x108 =>
  Option.bind (ck (x108 + (22 : Int))) fun x109 =>
  Option.bind (rmi x109 (22 : Int)) fun x110 =>
  if x87 = (x107 == x110) then
    Option.bind (m_law18_awake) fun x112 =>
    some (x112)
  else
    some (false)
def m_law18_EcreadSets_l5 (x00 : Int) (x01 : Int) (x67 : (List (Int))) (x78 : (List (Int))) : Nat → Bool → Int → Option (Bool)
  | 0, _, _ => none
  | q92 + 1, x90, x91 =>
    if x91 < (x67.length : Int) then
      if x90 = true then
        Option.bind (idx x67 x91) fun x100 =>
        Option.bind (idx x78 x91) fun x101 =>
        Option.bind (ck (x91 + (1 : Int))) fun x103 =>
        (m_law18_EcreadSets_l5 x00 x01 x67 x78 q92) (x100 == x101) x103
      else
        m_law18_EcreadSets_j4 x00 x01 x90
    else
      m_law18_EcreadSets_j4 x00 x01 x90
def m_law18_EcreadSets_j0 (x00 : Int) (x01 : Int) : Option (Bool) :=
  Option.bind (rmi x00 (22 : Int)) fun x64 =>
  Option.bind (ck (x64 + (22 : Int))) fun x65 =>
  Option.bind (rmi x65 (22 : Int)) fun x66 =>
  Option.bind (m_ecread_Exclude x66) fun x67 =>
  Option.bind (rmi x01 (22 : Int)) fun x75 =>
  Option.bind (ck (x75 + (22 : Int))) fun x76 =>
  Option.bind (rmi x76 (22 : Int)) fun x77 =>
  Option.bind (m_ecread_Exclude x77) fun x78 =>
  m_law18_EcreadSets_l5 x00 x01 x67 x78 forever ((x67.length : Int) == (x78.length : Int)) (0 : Int)
def m_law18_EcreadSets_l1 (x00 : Int) (x01 : Int) : Nat → Int → Option (Bool)
  | 0, _ => none
  | q8 + 1, x7 =>
    if x7 < (([x00, andi x00 (31 : Int)] : List (Int)).length : Int) then
      Option.bind (idx ([x00, andi x00 (31 : Int)] : List (Int)) x7) fun x16 =>
      Option.bind (m_ecread_Exclude x16) fun x18 =>
      Option.bind (m_r18_Exclude x16) fun x26 =>
      if (x18.length : Int) = (x26.length : Int) then
        m_law18_EcreadSets_l3 x7 x18 x26 (m_law18_EcreadSets_l1 x00 x01 q8) forever (0 : Int)
      else
        some (false)
    else
      m_law18_EcreadSets_j0 x00 x01
def m_law18_EcreadSets (x00 : Int) (x01 : Int) : Option (Bool) :=
  m_law18_EcreadSets_l1 x00 x01 forever (0 : Int)

end Go.Proofs.Ytcncappgheopgaa
