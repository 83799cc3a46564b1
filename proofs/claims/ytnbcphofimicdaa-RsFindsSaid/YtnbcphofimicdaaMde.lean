/-
  Models of functions of the program (e): what each computes, as an option. Printed by a program of ours (vcm.py). No conditions.
-/
import Derived.Test.YtnbcphofimicdaaMdd
namespace Go.Proofs.Ytnbcphofimicdaa
set_option linter.unusedVariables false

def m_r04_Code : Option (Int × Int × (List (BitVec 8))) :=
  Option.bind (m_r03_Vandermonde (6 : Int) (4 : Int)) fun x4 =>
  Option.bind (m_r03_Pick x4.1 x4.2.1 x4.2.2.1 ([(0 : Int), (1 : Int), (2 : Int), (3 : Int)] : List (Int))) fun x15 =>
  Option.bind (m_r03_Invert x15.1 x15.2.1 x15.2.2.1) fun x25 =>
  Option.bind (m_r03_Mul x4.1 x4.2.1 x4.2.2.1 x25.1 x25.2.1 x25.2.2.1) fun x35 =>
  some (x35.1, x35.2.1, x35.2.2.1)

def m_r04_Level_j0 : Option (Bool) :=
  some (true)
def m_r04_Level_l1 (x00 : List (List (BitVec 8))) (x01 : Int) : Nat → Int → Option (Bool)
  | 0, _ => none
  | q8 + 1, x7 =>
    if x7 < x01 then
      Option.bind (idx x00 x7) fun x15 =>
      Option.bind (idx x00 (0 : Int)) fun x19 =>
      if (x15.length : Int) = (x19.length : Int) then
        Option.bind (ck (x7 + (1 : Int))) fun x25 =>
        (m_r04_Level_l1 x00 x01 q8) x25
      else
        some (false)
    else
      m_r04_Level_j0
def m_r04_Level (x00 : List (List (BitVec 8))) (x01 : Int) : Option (Bool) :=
  if (x00.length : Int) = x01 then
    m_r04_Level_l1 x00 x01 forever (0 : Int)
  else
    some (false)

def m_r04_all (x00 : List (List (BitVec 8))) : Option ((List (List (BitVec 8)))) :=
  Option.bind (m_r04_Code) fun x3 =>
  Option.bind (m_r03_Apply x3.1 x3.2.1 x3.2.2 x00) fun x11 =>
  some (x11.1)

def m_r04_Encode (x00 : List (List (BitVec 8))) : Option ((List (List (BitVec 8))) × Int) :=
  Option.bind (m_r04_Level x00 (4 : Int)) fun x4 =>
  if x4 = true then
    Option.bind (m_r04_all x00) fun x8 =>
    Option.bind (slc x8 (4 : Int) (x8.length : Int)) fun x26 =>
    some (x26, (0 : Int))
  else
    some (([] : List (List (BitVec 8))), (1 : Int))

def m_r04_Verify (x00 : List (List (BitVec 8))) : Option (Bool) :=
  Option.bind (m_r04_Level x00 (6 : Int)) fun x3 =>
  if x3 = true then
    Option.bind (slc x00 0 (4 : Int)) fun x6 =>
    Option.bind (m_r04_all x6) fun x10 =>
    Option.bind (m_r03_SameRows x10 x00) fun x28 =>
    some (x28)
  else
    some (false)

def m_r04_Restore_j1 (x17 : List (Int)) (x23 : List (List (BitVec 8))) : Option ((List (List (BitVec 8))) × Int) :=
  if (x17.length : Int) < (4 : Int) then
    some (([] : List (List (BitVec 8))), (11 : Int))
  else
    Option.bind (m_r04_Code) fun x119 =>
    Option.bind (slc x17 0 (4 : Int)) fun x127 =>
    Option.bind (m_r03_Pick x119.1 x119.2.1 x119.2.2 x127) fun x128 =>
    Option.bind (m_r03_Invert x128.1 x128.2.1 x128.2.2.1) fun x254 =>
    Option.bind (slc x23 0 (4 : Int)) fun x264 =>
    Option.bind (m_r03_Apply x254.1 x254.2.1 x254.2.2.1 x264) fun x268 =>
    Option.bind (m_r04_all x268.1) fun x291 =>
    some (x291, (0 : Int))
def m_r04_Restore_l2 (x00 : List (List (BitVec 8))) (x01 : List (Bool)) : Nat → (List (Int)) → (List (List (BitVec 8))) → Int → Option ((List (List (BitVec 8))) × Int)
  | 0, _, _, _ => none
  | q43 + 1, x33, x39, x42 =>
    if x42 < (6 : Int) then
      Option.bind (idx x01 x42) fun x51 =>
      if x51 = true then
        if (0 : Int) < (x39.length : Int) then
          Option.bind (idx x00 x42) fun x56 =>
          Option.bind (idx x39 (0 : Int)) fun x60 =>
          if (x56.length : Int) = (x60.length : Int) then
            Option.bind (apd 8 x33 ([x42] : List (Int))) fun x67 =>
            Option.bind (idx x00 x42) fun x70 =>
            Option.bind (apd 24 x39 ([x70] : List (List (BitVec 8)))) fun x76 =>
            Option.bind (ck (x42 + (1 : Int))) fun x86 =>
            (m_r04_Restore_l2 x00 x01 q43) x67 x76 x86
          else
            some (([] : List (List (BitVec 8))), (1 : Int))
        else
          Option.bind (apd 8 x33 ([x42] : List (Int))) fun x91 =>
          Option.bind (idx x00 x42) fun x94 =>
          Option.bind (apd 24 x39 ([x94] : List (List (BitVec 8)))) fun x100 =>
          Option.bind (ck (x42 + (1 : Int))) fun x110 =>
          (m_r04_Restore_l2 x00 x01 q43) x91 x100 x110
      else
        Option.bind (ck (x42 + (1 : Int))) fun x112 =>
        (m_r04_Restore_l2 x00 x01 q43) x33 x39 x112
    else
      m_r04_Restore_j1 x33 x39
def m_r04_Restore_j0 (x00 : List (List (BitVec 8))) (x01 : List (Bool)) : Option ((List (List (BitVec 8))) × Int) :=
  m_r04_Restore_l2 x00 x01 forever ([] : List (Int)) ([] : List (List (BitVec 8))) (0 : Int)
def m_r04_Restore (x00 : List (List (BitVec 8))) (x01 : List (Bool)) : Option ((List (List (BitVec 8))) × Int) :=
  if (x00.length : Int) = (6 : Int) then
    if (x01.length : Int) = (6 : Int) then
      m_r04_Restore_j0 x00 x01
    else
      some (([] : List (List (BitVec 8))), (1 : Int))
  else
    some (([] : List (List (BitVec 8))), (1 : Int))

def m_r04_Locate_j2 (x17 : Int) (r1 : Int → Option (Int × Int)) : Option (Int × Int) :=
  Option.bind (ck (x17 + (1 : Int))) fun x84 =>
  r1 x84
def m_r04_Locate_j3 (x17 : Int) (r1 : Int → Option (Int × Int)) (x52 : Bool) : Option (Int × Int) :=
  if x52 = true then
    some (x17, (0 : Int))
  else
    m_r04_Locate_j2 x17 r1
def m_r04_Locate_l4 (x00 : List (List (BitVec 8))) (x17 : Int) (x31 : (List (List (BitVec 8))) × Int) (r1 : Int → Option (Int × Int)) : Nat → Bool → Int → Option (Int × Int)
  | 0, _, _ => none
  | q57 + 1, x55, x56 =>
    if x56 < (6 : Int) then
      if x55 = true then
        if x56 = x17 then
          Option.bind (ck (x56 + (1 : Int))) fun x67 =>
          (m_r04_Locate_l4 x00 x17 x31 r1 q57) true x67
        else
          Option.bind (idx x31.1 x56) fun x68 =>
          Option.bind (idx x00 x56) fun x72 =>
          Option.bind (ck (x56 + (1 : Int))) fun x77 =>
          (m_r04_Locate_l4 x00 x17 x31 r1 q57) (x68 == x72) x77
      else
        Option.bind (ck (x56 + (1 : Int))) fun x79 =>
        (m_r04_Locate_l4 x00 x17 x31 r1 q57) false x79
    else
      m_r04_Locate_j3 x17 r1 x55
def m_r04_Locate_j0 : Option (Int × Int) :=
  some ((0 : Int), (5 : Int))
def m_r04_Locate_l1 (x00 : List (List (BitVec 8))) : Nat → Int → Option (Int × Int)
  | 0, _ => none
  | q18 + 1, x17 =>
    if x17 < (6 : Int) then
      Option.bind (idx ([true, true, true, true, true, true] : List (Bool)) x17) fun x28 =>
      Option.bind (upd ([true, true, true, true, true, true] : List (Bool)) x17 false) fun x29 =>
      Option.bind (m_r04_Restore x00 x29) fun x31 =>
      m_r04_Locate_l4 x00 x17 x31 (m_r04_Locate_l1 x00 q18) forever true (0 : Int)
    else
      m_r04_Locate_j0
def m_r04_Locate (x00 : List (List (BitVec 8))) : Option (Int × Int) :=
  Option.bind (m_r04_Level x00 (6 : Int)) fun x4 =>
  if x4 = true then
    Option.bind (m_r04_Verify x00) fun x9 =>
    if x9 = true then
      some ((-1 : Int), (0 : Int))
    else
      m_r04_Locate_l1 x00 forever (0 : Int)
  else
    some ((0 : Int), (1 : Int))

end Go.Proofs.Ytnbcphofimicdaa
