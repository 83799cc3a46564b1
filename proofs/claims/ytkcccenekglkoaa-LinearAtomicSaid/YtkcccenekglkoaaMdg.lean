/-
  Models of functions of the program (g): what each computes, as an option. Printed by a program of ours (vcm.py). No conditions.
-/
import Derived.Test.YtkcccenekglkoaaMdf
namespace Go.Proofs.Ytkcccenekglkoaa
set_option linter.unusedVariables false
structure Slinear_point where
  fplaced : BitVec 32
  fhas : Bool
  fcookie : BitVec 32
  fdata : List (BitVec 8)
  deriving DecidableEq
def m_linear_complete_j0 : Option (Bool) :=
  some (true)
def m_linear_complete_l1 (x00 : List (Shistory_Op)) (x01 : BitVec 32) : Nat -> Int -> Option (Bool)
  | 0, _ => none
  | q5 + 1, x4 =>
    if x4 < (x00.length : Int) then
      Option.bind (idx x00 x4) fun x12 =>
      Option.bind (shru x01 x4) fun x18 =>
      if (x18 &&& 1#32) = 0#32 then
        Option.bind (m_linear_Drops x12.fClient x12.fKind x12.fKey x12.fCookie x12.fData x12.fGot x12.fCall x12.fReturn x12.fClosed x12.fResult) fun x20 =>
        if x20 = true then
          Option.bind (ck (x4 + (1 : Int))) fun x24 =>
          (m_linear_complete_l1 x00 x01 q5) x24
        else
          some (false)
      else
        Option.bind (ck (x4 + (1 : Int))) fun x27 =>
        (m_linear_complete_l1 x00 x01 q5) x27
    else
      m_linear_complete_j0
def m_linear_complete (x00 : List (Shistory_Op)) (x01 : BitVec 32) : Option (Bool) :=
  m_linear_complete_l1 x00 x01 forever (0 : Int)
def m_linear_may_j0 (x01 : BitVec 32) (x2 : Int) : Option (Bool) :=
  Option.bind (shru x01 x2) fun x52 =>
  some (((x52 &&& 1#32) == 0#32))
def m_linear_may_l1 (x00 : List (Shistory_Op)) (x01 : BitVec 32) (x02 : Int) : Nat -> Int -> Option (Bool)
  | 0, _ => none
  | q6 + 1, x5 =>
    if x5 < (x00.length : Int) then
      Option.bind (idx x00 x5) fun x13 =>
      Option.bind (shru x01 x5) fun x19 =>
      if (x19 &&& 1#32) = 1#32 then
        Option.bind (idx x00 x02) fun x22 =>
        Option.bind (m_history_Before x22.fClient x22.fKind x22.fKey x22.fCookie x22.fData x22.fGot x22.fCall x22.fReturn x22.fClosed x22.fResult x13.fClient x13.fKind x13.fKey x13.fCookie x13.fData x13.fGot x13.fCall x13.fReturn x13.fClosed x13.fResult) fun x26 =>
        if x26 = true then
          some (false)
        else
          Option.bind (ck (x5 + (1 : Int))) fun x31 =>
          (m_linear_may_l1 x00 x01 x02 q6) x31
      else
        if x5 = x02 then
          Option.bind (ck (x5 + (1 : Int))) fun x35 =>
          (m_linear_may_l1 x00 x01 x02 q6) x35
        else
          Option.bind (m_linear_Drops x13.fClient x13.fKind x13.fKey x13.fCookie x13.fData x13.fGot x13.fCall x13.fReturn x13.fClosed x13.fResult) fun x36 =>
          if x36 = true then
            Option.bind (ck (x5 + (1 : Int))) fun x40 =>
            (m_linear_may_l1 x00 x01 x02 q6) x40
          else
            Option.bind (idx x00 x02) fun x41 =>
            Option.bind (m_history_Before x13.fClient x13.fKind x13.fKey x13.fCookie x13.fData x13.fGot x13.fCall x13.fReturn x13.fClosed x13.fResult x41.fClient x41.fKind x41.fKey x41.fCookie x41.fData x41.fGot x41.fCall x41.fReturn x41.fClosed x41.fResult) fun x45 =>
            if x45 = true then
              some (false)
            else
              Option.bind (ck (x5 + (1 : Int))) fun x50 =>
              (m_linear_may_l1 x00 x01 x02 q6) x50
    else
      m_linear_may_j0 x01 x02
def m_linear_may (x00 : List (Shistory_Op)) (x01 : BitVec 32) (x02 : Int) : Option (Bool) :=
  m_linear_may_l1 x00 x01 x02 forever (0 : Int)
def m_linear_find_1_j2 (x00 : BitVec 32) (x0c1 : List (Shistory_Op)) (x36 : List (Slinear_point × Bool)) (x41 : List (Int)) (x42 : Int) (x56 : Bool × (BitVec 32) × (List (BitVec 8)) × Bool) (rc0 : (BitVec 32) -> Bool -> (BitVec 32) -> (List (BitVec 8)) -> (List (Shistory_Op)) -> (List (Slinear_point × Bool)) -> (List (Int)) -> Option (Bool × (List (Slinear_point × Bool)) × (List (Int)))) (r1 : (List (Slinear_point × Bool)) -> (List (Int)) -> Int -> Option (Bool × (List (Slinear_point × Bool)) × (List (Int)))) : Option (Bool × (List (Slinear_point × Bool)) × (List (Int))) :=
  Option.bind (apd 8 x41 ([x42] : List (Int))) fun x77 =>
  Option.bind (shlu 1#32 x42) fun x82 =>
  Option.bind (rc0 (x00 ||| x82) x56.1 x56.2.1 x56.2.2.1 x0c1 x36 x77) fun x85 =>
  if x85.1 = true then
    some (true, x85.2.1, x85.2.2)
  else
    Option.bind (ck ((x85.2.2.length : Int) - (1 : Int))) fun x96 =>
    Option.bind (slc x85.2.2 0 x96) fun x97 =>
    Option.bind (ck (x42 + (1 : Int))) fun x99 =>
    r1 x85.2.1 x97 x99
def m_linear_find_1_j0 (x00 : BitVec 32) (x01_0 : Bool) (x01_1 : BitVec 32) (x01_2 : List (BitVec 8)) (x25 : List (Slinear_point × Bool)) (x30 : List (Int)) : Option (Bool × (List (Slinear_point × Bool)) × (List (Int))) :=
  some (false, (mset x25 (Slinear_point.mk x00 x01_0 x01_1 x01_2) true), x30)
def m_linear_find_1_l1 (x00 : BitVec 32) (x0c1 : List (Shistory_Op)) (x01_0 : Bool) (x01_1 : BitVec 32) (x01_2 : List (BitVec 8)) (rc0 : (BitVec 32) -> Bool -> (BitVec 32) -> (List (BitVec 8)) -> (List (Shistory_Op)) -> (List (Slinear_point × Bool)) -> (List (Int)) -> Option (Bool × (List (Slinear_point × Bool)) × (List (Int)))) : Nat -> (List (Slinear_point × Bool)) -> (List (Int)) -> Int -> Option (Bool × (List (Slinear_point × Bool)) × (List (Int)))
  | 0, _, _, _ => none
  | q43 + 1, x36, x41, x42 =>
    if x42 < (x0c1.length : Int) then
      Option.bind (idx x0c1 x42) fun x50 =>
      Option.bind (m_linear_Step x01_0 x01_1 x01_2 x50.fClient x50.fKind x50.fKey x50.fCookie x50.fData x50.fGot x50.fCall x50.fReturn x50.fClosed x50.fResult) fun x56 =>
      if x56.2.2.2 = true then
        Option.bind (m_linear_may x0c1 x00 x42) fun x68 =>
        if x68 = true then
          m_linear_find_1_j2 x00 x0c1 x36 x41 x42 x56 rc0 (m_linear_find_1_l1 x00 x0c1 x01_0 x01_1 x01_2 rc0 q43)
        else
          Option.bind (ck (x42 + (1 : Int))) fun x72 =>
          (m_linear_find_1_l1 x00 x0c1 x01_0 x01_1 x01_2 rc0 q43) x36 x41 x72
      else
        Option.bind (ck (x42 + (1 : Int))) fun x74 =>
        (m_linear_find_1_l1 x00 x0c1 x01_0 x01_1 x01_2 rc0 q43) x36 x41 x74
    else
      m_linear_find_1_j0 x00 x01_0 x01_1 x01_2 x36 x41
def m_linear_find_1F (rc0 : (BitVec 32) -> Bool -> (BitVec 32) -> (List (BitVec 8)) -> (List (Shistory_Op)) -> (List (Slinear_point × Bool)) -> (List (Int)) -> Option (Bool × (List (Slinear_point × Bool)) × (List (Int)))) (x00 : BitVec 32) (x01_0 : Bool) (x01_1 : BitVec 32) (x01_2 : List (BitVec 8)) (x0c1 : List (Shistory_Op)) (x2 : List (Slinear_point × Bool)) (x5 : List (Int)) : Option (Bool × (List (Slinear_point × Bool)) × (List (Int))) :=
  if ((mget x2 (Slinear_point.mk x00 x01_0 x01_1 x01_2)).getD false) = true then
    some (false, x2, x5)
  else
    Option.bind (m_linear_complete x0c1 x00) fun x18 =>
    if x18 = true then
      some (true, x2, x5)
    else
      m_linear_find_1_l1 x00 x0c1 x01_0 x01_1 x01_2 rc0 forever x2 x5 (0 : Int)
def m_linear_find_1R : Nat -> (BitVec 32) -> Bool -> (BitVec 32) -> (List (BitVec 8)) -> (List (Shistory_Op)) -> (List (Slinear_point × Bool)) -> (List (Int)) -> Option (Bool × (List (Slinear_point × Bool)) × (List (Int)))
  | 0, _, _, _, _, _, _, _ => none
  | q + 1, x00, x01_0, x01_1, x01_2, x0c1, x2, x5 => m_linear_find_1F (m_linear_find_1R q) x00 x01_0 x01_1 x01_2 x0c1 x2 x5
def m_linear_find_1 (x00 : BitVec 32) (x01_0 : Bool) (x01_1 : BitVec 32) (x01_2 : List (BitVec 8)) (x0c1 : List (Shistory_Op)) (x2 : List (Slinear_point × Bool)) (x5 : List (Int)) : Option (Bool × (List (Slinear_point × Bool)) × (List (Int))) := m_linear_find_1R forever x00 x01_0 x01_1 x01_2 x0c1 x2 x5
def m_linear_find (x00 : List (Shistory_Op)) (x01_0 : Bool) (x01_1 : BitVec 32) (x01_2 : List (BitVec 8)) : Option ((List (Int)) × Bool) :=
  Option.bind (m_linear_find_1 0#32 x01_0 x01_1 x01_2 x00 ([] : List (Slinear_point × Bool)) ([] : List (Int))) fun x14 =>
  some (x14.2.2, x14.1)
def m_linear_Check_j2 : Option (Bool × Int) :=
  some (true, (0 : Int))
def m_linear_Check_l3 (x00 : List (Shistory_Op)) (x8 : (List (BitVec 64))) : Nat -> Int -> Option (Bool × Int)
  | 0, _ => none
  | q64 + 1, x63 =>
    if x63 < (x8.length : Int) then
      Option.bind (idx x8 x63) fun x71 =>
      Option.bind (m_history_Only x00 x71) fun x73 =>
      Option.bind (m_linear_find x73 false 0#32 ([] : List (BitVec 8))) fun x91 =>
      if x91.2 = true then
        Option.bind (ck (x63 + (1 : Int))) fun x102 =>
        (m_linear_Check_l3 x00 x8 q64) x102
      else
        some (false, (0 : Int))
    else
      m_linear_Check_j2
def m_linear_Check_j0 (x00 : List (Shistory_Op)) (x8 : (List (BitVec 64))) : Option (Bool × Int) :=
  m_linear_Check_l3 x00 x8 forever (0 : Int)
def m_linear_Check_l1 (x00 : List (Shistory_Op)) (x8 : (List (BitVec 64))) : Nat -> Int -> Option (Bool × Int)
  | 0, _ => none
  | q28 + 1, x27 =>
    if x27 < (x8.length : Int) then
      Option.bind (idx x8 x27) fun x35 =>
      Option.bind (m_history_Only x00 x35) fun x37 =>
      if (12 : Int) < (x37.length : Int) then
        some (false, (9 : Int))
      else
        Option.bind (ck (x27 + (1 : Int))) fun x58 =>
        (m_linear_Check_l1 x00 x8 q28) x58
    else
      m_linear_Check_j0 x00 x8
def m_linear_Check (x00 : List (Shistory_Op)) : Option (Bool × Int) :=
  Option.bind (m_history_Valid x00) fun x4 =>
  if x4 = true then
    Option.bind (m_history_Keys x00) fun x8 =>
    m_linear_Check_l1 x00 x8 forever (0 : Int)
  else
    some (false, (1 : Int))
end Go.Proofs.Ytkcccenekglkoaa
