/-
  Models of functions of the program (d): what each computes, as an option. Printed by a program of ours (vcm.py). No conditions.
-/
import Derived.Test.YtkcccenekglkoaaMda
namespace Go.Proofs.Ytkcccenekglkoaa
set_option linter.unusedVariables false
def m_history_End (x00_0 x00_1 : Int) (x00_2 : BitVec 64) (x00_3 : BitVec 32) (x00_4 x00_5 : List (BitVec 8)) (x00_6 x00_7 x00_8 x00_9 : Int) : Option (Int) :=
  if x00_7 = (-1 : Int) then
    if x00_8 = (-1 : Int) then
      some ((9223372036854775807 : Int))
    else
      some (x00_8)
  else
    some (x00_7)
def m_history_Before (x00_0 x00_1 : Int) (x00_2 : BitVec 64) (x00_3 : BitVec 32) (x00_4 x00_5 : List (BitVec 8)) (x00_6 x00_7 x00_8 x00_9 x01_0 x01_1 : Int) (x01_2 : BitVec 64) (x01_3 : BitVec 32) (x01_4 x01_5 : List (BitVec 8)) (x01_6 x01_7 x01_8 x01_9 : Int) : Option (Bool) :=
  Option.bind (m_history_End x00_0 x00_1 x00_2 x00_3 x00_4 x00_5 x00_6 x00_7 x00_8 x00_9) fun x5 =>
  some ((decide (x5 < x01_6)))
def m_history_Valid_j2 (x4 : Int) (r1 : Int -> Option (Bool)) : Option (Bool) :=
  Option.bind (ck (x4 + (1 : Int))) fun x75 =>
  r1 x75
def m_history_Valid_l5 (x4 : Int) (x12 : Shistory_Op) (x47 : List (Shistory_Op)) (r1 : Int -> Option (Bool)) : Nat -> Int -> Option (Bool)
  | 0, _ => none
  | q52 + 1, x51 =>
    if x51 < (x47.length : Int) then
      Option.bind (idx x47 x51) fun x59 =>
      if x59.fClient = x12.fClient then
        Option.bind (m_history_Before x59.fClient x59.fKind x59.fKey x59.fCookie x59.fData x59.fGot x59.fCall x59.fReturn x59.fClosed x59.fResult x12.fClient x12.fKind x12.fKey x12.fCookie x12.fData x12.fGot x12.fCall x12.fReturn x12.fClosed x12.fResult) fun x66 =>
        if x66 = true then
          Option.bind (ck (x51 + (1 : Int))) fun x70 =>
          (m_history_Valid_l5 x4 x12 x47 r1 q52) x70
        else
          some (false)
      else
        Option.bind (ck (x51 + (1 : Int))) fun x73 =>
        (m_history_Valid_l5 x4 x12 x47 r1 q52) x73
    else
      m_history_Valid_j2 x4 r1
def m_history_Valid_j4 (x00 : List (Shistory_Op)) (x4 : Int) (x12 : Shistory_Op) (r1 : Int -> Option (Bool)) : Option (Bool) :=
  Option.bind (slc x00 0 x4) fun x47 =>
  m_history_Valid_l5 x4 x12 x47 r1 forever (0 : Int)
def m_history_Valid_j3 (x00 : List (Shistory_Op)) (x4 : Int) (x12 : Shistory_Op) (r1 : Int -> Option (Bool)) : Option (Bool) :=
  if x12.fReturn = (-1 : Int) then
    if x12.fClosed = (-1 : Int) then
      m_history_Valid_j4 x00 x4 x12 r1
    else
      if x12.fClosed <= x12.fCall then
        some (false)
      else
        m_history_Valid_j4 x00 x4 x12 r1
  else
    if x12.fReturn <= x12.fCall then
      some (false)
    else
      if x12.fClosed = (-1 : Int) then
        if x12.fClosed = (-1 : Int) then
          m_history_Valid_j4 x00 x4 x12 r1
        else
          if x12.fClosed <= x12.fCall then
            some (false)
          else
            m_history_Valid_j4 x00 x4 x12 r1
      else
        some (false)
def m_history_Valid_j0 : Option (Bool) :=
  some (true)
def m_history_Valid_l1 (x00 : List (Shistory_Op)) : Nat -> Int -> Option (Bool)
  | 0, _ => none
  | q5 + 1, x4 =>
    if x4 < (x00.length : Int) then
      Option.bind (idx x00 x4) fun x12 =>
      Option.bind (m_history_known x12.fKind) fun x19 =>
      if x19 = true then
        if x12.fCall < (0 : Int) then
          some (false)
        else
          if (0 : Int) < x4 then
            Option.bind (ck (x4 - (1 : Int))) fun x25 =>
            Option.bind (idx x00 x25) fun x26 =>
            if x12.fCall <= x26.fCall then
              some (false)
            else
              m_history_Valid_j3 x00 x4 x12 (m_history_Valid_l1 x00 q5)
          else
            m_history_Valid_j3 x00 x4 x12 (m_history_Valid_l1 x00 q5)
      else
        some (false)
    else
      m_history_Valid_j0
def m_history_Valid (x00 : List (Shistory_Op)) : Option (Bool) :=
  m_history_Valid_l1 x00 forever (0 : Int)
end Go.Proofs.Ytkcccenekglkoaa
