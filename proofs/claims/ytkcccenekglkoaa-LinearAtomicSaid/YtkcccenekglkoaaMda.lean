/-
  Models of functions of the program (a): what each computes, as an option. Printed by a program of ours (vcm.py). No conditions.
-/
import Derived.Test.YtkcccenekglkoaaMo
namespace Go.Proofs.Ytkcccenekglkoaa
set_option linter.unusedVariables false
structure Shistory_Op where
  fClient : Int
  fKind : Int
  fKey : BitVec 64
  fCookie : BitVec 32
  fData : List (BitVec 8)
  fGot : List (BitVec 8)
  fCall : Int
  fReturn : Int
  fClosed : Int
  fResult : Int
  deriving DecidableEq
structure Shistory_Event where
  fKind : Int
  fClient : Int
  fOp : Int
  fKey : BitVec 64
  fCookie : BitVec 32
  fData : List (BitVec 8)
  fResult : Int
  deriving DecidableEq
def m_history_Op_open (x00_0 x00_1 : Int) (x00_2 : BitVec 64) (x00_3 : BitVec 32) (x00_4 x00_5 : List (BitVec 8)) (x00_6 x00_7 x00_8 x00_9 : Int) : Option (Bool) :=
  if x00_7 = (-1 : Int) then
    some ((x00_8 == (-1 : Int)))
  else
    some (false)
def m_history_last_l0 (x00 : List (Shistory_Op)) (x01 : Int) : Nat -> Int -> Option (Int)
  | 0, _ => none
  | q17 + 1, x16 =>
    if (0 : Int) <= x16 then
      Option.bind (idx x00 x16) fun x24 =>
      Option.bind (idx x00 x16) fun x36 =>
      if x36.fClient = x01 then
        Option.bind (idx x00 x16) fun x41 =>
        Option.bind (m_history_Op_open x41.fClient x41.fKind x41.fKey x41.fCookie x41.fData x41.fGot x41.fCall x41.fReturn x41.fClosed x41.fResult) fun x45 =>
        if x45 = true then
          Option.bind (idx x00 x16) fun x49 =>
          some (x16)
        else
          Option.bind (ck (x16 - (1 : Int))) fun x54 =>
          (m_history_last_l0 x00 x01 q17) x54
      else
        Option.bind (ck (x16 - (1 : Int))) fun x56 =>
        (m_history_last_l0 x00 x01 q17) x56
    else
      some ((-1 : Int))
def m_history_last (x00 : List (Shistory_Op)) (x01 : Int) : Option (Int) :=
  Option.bind (ck ((x00.length : Int) - (1 : Int))) fun x15 =>
  m_history_last_l0 x00 x01 forever x15
def m_history_known (x00 : Int) : Option (Bool) :=
  if (1 : Int) <= x00 then
    some ((decide (x00 <= (3 : Int))))
  else
    some (false)
def m_bytes_Clone (x00 : List (BitVec 8)) : Option ((List (BitVec 8))) :=
  Option.bind (apd 1 ([] : List (BitVec 8)) x00) fun x9 =>
  some (x9)
def m_history_Build_j2 (x23 : Int) (r1 : (List (Shistory_Op)) -> Int -> Option ((List (Shistory_Op)) × Int)) (x33 : List (Shistory_Op)) : Option ((List (Shistory_Op)) × Int) :=
  Option.bind (ck (x23 + (1 : Int))) fun x184 =>
  r1 x33 x184
def m_history_Build_l5 (x20 : List (Shistory_Op)) (x23 : Int) (r1 : (List (Shistory_Op)) -> Int -> Option ((List (Shistory_Op)) × Int)) : Nat -> (List (Shistory_Op)) -> Int -> Option ((List (Shistory_Op)) × Int)
  | 0, _, _ => none
  | q150 + 1, x146, x149 =>
    if x149 < (x20.length : Int) then
      Option.bind (idx x146 x149) fun x158 =>
      Option.bind (m_history_Op_open x158.fClient x158.fKind x158.fKey x158.fCookie x158.fData x158.fGot x158.fCall x158.fReturn x158.fClosed x158.fResult) fun x162 =>
      if x162 = true then
        Option.bind (idx x146 x149) fun x166 =>
        Option.bind (idx x146 x149) fun x170 =>
        Option.bind (upd x146 x149 ({ x170 with fClosed := x23 } : Shistory_Op)) fun x171 =>
        Option.bind (ck (x149 + (1 : Int))) fun x178 =>
        (m_history_Build_l5 x20 x23 r1 q150) x171 x178
      else
        Option.bind (ck (x149 + (1 : Int))) fun x180 =>
        (m_history_Build_l5 x20 x23 r1 q150) x146 x180
    else
      m_history_Build_j2 x23 r1 x146
def m_history_Build_j4 (x20 : List (Shistory_Op)) (x23 : Int) (x38 : Shistory_Event) (x44 : Int) (r1 : (List (Shistory_Op)) -> Int -> Option ((List (Shistory_Op)) × Int)) (x86 : Bool) : Option ((List (Shistory_Op)) × Int) :=
  if x86 = true then
    Option.bind (idx x20 x44) fun x92 =>
    Option.bind (idx x20 x44) fun x96 =>
    Option.bind (upd x20 x44 ({ x96 with fReturn := x23 } : Shistory_Op)) fun x97 =>
    Option.bind (idx x97 x44) fun x103 =>
    Option.bind (idx x97 x44) fun x107 =>
    Option.bind (upd x97 x44 ({ x107 with fResult := x38.fResult } : Shistory_Op)) fun x108 =>
    Option.bind (idx x108 x44) fun x115 =>
    if x115.fKind = (3 : Int) then
      if x38.fResult = (0 : Int) then
        Option.bind (m_bytes_Clone x38.fData) fun x122 =>
        Option.bind (idx x108 x44) fun x130 =>
        Option.bind (idx x108 x44) fun x134 =>
        Option.bind (upd x108 x44 ({ x134 with fGot := x122 } : Shistory_Op)) fun x135 =>
        m_history_Build_j2 x23 r1 x135
      else
        m_history_Build_j2 x23 r1 x108
    else
      m_history_Build_j2 x23 r1 x108
  else
    if x38.fKind = (3 : Int) then
      m_history_Build_l5 x20 x23 r1 forever x20 (0 : Int)
    else
      some (([] : List (Shistory_Op)), (3 : Int))
def m_history_Build_j3 (x20 : List (Shistory_Op)) (x23 : Int) (x38 : Shistory_Event) (x44 : Int) (r1 : (List (Shistory_Op)) -> Int -> Option ((List (Shistory_Op)) × Int)) (x46 : Bool) : Option ((List (Shistory_Op)) × Int) :=
  if x46 = true then
    if x38.fOp = (1 : Int) then
      Option.bind (m_bytes_Clone x38.fData) fun x60 =>
      Option.bind (apd 112 x20 ([(Shistory_Op.mk x38.fClient x38.fOp x38.fKey x38.fCookie x60 ([] : List (BitVec 8)) x23 (-1 : Int) (-1 : Int) (0 : Int))] : List (Shistory_Op))) fun x73 =>
      m_history_Build_j2 x23 r1 x73
    else
      Option.bind (apd 112 x20 ([(Shistory_Op.mk x38.fClient x38.fOp x38.fKey x38.fCookie ([] : List (BitVec 8)) ([] : List (BitVec 8)) x23 (-1 : Int) (-1 : Int) (0 : Int))] : List (Shistory_Op))) fun x81 =>
      m_history_Build_j2 x23 r1 x81
  else
    if x38.fKind = (2 : Int) then
      m_history_Build_j4 x20 x23 x38 x44 r1 (decide (0 <= x44))
    else
      m_history_Build_j4 x20 x23 x38 x44 r1 false
def m_history_Build_j0 (x9 : List (Shistory_Op)) : Option ((List (Shistory_Op)) × Int) :=
  some (x9, (0 : Int))
def m_history_Build_l1 (x00 : List (Shistory_Event)) : Nat -> (List (Shistory_Op)) -> Int -> Option ((List (Shistory_Op)) × Int)
  | 0, _, _ => none
  | q24 + 1, x20, x23 =>
    if x23 < (x00.length : Int) then
      Option.bind (idx x00 x23) fun x38 =>
      Option.bind (m_history_last x20 x38.fClient) fun x44 =>
      if x38.fKind = (1 : Int) then
        Option.bind (m_history_known x38.fOp) fun x50 =>
        if x50 = true then
          m_history_Build_j3 x20 x23 x38 x44 (m_history_Build_l1 x00 q24) (decide (x44 < 0))
        else
          m_history_Build_j3 x20 x23 x38 x44 (m_history_Build_l1 x00 q24) false
      else
        m_history_Build_j3 x20 x23 x38 x44 (m_history_Build_l1 x00 q24) false
    else
      m_history_Build_j0 x20
def m_history_Build (x00 : List (Shistory_Event)) : Option ((List (Shistory_Op)) × Int) :=
  m_history_Build_l1 x00 forever ([] : List (Shistory_Op)) (0 : Int)
end Go.Proofs.Ytkcccenekglkoaa
