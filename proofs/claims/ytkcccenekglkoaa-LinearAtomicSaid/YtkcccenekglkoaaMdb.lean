/-
  Models of functions of the program (b): what each computes, as an option. Printed by a program of ours (vcm.py). No conditions.
-/
import Derived.Test.YtkcccenekglkoaaMdy
namespace Go.Proofs.Ytkcccenekglkoaa
set_option linter.unusedVariables false
structure Sneedlestoreref24_Op where
  fClient : Int
  fKind : Int
  fKey : BitVec 64
  fCookie : BitVec 32
  fData : List (BitVec 8)
  fGot : List (BitVec 8)
  fCall : Int
  fReturn : Int
  fClosed : Int
  fResult : Int
  deriving DecidableEq
structure Sneedlestoreref24_Event where
  fKind : Int
  fClient : Int
  fOp : Int
  fKey : BitVec 64
  fCookie : BitVec 32
  fData : List (BitVec 8)
  fResult : Int
  deriving DecidableEq
def m_r24_open_j0 : Option (Int) :=
  some ((-1 : Int))
def m_r24_open_l1 (x00 : List (Sneedlestoreref24_Op)) (x01 : Int) : Nat -> Int -> Option (Int)
  | 0, _ => none
  | q6 + 1, x5 =>
    if (0 : Int) <= x5 then
      Option.bind (idx x00 x5) fun x13 =>
      if x13.fClient = x01 then
        Option.bind (idx x00 x5) fun x20 =>
        if x20.fReturn = (-1 : Int) then
          Option.bind (idx x00 x5) fun x25 =>
          if x25.fClosed = (-1 : Int) then
            some (x5)
          else
            some ((-1 : Int))
        else
          some ((-1 : Int))
      else
        Option.bind (ck (x5 - (1 : Int))) fun x34 =>
        (m_r24_open_l1 x00 x01 q6) x34
    else
      m_r24_open_j0
def m_r24_open (x00 : List (Sneedlestoreref24_Op)) (x01 : Int) : Option (Int) :=
  Option.bind (ck ((x00.length : Int) - (1 : Int))) fun x4 =>
  m_r24_open_l1 x00 x01 forever x4
def m_r24_Build_j2 (x23 : Int) (r1 : (List (Sneedlestoreref24_Op)) -> Int -> Option ((List (Sneedlestoreref24_Op)) × Int)) (x33 : List (Sneedlestoreref24_Op)) : Option ((List (Sneedlestoreref24_Op)) × Int) :=
  Option.bind (ck (x23 + (1 : Int))) fun x179 =>
  r1 x33 x179
def m_r24_Build_l5 (x23 : Int) (r1 : (List (Sneedlestoreref24_Op)) -> Int -> Option ((List (Sneedlestoreref24_Op)) × Int)) : Nat -> (List (Sneedlestoreref24_Op)) -> Int -> Option ((List (Sneedlestoreref24_Op)) × Int)
  | 0, _, _ => none
  | q141 + 1, x137, x140 =>
    if x140 < (x137.length : Int) then
      Option.bind (idx x137 x140) fun x148 =>
      if x148.fReturn = (-1 : Int) then
        Option.bind (idx x137 x140) fun x153 =>
        if x153.fClosed = (-1 : Int) then
          Option.bind (idx x137 x140) fun x159 =>
          Option.bind (idx x137 x140) fun x163 =>
          Option.bind (upd x137 x140 ({ x163 with fClosed := x23 } : Sneedlestoreref24_Op)) fun x164 =>
          Option.bind (ck (x140 + (1 : Int))) fun x171 =>
          (m_r24_Build_l5 x23 r1 q141) x164 x171
        else
          Option.bind (ck (x140 + (1 : Int))) fun x173 =>
          (m_r24_Build_l5 x23 r1 q141) x137 x173
      else
        Option.bind (ck (x140 + (1 : Int))) fun x175 =>
        (m_r24_Build_l5 x23 r1 q141) x137 x175
    else
      m_r24_Build_j2 x23 r1 x137
def m_r24_Build_j4 (x20 : List (Sneedlestoreref24_Op)) (x23 : Int) (x38 : Sneedlestoreref24_Event) (x44 : Int) (r1 : (List (Sneedlestoreref24_Op)) -> Int -> Option ((List (Sneedlestoreref24_Op)) × Int)) (x81 : Bool) : Option ((List (Sneedlestoreref24_Op)) × Int) :=
  if x81 = true then
    Option.bind (idx x20 x44) fun x87 =>
    Option.bind (idx x20 x44) fun x91 =>
    Option.bind (upd x20 x44 ({ x91 with fReturn := x23 } : Sneedlestoreref24_Op)) fun x92 =>
    Option.bind (idx x92 x44) fun x98 =>
    Option.bind (idx x92 x44) fun x102 =>
    Option.bind (upd x92 x44 ({ x102 with fResult := x38.fResult } : Sneedlestoreref24_Op)) fun x103 =>
    Option.bind (idx x103 x44) fun x110 =>
    if x110.fKind = (3 : Int) then
      if x38.fResult = (0 : Int) then
        Option.bind (apd 1 ([] : List (BitVec 8)) x38.fData) fun x118 =>
        Option.bind (idx x103 x44) fun x121 =>
        Option.bind (idx x103 x44) fun x125 =>
        Option.bind (upd x103 x44 ({ x125 with fGot := x118 } : Sneedlestoreref24_Op)) fun x126 =>
        m_r24_Build_j2 x23 r1 x126
      else
        m_r24_Build_j2 x23 r1 x103
    else
      m_r24_Build_j2 x23 r1 x103
  else
    if x38.fKind = (3 : Int) then
      m_r24_Build_l5 x23 r1 forever x20 (0 : Int)
    else
      some (([] : List (Sneedlestoreref24_Op)), (3 : Int))
def m_r24_Build_j3 (x20 : List (Sneedlestoreref24_Op)) (x23 : Int) (x38 : Sneedlestoreref24_Event) (x44 : Int) (r1 : (List (Sneedlestoreref24_Op)) -> Int -> Option ((List (Sneedlestoreref24_Op)) × Int)) (x46 : Bool) : Option ((List (Sneedlestoreref24_Op)) × Int) :=
  if x46 = true then
    if x38.fOp = (1 : Int) then
      Option.bind (apd 1 ([] : List (BitVec 8)) x38.fData) fun x60 =>
      Option.bind (apd 112 x20 ([(Sneedlestoreref24_Op.mk x38.fClient x38.fOp x38.fKey x38.fCookie x60 ([] : List (BitVec 8)) x23 (-1 : Int) (-1 : Int) (0 : Int))] : List (Sneedlestoreref24_Op))) fun x68 =>
      m_r24_Build_j2 x23 r1 x68
    else
      Option.bind (apd 112 x20 ([(Sneedlestoreref24_Op.mk x38.fClient x38.fOp x38.fKey x38.fCookie ([] : List (BitVec 8)) ([] : List (BitVec 8)) x23 (-1 : Int) (-1 : Int) (0 : Int))] : List (Sneedlestoreref24_Op))) fun x76 =>
      m_r24_Build_j2 x23 r1 x76
  else
    if x38.fKind = (2 : Int) then
      m_r24_Build_j4 x20 x23 x38 x44 r1 (decide ((0 : Int) <= x44))
    else
      m_r24_Build_j4 x20 x23 x38 x44 r1 false
def m_r24_Build_j0 (x9 : List (Sneedlestoreref24_Op)) : Option ((List (Sneedlestoreref24_Op)) × Int) :=
  some (x9, (0 : Int))
def m_r24_Build_l1 (x00 : List (Sneedlestoreref24_Event)) : Nat -> (List (Sneedlestoreref24_Op)) -> Int -> Option ((List (Sneedlestoreref24_Op)) × Int)
  | 0, _, _ => none
  | q24 + 1, x20, x23 =>
    if x23 < (x00.length : Int) then
      Option.bind (idx x00 x23) fun x38 =>
      Option.bind (m_r24_open x20 x38.fClient) fun x44 =>
      if x38.fKind = (1 : Int) then
        if (1 : Int) <= x38.fOp then
          if x38.fOp <= (3 : Int) then
            m_r24_Build_j3 x20 x23 x38 x44 (m_r24_Build_l1 x00 q24) (decide (x44 < (0 : Int)))
          else
            m_r24_Build_j3 x20 x23 x38 x44 (m_r24_Build_l1 x00 q24) false
        else
          m_r24_Build_j3 x20 x23 x38 x44 (m_r24_Build_l1 x00 q24) false
      else
        m_r24_Build_j3 x20 x23 x38 x44 (m_r24_Build_l1 x00 q24) false
    else
      m_r24_Build_j0 x20
def m_r24_Build (x00 : List (Sneedlestoreref24_Event)) : Option ((List (Sneedlestoreref24_Op)) × Int) :=
  m_r24_Build_l1 x00 forever ([] : List (Sneedlestoreref24_Op)) (0 : Int)
end Go.Proofs.Ytkcccenekglkoaa
