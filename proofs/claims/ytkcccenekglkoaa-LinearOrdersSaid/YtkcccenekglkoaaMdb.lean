/-
  Models of functions of the program (b): what each computes, as an option. Printed by a program of ours (vcm.py). No conditions.
-/
import Derived.Test.YtkcccenekglkoaaMdy
namespace Go.Proofs.Ytkcccenekglkoaa
set_option linter.unusedVariables false
structure Sneedlestoreref24_Op where
  fClient : Int
  fKind : Int
  fKey : BitVec 64
  fCookie : BitVec 32
  fData : List (BitVec 8)
  fGot : List (BitVec 8)
  fCall : Int
  fReturn : Int
  fClosed : Int
  fResult : Int
  deriving DecidableEq
structure Sneedlestoreref24_Event where
  fKind : Int
  fClient : Int
  fOp : Int
  fKey : BitVec 64
  fCookie : BitVec 32
  fData : List (BitVec 8)
  fResult : Int
  deriving DecidableEq
def m_r24_open_j0 : Option (Int) :=
  some ((-1 : Int))
def m_r24_open_l1 (x00 : List (Sneedlestoreref24_Op)) (x01 : Int) : Nat -> Int -> Option (Int)
  | 0, _ => none
  | q6 + 1, x5 =>
    if (0 : Int) <= x5 then
      Option.bind (idx x00 x5) fun x13 =>
      if x13.fClient = x01 then
        Option.bind (idx x00 x5) fun x20 =>
        if x20.fReturn = (-1 : Int) then
          Option.bind (idx x00 x5) fun x25 =>
          if x25.fClosed = (-1 : Int) then
            some (x5)
          else
            some ((-1 : Int))
        else
          some ((-1 : Int))
      else
        Option.bind (ck (x5 - (1 : Int))) fun x34 =>
        (m_r24_open_l1 x00 x01 q6) x34
    else
      m_r24_open_j0
def m_r24_open (x00 : List (Sneedlestoreref24_Op)) (x01 : Int) : Option (Int) :=
  Option.bind (ck ((x00.length : Int) - (1 : Int))) fun x4 =>
  m_r24_open_l1 x00 x01 forever x4
def m_r24_Build_j2 (x23 : Int) (r1 : (List (Sneedlestoreref24_Op)) -> Int -> Option ((List (Sneedlestoreref24_Op)) × Int)) (x33 : List (Sneedlestoreref24_Op)) : Option ((List (Sneedlestoreref24_Op)) × Int) :=
  Option.bind (ck (x23 + (1 : Int))) fun x179 =>
  r1 x33 x179
def m_r24_Build_l5 (x23 : Int) (r1 : (List (Sneedlestoreref24_Op)) -> Int -> Option ((List (Sneedlestoreref24_Op)) × Int)) : Nat -> (List (Sneedlestoreref24_Op)) -> Int -> Option ((List (Sneedlestoreref24_Op)) × Int)
  | 0, _, _ => none
  | q141 + 1, x137, x140 =>
    if x140 < (x137.length : Int) then
      Option.bind (idx x137 x140) fun x148 =>
      if x148.fReturn = (-1 : Int) then
        Option.bind (idx x137 x140) fun x153 =>
        if x153.fClosed = (-1 : Int) then
          Option.bind (idx x137 x140) fun x159 =>
          Option.bind (idx x137 x140) fun x163 =>
          Option.bind (upd x137 x140 ({ x163 with fClosed := x23 } : Sneedlestoreref24_Op)) fun x164 =>
          Option.bind (ck (x140 + (1 : Int))) fun x171 =>
          (m_r24_Build_l5 x23 r1 q141) x164 x171
        else
          Option.bind (ck (x140 + (1 : Int))) fun x173 =>
          (m_r24_Build_l5 x23 r1 q141) x137 x173
      else
        Option.bind (ck (x140 + (1 : Int))) fun x175 =>
        (m_r24_Build_l5 x23 r1 q141) x137 x175
    else
      m_r24_Build_j2 x23 r1 x137
def m_r24_Build_j4 (x20 : List (Sneedlestoreref24_Op)) (x23 : Int) (x38 : Sneedlestoreref24_Event) (x44 : Int) (r1 : (List (Sneedlestoreref24_Op)) -> Int -> Option ((List (Sneedlestoreref24_Op)) × Int)) (x81 : Bool) : Option ((List (Sneedlestoreref24_Op)) × Int) :=
  if x81 = true then
    Option.bind (idx x20 x44) fun x87 =>
    Option.bind (idx x20 x44) fun x91 =>
    Option.bind (upd x20 x44 ({ x91 with fReturn := x23 } : Sneedlestoreref24_Op)) fun x92 =>
    Option.bind (idx x92 x44) fun x98 =>
    Option.bind (idx x92 x44) fun x102 =>
    Option.bind (upd x92 x44 ({ x102 with fResult := x38.fResult } : Sneedlestoreref24_Op)) fun x103 =>
    Option.bind (idx x103 x44) fun x110 =>
    if x110.fKind = (3 : Int) then
      if x38.fResult = (0 : Int) then
        Option.bind (apd 1 ([] : List (BitVec 8)) x38.fData) fun x118 =>
        Option.bind (idx x103 x44) fun x121 =>
        Option.bind (idx x103 x44) fun x125 =>
        Option.bind (upd x103 x44 ({ x125 with fGot := x118 } : Sneedlestoreref24_Op)) fun x126 =>
        m_r24_Build_j2 x23 r1 x126
      else
        m_r24_Build_j2 x23 r1 x103
    else
      m_r24_Build_j2 x23 r1 x103
  else
    if x38.fKind = (3 : Int) then
      m_r24_Build_l5 x23 r1 forever x20 (0 : Int)
    else
      some (([] : List (Sneedlestoreref24_Op)), (3 : Int))
def m_r24_Build_j3 (x20 : List (Sneedlestoreref24_Op)) (x23 : Int) (x38 : Sneedlestoreref24_Event) (x44 : Int) (r1 : (List (Sneedlestoreref24_Op)) -> Int -> Option ((List (Sneedlestoreref24_Op)) × Int)) (x46 : Bool) : Option ((List (Sneedlestoreref24_Op)) × Int) :=
  if x46 = true then
    if x38.fOp = (1 : Int) then
      Option.bind (apd 1 ([] : List (BitVec 8)) x38.fData) fun x60 =>
      Option.bind (apd 112 x20 ([(Sneedlestoreref24_Op.mk x38.fClient x38.fOp x38.fKey x38.fCookie x60 ([] : List (BitVec 8)) x23 (-1 : Int) (-1 : Int) (0 : Int))] : List (Sneedlestoreref24_Op))) fun x68 =>
      m_r24_Build_j2 x23 r1 x68
    else
      Option.bind (apd 112 x20 ([(Sneedlestoreref24_Op.mk x38.fClient x38.fOp x38.fKey x38.fCookie ([] : List (BitVec 8)) ([] : List (BitVec 8)) x23 (-1 : Int) (-1 : Int) (0 : Int))] : List (Sneedlestoreref24_Op))) fun x76 =>
      m_r24_Build_j2 x23 r1 x76
  else
    if x38.fKind = (2 : Int) then
      m_r24_Build_j4 x20 x23 x38 x44 r1 (decide ((0 : Int) <= x44))
    else
      m_r24_Build_j4 x20 x23 x38 x44 r1 false
def m_r24_Build_j0 (x9 : List (Sneedlestoreref24_Op)) : Option ((List (Sneedlestoreref24_Op)) × Int) :=
  some (x9, (0 : Int))
def m_r24_Build_l1 (x00 : List (Sneedlestoreref24_Event)) : Nat -> (List (Sneedlestoreref24_Op)) -> Int -> Option ((List (Sneedlestoreref24_Op)) × Int)
  | 0, _, _ => none
  | q24 + 1, x20, x23 =>
    if x23 < (x00.length : Int) then
      Option.bind (idx x00 x23) fun x38 =>
      Option.bind (m_r24_open x20 x38.fClient) fun x44 =>
      if x38.fKind = (1 : Int) then
        if (1 : Int) <= x38.fOp then
          if x38.fOp <= (3 : Int) then
            m_r24_Build_j3 x20 x23 x38 x44 (m_r24_Build_l1 x00 q24) (decide (x44 < (0 : Int)))
          else
            m_r24_Build_j3 x20 x23 x38 x44 (m_r24_Build_l1 x00 q24) false
        else
          m_r24_Build_j3 x20 x23 x38 x44 (m_r24_Build_l1 x00 q24) false
      else
        m_r24_Build_j3 x20 x23 x38 x44 (m_r24_Build_l1 x00 q24) false
    else
      m_r24_Build_j0 x20
def m_r24_Build (x00 : List (Sneedlestoreref24_Event)) : Option ((List (Sneedlestoreref24_Op)) × Int) :=
  m_r24_Build_l1 x00 forever ([] : List (Sneedlestoreref24_Op)) (0 : Int)
def m_r24_End (x00_0 x00_1 : Int) (x00_2 : BitVec 64) (x00_3 : BitVec 32) (x00_4 x00_5 : List (BitVec 8)) (x00_6 x00_7 x00_8 x00_9 : Int) : Option (Int) :=
  if x00_7 = (-1 : Int) then
    if x00_8 = (-1 : Int) then
      some ((9223372036854775807 : Int))
    else
      some (x00_8)
  else
    some (x00_7)
def m_r24_Before (x00_0 x00_1 : Int) (x00_2 : BitVec 64) (x00_3 : BitVec 32) (x00_4 x00_5 : List (BitVec 8)) (x00_6 x00_7 x00_8 x00_9 x01_0 x01_1 : Int) (x01_2 : BitVec 64) (x01_3 : BitVec 32) (x01_4 x01_5 : List (BitVec 8)) (x01_6 x01_7 x01_8 x01_9 : Int) : Option (Bool) :=
  Option.bind (m_r24_End x00_0 x00_1 x00_2 x00_3 x00_4 x00_5 x00_6 x00_7 x00_8 x00_9) fun x5 =>
  some ((decide (x5 < x01_6)))
def m_r24_Valid_j2 (x4 : Int) (r1 : Int -> Option (Bool)) : Option (Bool) :=
  Option.bind (ck (x4 + (1 : Int))) fun x83 =>
  r1 x83
def m_r24_Valid_l5 (x00 : List (Sneedlestoreref24_Op)) (x4 : Int) (x12 : Sneedlestoreref24_Op) (r1 : Int -> Option (Bool)) : Nat -> Int -> Option (Bool)
  | 0, _ => none
  | q58 + 1, x57 =>
    if x57 < x4 then
      Option.bind (idx x00 x57) fun x65 =>
      if x65.fClient = x12.fClient then
        Option.bind (idx x00 x57) fun x70 =>
        Option.bind (m_r24_Before x70.fClient x70.fKind x70.fKey x70.fCookie x70.fData x70.fGot x70.fCall x70.fReturn x70.fClosed x70.fResult x12.fClient x12.fKind x12.fKey x12.fCookie x12.fData x12.fGot x12.fCall x12.fReturn x12.fClosed x12.fResult) fun x74 =>
        if x74 = true then
          Option.bind (ck (x57 + (1 : Int))) fun x78 =>
          (m_r24_Valid_l5 x00 x4 x12 r1 q58) x78
        else
          some (false)
      else
        Option.bind (ck (x57 + (1 : Int))) fun x81 =>
        (m_r24_Valid_l5 x00 x4 x12 r1 q58) x81
    else
      m_r24_Valid_j2 x4 r1
def m_r24_Valid_j4 (x00 : List (Sneedlestoreref24_Op)) (x4 : Int) (x12 : Sneedlestoreref24_Op) (r1 : Int -> Option (Bool)) : Option (Bool) :=
  m_r24_Valid_l5 x00 x4 x12 r1 forever (0 : Int)
def m_r24_Valid_j3 (x00 : List (Sneedlestoreref24_Op)) (x4 : Int) (x12 : Sneedlestoreref24_Op) (r1 : Int -> Option (Bool)) : Option (Bool) :=
  if x12.fReturn = (-1 : Int) then
    if x12.fClosed = (-1 : Int) then
      if x12.fReturn = (-1 : Int) then
        m_r24_Valid_j4 x00 x4 x12 r1
      else
        if x12.fClosed = (-1 : Int) then
          m_r24_Valid_j4 x00 x4 x12 r1
        else
          some (false)
    else
      if x12.fClosed <= x12.fCall then
        some (false)
      else
        if x12.fReturn = (-1 : Int) then
          m_r24_Valid_j4 x00 x4 x12 r1
        else
          if x12.fClosed = (-1 : Int) then
            m_r24_Valid_j4 x00 x4 x12 r1
          else
            some (false)
  else
    if x12.fReturn <= x12.fCall then
      some (false)
    else
      if x12.fClosed = (-1 : Int) then
        if x12.fReturn = (-1 : Int) then
          m_r24_Valid_j4 x00 x4 x12 r1
        else
          if x12.fClosed = (-1 : Int) then
            m_r24_Valid_j4 x00 x4 x12 r1
          else
            some (false)
      else
        if x12.fClosed <= x12.fCall then
          some (false)
        else
          if x12.fReturn = (-1 : Int) then
            m_r24_Valid_j4 x00 x4 x12 r1
          else
            if x12.fClosed = (-1 : Int) then
              m_r24_Valid_j4 x00 x4 x12 r1
            else
              some (false)
def m_r24_Valid_j0 : Option (Bool) :=
  some (true)
def m_r24_Valid_l1 (x00 : List (Sneedlestoreref24_Op)) : Nat -> Int -> Option (Bool)
  | 0, _ => none
  | q5 + 1, x4 =>
    if x4 < (x00.length : Int) then
      Option.bind (idx x00 x4) fun x12 =>
      if x12.fCall < (0 : Int) then
        some (false)
      else
        if x12.fKind < (1 : Int) then
          some (false)
        else
          if (3 : Int) < x12.fKind then
            some (false)
          else
            if (0 : Int) < x4 then
              Option.bind (ck (x4 - (1 : Int))) fun x26 =>
              Option.bind (idx x00 x26) fun x27 =>
              if x12.fCall <= x27.fCall then
                some (false)
              else
                m_r24_Valid_j3 x00 x4 x12 (m_r24_Valid_l1 x00 q5)
            else
              m_r24_Valid_j3 x00 x4 x12 (m_r24_Valid_l1 x00 q5)
    else
      m_r24_Valid_j0
def m_r24_Valid (x00 : List (Sneedlestoreref24_Op)) : Option (Bool) :=
  m_r24_Valid_l1 x00 forever (0 : Int)
end Go.Proofs.Ytkcccenekglkoaa
