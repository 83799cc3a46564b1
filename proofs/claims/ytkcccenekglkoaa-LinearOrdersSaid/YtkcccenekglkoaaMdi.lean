/-
  Models of functions of the program (i): what each computes, as an option. Printed by a program of ours (vcm.py). No conditions.
-/
import Derived.Test.YtkcccenekglkoaaMdh
namespace Go.Proofs.Ytkcccenekglkoaa
set_option linter.unusedVariables false
structure Sneedlestorelaw25_Act where
  fClient : Int
  fKind : Int
  fKey : BitVec 64
  fCookie : BitVec 32
  fData : BitVec 8
  fResult : Int
  fLost : Bool
  fCrash : Bool
  deriving DecidableEq
def m_law25_op (x00_0 x00_1 : Int) (x00_2 : BitVec 64) (x00_3 : BitVec 32) (x00_4 x00_5 : List (BitVec 8)) (x00_6 x00_7 x00_8 x00_9 : Int) : Option (Int × Int × (BitVec 64) × (BitVec 32) × (List (BitVec 8)) × (List (BitVec 8)) × Int × Int × Int × Int) :=
  some (x00_0, x00_1, x00_2, x00_3, x00_4, x00_5, x00_6, x00_7, x00_8, x00_9)
def m_law25_ops_j0 (x9 : List (Shistory_Op)) : Option ((List (Shistory_Op))) :=
  some (x9)
def m_law25_ops_l1 (x00 : List (Sneedlestoreref24_Op)) : Nat -> (List (Shistory_Op)) -> Int -> Option ((List (Shistory_Op)))
  | 0, _, _ => none
  | q24 + 1, x20, x23 =>
    if x23 < (x00.length : Int) then
      Option.bind (idx x00 x23) fun x31 =>
      Option.bind (m_law25_op x31.fClient x31.fKind x31.fKey x31.fCookie x31.fData x31.fGot x31.fCall x31.fReturn x31.fClosed x31.fResult) fun x37 =>
      Option.bind (apd 112 x20 ([(Shistory_Op.mk x37.1 x37.2.1 x37.2.2.1 x37.2.2.2.1 x37.2.2.2.2.1 x37.2.2.2.2.2.1 x37.2.2.2.2.2.2.1 x37.2.2.2.2.2.2.2.1 x37.2.2.2.2.2.2.2.2.1 x37.2.2.2.2.2.2.2.2.2)] : List (Shistory_Op))) fun x66 =>
      Option.bind (ck (x23 + (1 : Int))) fun x72 =>
      (m_law25_ops_l1 x00 q24) x66 x72
    else
      m_law25_ops_j0 x20
def m_law25_ops (x00 : List (Sneedlestoreref24_Op)) : Option ((List (Shistory_Op))) :=
  m_law25_ops_l1 x00 forever ([] : List (Shistory_Op)) (0 : Int)
def m_law25_state (x00_0 : Bool) (x00_1 : BitVec 32) (x00_2 : List (BitVec 8)) : Option (Bool × (BitVec 32) × (List (BitVec 8))) :=
  some (x00_0, x00_1, x00_2)
def m_law25_awake : Option (Bool) :=
  Option.bind (m_linear_Check ([] : List (Shistory_Op))) fun x3 =>
  Option.bind (m_linear_Check ([(Shistory_Op.mk (0 : Int) (3 : Int) 0#64 0#32 ([] : List (BitVec 8)) ([] : List (BitVec 8)) (0 : Int) (1 : Int) (-1 : Int) (0 : Int))] : List (Shistory_Op))) fun x8 =>
  Option.bind (m_linear_Check ([(Shistory_Op.mk (0 : Int) (1 : Int) 0#64 0#32 ([1#8] : List (BitVec 8)) ([] : List (BitVec 8)) (0 : Int) (-1 : Int) (-1 : Int) (0 : Int)), (Shistory_Op.mk (1 : Int) (3 : Int) 0#64 0#32 ([] : List (BitVec 8)) ([1#8] : List (BitVec 8)) (1 : Int) (2 : Int) (-1 : Int) (0 : Int))] : List (Shistory_Op))) fun x19 =>
  if x3.1 = true then
    if x3.2 = (0 : Int) then
      if x8.1 = true then
        some (false)
      else
        if x8.2 = (0 : Int) then
          if x19.1 = true then
            some ((x19.2 == (0 : Int)))
          else
            some (false)
        else
          some (false)
    else
      some (false)
  else
    some (false)
def m_law25_short_j2 (x00 x16 : List (Sneedlestorelaw25_Act)) (x17 : Int) (r1 : (List (Sneedlestorelaw25_Act)) -> Int -> Option ((List (Sneedlestorelaw25_Act)))) : Option ((List (Sneedlestorelaw25_Act))) :=
  Option.bind (idx x00 x17) fun x26 =>
  Option.bind (rmi (andi x26.fClient (3 : Int)) (3 : Int)) fun x29 =>
  Option.bind (rmi (andi x26.fKind (3 : Int)) (3 : Int)) fun x30 =>
  Option.bind (ck ((1 : Int) + x30)) fun x31 =>
  Option.bind (apd 48 x16 ([(Sneedlestorelaw25_Act.mk x29 x31 (x26.fKey &&& 1#64) (x26.fCookie &&& 1#32) (x26.fData &&& 3#8) x26.fResult x26.fLost x26.fCrash)] : List (Sneedlestorelaw25_Act))) fun x34 =>
  Option.bind (ck (x17 + (1 : Int))) fun x38 =>
  r1 x34 x38
def m_law25_short_j0 (x8 : List (Sneedlestorelaw25_Act)) : Option ((List (Sneedlestorelaw25_Act))) :=
  some (x8)
def m_law25_short_l1 (x00 : List (Sneedlestorelaw25_Act)) (x01 : Int) : Nat -> (List (Sneedlestorelaw25_Act)) -> Int -> Option ((List (Sneedlestorelaw25_Act)))
  | 0, _, _ => none
  | q18 + 1, x16, x17 =>
    if x17 < (x00.length : Int) then
      if x17 < x01 then
        m_law25_short_j2 x00 x16 x17 (m_law25_short_l1 x00 x01 q18)
      else
        m_law25_short_j0 x16
    else
      m_law25_short_j0 x16
def m_law25_short (x00 : List (Sneedlestorelaw25_Act)) (x01 : Int) : Option ((List (Sneedlestorelaw25_Act))) :=
  m_law25_short_l1 x00 x01 forever ([] : List (Sneedlestorelaw25_Act)) (0 : Int)
def m_law25_random_j7 (x3 : (List (Sneedlestorelaw25_Act))) (x31 : List (Int × Int)) (x38 : List (Sneedlestoreref24_Event)) (x42 x57 x101 : Int) (r1 : (List (Int × Int)) -> (List (Sneedlestoreref24_Event)) -> Int -> Int -> Option ((List (Sneedlestoreref24_Op)))) (x106 : Bool) : Option ((List (Sneedlestoreref24_Op))) :=
  if x106 = true then
    Option.bind (apd 72 x38 ([(Sneedlestoreref24_Event.mk (3 : Int) (0 : Int) (0 : Int) 0#64 0#32 ([] : List (BitVec 8)) (0 : Int))] : List (Sneedlestoreref24_Event))) fun x115 =>
    r1 ([] : List (Int × Int)) x115 x57 x42
  else
    Option.bind (idx x3 ((mget x31 x101).getD (0 : Int))) fun x124 =>
    Option.bind (idx ([(0 : Int), (0 : Int), (6 : Int), (6 : Int), (11 : Int), (9 : Int), (10 : Int), (8 : Int)] : List (Int)) (andi x124.fResult (7 : Int))) fun x125 =>
    Option.bind (idx x3 ((mget x31 x101).getD (0 : Int))) fun x126 =>
    Option.bind (apd 72 x38 ([(Sneedlestoreref24_Event.mk (2 : Int) x101 (0 : Int) 0#64 0#32 ([x126.fData] : List (BitVec 8)) x125)] : List (Sneedlestoreref24_Event))) fun x132 =>
    r1 (mdel x31 x101) x132 x57 x42
def m_law25_random_l6 (x3 : (List (Sneedlestorelaw25_Act))) (x31 : List (Int × Int)) (x38 : List (Sneedlestoreref24_Event)) (x42 x50 x57 x90 : Int) (r1 : (List (Int × Int)) -> (List (Sneedlestoreref24_Event)) -> Int -> Int -> Option ((List (Sneedlestoreref24_Op)))) : Nat -> Int -> Option ((List (Sneedlestoreref24_Op)))
  | 0, _ => none
  | q93 + 1, x92 =>
    if x92 < (3 : Int) then
      Option.bind (ck (x90 + x92)) fun x100 =>
      Option.bind (rmi x100 (3 : Int)) fun x101 =>
      if ((mget x31 x101).isSome) = true then
        Option.bind (idx x3 ((mget x31 x101).getD (0 : Int))) fun x109 =>
        if x109.fCrash = true then
          m_law25_random_j7 x3 x31 x38 x42 x57 x101 r1 (decide ((0 : Int) < (andi x50 (64 : Int))))
        else
          m_law25_random_j7 x3 x31 x38 x42 x57 x101 r1 false
      else
        Option.bind (ck (x92 + (1 : Int))) fun x142 =>
        (m_law25_random_l6 x3 x31 x38 x42 x50 x57 x90 r1 q93) x142
    else
      r1 x31 x38 x57 x42
def m_law25_random_j4 (x3 : (List (Sneedlestorelaw25_Act))) (x31 : List (Int × Int)) (x38 : List (Sneedlestoreref24_Event)) (x42 x50 x57 : Int) (r1 : (List (Int × Int)) -> (List (Sneedlestoreref24_Event)) -> Int -> Int -> Option ((List (Sneedlestoreref24_Op)))) : Option ((List (Sneedlestoreref24_Op))) :=
  Option.bind (shri x50 (1 : Nat)) fun x89 =>
  Option.bind (rmi x89 (3 : Int)) fun x90 =>
  m_law25_random_l6 x3 x31 x38 x42 x50 x57 x90 r1 forever (0 : Int)
def m_law25_random_j5 (x3 : (List (Sneedlestorelaw25_Act))) (x31 : List (Int × Int)) (x38 : List (Sneedlestoreref24_Event)) (x42 x50 x57 : Int) (r1 : (List (Int × Int)) -> (List (Sneedlestoreref24_Event)) -> Int -> Int -> Option ((List (Sneedlestoreref24_Op)))) (x59 : Bool) : Option ((List (Sneedlestoreref24_Op))) :=
  if x59 = true then
    Option.bind (idx x3 x42) fun x65 =>
    if ((mget x31 x65.fClient).isSome) = true then
      m_law25_random_j4 x3 x31 x38 x42 x50 x57 r1
    else
      Option.bind (idx x3 x42) fun x69 =>
      Option.bind (apd 72 x38 ([(Sneedlestoreref24_Event.mk (1 : Int) x69.fClient x69.fKind x69.fKey x69.fCookie ([x69.fData] : List (BitVec 8)) (0 : Int))] : List (Sneedlestoreref24_Event))) fun x77 =>
      Option.bind (ck (x42 + (1 : Int))) fun x87 =>
      r1 (mset x31 x69.fClient x42) x77 x57 x87
  else
    m_law25_random_j4 x3 x31 x38 x42 x50 x57 r1
def m_law25_random_j3 (x3 : (List (Sneedlestorelaw25_Act))) (x31 : List (Int × Int)) (x38 : List (Sneedlestoreref24_Event)) (x41 x42 : Int) (r1 : (List (Int × Int)) -> (List (Sneedlestoreref24_Event)) -> Int -> Int -> Option ((List (Sneedlestoreref24_Op)))) (x50 : Int) : Option ((List (Sneedlestoreref24_Op))) :=
  Option.bind (ck (x41 + (1 : Int))) fun x57 =>
  if x42 < (x3.length : Int) then
    m_law25_random_j5 x3 x31 x38 x42 x50 x57 r1 ((andi x50 (1 : Int)) == (0 : Int))
  else
    m_law25_random_j5 x3 x31 x38 x42 x50 x57 r1 false
def m_law25_random_j2 (x01 : List (BitVec 8)) (x3 : (List (Sneedlestorelaw25_Act))) (x31 : List (Int × Int)) (x38 : List (Sneedlestoreref24_Event)) (x41 x42 : Int) (r1 : (List (Int × Int)) -> (List (Sneedlestoreref24_Event)) -> Int -> Int -> Option ((List (Sneedlestoreref24_Op)))) : Option ((List (Sneedlestoreref24_Op))) :=
  if x41 < (x01.length : Int) then
    Option.bind (idx x01 x41) fun x55 =>
    m_law25_random_j3 x3 x31 x38 x41 x42 r1 (x55.toNat : Int)
  else
    m_law25_random_j3 x3 x31 x38 x41 x42 r1 (0 : Int)
def m_law25_random_j0 (x21 : List (Sneedlestoreref24_Event)) : Option ((List (Sneedlestoreref24_Op))) :=
  Option.bind (m_r24_Build x21) fun x144 =>
  some (x144.1)
def m_law25_random_l1 (x01 : List (BitVec 8)) (x3 : (List (Sneedlestorelaw25_Act))) : Nat -> (List (Int × Int)) -> (List (Sneedlestoreref24_Event)) -> Int -> Int -> Option ((List (Sneedlestoreref24_Op)))
  | 0, _, _, _, _ => none
  | q43 + 1, x31, x38, x41, x42 =>
    if x42 < (x3.length : Int) then
      m_law25_random_j2 x01 x3 x31 x38 x41 x42 (m_law25_random_l1 x01 x3 q43)
    else
      if (0 : Int) < (x31.length : Int) then
        m_law25_random_j2 x01 x3 x31 x38 x41 x42 (m_law25_random_l1 x01 x3 q43)
      else
        m_law25_random_j0 x38
def m_law25_random (x00 : List (Sneedlestorelaw25_Act)) (x01 : List (BitVec 8)) : Option ((List (Sneedlestoreref24_Op))) :=
  Option.bind (m_law25_short x00 (7 : Int)) fun x3 =>
  m_law25_random_l1 x01 x3 forever ([] : List (Int × Int)) ([] : List (Sneedlestoreref24_Event)) (0 : Int) (0 : Int)
end Go.Proofs.Ytkcccenekglkoaa
