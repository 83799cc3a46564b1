/-
  Models of functions of the program (i): what each computes, as an option. Printed by a program of ours (vcm.py). No conditions.
-/
import Derived.Test.YtkcccenekglkoaaMdh
namespace Go.Proofs.Ytkcccenekglkoaa
set_option linter.unusedVariables false
structure Sneedlestorelaw25_Act where
  fClient : Int
  fKind : Int
  fKey : BitVec 64
  fCookie : BitVec 32
  fData : BitVec 8
  fResult : Int
  fLost : Bool
  fCrash : Bool
  deriving DecidableEq
def m_law25_awake : Option (Bool) :=
  Option.bind (m_linear_Check ([] : List (Shistory_Op))) fun x3 =>
  Option.bind (m_linear_Check ([(Shistory_Op.mk (0 : Int) (3 : Int) 0#64 0#32 ([] : List (BitVec 8)) ([] : List (BitVec 8)) (0 : Int) (1 : Int) (-1 : Int) (0 : Int))] : List (Shistory_Op))) fun x8 =>
  Option.bind (m_linear_Check ([(Shistory_Op.mk (0 : Int) (1 : Int) 0#64 0#32 ([1#8] : List (BitVec 8)) ([] : List (BitVec 8)) (0 : Int) (-1 : Int) (-1 : Int) (0 : Int)), (Shistory_Op.mk (1 : Int) (3 : Int) 0#64 0#32 ([] : List (BitVec 8)) ([1#8] : List (BitVec 8)) (1 : Int) (2 : Int) (-1 : Int) (0 : Int))] : List (Shistory_Op))) fun x19 =>
  if x3.1 = true then
    if x3.2 = (0 : Int) then
      if x8.1 = true then
        some (false)
      else
        if x8.2 = (0 : Int) then
          if x19.1 = true then
            some ((x19.2 == (0 : Int)))
          else
            some (false)
        else
          some (false)
    else
      some (false)
  else
    some (false)
def m_law25_short_j2 (x00 x16 : List (Sneedlestorelaw25_Act)) (x17 : Int) (r1 : (List (Sneedlestorelaw25_Act)) -> Int -> Option ((List (Sneedlestorelaw25_Act)))) : Option ((List (Sneedlestorelaw25_Act))) :=
  Option.bind (idx x00 x17) fun x26 =>
  Option.bind (rmi (andi x26.fClient (3 : Int)) (3 : Int)) fun x29 =>
  Option.bind (rmi (andi x26.fKind (3 : Int)) (3 : Int)) fun x30 =>
  Option.bind (ck ((1 : Int) + x30)) fun x31 =>
  Option.bind (apd 48 x16 ([(Sneedlestorelaw25_Act.mk x29 x31 (x26.fKey &&& 1#64) (x26.fCookie &&& 1#32) (x26.fData &&& 3#8) x26.fResult x26.fLost x26.fCrash)] : List (Sneedlestorelaw25_Act))) fun x34 =>
  Option.bind (ck (x17 + (1 : Int))) fun x38 =>
  r1 x34 x38
def m_law25_short_j0 (x8 : List (Sneedlestorelaw25_Act)) : Option ((List (Sneedlestorelaw25_Act))) :=
  some (x8)
def m_law25_short_l1 (x00 : List (Sneedlestorelaw25_Act)) (x01 : Int) : Nat -> (List (Sneedlestorelaw25_Act)) -> Int -> Option ((List (Sneedlestorelaw25_Act)))
  | 0, _, _ => none
  | q18 + 1, x16, x17 =>
    if x17 < (x00.length : Int) then
      if x17 < x01 then
        m_law25_short_j2 x00 x16 x17 (m_law25_short_l1 x00 x01 q18)
      else
        m_law25_short_j0 x16
    else
      m_law25_short_j0 x16
def m_law25_short (x00 : List (Sneedlestorelaw25_Act)) (x01 : Int) : Option ((List (Sneedlestorelaw25_Act))) :=
  m_law25_short_l1 x00 x01 forever ([] : List (Sneedlestorelaw25_Act)) (0 : Int)
end Go.Proofs.Ytkcccenekglkoaa
