/-
  Models of functions of the program (j2): what each computes, as an option. Printed by a program of ours (vcm.py). No conditions.
-/
import Derived.Test.YtkcccenekglkoaaMdi
namespace Go.Proofs.Ytkcccenekglkoaa
set_option linter.unusedVariables false

structure Sneedlestoreref25_State where
  fHas : Bool
  fCookie : BitVec 32
  fData : List (BitVec 8)
  deriving DecidableEq

def m_law25_LinearClosed (x00 : BitVec 32) (x01 : List (BitVec 8)) (x02 : Bool) : Option (Bool) :=
  if (50 : Int) < (x01.length : Int) then
    Option.bind (m_law25_awake) fun x6 =>
    some (x6)
  else
    if x02 = true then
      Option.bind (idx ([(Shistory_Op.mk (0 : Int) (1 : Int) 0#64 x00 x01 ([] : List (BitVec 8)) (0 : Int) (-1 : Int) (1 : Int) (0 : Int)), (Shistory_Op.mk (1 : Int) (3 : Int) 0#64 x00 ([] : List (BitVec 8)) ([] : List (BitVec 8)) (2 : Int) (3 : Int) (-1 : Int) (6 : Int)), (Shistory_Op.mk (1 : Int) (3 : Int) 0#64 x00 ([] : List (BitVec 8)) x01 (4 : Int) (5 : Int) (-1 : Int) (0 : Int))] : List (Shistory_Op)) (0 : Int)) fun x15 =>
      Option.bind (idx ([(Shistory_Op.mk (0 : Int) (1 : Int) 0#64 x00 x01 ([] : List (BitVec 8)) (0 : Int) (-1 : Int) (1 : Int) (0 : Int)), (Shistory_Op.mk (1 : Int) (3 : Int) 0#64 x00 ([] : List (BitVec 8)) ([] : List (BitVec 8)) (2 : Int) (3 : Int) (-1 : Int) (6 : Int)), (Shistory_Op.mk (1 : Int) (3 : Int) 0#64 x00 ([] : List (BitVec 8)) x01 (4 : Int) (5 : Int) (-1 : Int) (0 : Int))] : List (Shistory_Op)) (0 : Int)) fun x19 =>
      Option.bind (upd ([(Shistory_Op.mk (0 : Int) (1 : Int) 0#64 x00 x01 ([] : List (BitVec 8)) (0 : Int) (-1 : Int) (1 : Int) (0 : Int)), (Shistory_Op.mk (1 : Int) (3 : Int) 0#64 x00 ([] : List (BitVec 8)) ([] : List (BitVec 8)) (2 : Int) (3 : Int) (-1 : Int) (6 : Int)), (Shistory_Op.mk (1 : Int) (3 : Int) 0#64 x00 ([] : List (BitVec 8)) x01 (4 : Int) (5 : Int) (-1 : Int) (0 : Int))] : List (Shistory_Op)) (0 : Int) ({ x19 with fClosed := (-1 : Int) } : Shistory_Op)) fun x20 =>
      Option.bind (m_linear_Check x20) fun x27 =>
      if x27.1 = x02 then
        if x27.2 = (0 : Int) then
          Option.bind (m_law25_awake) fun x32 =>
          some (x32)
        else
          some (false)
      else
        some (false)
    else
      Option.bind (m_linear_Check ([(Shistory_Op.mk (0 : Int) (1 : Int) 0#64 x00 x01 ([] : List (BitVec 8)) (0 : Int) (-1 : Int) (1 : Int) (0 : Int)), (Shistory_Op.mk (1 : Int) (3 : Int) 0#64 x00 ([] : List (BitVec 8)) ([] : List (BitVec 8)) (2 : Int) (3 : Int) (-1 : Int) (6 : Int)), (Shistory_Op.mk (1 : Int) (3 : Int) 0#64 x00 ([] : List (BitVec 8)) x01 (4 : Int) (5 : Int) (-1 : Int) (0 : Int))] : List (Shistory_Op))) fun x35 =>
      if x35.1 = x02 then
        if x35.2 = (0 : Int) then
          Option.bind (m_law25_awake) fun x40 =>
          some (x40)
        else
          some (false)
      else
        some (false)

end Go.Proofs.Ytkcccenekglkoaa
