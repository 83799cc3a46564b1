/-
  Models of functions of the program (j1): what each computes, as an option. Printed by a program of ours (vcm.py). No conditions.
-/
import Derived.Test.YtkcccenekglkoaaMdi
namespace Go.Proofs.Ytkcccenekglkoaa
set_option linter.unusedVariables false

structure Sneedlestoreref25_State where
  fHas : Bool
  fCookie : BitVec 32
  fData : List (BitVec 8)
  deriving DecidableEq

def m_law25_LinearLate_j1 (x25 : List (Shistory_Op)) : Option (Bool) :=
  Option.bind (m_linear_Check x25) fun x55 =>
  Option.bind (idx x25 (2 : Int)) fun x58 =>
  Option.bind (idx x25 (2 : Int)) fun x62 =>
  Option.bind (upd x25 (2 : Int) ({ x62 with fCall := (3 : Int) } : Shistory_Op)) fun x63 =>
  Option.bind (idx x63 (2 : Int)) fun x69 =>
  Option.bind (idx x63 (2 : Int)) fun x73 =>
  Option.bind (upd x63 (2 : Int) ({ x73 with fReturn := (5 : Int) } : Shistory_Op)) fun x74 =>
  Option.bind (idx x74 (2 : Int)) fun x80 =>
  Option.bind (idx x74 (2 : Int)) fun x84 =>
  Option.bind (upd x74 (2 : Int) ({ x84 with fClient := (1 : Int) } : Shistory_Op)) fun x85 =>
  Option.bind (idx x85 (1 : Int)) fun x91 =>
  Option.bind (idx x85 (1 : Int)) fun x95 =>
  Option.bind (upd x85 (1 : Int) ({ x95 with fReturn := (4 : Int) } : Shistory_Op)) fun x96 =>
  Option.bind (m_linear_Check x96) fun x103 =>
  if x55.1 = true then
    some (false)
  else
    if x55.2 = (0 : Int) then
      if x103.1 = true then
        if x103.2 = (0 : Int) then
          Option.bind (m_law25_awake) fun x110 =>
          some (x110)
        else
          some (false)
      else
        some (false)
    else
      some (false)
def m_law25_LinearLate_j0 (x00 : BitVec 32) (x01 : List (BitVec 8)) (x5 : List (BitVec 8)) (x7 : Bool) : Option (Bool) :=
  if x7 = true then
    Option.bind (idx ([(Shistory_Op.mk (0 : Int) (1 : Int) 0#64 x00 x01 ([] : List (BitVec 8)) (0 : Int) (1 : Int) (-1 : Int) (0 : Int)), (Shistory_Op.mk (0 : Int) (1 : Int) 0#64 x00 x5 ([] : List (BitVec 8)) (2 : Int) (3 : Int) (-1 : Int) (0 : Int)), (Shistory_Op.mk (0 : Int) (3 : Int) 0#64 x00 ([] : List (BitVec 8)) x01 (4 : Int) (5 : Int) (-1 : Int) (0 : Int))] : List (Shistory_Op)) (1 : Int)) fun x32 =>
    Option.bind (idx ([(Shistory_Op.mk (0 : Int) (1 : Int) 0#64 x00 x01 ([] : List (BitVec 8)) (0 : Int) (1 : Int) (-1 : Int) (0 : Int)), (Shistory_Op.mk (0 : Int) (1 : Int) 0#64 x00 x5 ([] : List (BitVec 8)) (2 : Int) (3 : Int) (-1 : Int) (0 : Int)), (Shistory_Op.mk (0 : Int) (3 : Int) 0#64 x00 ([] : List (BitVec 8)) x01 (4 : Int) (5 : Int) (-1 : Int) (0 : Int))] : List (Shistory_Op)) (1 : Int)) fun x36 =>
    Option.bind (upd ([(Shistory_Op.mk (0 : Int) (1 : Int) 0#64 x00 x01 ([] : List (BitVec 8)) (0 : Int) (1 : Int) (-1 : Int) (0 : Int)), (Shistory_Op.mk (0 : Int) (1 : Int) 0#64 x00 x5 ([] : List (BitVec 8)) (2 : Int) (3 : Int) (-1 : Int) (0 : Int)), (Shistory_Op.mk (0 : Int) (3 : Int) 0#64 x00 ([] : List (BitVec 8)) x01 (4 : Int) (5 : Int) (-1 : Int) (0 : Int))] : List (Shistory_Op)) (1 : Int) ({ x36 with fKind := (2 : Int) } : Shistory_Op)) fun x37 =>
    Option.bind (idx x37 (1 : Int)) fun x43 =>
    Option.bind (idx x37 (1 : Int)) fun x47 =>
    Option.bind (upd x37 (1 : Int) ({ x47 with fData := ([] : List (BitVec 8)) } : Shistory_Op)) fun x48 =>
    m_law25_LinearLate_j1 x48
  else
    m_law25_LinearLate_j1 ([(Shistory_Op.mk (0 : Int) (1 : Int) 0#64 x00 x01 ([] : List (BitVec 8)) (0 : Int) (1 : Int) (-1 : Int) (0 : Int)), (Shistory_Op.mk (0 : Int) (1 : Int) 0#64 x00 x5 ([] : List (BitVec 8)) (2 : Int) (3 : Int) (-1 : Int) (0 : Int)), (Shistory_Op.mk (0 : Int) (3 : Int) 0#64 x00 ([] : List (BitVec 8)) x01 (4 : Int) (5 : Int) (-1 : Int) (0 : Int))] : List (Shistory_Op))
def m_law25_LinearLate (x00 : BitVec 32) (x01 : List (BitVec 8)) (x02 : List (BitVec 8)) (x03 : Bool) : Option (Bool) :=
  if (50 : Int) < (x01.length : Int) then
    Option.bind (m_law25_awake) fun x12 =>
    some (x12)
  else
    if (50 : Int) < (x02.length : Int) then
      Option.bind (m_law25_awake) fun x16 =>
      some (x16)
    else
      if x01 = x02 then
        Option.bind (m_law25_awake) fun x20 =>
        some (x20)
      else
        m_law25_LinearLate_j0 x00 x01 x02 x03

end Go.Proofs.Ytkcccenekglkoaa
