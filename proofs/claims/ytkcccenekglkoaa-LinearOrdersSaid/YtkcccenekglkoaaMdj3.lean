/-
  Models of functions of the program (j3): what each computes, as an option. Printed by a program of ours (vcm.py). No conditions.
-/
import Derived.Test.YtkcccenekglkoaaMdi
namespace Go.Proofs.Ytkcccenekglkoaa
set_option linter.unusedVariables false
structure Sneedlestoreref25_State where
  fHas : Bool
  fCookie : BitVec 32
  fData : List (BitVec 8)
  deriving DecidableEq
def m_law25_LinearOrders_j4 : Option (Bool) :=
  Option.bind (m_law25_awake) fun x250 =>
  some (x250)
def m_law25_LinearOrders_l5 : Nat -> (List (Sneedlestoreref24_Op)) -> Int -> Option (Bool)
  | 0, _, _ => none
  | q158 + 1, x153, x157 =>
    if x157 < (([(Sneedlestoreref25_State.mk false 0#32 ([] : List (BitVec 8))), (Sneedlestoreref25_State.mk true 1#32 ([1#8] : List (BitVec 8)))] : List (Sneedlestoreref25_State)).length : Int) then
      Option.bind (idx ([(Sneedlestoreref25_State.mk false 0#32 ([] : List (BitVec 8))), (Sneedlestoreref25_State.mk true 1#32 ([1#8] : List (BitVec 8)))] : List (Sneedlestoreref25_State)) x157) fun x167 =>
      Option.bind (m_law25_ops x153) fun x173 =>
      Option.bind (m_law25_state x167.fHas x167.fCookie x167.fData) fun x191 =>
      Option.bind (m_linear_Order x173 x191.1 x191.2.1 x191.2.2) fun x206 =>
      if x206.2.2 = (0 : Int) then
        Option.bind (m_r25_Has x153 x167.fHas x167.fCookie x167.fData) fun x225 =>
        if x206.2.1 = x225 then
          if x206.2.1 = true then
            Option.bind (m_r25_Legal x153 x167.fHas x167.fCookie x167.fData x206.1) fun x229 =>
            if x229 = true then
              if x206.2.1 = true then
                Option.bind (ck (x157 + (1 : Int))) fun x234 =>
                (m_law25_LinearOrders_l5 q158) x153 x234
              else
                if (0 : Int) < (x206.1.length : Int) then
                  some (false)
                else
                  Option.bind (ck (x157 + (1 : Int))) fun x238 =>
                  (m_law25_LinearOrders_l5 q158) x153 x238
            else
              some (false)
          else
            if x206.2.1 = true then
              Option.bind (ck (x157 + (1 : Int))) fun x242 =>
              (m_law25_LinearOrders_l5 q158) x153 x242
            else
              if (0 : Int) < (x206.1.length : Int) then
                some (false)
              else
                Option.bind (ck (x157 + (1 : Int))) fun x246 =>
                (m_law25_LinearOrders_l5 q158) x153 x246
        else
          some (false)
      else
        some (false)
    else
      m_law25_LinearOrders_j4
def m_law25_LinearOrders_j3 (x01 : List (Sneedlestorelaw25_Act)) (x02 : List (BitVec 8)) : Option (Bool) :=
  Option.bind (m_law25_random x01 x02) fun x121 =>
  m_law25_LinearOrders_l5 forever x121 (0 : Int)
def m_law25_LinearOrders_j1 (x00 : List (Sneedlestoreref24_Op)) (x01 : List (Sneedlestorelaw25_Act)) (x02 : List (BitVec 8)) (x03_0 : Bool) (x03_1 : BitVec 32) (x03_2 : List (BitVec 8)) (x14 : Int) : Option (Bool) :=
  Option.bind (m_law25_ops x00) fun x49 =>
  Option.bind (m_law25_state x03_0 x03_1 x03_2) fun x67 =>
  Option.bind (m_linear_Order x49 x67.1 x67.2.1 x67.2.2) fun x82 =>
  Option.bind (m_r24_Valid x00) fun x101 =>
  if x101 = true then
    if (12 : Int) < x14 then
      if x82.2.2 = (9 : Int) then
        if x82.2.1 = true then
          some (false)
        else
          if (0 : Int) < (x82.1.length : Int) then
            some (false)
          else
            m_law25_LinearOrders_j3 x01 x02
      else
        some (false)
    else
      m_law25_LinearOrders_j3 x01 x02
  else
    if x82.2.2 = (1 : Int) then
      if x82.2.1 = true then
        some (false)
      else
        if (0 : Int) < (x82.1.length : Int) then
          some (false)
        else
          m_law25_LinearOrders_j3 x01 x02
    else
      some (false)
def m_law25_LinearOrders_l2 (x00 : List (Sneedlestoreref24_Op)) (x01 : List (Sneedlestorelaw25_Act)) (x02 : List (BitVec 8)) (x03_0 : Bool) (x03_1 : BitVec 32) (x03_2 : List (BitVec 8)) : Nat -> Int -> Int -> Option (Bool)
  | 0, _, _ => none
  | q19 + 1, x17, x18 =>
    if x18 < (x00.length : Int) then
      Option.bind (idx x00 x18) fun x28 =>
      if (100 : Int) < (x28.fData.length : Int) then
        Option.bind (m_law25_awake) fun x34 =>
        some (x34)
      else
        Option.bind (idx x00 x18) fun x36 =>
        if (100 : Int) < (x36.fGot.length : Int) then
          Option.bind (m_law25_awake) fun x42 =>
          some (x42)
        else
          Option.bind (ck (x17 + (1 : Int))) fun x45 =>
          Option.bind (ck (x18 + (1 : Int))) fun x47 =>
          (m_law25_LinearOrders_l2 x00 x01 x02 x03_0 x03_1 x03_2 q19) x45 x47
    else
      m_law25_LinearOrders_j1 x00 x01 x02 x03_0 x03_1 x03_2 x17
def m_law25_LinearOrders_j0 (x00 : List (Sneedlestoreref24_Op)) (x01 : List (Sneedlestorelaw25_Act)) (x02 : List (BitVec 8)) (x03_0 : Bool) (x03_1 : BitVec 32) (x03_2 : List (BitVec 8)) : Option (Bool) :=
  m_law25_LinearOrders_l2 x00 x01 x02 x03_0 x03_1 x03_2 forever (0 : Int) (0 : Int)
def m_law25_LinearOrders (x00 : List (Sneedlestoreref24_Op)) (x01 : List (Sneedlestorelaw25_Act)) (x02 : List (BitVec 8)) (x03_0 : Bool) (x03_1 : BitVec 32) (x03_2 : List (BitVec 8)) : Option (Bool) :=
  if (30 : Int) < (x00.length : Int) then
    Option.bind (m_law25_awake) fun x7 =>
    some (x7)
  else
    if (100 : Int) < (x03_2.length : Int) then
      Option.bind (m_law25_awake) fun x11 =>
      some (x11)
    else
      m_law25_LinearOrders_j0 x00 x01 x02 x03_0 x03_1 x03_2
end Go.Proofs.Ytkcccenekglkoaa
