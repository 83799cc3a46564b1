/-
  Models of functions of the program (j0): what each computes, as an option. Printed by a program of ours (vcm.py). No conditions.
-/
import Derived.Test.YtkcccenekglkoaaMdi
namespace Go.Proofs.Ytkcccenekglkoaa
set_option linter.unusedVariables false
structure Sneedlestoreref25_State where
  fHas : Bool
  fCookie : BitVec 32
  fData : List (BitVec 8)
  deriving DecidableEq
def m_law25_LinearSteps_j7 (x90 : Sneedlestoreref24_Op) (x99 : Int) (x107 : Sneedlestoreref25_State) (r6 : Int -> Option (Bool)) (x114 : Bool) (x115 : BitVec 32) (x121 : List (BitVec 8)) (x122 : Bool) : Option (Bool) :=
  Option.bind (m_r25_Step x107.fHas x107.fCookie x107.fData x90.fClient x90.fKind x90.fKey x90.fCookie x90.fData x90.fGot x90.fCall x90.fReturn x90.fClosed x90.fResult) fun x177 =>
  if x122 = x177.2.2.2 then
    if x114 = x177.1 then
      if x177.1 = true then
        if x115 = x177.2.1 then
          if x121 = x177.2.2.1 then
            Option.bind (m_law25_op x90.fClient x90.fKind x90.fKey x90.fCookie x90.fData x90.fGot x90.fCall x90.fReturn x90.fClosed x90.fResult) fun x199 =>
            Option.bind (m_linear_Drops x199.1 x199.2.1 x199.2.2.1 x199.2.2.2.1 x199.2.2.2.2.1 x199.2.2.2.2.2.1 x199.2.2.2.2.2.2.1 x199.2.2.2.2.2.2.2.1 x199.2.2.2.2.2.2.2.2.1 x199.2.2.2.2.2.2.2.2.2) fun x226 =>
            Option.bind (m_r25_Drops x90.fClient x90.fKind x90.fKey x90.fCookie x90.fData x90.fGot x90.fCall x90.fReturn x90.fClosed x90.fResult) fun x228 =>
            if x226 = x228 then
              Option.bind (ck (x99 + (1 : Int))) fun x232 =>
              r6 x232
            else
              some (false)
          else
            some (false)
        else
          some (false)
      else
        Option.bind (m_law25_op x90.fClient x90.fKind x90.fKey x90.fCookie x90.fData x90.fGot x90.fCall x90.fReturn x90.fClosed x90.fResult) fun x236 =>
        Option.bind (m_linear_Drops x236.1 x236.2.1 x236.2.2.1 x236.2.2.2.1 x236.2.2.2.2.1 x236.2.2.2.2.2.1 x236.2.2.2.2.2.2.1 x236.2.2.2.2.2.2.2.1 x236.2.2.2.2.2.2.2.2.1 x236.2.2.2.2.2.2.2.2.2) fun x263 =>
        Option.bind (m_r25_Drops x90.fClient x90.fKind x90.fKey x90.fCookie x90.fData x90.fGot x90.fCall x90.fReturn x90.fClosed x90.fResult) fun x265 =>
        if x263 = x265 then
          Option.bind (ck (x99 + (1 : Int))) fun x269 =>
          r6 x269
        else
          some (false)
    else
      some (false)
  else
    some (false)
def m_law25_LinearSteps_j5 (x81 : Int) (r4 : Int -> Option (Bool)) : Option (Bool) :=
  Option.bind (ck (x81 + (1 : Int))) fun x274 =>
  r4 x274
def m_law25_LinearSteps_l6 (x00_0 : Bool) (x00_1 : BitVec 32) (x00_2 : List (BitVec 8)) (x81 : Int) (x90 : Sneedlestoreref24_Op) (r4 : Int -> Option (Bool)) : Nat -> Int -> Option (Bool)
  | 0, _ => none
  | q100 + 1, x99 =>
    if x99 < (([(Sneedlestoreref25_State.mk x00_0 x00_1 x00_2), (Sneedlestoreref25_State.mk false 0#32 ([] : List (BitVec 8))), (Sneedlestoreref25_State.mk true x90.fCookie x90.fGot), (Sneedlestoreref25_State.mk true (x90.fCookie + 1#32) ([] : List (BitVec 8)))] : List (Sneedlestoreref25_State)).length : Int) then
      Option.bind (idx ([(Sneedlestoreref25_State.mk x00_0 x00_1 x00_2), (Sneedlestoreref25_State.mk false 0#32 ([] : List (BitVec 8))), (Sneedlestoreref25_State.mk true x90.fCookie x90.fGot), (Sneedlestoreref25_State.mk true (x90.fCookie + 1#32) ([] : List (BitVec 8)))] : List (Sneedlestoreref25_State)) x99) fun x107 =>
      Option.bind (m_law25_state x107.fHas x107.fCookie x107.fData) fun x125 =>
      Option.bind (m_law25_op x90.fClient x90.fKind x90.fKey x90.fCookie x90.fData x90.fGot x90.fCall x90.fReturn x90.fClosed x90.fResult) fun x140 =>
      Option.bind (m_linear_Step x125.1 x125.2.1 x125.2.2 x140.1 x140.2.1 x140.2.2.1 x140.2.2.2.1 x140.2.2.2.2.1 x140.2.2.2.2.2.1 x140.2.2.2.2.2.2.1 x140.2.2.2.2.2.2.2.1 x140.2.2.2.2.2.2.2.2.1 x140.2.2.2.2.2.2.2.2.2) fun x167 =>
      m_law25_LinearSteps_j7 x90 x99 x107 (m_law25_LinearSteps_l6 x00_0 x00_1 x00_2 x81 x90 r4 q100) x167.1 x167.2.1 x167.2.2.1 x167.2.2.2
    else
      m_law25_LinearSteps_j5 x81 r4
def m_law25_LinearSteps_j3 : Option (Bool) :=
  Option.bind (m_law25_awake) fun x276 =>
  some (x276)
def m_law25_LinearSteps_l4 (x00_0 : Bool) (x00_1 : BitVec 32) (x00_2 : List (BitVec 8)) (x25 : List (Sneedlestoreref24_Op)) : Nat -> Int -> Option (Bool)
  | 0, _ => none
  | q82 + 1, x81 =>
    if x81 < (x25.length : Int) then
      Option.bind (idx x25 x81) fun x90 =>
      m_law25_LinearSteps_l6 x00_0 x00_1 x00_2 x81 x90 (m_law25_LinearSteps_l4 x00_0 x00_1 x00_2 x25 q82) forever (0 : Int)
    else
      m_law25_LinearSteps_j3
def m_law25_LinearSteps_j1 (x00_0 : Bool) (x00_1 : BitVec 32) (x00_2 : List (BitVec 8)) (x25 : List (Sneedlestoreref24_Op)) : Option (Bool) :=
  m_law25_LinearSteps_l4 x00_0 x00_1 x00_2 x25 forever (0 : Int)
def m_law25_LinearSteps_l2 (x00_0 : Bool) (x00_1 : BitVec 32) (x00_2 : List (BitVec 8)) (x30 : (List (Sneedlestoreref24_Op))) : Nat -> (List (Sneedlestoreref24_Op)) -> Int -> Option (Bool)
  | 0, _, _ => none
  | q55 + 1, x51, x54 =>
    if x54 < (x30.length : Int) then
      Option.bind (idx x30 x54) fun x62 =>
      Option.bind (apd 112 x51 ([x62] : List (Sneedlestoreref24_Op))) fun x70 =>
      Option.bind (ck (x54 + (1 : Int))) fun x76 =>
      (m_law25_LinearSteps_l2 x00_0 x00_1 x00_2 x30 q55) x70 x76
    else
      m_law25_LinearSteps_j1 x00_0 x00_1 x00_2 x51
def m_law25_LinearSteps_j0 (x00_0 : Bool) (x00_1 : BitVec 32) (x00_2 : List (BitVec 8)) (x01_0 x01_1 : Int) (x01_2 : BitVec 64) (x01_3 : BitVec 32) (x01_4 x01_5 : List (BitVec 8)) (x01_6 x01_7 x01_8 x01_9 : Int) (x02 : List (Sneedlestorelaw25_Act)) : Option (Bool) :=
  Option.bind (m_law25_random x02 ([] : List (BitVec 8))) fun x30 =>
  m_law25_LinearSteps_l2 x00_0 x00_1 x00_2 x30 forever ([(Sneedlestoreref24_Op.mk x01_0 x01_1 x01_2 x01_3 x01_4 x01_5 x01_6 x01_7 x01_8 x01_9)] : List (Sneedlestoreref24_Op)) (0 : Int)
def m_law25_LinearSteps (x00_0 : Bool) (x00_1 : BitVec 32) (x00_2 : List (BitVec 8)) (x01_0 x01_1 : Int) (x01_2 : BitVec 64) (x01_3 : BitVec 32) (x01_4 x01_5 : List (BitVec 8)) (x01_6 x01_7 x01_8 x01_9 : Int) (x02 : List (Sneedlestorelaw25_Act)) : Option (Bool) :=
  if (300 : Int) < (x00_2.length : Int) then
    Option.bind (m_law25_awake) fun x8 =>
    some (x8)
  else
    if (300 : Int) < (x01_4.length : Int) then
      Option.bind (m_law25_awake) fun x12 =>
      some (x12)
    else
      if (300 : Int) < (x01_5.length : Int) then
        Option.bind (m_law25_awake) fun x16 =>
        some (x16)
      else
        m_law25_LinearSteps_j0 x00_0 x00_1 x00_2 x01_0 x01_1 x01_2 x01_3 x01_4 x01_5 x01_6 x01_7 x01_8 x01_9 x02
end Go.Proofs.Ytkcccenekglkoaa
