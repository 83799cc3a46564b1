/-
  Models of functions of the program (k): what each computes, as an option. Printed by a program of ours (vcm.py). No conditions.
-/
import Derived.Test.YtcncappgheopgaaGreatMdj
namespace Go.Proofs.YtcncappgheopgaaGreat
set_option linter.unusedVariables false
def m_law18_given (x00_0 x00_1 x00_2 x00_3 : Int) (x00_4 x00_5 x00_6 x00_7 x00_8 x00_9 : BitVec 32) (x00_10 : List (Sapi_Item)) : Option (Int × Int × Int × Int × (BitVec 32) × (BitVec 32) × (BitVec 32) × (BitVec 32) × (BitVec 32) × (BitVec 32) × (List (Sapi_Item))) :=
  some (x00_0, x00_1, x00_2, x00_3, x00_4, x00_5, x00_6, x00_7, x00_8, x00_9, x00_10)
def m_law18_all : Option ((List (Bool))) :=
  some (([true, true, true, true, true, true] : List (Bool)))
def m_law18_spoilt_j2 (x01 : List (Int)) (x26 : List (List (BitVec 8))) (x29 : List (Bool)) (x30 : Int) (r1 : (List (List (BitVec 8))) -> (List (Bool)) -> Int -> Option ((List (List (BitVec 8))) × (List (Bool)))) : Option ((List (List (BitVec 8))) × (List (Bool))) :=
  Option.bind (idx x01 x30) fun x40 =>
  Option.bind (rmi (andi x40 (7 : Int)) (6 : Int)) fun x41 =>
  Option.bind (idx x01 x30) fun x44 =>
  if (0 : Int) < (andi x44 (64 : Int)) then
    Option.bind (idx x29 x41) fun x47 =>
    Option.bind (upd x29 x41 false) fun x48 =>
    Option.bind (ck (x30 + (2 : Int))) fun x50 =>
    r1 x26 x48 x50
  else
    Option.bind (idx x26 x41) fun x53 =>
    Option.bind (apd 1 ([] : List (BitVec 8)) x53) fun x57 =>
    if (0 : Int) < (x57.length : Int) then
      Option.bind (ck (x30 + (1 : Int))) fun x64 =>
      Option.bind (idx x01 x64) fun x65 =>
      Option.bind (rmi x65 (x57.length : Int)) fun x66 =>
      Option.bind (ck (x66 + (x57.length : Int))) fun x67 =>
      Option.bind (rmi x67 (x57.length : Int)) fun x68 =>
      Option.bind (idx x57 x68) fun x69 =>
      Option.bind (idx x01 x30) fun x70 =>
      Option.bind (shri x70 (7 : Nat)) fun x71 =>
      Option.bind (idx x57 x68) fun x72 =>
      Option.bind (upd x57 x68 (x69 ^^^ ((BitVec.ofInt 8 x71) ||| 1#8))) fun x73 =>
      Option.bind (idx x26 x41) fun x135 =>
      Option.bind (upd x26 x41 x73) fun x141 =>
      Option.bind (ck (x30 + (2 : Int))) fun x145 =>
      r1 x141 x29 x145
    else
      Option.bind (idx x26 x41) fun x147 =>
      Option.bind (upd x26 x41 x57) fun x153 =>
      Option.bind (ck (x30 + (2 : Int))) fun x157 =>
      r1 x153 x29 x157
def m_law18_spoilt_j0 (x19 : List (List (BitVec 8))) (x22 : List (Bool)) : Option ((List (List (BitVec 8))) × (List (Bool))) :=
  some (x19, x22)
def m_law18_spoilt_l1 (x01 : List (Int)) : Nat -> (List (List (BitVec 8))) -> (List (Bool)) -> Int -> Option ((List (List (BitVec 8))) × (List (Bool)))
  | 0, _, _, _ => none
  | q31 + 1, x26, x29, x30 =>
    Option.bind (ck (x30 + (1 : Int))) fun x35 =>
    if x35 < (x01.length : Int) then
      if x30 < (8 : Int) then
        m_law18_spoilt_j2 x01 x26 x29 x30 (m_law18_spoilt_l1 x01 q31)
      else
        m_law18_spoilt_j0 x26 x29
    else
      m_law18_spoilt_j0 x26 x29
def m_law18_spoilt (x00 : List (List (BitVec 8))) (x01 : List (Int)) : Option ((List (List (BitVec 8))) × (List (Bool))) :=
  Option.bind (apd 24 ([] : List (List (BitVec 8))) x00) fun x5 =>
  Option.bind (m_law18_all) fun x10 =>
  m_law18_spoilt_l1 x01 forever x5 x10 (0 : Int)
def m_law18_light_j0 (x00 : List (List (BitVec 8))) (x01_10 : List (Sapi_Item)) : Option (Bool) :=
  if (x00.length : Int) <= (8 : Int) then
    some ((decide ((x01_10.length : Int) <= (30 : Int))))
  else
    some (false)
def m_law18_light_l1 (x00 : List (List (BitVec 8))) (x01_10 : List (Sapi_Item)) : Nat -> Int -> Option (Bool)
  | 0, _ => none
  | q6 + 1, x5 =>
    if x5 < (x00.length : Int) then
      Option.bind (idx x00 x5) fun x14 =>
      if (1000 : Int) < (x14.length : Int) then
        some (false)
      else
        Option.bind (ck (x5 + (1 : Int))) fun x21 =>
        (m_law18_light_l1 x00 x01_10 q6) x21
    else
      m_law18_light_j0 x00 x01_10
def m_law18_light (x00 : List (List (BitVec 8))) (x01_0 x01_1 x01_2 x01_3 : Int) (x01_4 x01_5 x01_6 x01_7 x01_8 x01_9 : BitVec 32) (x01_10 : List (Sapi_Item)) : Option (Bool) :=
  m_law18_light_l1 x00 x01_10 forever (0 : Int)
def m_law18_awake : Option (Bool) :=
  Option.bind (m_ecread_Exclude (6 : Int)) fun x3 =>
  Option.bind (m_ecread_Exclude (7 : Int)) fun x11 =>
  Option.bind (m_ecread_Exclude (21 : Int)) fun x19 =>
  Option.bind (m_ecread_Read (0 : Int) (0 : Int) (0 : Int) (0 : Int) 0#32 0#32 0#32 0#32 0#32 0#32 ([] : List (Sapi_Item)) ([] : List (List (BitVec 8))) ([] : List (Bool)) 0#64 0#32 (0 : Int) (0 : Int)) fun x28 =>
  Option.bind (m_ecread_Exclude (0 : Int)) fun x38 =>
  if (x38.length : Int) = (0 : Int) then
    if (x3.length : Int) = (1 : Int) then
      Option.bind (idx x3 (0 : Int)) fun x48 =>
      if x48 = (5 : Int) then
        if (x11.length : Int) = (2 : Int) then
          Option.bind (idx x11 (0 : Int)) fun x51 =>
          if x51 = (0 : Int) then
            Option.bind (idx x11 (1 : Int)) fun x53 =>
            if x53 = (1 : Int) then
              if (x19.length : Int) = (2 : Int) then
                Option.bind (idx x19 (0 : Int)) fun x56 =>
                if x56 = (4 : Int) then
                  Option.bind (idx x19 (1 : Int)) fun x58 =>
                  if x58 = (5 : Int) then
                    some ((x28.2.2.2.2 == (1 : Int)))
                  else
                    some (false)
                else
                  some (false)
              else
                some (false)
            else
              some (false)
          else
            some (false)
        else
          some (false)
      else
        some (false)
    else
      some (false)
  else
    some (false)
end Go.Proofs.YtcncappgheopgaaGreat
