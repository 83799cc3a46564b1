/-
  Models of functions of the program (c): what each computes, as an option. Printed by a program of ours (vcm.py). No conditions.
-/
import Derived.Test.YtpebhdepmbnjbaaMdb
namespace Go.Proofs.Ytpebhdepmbnjbaa
set_option linter.unusedVariables false

def m_law24_light_j0 (x00 : List (Sneedlestoreref24_Event)) : Option (Bool) :=
  some ((decide ((x00.length : Int) ≤ (60 : Int))))
def m_law24_light_l1 (x00 : List (Sneedlestoreref24_Event)) : Nat → Int → Option (Bool)
  | 0, _ => none
  | q5 + 1, x4 =>
    if x4 < (x00.length : Int) then
      Option.bind (idx x00 x4) fun x13 =>
      if (200 : Int) < (x13.fData.length : Int) then
        some (false)
      else
        Option.bind (ck (x4 + (1 : Int))) fun x20 =>
        (m_law24_light_l1 x00 q5) x20
    else
      m_law24_light_j0 x00
def m_law24_light (x00 : List (Sneedlestoreref24_Event)) : Option (Bool) :=
  m_law24_light_l1 x00 forever (0 : Int)

def m_law24_given_j0 (x8 : List (Shistory_Event)) : Option ((List (Shistory_Event))) :=
  some (x8)
def m_law24_given_l1 (x00 : List (Sneedlestoreref24_Event)) : Nat → (List (Shistory_Event)) → Int → Option ((List (Shistory_Event)))
  | 0, _, _ => none
  | q22 + 1, x18, x21 =>
    if x21 < (x00.length : Int) then
      Option.bind (idx x00 x21) fun x29 =>
      Option.bind (apd 72 x18 ([(Shistory_Event.mk x29.fKind x29.fClient x29.fOp x29.fKey x29.fCookie x29.fData x29.fResult)] : List (Shistory_Event))) fun x37 =>
      Option.bind (ck (x21 + (1 : Int))) fun x43 =>
      (m_law24_given_l1 x00 q22) x37 x43
    else
      m_law24_given_j0 x18
def m_law24_given (x00 : List (Sneedlestoreref24_Event)) : Option ((List (Shistory_Event))) :=
  m_law24_given_l1 x00 forever ([] : List (Shistory_Event)) (0 : Int)

def m_law24_told_j0 (x8 : List (Sneedlestoreref24_Op)) : Option ((List (Sneedlestoreref24_Op))) :=
  some (x8)
def m_law24_told_l1 (x00 : List (Shistory_Op)) : Nat → (List (Sneedlestoreref24_Op)) → Int → Option ((List (Sneedlestoreref24_Op)))
  | 0, _, _ => none
  | q22 + 1, x18, x21 =>
    if x21 < (x00.length : Int) then
      Option.bind (idx x00 x21) fun x29 =>
      Option.bind (apd 112 x18 ([(Sneedlestoreref24_Op.mk x29.fClient x29.fKind x29.fKey x29.fCookie x29.fData x29.fGot x29.fCall x29.fReturn x29.fClosed x29.fResult)] : List (Sneedlestoreref24_Op))) fun x37 =>
      Option.bind (ck (x21 + (1 : Int))) fun x43 =>
      (m_law24_told_l1 x00 q22) x37 x43
    else
      m_law24_told_j0 x18
def m_law24_told (x00 : List (Shistory_Op)) : Option ((List (Sneedlestoreref24_Op))) :=
  m_law24_told_l1 x00 forever ([] : List (Sneedlestoreref24_Op)) (0 : Int)

def m_law24_made_j3 (x20 : List (Sneedlestoreref24_Event)) (x27 : List (Int × Bool)) (x29 : Int) (x38 : Sneedlestoreref24_Event) (r1 : (List (Sneedlestoreref24_Event)) → (List (Int × Bool)) → Int → Option ((List (Sneedlestoreref24_Event)))) (x46 : List (BitVec 8)) : Option ((List (Sneedlestoreref24_Event))) :=
  Option.bind (rmi (andi x38.fClient (3 : Int)) (3 : Int)) fun x54 =>
  Option.bind (rmi (andi x38.fOp (3 : Int)) (3 : Int)) fun x55 =>
  Option.bind (ck ((1 : Int) + x55)) fun x56 =>
  if (andi x38.fKind (15 : Int)) = (3 : Int) then
    Option.bind (apd 72 x20 ([(Sneedlestoreref24_Event.mk (3 : Int) x54 x56 (x38.fKey &&& 3#64) x38.fCookie x46 x38.fResult)] : List (Sneedlestoreref24_Event))) fun x65 =>
    Option.bind (ck (x29 + (1 : Int))) fun x71 =>
    r1 x65 ([] : List (Int × Bool)) x71
  else
    if ((mget x27 x54).getD false) = true then
      Option.bind (apd 72 x20 ([(Sneedlestoreref24_Event.mk (2 : Int) x54 x56 (x38.fKey &&& 3#64) x38.fCookie x46 x38.fResult)] : List (Sneedlestoreref24_Event))) fun x81 =>
      Option.bind (ck (x29 + (1 : Int))) fun x87 =>
      r1 x81 (mset x27 x54 false) x87
    else
      Option.bind (apd 72 x20 ([(Sneedlestoreref24_Event.mk (1 : Int) x54 x56 (x38.fKey &&& 3#64) x38.fCookie x46 x38.fResult)] : List (Sneedlestoreref24_Event))) fun x95 =>
      Option.bind (ck (x29 + (1 : Int))) fun x101 =>
      r1 x95 (mset x27 x54 true) x101
def m_law24_made_j2 (x00 : List (Sneedlestoreref24_Event)) (x20 : List (Sneedlestoreref24_Event)) (x27 : List (Int × Bool)) (x29 : Int) (r1 : (List (Sneedlestoreref24_Event)) → (List (Int × Bool)) → Int → Option ((List (Sneedlestoreref24_Event)))) : Option ((List (Sneedlestoreref24_Event))) :=
  Option.bind (idx x00 x29) fun x38 =>
  if (20 : Int) < (x38.fData.length : Int) then
    Option.bind (slc x38.fData 0 (20 : Int)) fun x52 =>
    m_law24_made_j3 x20 x27 x29 x38 r1 x52
  else
    m_law24_made_j3 x20 x27 x29 x38 r1 x38.fData
def m_law24_made_j0 (x10 : List (Sneedlestoreref24_Event)) : Option ((List (Sneedlestoreref24_Event))) :=
  some (x10)
def m_law24_made_l1 (x00 : List (Sneedlestoreref24_Event)) : Nat → (List (Sneedlestoreref24_Event)) → (List (Int × Bool)) → Int → Option ((List (Sneedlestoreref24_Event)))
  | 0, _, _, _ => none
  | q30 + 1, x20, x27, x29 =>
    if x29 < (x00.length : Int) then
      if x29 < (30 : Int) then
        m_law24_made_j2 x00 x20 x27 x29 (m_law24_made_l1 x00 q30)
      else
        m_law24_made_j0 x20
    else
      m_law24_made_j0 x20
def m_law24_made (x00 : List (Sneedlestoreref24_Event)) : Option ((List (Sneedlestoreref24_Event))) :=
  m_law24_made_l1 x00 forever ([] : List (Sneedlestoreref24_Event)) ([] : List (Int × Bool)) (0 : Int)

def m_law24_awake : Option (Bool) :=
  Option.bind (m_history_Build ([] : List (Shistory_Event))) fun x3 =>
  Option.bind (m_history_Build ([(Shistory_Event.mk (2 : Int) (0 : Int) (0 : Int) 0#64 0#32 ([] : List (BitVec 8)) (0 : Int))] : List (Shistory_Event))) fun x24 =>
  Option.bind (m_history_Build ([(Shistory_Event.mk (1 : Int) (0 : Int) (3 : Int) 0#64 0#32 ([] : List (BitVec 8)) (0 : Int)), (Shistory_Event.mk (3 : Int) (0 : Int) (0 : Int) 0#64 0#32 ([] : List (BitVec 8)) (0 : Int))] : List (Shistory_Event))) fun x47 =>
  if (x3.1.length : Int) = (0 : Int) then
    if x3.2 = (0 : Int) then
      if x24.2 = (3 : Int) then
        if x47.2 = (0 : Int) then
          if (x47.1.length : Int) = (1 : Int) then
            Option.bind (idx x47.1 (0 : Int)) fun x73 =>
            if x73.fReturn = (-1 : Int) then
              Option.bind (idx x47.1 (0 : Int)) fun x78 =>
              some ((x78.fClosed == (1 : Int)))
            else
              some (false)
          else
            some (false)
        else
          some (false)
      else
        some (false)
    else
      some (false)
  else
    some (false)

end Go.Proofs.Ytpebhdepmbnjbaa
