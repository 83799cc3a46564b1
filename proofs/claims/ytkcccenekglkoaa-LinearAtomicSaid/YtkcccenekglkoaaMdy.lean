/-
  Models of functions of the program (y): what each computes, as an option. Printed by a program of ours (vcm.py). No conditions.
-/
import Derived.Test.YtkcccenekglkoaaMdzb
import Derived.Test.YtkcccenekglkoaaMq
namespace Go.Proofs.Ytkcccenekglkoaa
set_option linter.unusedVariables false
def m_history_Only_j2 (x56 : List (Shistory_Op)) : Option ((List (Shistory_Op))) :=
  some (x56)
def m_history_Only_l3 (x11 : List (Shistory_Op)) : Nat -> (List (Shistory_Op)) -> Int -> Option ((List (Shistory_Op)))
  | 0, _, _ => none
  | q66 + 1, x62, x65 =>
    if x65 < (x11.length : Int) then
      Option.bind (idx x62 x65) fun x73 =>
      Option.bind (m_bytes_Clone x73.fData) fun x79 =>
      Option.bind (m_bytes_Clone x73.fGot) fun x87 =>
      Option.bind (idx x62 x65) fun x95 =>
      Option.bind (idx x62 x65) fun x99 =>
      Option.bind (upd x62 x65 ({ x99 with fData := x79 } : Shistory_Op)) fun x100 =>
      Option.bind (idx x100 x65) fun x108 =>
      Option.bind (idx x100 x65) fun x112 =>
      Option.bind (upd x100 x65 ({ x112 with fGot := x87 } : Shistory_Op)) fun x113 =>
      Option.bind (ck (x65 + (1 : Int))) fun x122 =>
      (m_history_Only_l3 x11 q66) x113 x122
    else
      m_history_Only_j2 x62
def m_history_Only_j0 (x11 : List (Shistory_Op)) : Option ((List (Shistory_Op))) :=
  m_history_Only_l3 x11 forever x11 (0 : Int)
def m_history_Only_l1 (x00 : List (Shistory_Op)) (x01 : BitVec 64) : Nat -> (List (Shistory_Op)) -> Int -> Option ((List (Shistory_Op)))
  | 0, _, _ => none
  | q25 + 1, x21, x24 =>
    if x24 < (x00.length : Int) then
      Option.bind (idx x00 x24) fun x32 =>
      if x32.fKey = x01 then
        Option.bind (apd 112 x21 ([x32] : List (Shistory_Op))) fun x45 =>
        Option.bind (ck (x24 + (1 : Int))) fun x51 =>
        (m_history_Only_l1 x00 x01 q25) x45 x51
      else
        Option.bind (ck (x24 + (1 : Int))) fun x53 =>
        (m_history_Only_l1 x00 x01 q25) x21 x53
    else
      m_history_Only_j0 x21
def m_history_Only (x00 : List (Shistory_Op)) (x01 : BitVec 64) : Option ((List (Shistory_Op))) :=
  m_history_Only_l1 x00 x01 forever ([] : List (Shistory_Op)) (0 : Int)
def m_history_Keys_j5 (x72 : List (BitVec 64)) (x73 : Int) : Option ((List (BitVec 64))) :=
  Option.bind (slc x72 x73 (x72.length : Int)) fun x105 =>
  Option.bind (slc (clr x72 x73 0#64) 0 x73) fun x107 =>
  Option.bind (slc x107 0 (x107.length : Int)) fun x112 =>
  some (x112)
def m_history_Keys_l6 (x43 : List (BitVec 64)) (x58 : Int) : Nat -> (List (BitVec 64)) -> Int -> Int -> Option ((List (BitVec 64)))
  | 0, _, _, _ => none
  | q79 + 1, x76, x77, x78 =>
    Option.bind (slc x76 x58 (x43.length : Int)) fun x83 =>
    if x78 < (x83.length : Int) then
      Option.bind (slc x76 x58 (x43.length : Int)) fun x87 =>
      Option.bind (idx x87 x78) fun x88 =>
      Option.bind (ck (x78 - (1 : Int))) fun x89 =>
      Option.bind (slc x76 x58 (x43.length : Int)) fun x90 =>
      Option.bind (idx x90 x89) fun x91 =>
      if x88 = x91 then
        Option.bind (ck (x78 + (1 : Int))) fun x94 =>
        (m_history_Keys_l6 x43 x58 q79) x76 x77 x94
      else
        Option.bind (slc x76 x58 (x43.length : Int)) fun x96 =>
        Option.bind (idx x96 x78) fun x97 =>
        Option.bind (idx x76 x77) fun x98 =>
        Option.bind (upd x76 x77 x97) fun x99 =>
        Option.bind (ck (x77 + (1 : Int))) fun x101 =>
        Option.bind (ck (x78 + (1 : Int))) fun x103 =>
        (m_history_Keys_l6 x43 x58 q79) x99 x101 x103
    else
      m_history_Keys_j5 x76 x77
def m_history_Keys_j4 (x58 : Int) (r3 : Int -> Option ((List (BitVec 64)))) : Option ((List (BitVec 64))) :=
  Option.bind (ck (x58 + (1 : Int))) fun x115 =>
  r3 x115
def m_history_Keys_j2 (x43 : List (BitVec 64)) : Option ((List (BitVec 64))) :=
  Option.bind (slc x43 0 (x43.length : Int)) fun x121 =>
  some (x121)
def m_history_Keys_l3 (x43 : List (BitVec 64)) : Nat -> Int -> Option ((List (BitVec 64)))
  | 0, _ => none
  | q59 + 1, x58 =>
    if x58 < (x43.length : Int) then
      Option.bind (idx x43 x58) fun x66 =>
      Option.bind (ck (x58 - (1 : Int))) fun x67 =>
      Option.bind (idx x43 x67) fun x68 =>
      if x66 = x68 then
        Option.bind (slc x43 x58 (x43.length : Int)) fun x71 =>
        m_history_Keys_l6 x43 x58 forever x43 x58 (1 : Int)
      else
        m_history_Keys_j4 x58 (m_history_Keys_l3 x43 q59)
    else
      m_history_Keys_j2 x43
def m_history_Keys_j0 (x10 : List (BitVec 64)) : Option ((List (BitVec 64))) :=
  Option.bind (m_slices_Sort_uint64_uint64 x10) fun x43 =>
  if (x43.length : Int) < (2 : Int) then
    Option.bind (slc x43 0 (x43.length : Int)) fun x54 =>
    some (x54)
  else
    m_history_Keys_l3 x43 forever (1 : Int)
def m_history_Keys_l1 (x00 : List (Shistory_Op)) : Nat -> (List (BitVec 64)) -> Int -> Option ((List (BitVec 64)))
  | 0, _, _ => none
  | q20 + 1, x18, x19 =>
    if x19 < (x00.length : Int) then
      Option.bind (idx x00 x19) fun x27 =>
      Option.bind (apd 8 x18 ([x27.fKey] : List (BitVec 64))) fun x37 =>
      Option.bind (ck (x19 + (1 : Int))) fun x41 =>
      (m_history_Keys_l1 x00 q20) x37 x41
    else
      m_history_Keys_j0 x18
def m_history_Keys (x00 : List (Shistory_Op)) : Option ((List (BitVec 64))) :=
  m_history_Keys_l1 x00 forever ([] : List (BitVec 64)) (0 : Int)
end Go.Proofs.Ytkcccenekglkoaa
