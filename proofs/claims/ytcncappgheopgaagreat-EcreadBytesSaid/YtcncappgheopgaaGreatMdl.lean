/-
  Models of functions of the program (l): what each computes, as an option. Printed by a program of ours (vcm.py). No conditions.
-/
import Derived.Test.YtcncappgheopgaaGreatMdk
namespace Go.Proofs.YtcncappgheopgaaGreat
set_option linter.unusedVariables false
def m_r05_Split_j2 (x46 : List (List (BitVec 8))) : Option ((List (List (BitVec 8)))) :=
  some (x46)
def m_r05_Split_l3 (x00 : List (BitVec 8)) : Nat -> (List (List (BitVec 8))) -> Int -> Option ((List (List (BitVec 8))))
  | 0, _, _ => none
  | q57 + 1, x52, x56 =>
    if x56 < (x00.length : Int) then
      Option.bind (m_r05_Place x56) fun x64 =>
      Option.bind (idx x52 x64.1) fun x67 =>
      Option.bind (idx x00 x56) fun x70 =>
      Option.bind (idx x67 x64.2.1) fun x71 =>
      Option.bind (upd x67 x64.2.1 x70) fun x72 =>
      Option.bind (upd x52 x64.1 x72) fun x73 =>
      Option.bind (ck (x56 + (1 : Int))) fun x75 =>
      (m_r05_Split_l3 x00 q57) x73 x75
    else
      m_r05_Split_j2 x52
def m_r05_Split_j0 (x00 : List (BitVec 8)) (x8 : List (List (BitVec 8))) : Option ((List (List (BitVec 8)))) :=
  m_r05_Split_l3 x00 forever x8 (0 : Int)
def m_r05_Split_l1 (x00 : List (BitVec 8)) : Nat -> (List (List (BitVec 8))) -> Int -> Option ((List (List (BitVec 8))))
  | 0, _, _ => none
  | q26 + 1, x20, x25 =>
    if x25 < (4 : Int) then
      Option.bind (m_r05_Size (x00.length : Int)) fun x33 =>
      Option.bind (mks 1 x33 0#8) fun x36 =>
      Option.bind (apd 24 x20 ([x36] : List (List (BitVec 8)))) fun x38 =>
      Option.bind (ck (x25 + (1 : Int))) fun x45 =>
      (m_r05_Split_l1 x00 q26) x38 x45
    else
      m_r05_Split_j0 x00 x20
def m_r05_Split (x00 : List (BitVec 8)) : Option ((List (List (BitVec 8)))) :=
  m_r05_Split_l1 x00 forever ([] : List (List (BitVec 8))) (0 : Int)
def m_r17_Make_j1 (x00 : List (BitVec 8)) (x01_0 x01_1 x01_2 : Int) (x10 : List (Sapi_Item)) (x65 : List (List (BitVec 8))) (x70 x71 x72 x73 x74 x75 : BitVec 32) : Option ((List (List (BitVec 8))) × Int × Int × Int × Int × (BitVec 32) × (BitVec 32) × (BitVec 32) × (BitVec 32) × (BitVec 32) × (BitVec 32) × (List (Sapi_Item)) × Int) :=
  some (x65, x01_0, x01_1, x01_2, (x00.length : Int), x70, x71, x72, x73, x74, x75, x10, (0 : Int))
def m_r17_Make_l2 (x00 : List (BitVec 8)) (x01_0 x01_1 x01_2 : Int) (x10 : List (Sapi_Item)) (x65 : List (List (BitVec 8))) : Nat -> (BitVec 32) -> (BitVec 32) -> (BitVec 32) -> (BitVec 32) -> (BitVec 32) -> (BitVec 32) -> Int -> Option ((List (List (BitVec 8))) × Int × Int × Int × Int × (BitVec 32) × (BitVec 32) × (BitVec 32) × (BitVec 32) × (BitVec 32) × (BitVec 32) × (List (Sapi_Item)) × Int)
  | 0, _, _, _, _, _, _, _ => none
  | q85 + 1, x78, x79, x80, x81, x82, x83, x84 =>
    if x84 < (6 : Int) then
      Option.bind (idx x65 x84) fun x92 =>
      Option.bind (m_r01_Sum x92) fun x96 =>
      Option.bind (idx ([x78, x79, x80, x81, x82, x83] : List (BitVec 32)) x84) fun x98 =>
      Option.bind (upd ([x78, x79, x80, x81, x82, x83] : List (BitVec 32)) x84 x96) fun x99 =>
      Option.bind (ck (x84 + (1 : Int))) fun x101 =>
      (m_r17_Make_l2 x00 x01_0 x01_1 x01_2 x10 x65 q85) (x99.getD 0 0#32) (x99.getD 1 0#32) (x99.getD 2 0#32) (x99.getD 3 0#32) (x99.getD 4 0#32) (x99.getD 5 0#32) x101
    else
      m_r17_Make_j1 x00 x01_0 x01_1 x01_2 x10 x65 x78 x79 x80 x81 x82 x83
def m_r17_Make_j0 (x00 : List (BitVec 8)) (x01_0 x01_1 x01_2 : Int) (x10 : List (Sapi_Item)) : Option ((List (List (BitVec 8))) × Int × Int × Int × Int × (BitVec 32) × (BitVec 32) × (BitVec 32) × (BitVec 32) × (BitVec 32) × (BitVec 32) × (List (Sapi_Item)) × Int) :=
  Option.bind (m_r17_Valid x01_0 x01_1 x01_2 (x00.length : Int) 0#32 0#32 0#32 0#32 0#32 0#32 x10) fun x20 =>
  if x20 = true then
    Option.bind (m_r05_Split x00) fun x24 =>
    Option.bind (m_r04_Encode x24) fun x43 =>
    Option.bind (apd 24 x24 x43.1) fun x65 =>
    m_r17_Make_l2 x00 x01_0 x01_1 x01_2 x10 x65 forever 0#32 0#32 0#32 0#32 0#32 0#32 (0 : Int)
  else
    some (([] : List (List (BitVec 8))), (0 : Int), (0 : Int), (0 : Int), (0 : Int), 0#32, 0#32, 0#32, 0#32, 0#32, 0#32, ([] : List (Sapi_Item)), (1 : Int))
def m_r17_Make (x00 : List (BitVec 8)) (x01_0 x01_1 x01_2 : Int) (x02 : List (Sapi_Item)) : Option ((List (List (BitVec 8))) × Int × Int × Int × Int × (BitVec 32) × (BitVec 32) × (BitVec 32) × (BitVec 32) × (BitVec 32) × (BitVec 32) × (List (Sapi_Item)) × Int) :=
  Option.bind (apd 32 ([] : List (Sapi_Item)) x02) fun x14 =>
  m_r17_Make_j0 x00 x01_0 x01_1 x01_2 x14
def m_law18_made_j3 (x23 : List (BitVec 8)) (x24 : Int) (x33 : Sapi_Needle) (r1 : (List (BitVec 8)) -> Int -> Option ((List (BitVec 8)) × (List (Sneedlestoreref09_Record)) × Int × Int × Int × Int × (BitVec 32) × (BitVec 32) × (BitVec 32) × (BitVec 32) × (BitVec 32) × (BitVec 32) × (List (Sapi_Item)) × (List (List (BitVec 8))))) (x41 : List (BitVec 8)) : Option ((List (BitVec 8)) × (List (Sneedlestoreref09_Record)) × Int × Int × Int × Int × (BitVec 32) × (BitVec 32) × (BitVec 32) × (BitVec 32) × (BitVec 32) × (BitVec 32) × (List (Sapi_Item)) × (List (List (BitVec 8)))) :=
  if x33.fDeleted = true then
    Option.bind (m_r06_Encode (x33.fKey &&& 15#64) x33.fCookie x33.fDeleted ([] : List (BitVec 8))) fun x54 =>
    Option.bind (apd 1 x23 x54.1) fun x63 =>
    Option.bind (ck (x24 + (1 : Int))) fun x67 =>
    r1 x63 x67
  else
    Option.bind (m_r06_Encode (x33.fKey &&& 15#64) x33.fCookie x33.fDeleted x41) fun x70 =>
    Option.bind (apd 1 x23 x70.1) fun x79 =>
    Option.bind (ck (x24 + (1 : Int))) fun x83 =>
    r1 x79 x83
def m_law18_made_j2 (x00 : List (Sapi_Needle)) (x23 : List (BitVec 8)) (x24 : Int) (r1 : (List (BitVec 8)) -> Int -> Option ((List (BitVec 8)) × (List (Sneedlestoreref09_Record)) × Int × Int × Int × Int × (BitVec 32) × (BitVec 32) × (BitVec 32) × (BitVec 32) × (BitVec 32) × (BitVec 32) × (List (Sapi_Item)) × (List (List (BitVec 8))))) : Option ((List (BitVec 8)) × (List (Sneedlestoreref09_Record)) × Int × Int × Int × Int × (BitVec 32) × (BitVec 32) × (BitVec 32) × (BitVec 32) × (BitVec 32) × (BitVec 32) × (List (Sapi_Item)) × (List (List (BitVec 8)))) :=
  Option.bind (idx x00 x24) fun x33 =>
  if (200 : Int) < (x33.fData.length : Int) then
    Option.bind (slc x33.fData 0 (200 : Int)) fun x47 =>
    m_law18_made_j3 x23 x24 x33 r1 x47
  else
    m_law18_made_j3 x23 x24 x33 r1 x33.fData
def m_law18_made_j0 (x17 : List (BitVec 8)) : Option ((List (BitVec 8)) × (List (Sneedlestoreref09_Record)) × Int × Int × Int × Int × (BitVec 32) × (BitVec 32) × (BitVec 32) × (BitVec 32) × (BitVec 32) × (BitVec 32) × (List (Sapi_Item)) × (List (List (BitVec 8)))) :=
  Option.bind (m_r09_Open x17) fun x85 =>
  Option.bind (m_r09_Items x85.2.2.2.1) fun x107 =>
  Option.bind (m_r17_Make x17 (1 : Int) (2 : Int) (3 : Int) x107) fun x115 =>
  some (x17, x85.2.2.2.1, x115.2.1, x115.2.2.1, x115.2.2.2.1, x115.2.2.2.2.1, x115.2.2.2.2.2.1, x115.2.2.2.2.2.2.1, x115.2.2.2.2.2.2.2.1, x115.2.2.2.2.2.2.2.2.1, x115.2.2.2.2.2.2.2.2.2.1, x115.2.2.2.2.2.2.2.2.2.2.1, x115.2.2.2.2.2.2.2.2.2.2.2.1, x115.1)
def m_law18_made_l1 (x00 : List (Sapi_Needle)) : Nat -> (List (BitVec 8)) -> Int -> Option ((List (BitVec 8)) × (List (Sneedlestoreref09_Record)) × Int × Int × Int × Int × (BitVec 32) × (BitVec 32) × (BitVec 32) × (BitVec 32) × (BitVec 32) × (BitVec 32) × (List (Sapi_Item)) × (List (List (BitVec 8))))
  | 0, _, _ => none
  | q25 + 1, x23, x24 =>
    if x24 < (x00.length : Int) then
      if x24 < (10 : Int) then
        m_law18_made_j2 x00 x23 x24 (m_law18_made_l1 x00 q25)
      else
        m_law18_made_j0 x23
    else
      m_law18_made_j0 x23
def m_law18_made (x00 : List (Sapi_Needle)) : Option ((List (BitVec 8)) × (List (Sneedlestoreref09_Record)) × Int × Int × Int × Int × (BitVec 32) × (BitVec 32) × (BitVec 32) × (BitVec 32) × (BitVec 32) × (BitVec 32) × (List (Sapi_Item)) × (List (List (BitVec 8)))) :=
  Option.bind (m_r07_Encode (1 : Int) (2 : Int) (3 : Int)) fun x6 =>
  m_law18_made_l1 x00 forever x6.1 (0 : Int)
end Go.Proofs.YtcncappgheopgaaGreat
