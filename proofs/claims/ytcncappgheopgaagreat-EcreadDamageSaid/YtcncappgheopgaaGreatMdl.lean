/- A part of the proof. Conditions: as each theorem says. -/
import Derived.Test.YtcncappgheopgaaGreatMdk
namespace Go.Proofs.YtcncappgheopgaaGreat
set_option linter.unusedVariables false
def m_r05_Split_j2 (x46 : List By) : Option ((List By)) :=
  some (x46)
def m_r05_Split_l3 (x00 : By) : Nat -> (List By) -> Int -> Option ((List By))
  | 0, _, _ => none
  | q57 + 1, x52, x56 =>
    if x56 < (x00.length : Int) then
      (m_r05_Place x56).bind fun x64 =>
      (idx x52 x64.1).bind fun x67 =>
      (idx x00 x56).bind fun x70 =>
      (idx x67 x64.2.1).bind fun x71 =>
      (upd x67 x64.2.1 x70).bind fun x72 =>
      (upd x52 x64.1 x72).bind fun x73 =>
      (ck (x56 + (1 : Int))).bind fun x75 =>
      (m_r05_Split_l3 x00 q57) x73 x75
    else
      m_r05_Split_j2 x52
def m_r05_Split_j0 (x00 : By) (x8 : List By) : Option ((List By)) :=
  m_r05_Split_l3 x00 forever x8 (0 : Int)
def m_r05_Split_l1 (x00 : By) : Nat -> (List By) -> Int -> Option ((List By))
  | 0, _, _ => none
  | q26 + 1, x20, x25 =>
    if x25 < (4 : Int) then
      (m_r05_Size (x00.length : Int)).bind fun x33 =>
      (mks 1 x33 0#8).bind fun x36 =>
      (apd 24 x20 ([x36] : List By)).bind fun x38 =>
      (ck (x25 + (1 : Int))).bind fun x45 =>
      (m_r05_Split_l1 x00 q26) x38 x45
    else
      m_r05_Split_j0 x00 x20
def m_r05_Split (x00 : By) : Option ((List By)) :=
  m_r05_Split_l1 x00 forever ([] : List By) (0 : Int)
def m_r17_Make_j1 (x00 : By) (v0 v1 v2 : Int) (x10 : List Sapi_Item) (x65 : List By) (x70 x71 x72 x73 x74 x75 : BitVec 32) : Option ((List By) × Int × Int × Int × Int × (BitVec 32) × (BitVec 32) × (BitVec 32) × (BitVec 32) × (BitVec 32) × (BitVec 32) × (List Sapi_Item) × Int) :=
  some (x65, v0, v1, v2, (x00.length : Int), x70, x71, x72, x73, x74, x75, x10, (0 : Int))
def m_r17_Make_l2 (x00 : By) (v0 v1 v2 : Int) (x10 : List Sapi_Item) (x65 : List By) : Nat -> (BitVec 32) -> (BitVec 32) -> (BitVec 32) -> (BitVec 32) -> (BitVec 32) -> (BitVec 32) -> Int -> Option ((List By) × Int × Int × Int × Int × (BitVec 32) × (BitVec 32) × (BitVec 32) × (BitVec 32) × (BitVec 32) × (BitVec 32) × (List Sapi_Item) × Int)
  | 0, _, _, _, _, _, _, _ => none
  | q85 + 1, x78, x79, x80, x81, x82, x83, x84 =>
    if x84 < (6 : Int) then
      (idx x65 x84).bind fun x92 =>
      (m_r01_Sum x92).bind fun x96 =>
      (idx ([x78, x79, x80, x81, x82, x83] : List (BitVec 32)) x84).bind fun x98 =>
      (upd ([x78, x79, x80, x81, x82, x83] : List (BitVec 32)) x84 x96).bind fun x99 =>
      (ck (x84 + (1 : Int))).bind fun x101 =>
      (m_r17_Make_l2 x00 v0 v1 v2 x10 x65 q85) (x99.getD 0 0#32) (x99.getD 1 0#32) (x99.getD 2 0#32) (x99.getD 3 0#32) (x99.getD 4 0#32) (x99.getD 5 0#32) x101
    else
      m_r17_Make_j1 x00 v0 v1 v2 x10 x65 x78 x79 x80 x81 x82 x83
def m_r17_Make_j0 (x00 : By) (v0 v1 v2 : Int) (x10 : List Sapi_Item) : Option ((List By) × Int × Int × Int × Int × (BitVec 32) × (BitVec 32) × (BitVec 32) × (BitVec 32) × (BitVec 32) × (BitVec 32) × (List Sapi_Item) × Int) :=
  (m_r17_Valid v0 v1 v2 (x00.length : Int) 0#32 0#32 0#32 0#32 0#32 0#32 x10).bind fun x20 =>
  if x20 = true then
    (m_r05_Split x00).bind fun x24 =>
    (m_r04_Encode x24).bind fun x43 =>
    (apd 24 x24 x43.1).bind fun x65 =>
    m_r17_Make_l2 x00 v0 v1 v2 x10 x65 forever 0#32 0#32 0#32 0#32 0#32 0#32 (0 : Int)
  else
    some (([] : List By), (0 : Int), (0 : Int), (0 : Int), (0 : Int), 0#32, 0#32, 0#32, 0#32, 0#32, 0#32, ([] : List Sapi_Item), (1 : Int))
def m_r17_Make (x00 : By) (v0 v1 v2 : Int) (x02 : List Sapi_Item) : Option ((List By) × Int × Int × Int × Int × (BitVec 32) × (BitVec 32) × (BitVec 32) × (BitVec 32) × (BitVec 32) × (BitVec 32) × (List Sapi_Item) × Int) :=
  (apd 32 ([] : List Sapi_Item) x02).bind fun x14 =>
  m_r17_Make_j0 x00 v0 v1 v2 x14
def m_law18_made_j3 (x23 : By) (x24 : Int) (x33 : Sapi_Needle) (r1 : By -> Int -> Option (By × (List Sneedlestoreref09_Record) × Int × Int × Int × Int × (BitVec 32) × (BitVec 32) × (BitVec 32) × (BitVec 32) × (BitVec 32) × (BitVec 32) × (List Sapi_Item) × (List By))) (x41 : By) : Option (By × (List Sneedlestoreref09_Record) × Int × Int × Int × Int × (BitVec 32) × (BitVec 32) × (BitVec 32) × (BitVec 32) × (BitVec 32) × (BitVec 32) × (List Sapi_Item) × (List By)) :=
  if x33.fDeleted = true then
    (m_r06_Encode (x33.fKey &&& 15#64) x33.fCookie x33.fDeleted ([] : By)).bind fun x54 =>
    (apd 1 x23 x54.1).bind fun x63 =>
    (ck (x24 + (1 : Int))).bind fun x67 =>
    r1 x63 x67
  else
    (m_r06_Encode (x33.fKey &&& 15#64) x33.fCookie x33.fDeleted x41).bind fun x70 =>
    (apd 1 x23 x70.1).bind fun x79 =>
    (ck (x24 + (1 : Int))).bind fun x83 =>
    r1 x79 x83
def m_law18_made_j2 (x00 : List Sapi_Needle) (x23 : By) (x24 : Int) (r1 : By -> Int -> Option (By × (List Sneedlestoreref09_Record) × Int × Int × Int × Int × (BitVec 32) × (BitVec 32) × (BitVec 32) × (BitVec 32) × (BitVec 32) × (BitVec 32) × (List Sapi_Item) × (List By))) : Option (By × (List Sneedlestoreref09_Record) × Int × Int × Int × Int × (BitVec 32) × (BitVec 32) × (BitVec 32) × (BitVec 32) × (BitVec 32) × (BitVec 32) × (List Sapi_Item) × (List By)) :=
  (idx x00 x24).bind fun x33 =>
  if (200 : Int) < (x33.fData.length : Int) then
    (slc x33.fData 0 (200 : Int)).bind fun x47 =>
    m_law18_made_j3 x23 x24 x33 r1 x47
  else
    m_law18_made_j3 x23 x24 x33 r1 x33.fData
def m_law18_made_j0 (x17 : By) : Option (By × (List Sneedlestoreref09_Record) × Int × Int × Int × Int × (BitVec 32) × (BitVec 32) × (BitVec 32) × (BitVec 32) × (BitVec 32) × (BitVec 32) × (List Sapi_Item) × (List By)) :=
  (m_r09_Open x17).bind fun x85 =>
  (m_r09_Items x85.2.2.2.1).bind fun x107 =>
  (m_r17_Make x17 (1 : Int) (2 : Int) (3 : Int) x107).bind fun x115 =>
  some (x17, x85.2.2.2.1, x115.2.1, x115.2.2.1, x115.2.2.2.1, x115.2.2.2.2.1, x115.2.2.2.2.2.1, x115.2.2.2.2.2.2.1, x115.2.2.2.2.2.2.2.1, x115.2.2.2.2.2.2.2.2.1, x115.2.2.2.2.2.2.2.2.2.1, x115.2.2.2.2.2.2.2.2.2.2.1, x115.2.2.2.2.2.2.2.2.2.2.2.1, x115.1)
def m_law18_made_l1 (x00 : List Sapi_Needle) : Nat -> By -> Int -> Option (By × (List Sneedlestoreref09_Record) × Int × Int × Int × Int × (BitVec 32) × (BitVec 32) × (BitVec 32) × (BitVec 32) × (BitVec 32) × (BitVec 32) × (List Sapi_Item) × (List By))
  | 0, _, _ => none
  | q25 + 1, x23, x24 =>
    if x24 < (x00.length : Int) then
      if x24 < (10 : Int) then
        m_law18_made_j2 x00 x23 x24 (m_law18_made_l1 x00 q25)
      else
        m_law18_made_j0 x23
    else
      m_law18_made_j0 x23
def m_law18_made (x00 : List Sapi_Needle) : Option (By × (List Sneedlestoreref09_Record) × Int × Int × Int × Int × (BitVec 32) × (BitVec 32) × (BitVec 32) × (BitVec 32) × (BitVec 32) × (BitVec 32) × (List Sapi_Item) × (List By)) :=
  (m_r07_Encode (1 : Int) (2 : Int) (3 : Int)).bind fun x6 =>
  m_law18_made_l1 x00 forever x6.1 (0 : Int)
end Go.Proofs.YtcncappgheopgaaGreat
