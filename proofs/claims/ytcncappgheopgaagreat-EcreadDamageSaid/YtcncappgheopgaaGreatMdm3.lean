/- A part of the proof. Conditions: as each theorem says. -/
import Derived.Test.YtcncappgheopgaaGreatMdl
namespace Go.Proofs.YtcncappgheopgaaGreat
set_option linter.unusedVariables false
def m_law18_EcreadDamage_j2 (x95 : Int) (r1 : (List By) -> Int -> Option Bool) (x102 : List By) : Option Bool :=
  (ck (x95 + (1 : Int))).bind fun x147 =>
  r1 x102 x147
def m_law18_EcreadDamage_j3 (x92 : List By) (x95 x107 : Int) (r1 : (List By) -> Int -> Option Bool) (x117 : By) : Option Bool :=
  (idx x92 x107).bind fun x137 =>
  (upd x92 x107 x117).bind fun x143 =>
  m_law18_EcreadDamage_j2 x95 r1 x143
def m_law18_EcreadDamage_l4 (x04 : By) (x92 : List By) (x95 x107 : Int) (r1 : (List By) -> Int -> Option Bool) : Nat -> By -> Int -> Option Bool
  | 0, _, _ => none
  | q122 + 1, x120, x121 =>
    if x121 < (x120.length : Int) then
      if x121 < (x04.length : Int) then
        (idx x120 x121).bind fun x130 =>
        (idx x04 x121).bind fun x131 =>
        (idx x120 x121).bind fun x132 =>
        (upd x120 x121 (x130 ^^^ x131)).bind fun x133 =>
        (ck (x121 + (1 : Int))).bind fun x135 =>
        (m_law18_EcreadDamage_l4 x04 x92 x95 x107 r1 q122) x133 x135
      else
        m_law18_EcreadDamage_j3 x92 x95 x107 r1 x120
    else
      m_law18_EcreadDamage_j3 x92 x95 x107 r1 x120
def m_law18_EcreadDamage_j8 (x164 : List Sapi_Item) (x166 : Int) (r7 : (List Sapi_Item) -> Int -> Option Bool) : Option Bool :=
  (ck (x166 + (1 : Int))).bind fun x258 =>
  r7 x164 x258
def m_law18_EcreadDamage_j11 (x3 : By × (List Sneedlestoreref09_Record) × Int × Int × Int × Int × (BitVec 32) × (BitVec 32) × (BitVec 32) × (BitVec 32) × (BitVec 32) × (BitVec 32) × (List Sapi_Item) × (List By)) (x85 : List By) (x148 : List Bool) (x164 : List Sapi_Item) (x166 : Int) (x177 : Sneedlestoreref09_Record) (r7 : (List Sapi_Item) -> Int -> Option Bool) : Option Bool :=
  (m_law18_given x3.2.2.1 x3.2.2.2.1 x3.2.2.2.2.1 x3.2.2.2.2.2.1 x3.2.2.2.2.2.2.1 x3.2.2.2.2.2.2.2.1 x3.2.2.2.2.2.2.2.2.1 x3.2.2.2.2.2.2.2.2.2.1 x3.2.2.2.2.2.2.2.2.2.2.1 x3.2.2.2.2.2.2.2.2.2.2.2.1 x164).bind fun x212 =>
  (m_ecread_Read x212.1 x212.2.1 x212.2.2.1 x212.2.2.2.1 x212.2.2.2.2.1 x212.2.2.2.2.2.1 x212.2.2.2.2.2.2.1 x212.2.2.2.2.2.2.2.1 x212.2.2.2.2.2.2.2.2.1 x212.2.2.2.2.2.2.2.2.2.1 x212.2.2.2.2.2.2.2.2.2.2 x85 x148 x177.fNeedle.fKey x177.fNeedle.fCookie x177.fOff (x177.fNeedle.fData.length : Int)).bind fun x227 =>
  if x227.2.2.2.2 = (0 : Int) then
    (m_r06_Same x227.1 x227.2.1 x227.2.2.1 x227.2.2.2.1 x177.fNeedle.fKey x177.fNeedle.fCookie x177.fNeedle.fDeleted x177.fNeedle.fData).bind fun x252 =>
    if x252 = true then
      m_law18_EcreadDamage_j8 x164 x166 r7
    else
      some (false)
  else
    some (false)
def m_law18_EcreadDamage_j9 (x3 : By × (List Sneedlestoreref09_Record) × Int × Int × Int × Int × (BitVec 32) × (BitVec 32) × (BitVec 32) × (BitVec 32) × (BitVec 32) × (BitVec 32) × (List Sapi_Item) × (List By)) (x85 : List By) (x148 : List Bool) (x164 : List Sapi_Item) (x166 : Int) (x177 : Sneedlestoreref09_Record) (r7 : (List Sapi_Item) -> Int -> Option Bool) (x185 : Bool) : Option Bool :=
  if x185 = true then
    (m_law18_collides x3.1 x3.2.1 x3.2.2.1 x3.2.2.2.1 x3.2.2.2.2.1 x3.2.2.2.2.2.1 x3.2.2.2.2.2.2.1 x3.2.2.2.2.2.2.2.1 x3.2.2.2.2.2.2.2.2.1 x3.2.2.2.2.2.2.2.2.2.1 x3.2.2.2.2.2.2.2.2.2.2.1 x3.2.2.2.2.2.2.2.2.2.2.2.1 x164 x3.2.2.2.2.2.2.2.2.2.2.2.2.2 x85 x148 x177.fNeedle.fKey x177.fNeedle.fCookie x177.fOff (x177.fNeedle.fData.length : Int) x177.fNeedle.fKey x177.fNeedle.fCookie x177.fNeedle.fDeleted x177.fNeedle.fData).bind fun x208 =>
    if x208 = true then
      m_law18_EcreadDamage_j8 x164 x166 r7
    else
      m_law18_EcreadDamage_j11 x3 x85 x148 x164 x166 x177 r7
  else
    m_law18_EcreadDamage_j8 x164 x166 r7
def m_law18_EcreadDamage_l10 (x3 : By × (List Sneedlestoreref09_Record) × Int × Int × Int × Int × (BitVec 32) × (BitVec 32) × (BitVec 32) × (BitVec 32) × (BitVec 32) × (BitVec 32) × (List Sapi_Item) × (List By)) (x85 : List By) (x148 : List Bool) (x164 : List Sapi_Item) (x166 : Int) (x177 : Sneedlestoreref09_Record) (r7 : (List Sapi_Item) -> Int -> Option Bool) : Nat -> Bool -> Int -> Option Bool
  | 0, _, _ => none
  | q190 + 1, x188, x189 =>
    if x189 < (x164.length : Int) then
      (idx x164 x189).bind fun x197 =>
      if x188 = true then
        (ck (x189 + (1 : Int))).bind fun x202 =>
        (m_law18_EcreadDamage_l10 x3 x85 x148 x164 x166 x177 r7 q190) true x202
      else
        (ck (x189 + (1 : Int))).bind fun x204 =>
        (m_law18_EcreadDamage_l10 x3 x85 x148 x164 x166 x177 r7 q190) (decide (x197.fKey = x177.fNeedle.fKey /\ x197.fCookie = x177.fNeedle.fCookie /\ x197.fOff = x177.fOff /\ x197.fSize = (x177.fNeedle.fData.length : Int) /\ True)) x204
    else
      m_law18_EcreadDamage_j9 x3 x85 x148 x164 x166 x177 r7 x188
def m_law18_EcreadDamage_j6 : Option Bool :=
  (m_law18_awake).bind fun x260 =>
  some (x260)
def m_law18_EcreadDamage_l7 (x3 : By × (List Sneedlestoreref09_Record) × Int × Int × Int × Int × (BitVec 32) × (BitVec 32) × (BitVec 32) × (BitVec 32) × (BitVec 32) × (BitVec 32) × (List Sapi_Item) × (List By)) (x85 : List By) (x148 : List Bool) : Nat -> (List Sapi_Item) -> Int -> Option Bool
  | 0, _, _ => none
  | q167 + 1, x164, x166 =>
    if x166 < (x3.2.1.length : Int) then
      (idx x3.2.1 x166).bind fun x177 =>
      m_law18_EcreadDamage_l10 x3 x85 x148 x164 x166 x177 (m_law18_EcreadDamage_l7 x3 x85 x148 q167) forever false (0 : Int)
    else
      m_law18_EcreadDamage_j6
def m_law18_EcreadDamage_j5 (x3 : By × (List Sneedlestoreref09_Record) × Int × Int × Int × Int × (BitVec 32) × (BitVec 32) × (BitVec 32) × (BitVec 32) × (BitVec 32) × (BitVec 32) × (List Sapi_Item) × (List By)) (x85 : List By) (x148 : List Bool) : Option Bool :=
  m_law18_EcreadDamage_l7 x3 x85 x148 forever x3.2.2.2.2.2.2.2.2.2.2.2.2.1 (0 : Int)
def m_law18_EcreadDamage_j0 (x03 : Bool) (x3 : By × (List Sneedlestoreref09_Record) × Int × Int × Int × Int × (BitVec 32) × (BitVec 32) × (BitVec 32) × (BitVec 32) × (BitVec 32) × (BitVec 32) × (List Sapi_Item) × (List By)) (x67 : Int) (x76 : (List Bool)) (x85 : List By) : Option Bool :=
  if x03 = true then
    (idx x76 x67).bind fun x153 =>
    (upd x76 x67 false).bind fun x154 =>
    m_law18_EcreadDamage_j5 x3 x85 x154
  else
    m_law18_EcreadDamage_j5 x3 x85 x76
def m_law18_EcreadDamage_l1 (x03 : Bool) (x04 : By) (x3 : By × (List Sneedlestoreref09_Record) × Int × Int × Int × Int × (BitVec 32) × (BitVec 32) × (BitVec 32) × (BitVec 32) × (BitVec 32) × (BitVec 32) × (List Sapi_Item) × (List By)) (x63 x67 : Int) (x76 : (List Bool)) : Nat -> (List By) -> Int -> Option Bool
  | 0, _, _ => none
  | q96 + 1, x92, x95 =>
    if x95 < (([x63, x67] : List Int).length : Int) then
      (idx ([x63, x67] : List Int) x95).bind fun x107 =>
      (idx x92 x107).bind fun x110 =>
      (apd 1 ([] : By) x110).bind fun x114 =>
      m_law18_EcreadDamage_l4 x04 x92 x95 x107 (m_law18_EcreadDamage_l1 x03 x04 x3 x63 x67 x76 q96) forever x114 (0 : Int)
    else
      m_law18_EcreadDamage_j0 x03 x3 x67 x76 x92
def m_law18_EcreadDamage (x00 : List Sapi_Needle) (x01 x02 : Int) (x03 : Bool) (x04 : By) : Option Bool :=
  (m_law18_made x00).bind fun x3 =>
  (rmi x01 (6 : Int)).bind fun x61 =>
  (ck (x61 + (6 : Int))).bind fun x62 =>
  (rmi x62 (6 : Int)).bind fun x63 =>
  (rmi x02 (6 : Int)).bind fun x65 =>
  (ck (x65 + (6 : Int))).bind fun x66 =>
  (rmi x66 (6 : Int)).bind fun x67 =>
  (apd 24 ([] : List By) x3.2.2.2.2.2.2.2.2.2.2.2.2.2).bind fun x71 =>
  (m_law18_all).bind fun x76 =>
  m_law18_EcreadDamage_l1 x03 x04 x3 x63 x67 x76 forever x71 (0 : Int)
end Go.Proofs.YtcncappgheopgaaGreat
