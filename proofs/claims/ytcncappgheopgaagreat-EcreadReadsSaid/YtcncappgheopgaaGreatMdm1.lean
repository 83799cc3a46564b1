/- A part of the proof. Conditions: as each theorem says. -/
import Derived.Test.YtcncappgheopgaaGreatMdl
namespace Go.Proofs.YtcncappgheopgaaGreat
set_option linter.unusedVariables false
def m_law18_EcreadReads_j8 (x172 x173 x174 x175 : Int) (x176 x177 x178 x179 x180 x181 : BitVec 32) (x185 : List Sapi_Item) (x190 : List By) (x197 : List Bool) (x205 : Int) (x213 : Sapi_Item) (x217 : BitVec 64) (x218 : BitVec 32) (x219 : Bool) (x225 : By) (x226 : Bool) (x254 : (BitVec 64) × (BitVec 32) × Bool × By × Bool) (r6 : Int -> Option Bool) (x265 : BitVec 64) (x266 : BitVec 32) (x267 : Bool) (x273 : By) (x274 : Int) : Option Bool :=
  (m_r18_Read x172 x173 x174 x175 x176 x177 x178 x179 x180 x181 x185 x190 x197 x213.fKey x213.fCookie x213.fOff x213.fSize).bind fun x302 =>
  if x226 = x254.2.2.2.2 then
    if x274 = x302.2.2.2.2 then
      (m_r06_Same x217 x218 x219 x225 x254.1 x254.2.1 x254.2.2.1 x254.2.2.2.1).bind fun x314 =>
      if x314 = true then
        (m_r06_Same x265 x266 x267 x273 x302.1 x302.2.1 x302.2.2.1 x302.2.2.2.1).bind fun x317 =>
        if x317 = true then
          (ck (x205 + (1 : Int))).bind fun x321 =>
          r6 x321
        else
          some (false)
      else
        some (false)
    else
      some (false)
  else
    some (false)
def m_law18_EcreadReads_j7 (x9 x172 x173 x174 x175 : Int) (x176 x177 x178 x179 x180 x181 : BitVec 32) (x185 : List Sapi_Item) (x190 : List By) (x197 : List Bool) (x205 : Int) (x213 : Sapi_Item) (r6 : Int -> Option Bool) (x217 : BitVec 64) (x218 : BitVec 32) (x219 : Bool) (x225 : By) (x226 : Bool) : Option Bool :=
  (m_r18_Candidate x172 x173 x174 x175 x176 x177 x178 x179 x180 x181 x185 x190 x197 (andi x9 (31 : Int)) x213.fKey x213.fCookie x213.fOff x213.fSize).bind fun x254 =>
  (m_law18_given x172 x173 x174 x175 x176 x177 x178 x179 x180 x181 x185).bind fun x277 =>
  (m_ecread_Read x277.1 x277.2.1 x277.2.2.1 x277.2.2.2.1 x277.2.2.2.2.1 x277.2.2.2.2.2.1 x277.2.2.2.2.2.2.1 x277.2.2.2.2.2.2.2.1 x277.2.2.2.2.2.2.2.2.1 x277.2.2.2.2.2.2.2.2.2.1 x277.2.2.2.2.2.2.2.2.2.2 x190 x197 x213.fKey x213.fCookie x213.fOff x213.fSize).bind fun x292 =>
  m_law18_EcreadReads_j8 x172 x173 x174 x175 x176 x177 x178 x179 x180 x181 x185 x190 x197 x205 x213 x217 x218 x219 x225 x226 x254 r6 x292.1 x292.2.1 x292.2.2.1 x292.2.2.2.1 x292.2.2.2.2
def m_law18_EcreadReads_j4 (x142 : List Sapi_Item) (x147 : List By) (x154 : List Bool) (x156 : Int) (r3 : (List Sapi_Item) -> (List By) -> (List Bool) -> Int -> Option Bool) : Option Bool :=
  (ck (x156 + (1 : Int))).bind fun x327 =>
  r3 x142 x147 x154 x327
def m_law18_EcreadReads_l6 (x9 : Int) (x116 x142 : List Sapi_Item) (x147 : List By) (x154 : List Bool) (x156 x172 x173 x174 x175 : Int) (x176 x177 x178 x179 x180 x181 : BitVec 32) (x185 : List Sapi_Item) (x190 : List By) (x197 : List Bool) (r3 : (List Sapi_Item) -> (List By) -> (List Bool) -> Int -> Option Bool) : Nat -> Int -> Option Bool
  | 0, _ => none
  | q206 + 1, x205 =>
    if x205 < (x116.length : Int) then
      (idx x116 x205).bind fun x213 =>
      (m_law18_given x172 x173 x174 x175 x176 x177 x178 x179 x180 x181 x185).bind fun x229 =>
      (m_ecread_Candidate x229.1 x229.2.1 x229.2.2.1 x229.2.2.2.1 x229.2.2.2.2.1 x229.2.2.2.2.2.1 x229.2.2.2.2.2.2.1 x229.2.2.2.2.2.2.2.1 x229.2.2.2.2.2.2.2.2.1 x229.2.2.2.2.2.2.2.2.2.1 x229.2.2.2.2.2.2.2.2.2.2 x190 x197 (andi x9 (31 : Int)) x213.fKey x213.fCookie x213.fOff x213.fSize).bind fun x244 =>
      m_law18_EcreadReads_j7 x9 x172 x173 x174 x175 x176 x177 x178 x179 x180 x181 x185 x190 x197 x205 x213 (m_law18_EcreadReads_l6 x9 x116 x142 x147 x154 x156 x172 x173 x174 x175 x176 x177 x178 x179 x180 x181 x185 x190 x197 r3 q206) x244.1 x244.2.1 x244.2.2.1 x244.2.2.2.1 x244.2.2.2.2
    else
      m_law18_EcreadReads_j4 x142 x147 x154 x156 r3
def m_law18_EcreadReads_j5 (x9 : Int) (x116 x142 : List Sapi_Item) (x147 : List By) (x154 : List Bool) (x156 : Int) (r3 : (List Sapi_Item) -> (List By) -> (List Bool) -> Int -> Option Bool) (x172 x173 x174 x175 : Int) (x176 x177 x178 x179 x180 x181 : BitVec 32) (x185 : List Sapi_Item) (x190 : List By) (x197 : List Bool) : Option Bool :=
  m_law18_EcreadReads_l6 x9 x116 x142 x147 x154 x156 x172 x173 x174 x175 x176 x177 x178 x179 x180 x181 x185 x190 x197 r3 forever (0 : Int)
def m_law18_EcreadReads_j2 : Option Bool :=
  (m_law18_awake).bind fun x329 =>
  some (x329)
def m_law18_EcreadReads_l3 (u0 u1 : Int) (u10 : List Sapi_Item) (u2 u3 : Int) (u4 u5 u6 u7 u8 u9 : BitVec 32) (x01 : List By) (x02 : List Bool) (x9 : Int) (x23 : By × (List Sneedlestoreref09_Record) × Int × Int × Int × Int × (BitVec 32) × (BitVec 32) × (BitVec 32) × (BitVec 32) × (BitVec 32) × (BitVec 32) × (List Sapi_Item) × (List By)) (x116 : List Sapi_Item) : Nat -> (List Sapi_Item) -> (List By) -> (List Bool) -> Int -> Option Bool
  | 0, _, _, _, _ => none
  | q157 + 1, x142, x147, x154, x156 =>
    if x156 < (2 : Int) then
      if x156 = (1 : Int) then
        m_law18_EcreadReads_j5 x9 x116 x142 x147 x154 x156 (m_law18_EcreadReads_l3 u0 u1 u10 u2 u3 u4 u5 u6 u7 u8 u9 x01 x02 x9 x23 x116 q157) x23.2.2.1 x23.2.2.2.1 x23.2.2.2.2.1 x23.2.2.2.2.2.1 x23.2.2.2.2.2.2.1 x23.2.2.2.2.2.2.2.1 x23.2.2.2.2.2.2.2.2.1 x23.2.2.2.2.2.2.2.2.2.1 x23.2.2.2.2.2.2.2.2.2.2.1 x23.2.2.2.2.2.2.2.2.2.2.2.1 x142 x147 x154
      else
        m_law18_EcreadReads_j5 x9 x116 x142 x147 x154 x156 (m_law18_EcreadReads_l3 u0 u1 u10 u2 u3 u4 u5 u6 u7 u8 u9 x01 x02 x9 x23 x116 q157) u0 u1 u2 u3 u4 u5 u6 u7 u8 u9 u10 x01 x02
    else
      m_law18_EcreadReads_j2
def m_law18_EcreadReads_j1 (u0 u1 : Int) (u10 : List Sapi_Item) (u2 u3 : Int) (u4 u5 u6 u7 u8 u9 : BitVec 32) (x01 : List By) (x02 : List Bool) (x9 : Int) (x23 : By × (List Sneedlestoreref09_Record) × Int × Int × Int × Int × (BitVec 32) × (BitVec 32) × (BitVec 32) × (BitVec 32) × (BitVec 32) × (BitVec 32) × (List Sapi_Item) × (List By)) (x81 : (List By) × (List Bool)) (x116 : List Sapi_Item) : Option Bool :=
  m_law18_EcreadReads_l3 u0 u1 u10 u2 u3 u4 u5 u6 u7 u8 u9 x01 x02 x9 x23 x116 forever x23.2.2.2.2.2.2.2.2.2.2.2.2.1 x81.1 x81.2 (0 : Int)
def m_law18_EcreadReads_j0 (u0 u1 : Int) (u10 : List Sapi_Item) (u2 u3 : Int) (u4 u5 u6 u7 u8 u9 : BitVec 32) (x01 : List By) (x02 : List Bool) (x03 : List Sapi_Needle) (x05_0 : BitVec 64) (x05_1 : BitVec 32) (x05_2 x05_3 : Int) (x7 : List Int) (x9 : Int) : Option Bool :=
  (m_law18_made x03).bind fun x23 =>
  (m_law18_spoilt x23.2.2.2.2.2.2.2.2.2.2.2.2.2 x7).bind fun x81 =>
  (apd 32 ([(Sapi_Item.mk x05_0 x05_1 x05_2 x05_3)] : List Sapi_Item) x23.2.2.2.2.2.2.2.2.2.2.2.2.1).bind fun x120 =>
  (ck ((8 : Int) * (andi x05_2 (31 : Int)))).bind fun x123 =>
  (ck ((16 : Int) + x123)).bind fun x124 =>
  (apd 32 x120 ([(Sapi_Item.mk (x05_0 &&& 15#64) 0#32 x124 (andi x05_3 (255 : Int)))] : List Sapi_Item)).bind fun x126 =>
  m_law18_EcreadReads_j1 u0 u1 u10 u2 u3 u4 u5 u6 u7 u8 u9 x01 x02 x9 x23 x81 x126
def m_law18_EcreadReads (u0 u1 u2 u3 : Int) (u4 u5 u6 u7 u8 u9 : BitVec 32) (u10 : List Sapi_Item) (x01 : List By) (x02 : List Bool) (x03 : List Sapi_Needle) (x04 : List Int) (x05_0 : BitVec 64) (x05_1 : BitVec 32) (x05_2 x05_3 x06 : Int) : Option Bool :=
  (m_law18_light x01 u0 u1 u2 u3 u4 u5 u6 u7 u8 u9 u10).bind fun x12 =>
  if x12 = true then
    if (10 : Int) < (x02.length : Int) then
      (m_law18_awake).bind fun x17 =>
      some (x17)
    else
      m_law18_EcreadReads_j0 u0 u1 u10 u2 u3 u4 u5 u6 u7 u8 u9 x01 x02 x03 x05_0 x05_1 x05_2 x05_3 x04 x06
  else
    (m_law18_awake).bind fun x20 =>
    some (x20)
end Go.Proofs.YtcncappgheopgaaGreat
