/- A part of the proof. Conditions: as each theorem says. -/
import Derived.Test.YthjnhlmfcejhkaaMdr
namespace Go.Proofs.Ythjnhlmfcejhkaa
set_option linter.unusedVariables false
def m_law17_ShardsAnyFour_j4 (x05 : BitVec 32) (x123 : Int) (x127 : By) (x128 : Int) (r3 : By -> Int -> Option Bool) : Option Bool :=
  (ck (x123 + x128)).bind fun x138 =>
  (dvi x138 (8 : Int)).bind fun x139 =>
  (idx x127 x139).bind fun x140 =>
  (ck (x123 + x128)).bind fun x141 =>
  (rmi x141 (8 : Int)).bind fun x142 =>
  (idx x127 x139).bind fun x143 =>
  (upd x127 x139 (x140 ^^^ (((((x05 ||| 1#32) >>> (BitVec.ofInt 64 x128).toNat) &&& 1#32) <<< (BitVec.ofInt 64 x142).toNat).setWidth 8))).bind fun x144 =>
  (ck (x128 + (1 : Int))).bind fun x146 =>
  r3 x144 x146
def m_law17_ShardsAnyFour_j6 (x69 x73 : Int) (x160 : (List By) × (List Int) × Int) (x193 : Int) : Option Bool :=
  (idx x160.2.1 (0 : Int)).bind fun x209 =>
  if x209 = x69 then
    (ck (x193 - (1 : Int))).bind fun x211 =>
    (idx x160.2.1 x211).bind fun x212 =>
    if x212 = x69 then
      (m_law17_awake).bind fun x214 =>
      some (x214)
    else
      (ck (x193 - (1 : Int))).bind fun x216 =>
      (idx x160.2.1 x216).bind fun x217 =>
      if x217 = x73 then
        (m_law17_awake).bind fun x219 =>
        some (x219)
      else
        some (false)
  else
    (idx x160.2.1 (0 : Int)).bind fun x221 =>
    if x221 = x73 then
      (ck (x193 - (1 : Int))).bind fun x223 =>
      (idx x160.2.1 x223).bind fun x224 =>
      if x224 = x69 then
        (m_law17_awake).bind fun x226 =>
        some (x226)
      else
        (ck (x193 - (1 : Int))).bind fun x228 =>
        (idx x160.2.1 x228).bind fun x229 =>
        if x229 = x73 then
          (m_law17_awake).bind fun x231 =>
          some (x231)
        else
          some (false)
    else
      some (false)
def m_law17_ShardsAnyFour_j5 (x29 : (List By) × Int × Int × Int × Int × (BitVec 32) × (BitVec 32) × (BitVec 32) × (BitVec 32) × (BitVec 32) × (BitVec 32) × (List Sapi_Item) × Int) (x69 x73 : Int) (x160 : (List By) × (List Int) × Int) (x193 : Int) : Option Bool :=
  if x160.2.2 = (0 : Int) then
    (m_r03_SameRows x160.1 x29.1).bind fun x201 =>
    if x201 = true then
      if (x160.2.1.length : Int) = x193 then
        m_law17_ShardsAnyFour_j6 x69 x73 x160 x193
      else
        some (false)
    else
      some (false)
  else
    some (false)
def m_law17_ShardsAnyFour_j1 (x29 : (List By) × Int × Int × Int × Int × (BitVec 32) × (BitVec 32) × (BitVec 32) × (BitVec 32) × (BitVec 32) × (BitVec 32) × (List Sapi_Item) × Int) (x69 x73 : Int) (x91 : List By) : Option Bool :=
  (m_shards_Rebuild x29.2.1 x29.2.2.1 x29.2.2.2.1 x29.2.2.2.2.1 x29.2.2.2.2.2.1 x29.2.2.2.2.2.2.1 x29.2.2.2.2.2.2.2.1 x29.2.2.2.2.2.2.2.2.1 x29.2.2.2.2.2.2.2.2.2.1 x29.2.2.2.2.2.2.2.2.2.2.1 x29.2.2.2.2.2.2.2.2.2.2.2.1 x91).bind fun x160 =>
  if x69 = x73 then
    m_law17_ShardsAnyFour_j5 x29 x69 x73 x160 (1 : Int)
  else
    m_law17_ShardsAnyFour_j5 x29 x69 x73 x160 (2 : Int)
def m_law17_ShardsAnyFour_j2 (x29 : (List By) × Int × Int × Int × Int × (BitVec 32) × (BitVec 32) × (BitVec 32) × (BitVec 32) × (BitVec 32) × (BitVec 32) × (List Sapi_Item) × Int) (x69 x73 : Int) (x87 : List By) (x124 : By) : Option Bool :=
  if x73 = x69 then
    m_law17_ShardsAnyFour_j1 x29 x69 x73 x87
  else
    (idx x87 x73).bind fun x150 =>
    (upd x87 x73 x124).bind fun x156 =>
    m_law17_ShardsAnyFour_j1 x29 x69 x73 x156
def m_law17_ShardsAnyFour_l3 (x05 : BitVec 32) (x29 : (List By) × Int × Int × Int × Int × (BitVec 32) × (BitVec 32) × (BitVec 32) × (BitVec 32) × (BitVec 32) × (BitVec 32) × (List Sapi_Item) × Int) (x69 x73 : Int) (x87 : List By) (x115 x123 : Int) : Nat -> By -> Int -> Option Bool
  | 0, _, _ => none
  | q129 + 1, x127, x128 =>
    if x128 < (32 : Int) then
      (ck (x123 + x128)).bind fun x134 =>
      if x134 < x115 then
        m_law17_ShardsAnyFour_j4 x05 x123 x127 x128 (m_law17_ShardsAnyFour_l3 x05 x29 x69 x73 x87 x115 x123 q129)
      else
        m_law17_ShardsAnyFour_j2 x29 x69 x73 x87 x127
    else
      m_law17_ShardsAnyFour_j2 x29 x69 x73 x87 x127
def m_law17_ShardsAnyFour_j0 (x01 x02 : Int) (x03 : Bool) (x04 : Int) (x05 : BitVec 32) (x29 : (List By) × Int × Int × Int × Int × (BitVec 32) × (BitVec 32) × (BitVec 32) × (BitVec 32) × (BitVec 32) × (BitVec 32) × (List Sapi_Item) × Int) : Option Bool :=
  (rmi x01 (6 : Int)).bind fun x67 =>
  (ck (x67 + (6 : Int))).bind fun x68 =>
  (rmi x68 (6 : Int)).bind fun x69 =>
  (rmi x02 (6 : Int)).bind fun x71 =>
  (ck (x71 + (6 : Int))).bind fun x72 =>
  (rmi x72 (6 : Int)).bind fun x73 =>
  (apd 24 ([] : List By) x29.1).bind fun x77 =>
  (idx x77 x69).bind fun x83 =>
  (upd x77 x69 ([] : By)).bind fun x87 =>
  if x03 = true then
    (idx x87 x73).bind fun x98 =>
    (upd x87 x73 ([] : By)).bind fun x102 =>
    m_law17_ShardsAnyFour_j1 x29 x69 x73 x102
  else
    (idx x29.1 x73).bind fun x107 =>
    (apd 1 ([] : By) x107).bind fun x111 =>
    (ck ((8 : Int) * (x111.length : Int))).bind fun x115 =>
    if x115 = (0 : Int) then
      some (false)
    else
      (rmi x04 x115).bind fun x121 =>
      (ck (x121 + x115)).bind fun x122 =>
      (rmi x122 x115).bind fun x123 =>
      m_law17_ShardsAnyFour_l3 x05 x29 x69 x73 x87 x115 x123 forever x111 (0 : Int)
def m_law17_ShardsAnyFour (x00 : List Sapi_Needle) (x01 x02 : Int) (x03 : Bool) (x04 : Int) (x05 : BitVec 32) : Option Bool :=
  (m_law17_file x00).bind fun x3 =>
  (m_shards_Make x3.1 x3.2.1 x3.2.2.1 x3.2.2.2.1 x3.2.2.2.2).bind fun x29 =>
  if x29.2.2.2.2.2.2.2.2.2.2.2.2 = (0 : Int) then
    if (x29.1.length : Int) = (6 : Int) then
      m_law17_ShardsAnyFour_j0 x01 x02 x03 x04 x05 x29
    else
      some (false)
  else
    some (false)
end Go.Proofs.Ythjnhlmfcejhkaa
