/- A part of the proof. Conditions: as each theorem says. -/
import Derived.Test.YthjnhlmfcejhkaaGreatMdr
namespace Go.Proofs.YthjnhlmfcejhkaaGreat
set_option linter.unusedVariables false
def m_law17_ShardsBursts_j3 (x02 : BitVec 32) (x82 : Int) (x91 : By) (x92 : Int) (r2 : By -> Int -> Option Bool) : Option Bool :=
  (ck (x82 + x92)).bind fun x102 =>
  (dvi x102 (8 : Int)).bind fun x103 =>
  (idx x91 x103).bind fun x104 =>
  (ck (x82 + x92)).bind fun x105 =>
  (rmi x105 (8 : Int)).bind fun x106 =>
  (idx x91 x103).bind fun x107 =>
  (upd x91 x103 (x104 ^^^ ((((x02 >>> (BitVec.ofInt 64 x92).toNat) &&& 1#32) <<< (BitVec.ofInt 64 x106).toNat).setWidth 8))).bind fun x108 =>
  (ck (x92 + (1 : Int))).bind fun x110 =>
  r2 x108 x110
def m_law17_ShardsBursts_j1 (x61 : By × Int) (x88 : By) : Option Bool :=
  if x88 = x61.1 then
    (m_law17_awake).bind fun x115 =>
    some (x115)
  else
    (slc x88 (44 : Int) (48 : Int)).bind fun x117 =>
    (slc x61.1 (44 : Int) (48 : Int)).bind fun x118 =>
    if x117 = x118 then
      (m_shards_Decode x88).bind fun x121 =>
      if x121.2.2.2.2.2.2.2.2.2.2.2 = (0 : Int) then
        some (false)
      else
        (m_law17_awake).bind fun x132 =>
        some (x132)
    else
      (m_law17_awake).bind fun x135 =>
      some (x135)
def m_law17_ShardsBursts_l2 (x02 : BitVec 32) (x61 : By × Int) (x78 x82 : Int) : Nat -> By -> Int -> Option Bool
  | 0, _, _ => none
  | q93 + 1, x91, x92 =>
    if x92 < (32 : Int) then
      (ck (x82 + x92)).bind fun x98 =>
      if x98 < x78 then
        m_law17_ShardsBursts_j3 x02 x82 x91 x92 (m_law17_ShardsBursts_l2 x02 x61 x78 x82 q93)
      else
        m_law17_ShardsBursts_j1 x61 x91
    else
      m_law17_ShardsBursts_j1 x61 x91
def m_law17_ShardsBursts_j0 (x01 : Int) (x02 : BitVec 32) (x61 : By × Int) : Option Bool :=
  (ck ((8 : Int) * (x61.1.length : Int))).bind fun x78 =>
  (rmi x01 x78).bind fun x80 =>
  (ck (x80 + x78)).bind fun x81 =>
  (rmi x81 x78).bind fun x82 =>
  (apd 1 ([] : By) x61.1).bind fun x85 =>
  m_law17_ShardsBursts_l2 x02 x61 x78 x82 forever x85 (0 : Int)
def m_law17_ShardsBursts (x00 : List Sapi_Needle) (x01 : Int) (x02 : BitVec 32) : Option Bool :=
  (m_law17_file x00).bind fun x3 =>
  (m_shards_Make x3.1 x3.2.1 x3.2.2.1 x3.2.2.2.1 x3.2.2.2.2).bind fun x29 =>
  (m_shards_Encode x29.2.1 x29.2.2.1 x29.2.2.2.1 x29.2.2.2.2.1 x29.2.2.2.2.2.1 x29.2.2.2.2.2.2.1 x29.2.2.2.2.2.2.2.1 x29.2.2.2.2.2.2.2.2.1 x29.2.2.2.2.2.2.2.2.2.1 x29.2.2.2.2.2.2.2.2.2.2.1 x29.2.2.2.2.2.2.2.2.2.2.2.1).bind fun x61 =>
  if x29.2.2.2.2.2.2.2.2.2.2.2.2 = (0 : Int) then
    if x61.2 = (0 : Int) then
      if (x61.1.length : Int) < (52 : Int) then
        some (false)
      else
        m_law17_ShardsBursts_j0 x01 x02 x61
    else
      some (false)
  else
    some (false)
end Go.Proofs.YthjnhlmfcejhkaaGreat
