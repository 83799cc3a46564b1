/- A part of the proof. Conditions: as each theorem says. -/
import Derived.Test.YthjnhlmfcejhkaaGreatMdr
namespace Go.Proofs.YthjnhlmfcejhkaaGreat
set_option linter.unusedVariables false
structure Sapi_Super where
  fSlot : Int
  fGen : Int
  fRev : Int
  deriving DecidableEq
structure Sneedlestoreref17_Head where
  fSuper : Sapi_Super
  fLen : Int
  fSums_0 : BitVec 32
  fSums_1 : BitVec 32
  fSums_2 : BitVec 32
  fSums_3 : BitVec 32
  fSums_4 : BitVec 32
  fSums_5 : BitVec 32
  fItems : List Sapi_Item
  deriving DecidableEq
def m_law17_ShardsHeads_j1 (x35 : (List By) × Int × Int × Int × Int × (BitVec 32) × (BitVec 32) × (BitVec 32) × (BitVec 32) × (BitVec 32) × (BitVec 32) × (List Sapi_Item) × Int) (x80 : List Sapi_Item) : Option Bool :=
  (m_law17_given x35.2.1 x35.2.2.1 x35.2.2.2.1 x35.2.2.2.2.1 x35.2.2.2.2.2.1 x35.2.2.2.2.2.2.1 x35.2.2.2.2.2.2.2.1 x35.2.2.2.2.2.2.2.2.1 x35.2.2.2.2.2.2.2.2.2.1 x35.2.2.2.2.2.2.2.2.2.2.1 x80).bind fun x199 =>
  (m_shards_Valid x199.1 x199.2.1 x199.2.2.1 x199.2.2.2.1 x199.2.2.2.2.1 x199.2.2.2.2.2.1 x199.2.2.2.2.2.2.1 x199.2.2.2.2.2.2.2.1 x199.2.2.2.2.2.2.2.2.1 x199.2.2.2.2.2.2.2.2.2.1 x199.2.2.2.2.2.2.2.2.2.2).bind fun x213 =>
  if x213 = true then
    (m_law17_awake).bind fun x216 =>
    some (x216)
  else
    some (false)
def m_law17_ShardsHeads_l2 (u0 u1 : Int) (u10 : List Sapi_Item) (u2 u3 : Int) (u4 u5 u6 u7 u8 u9 : BitVec 32) (x35 : (List By) × Int × Int × Int × Int × (BitVec 32) × (BitVec 32) × (BitVec 32) × (BitVec 32) × (BitVec 32) × (BitVec 32) × (List Sapi_Item) × Int) (x80 : List Sapi_Item) (x82 x83 : Int) (x87 : List Sapi_Item) : Nat -> Int -> Option Bool
  | 0, _ => none
  | q127 + 1, x126 =>
    if x126 < (([(Sneedlestoreref17_Head.mk (Sapi_Super.mk u0 u1 u2) u3 u4 u5 u6 u7 u8 u9 u10), (Sneedlestoreref17_Head.mk (Sapi_Super.mk x35.2.1 x35.2.2.1 x35.2.2.2.1) x35.2.2.2.2.1 x35.2.2.2.2.2.1 x35.2.2.2.2.2.2.1 x35.2.2.2.2.2.2.2.1 x35.2.2.2.2.2.2.2.2.1 x35.2.2.2.2.2.2.2.2.2.1 x35.2.2.2.2.2.2.2.2.2.2.1 x80), (Sneedlestoreref17_Head.mk (Sapi_Super.mk x35.2.1 x35.2.2.1 x82) x83 x35.2.2.2.2.2.1 x35.2.2.2.2.2.2.1 x35.2.2.2.2.2.2.2.1 x35.2.2.2.2.2.2.2.2.1 x35.2.2.2.2.2.2.2.2.2.1 x35.2.2.2.2.2.2.2.2.2.2.1 x87)] : List Sneedlestoreref17_Head).length : Int) then
      (idx ([(Sneedlestoreref17_Head.mk (Sapi_Super.mk u0 u1 u2) u3 u4 u5 u6 u7 u8 u9 u10), (Sneedlestoreref17_Head.mk (Sapi_Super.mk x35.2.1 x35.2.2.1 x35.2.2.2.1) x35.2.2.2.2.1 x35.2.2.2.2.2.1 x35.2.2.2.2.2.2.1 x35.2.2.2.2.2.2.2.1 x35.2.2.2.2.2.2.2.2.1 x35.2.2.2.2.2.2.2.2.2.1 x35.2.2.2.2.2.2.2.2.2.2.1 x80), (Sneedlestoreref17_Head.mk (Sapi_Super.mk x35.2.1 x35.2.2.1 x82) x83 x35.2.2.2.2.2.1 x35.2.2.2.2.2.2.1 x35.2.2.2.2.2.2.2.1 x35.2.2.2.2.2.2.2.2.1 x35.2.2.2.2.2.2.2.2.2.1 x35.2.2.2.2.2.2.2.2.2.2.1 x87)] : List Sneedlestoreref17_Head) x126).bind fun x134 =>
      (m_law17_given x134.fSuper.fSlot x134.fSuper.fGen x134.fSuper.fRev x134.fLen x134.fSums_0 x134.fSums_1 x134.fSums_2 x134.fSums_3 x134.fSums_4 x134.fSums_5 x134.fItems).bind fun x140 =>
      (m_shards_Encode x140.1 x140.2.1 x140.2.2.1 x140.2.2.2.1 x140.2.2.2.2.1 x140.2.2.2.2.2.1 x140.2.2.2.2.2.2.1 x140.2.2.2.2.2.2.2.1 x140.2.2.2.2.2.2.2.2.1 x140.2.2.2.2.2.2.2.2.2.1 x140.2.2.2.2.2.2.2.2.2.2).bind fun x154 =>
      (m_r17_Encode x134.fSuper.fSlot x134.fSuper.fGen x134.fSuper.fRev x134.fLen x134.fSums_0 x134.fSums_1 x134.fSums_2 x134.fSums_3 x134.fSums_4 x134.fSums_5 x134.fItems).bind fun x163 =>
      (m_law17_given x134.fSuper.fSlot x134.fSuper.fGen x134.fSuper.fRev x134.fLen x134.fSums_0 x134.fSums_1 x134.fSums_2 x134.fSums_3 x134.fSums_4 x134.fSums_5 x134.fItems).bind fun x172 =>
      (m_shards_Valid x172.1 x172.2.1 x172.2.2.1 x172.2.2.2.1 x172.2.2.2.2.1 x172.2.2.2.2.2.1 x172.2.2.2.2.2.2.1 x172.2.2.2.2.2.2.2.1 x172.2.2.2.2.2.2.2.2.1 x172.2.2.2.2.2.2.2.2.2.1 x172.2.2.2.2.2.2.2.2.2.2).bind fun x186 =>
      (m_r17_Valid x134.fSuper.fSlot x134.fSuper.fGen x134.fSuper.fRev x134.fLen x134.fSums_0 x134.fSums_1 x134.fSums_2 x134.fSums_3 x134.fSums_4 x134.fSums_5 x134.fItems).bind fun x188 =>
      if x186 = x188 then
        if x154.2 = x163.2 then
          if x154.1 = x163.1 then
            (ck (x126 + (1 : Int))).bind fun x194 =>
            (m_law17_ShardsHeads_l2 u0 u1 u10 u2 u3 u4 u5 u6 u7 u8 u9 x35 x80 x82 x83 x87 q127) x194
          else
            some (false)
        else
          some (false)
      else
        some (false)
    else
      m_law17_ShardsHeads_j1 x35 x80
def m_law17_ShardsHeads_j0 (u0 u1 : Int) (u10 : List Sapi_Item) (u2 u3 : Int) (u4 u5 u6 u7 u8 u9 : BitVec 32) (x35 : (List By) × Int × Int × Int × Int × (BitVec 32) × (BitVec 32) × (BitVec 32) × (BitVec 32) × (BitVec 32) × (BitVec 32) × (List Sapi_Item) × Int) (x80 : List Sapi_Item) (x82 x83 : Int) (x87 : List Sapi_Item) : Option Bool :=
  m_law17_ShardsHeads_l2 u0 u1 u10 u2 u3 u4 u5 u6 u7 u8 u9 x35 x80 x82 x83 x87 forever (0 : Int)
def m_law17_ShardsHeads (u0 u1 u2 u3 : Int) (u4 u5 u6 u7 u8 u9 : BitVec 32) (u10 : List Sapi_Item) (x01 : List Sapi_Needle) (x02 x03 : Int) : Option Bool :=
  (m_law17_light u0 u1 u2 u3 u4 u5 u6 u7 u8 u9 u10).bind fun x5 =>
  if x5 = true then
    (m_law17_file x01).bind fun x9 =>
    (m_r17_Make x9.1 x9.2.1 x9.2.2.1 x9.2.2.2.1 x9.2.2.2.2).bind fun x35 =>
    if (andi x02 (3 : Int)) = (0 : Int) then
      (rmi x03 (64 : Int)).bind fun x94 =>
      (ck (x35.2.2.2.2.1 + x94)).bind fun x95 =>
      m_law17_ShardsHeads_j0 u0 u1 u10 u2 u3 u4 u5 u6 u7 u8 u9 x35 x35.2.2.2.2.2.2.2.2.2.2.2.1 x35.2.2.2.1 x95 x35.2.2.2.2.2.2.2.2.2.2.2.1
    else
      if (andi x02 (3 : Int)) = (1 : Int) then
        m_law17_ShardsHeads_j0 u0 u1 u10 u2 u3 u4 u5 u6 u7 u8 u9 x35 x35.2.2.2.2.2.2.2.2.2.2.2.1 x03 x35.2.2.2.2.1 x35.2.2.2.2.2.2.2.2.2.2.2.1
      else
        if (andi x02 (3 : Int)) = (2 : Int) then
          (apd 32 ([] : List Sapi_Item) x9.2.2.2.2).bind fun x107 =>
          (ck ((8 : Int) * (andi x03 (31 : Int)))).bind fun x110 =>
          (ck ((16 : Int) + x110)).bind fun x111 =>
          (apd 32 x107 ([(Sapi_Item.mk (BitVec.ofInt 64 x03) 0#32 x111 (0 : Int))] : List Sapi_Item)).bind fun x113 =>
          m_law17_ShardsHeads_j0 u0 u1 u10 u2 u3 u4 u5 u6 u7 u8 u9 x35 x35.2.2.2.2.2.2.2.2.2.2.2.1 x35.2.2.2.1 x35.2.2.2.2.1 x113
        else
          m_law17_ShardsHeads_j0 u0 u1 u10 u2 u3 u4 u5 u6 u7 u8 u9 x35 x35.2.2.2.2.2.2.2.2.2.2.2.1 x35.2.2.2.1 x35.2.2.2.2.1 x35.2.2.2.2.2.2.2.2.2.2.2.1
  else
    (m_law17_awake).bind fun x219 =>
    some (x219)
end Go.Proofs.YthjnhlmfcejhkaaGreat
