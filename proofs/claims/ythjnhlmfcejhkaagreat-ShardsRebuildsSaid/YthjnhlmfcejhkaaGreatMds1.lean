/- A part of the proof. Conditions: as each theorem says. -/
import Derived.Test.YthjnhlmfcejhkaaGreatMdr
namespace Go.Proofs.YthjnhlmfcejhkaaGreat
set_option linter.unusedVariables false
structure Sapi_Super where
  fSlot : Int
  fGen : Int
  fRev : Int
  deriving DecidableEq
structure Sneedlestoreref17_Head where
  fSuper : Sapi_Super
  fLen : Int
  fSums_0 : BitVec 32
  fSums_1 : BitVec 32
  fSums_2 : BitVec 32
  fSums_3 : BitVec 32
  fSums_4 : BitVec 32
  fSums_5 : BitVec 32
  fItems : List Sapi_Item
  deriving DecidableEq
def m_law17_ShardsRebuilds_j6 (x02 : List Int) (x101 : List By) (x104 x115 : Int) (x122 : By) (r4 : (List By) -> Int -> Option Bool) (x126 : Bool) : Option Bool :=
  if x126 = true then
    (idx x101 x115).bind fun x134 =>
    (upd x101 x115 ([] : By)).bind fun x138 =>
    (ck (x104 + (2 : Int))).bind fun x142 =>
    r4 x138 x142
  else
    (ck (x104 + (1 : Int))).bind fun x144 =>
    (idx x02 x144).bind fun x145 =>
    (rmi x145 (x122.length : Int)).bind fun x146 =>
    (ck (x146 + (x122.length : Int))).bind fun x147 =>
    (rmi x147 (x122.length : Int)).bind fun x148 =>
    (idx x122 x148).bind fun x149 =>
    (idx x02 x104).bind fun x150 =>
    (shri x150 (7 : Nat)).bind fun x151 =>
    (idx x122 x148).bind fun x152 =>
    (upd x122 x148 (x149 ^^^ ((BitVec.ofInt 8 x151) ||| 1#8))).bind fun x153 =>
    (idx x101 x115).bind fun x215 =>
    (upd x101 x115 x153).bind fun x221 =>
    (ck (x104 + (2 : Int))).bind fun x225 =>
    r4 x221 x225
def m_law17_ShardsRebuilds_j5 (x02 : List Int) (x101 : List By) (x104 : Int) (r4 : (List By) -> Int -> Option Bool) : Option Bool :=
  (idx x02 x104).bind fun x114 =>
  (rmi (andi x114 (7 : Int)) (6 : Int)).bind fun x115 =>
  (idx x101 x115).bind fun x118 =>
  (apd 1 ([] : By) x118).bind fun x122 =>
  (idx x02 x104).bind fun x129 =>
  if (0 : Int) < (andi x129 (64 : Int)) then
    m_law17_ShardsRebuilds_j6 x02 x101 x104 x115 x122 r4 true
  else
    m_law17_ShardsRebuilds_j6 x02 x101 x104 x115 x122 r4 ((x122.length : Int) == (0 : Int))
def m_law17_ShardsRebuilds_j11 (x263 : Int) (r10 : Int -> Option Bool) : Option Bool :=
  (ck (x263 + (1 : Int))).bind fun x449 =>
  r10 x449
def m_law17_ShardsRebuilds_l15 (x254 : Sneedlestoreref17_Head) (x263 : Int) (x272 : List By) (r10 : Int -> Option Bool) : Nat -> Int -> Option Bool
  | 0, _ => none
  | q380 + 1, x379 =>
    if x379 < (x272.length : Int) then
      (m_law17_given x254.fSuper.fSlot x254.fSuper.fGen x254.fSuper.fRev x254.fLen x254.fSums_0 x254.fSums_1 x254.fSums_2 x254.fSums_3 x254.fSums_4 x254.fSums_5 x254.fItems).bind fun x388 =>
      (idx x272 x379).bind fun x402 =>
      (m_shards_Good x388.1 x388.2.1 x388.2.2.1 x388.2.2.2.1 x388.2.2.2.2.1 x388.2.2.2.2.2.1 x388.2.2.2.2.2.2.1 x388.2.2.2.2.2.2.2.1 x388.2.2.2.2.2.2.2.2.1 x388.2.2.2.2.2.2.2.2.2.1 x388.2.2.2.2.2.2.2.2.2.2 x379 x402).bind fun x406 =>
      (idx x272 x379).bind fun x408 =>
      (m_r17_Good x254.fSuper.fSlot x254.fSuper.fGen x254.fSuper.fRev x254.fLen x254.fSums_0 x254.fSums_1 x254.fSums_2 x254.fSums_3 x254.fSums_4 x254.fSums_5 x254.fItems x379 x408).bind fun x412 =>
      if x406 = x412 then
        (m_law17_given x254.fSuper.fSlot x254.fSuper.fGen x254.fSuper.fRev x254.fLen x254.fSums_0 x254.fSums_1 x254.fSums_2 x254.fSums_3 x254.fSums_4 x254.fSums_5 x254.fItems).bind fun x415 =>
        (ck (x379 - (2 : Int))).bind fun x429 =>
        (idx x272 x379).bind fun x430 =>
        (m_shards_Good x415.1 x415.2.1 x415.2.2.1 x415.2.2.2.1 x415.2.2.2.2.1 x415.2.2.2.2.2.1 x415.2.2.2.2.2.2.1 x415.2.2.2.2.2.2.2.1 x415.2.2.2.2.2.2.2.2.1 x415.2.2.2.2.2.2.2.2.2.1 x415.2.2.2.2.2.2.2.2.2.2 x429 x430).bind fun x434 =>
        (ck (x379 - (2 : Int))).bind fun x436 =>
        (idx x272 x379).bind fun x437 =>
        (m_r17_Good x254.fSuper.fSlot x254.fSuper.fGen x254.fSuper.fRev x254.fLen x254.fSums_0 x254.fSums_1 x254.fSums_2 x254.fSums_3 x254.fSums_4 x254.fSums_5 x254.fItems x436 x437).bind fun x441 =>
        if x434 = x441 then
          (ck (x379 + (1 : Int))).bind fun x445 =>
          (m_law17_ShardsRebuilds_l15 x254 x263 x272 r10 q380) x445
        else
          some (false)
      else
        some (false)
    else
      m_law17_ShardsRebuilds_j11 x263 r10
def m_law17_ShardsRebuilds_j13 (x254 : Sneedlestoreref17_Head) (x263 : Int) (x272 : List By) (r10 : Int -> Option Bool) : Option Bool :=
  m_law17_ShardsRebuilds_l15 x254 x263 x272 r10 forever (0 : Int)
def m_law17_ShardsRebuilds_l14 (x254 : Sneedlestoreref17_Head) (x263 : Int) (x272 : List By) (x294 x323 : (List By) × (List Int) × Int) (r10 : Int -> Option Bool) : Nat -> Int -> Option Bool
  | 0, _ => none
  | q364 + 1, x363 =>
    if x363 < (x294.2.1.length : Int) then
      (idx x294.2.1 x363).bind fun x372 =>
      (idx x323.2.1 x363).bind fun x373 =>
      if x372 = x373 then
        (ck (x363 + (1 : Int))).bind fun x376 =>
        (m_law17_ShardsRebuilds_l14 x254 x263 x272 x294 x323 r10 q364) x376
      else
        some (false)
    else
      m_law17_ShardsRebuilds_j13 x254 x263 x272 r10
def m_law17_ShardsRebuilds_j12 (x254 : Sneedlestoreref17_Head) (x263 : Int) (x272 : List By) (x294 x323 : (List By) × (List Int) × Int) (r10 : Int -> Option Bool) : Option Bool :=
  m_law17_ShardsRebuilds_l14 x254 x263 x272 x294 x323 r10 forever (0 : Int)
def m_law17_ShardsRebuilds_j9 (x239 : List By) (x243 : Int) (r8 : (List By) -> Int -> Option Bool) : Option Bool :=
  (ck (x243 + (1 : Int))).bind fun x451 =>
  r8 x239 x451
def m_law17_ShardsRebuilds_l10 (x00 x239 : List By) (x243 : Int) (x254 : Sneedlestoreref17_Head) (r8 : (List By) -> Int -> Option Bool) : Nat -> Int -> Option Bool
  | 0, _ => none
  | q264 + 1, x263 =>
    if x263 < (([x239, x00] : List (List By)).length : Int) then
      (idx ([x239, x00] : List (List By)) x263).bind fun x272 =>
      (m_law17_given x254.fSuper.fSlot x254.fSuper.fGen x254.fSuper.fRev x254.fLen x254.fSums_0 x254.fSums_1 x254.fSums_2 x254.fSums_3 x254.fSums_4 x254.fSums_5 x254.fItems).bind fun x280 =>
      (m_shards_Rebuild x280.1 x280.2.1 x280.2.2.1 x280.2.2.2.1 x280.2.2.2.2.1 x280.2.2.2.2.2.1 x280.2.2.2.2.2.2.1 x280.2.2.2.2.2.2.2.1 x280.2.2.2.2.2.2.2.2.1 x280.2.2.2.2.2.2.2.2.2.1 x280.2.2.2.2.2.2.2.2.2.2 x272).bind fun x294 =>
      (m_r17_Rebuild x254.fSuper.fSlot x254.fSuper.fGen x254.fSuper.fRev x254.fLen x254.fSums_0 x254.fSums_1 x254.fSums_2 x254.fSums_3 x254.fSums_4 x254.fSums_5 x254.fItems x272).bind fun x323 =>
      if x294.2.2 = x323.2.2 then
        (m_r03_SameRows x294.1 x323.1).bind fun x354 =>
        if x354 = true then
          if (x294.2.1.length : Int) = (x323.2.1.length : Int) then
            m_law17_ShardsRebuilds_j12 x254 x263 x272 x294 x323 (m_law17_ShardsRebuilds_l10 x00 x239 x243 x254 r8 q264)
          else
            some (false)
        else
          some (false)
      else
        some (false)
    else
      m_law17_ShardsRebuilds_j9 x239 x243 r8
def m_law17_ShardsRebuilds_j7 : Option Bool :=
  (m_law17_awake).bind fun x453 =>
  some (x453)
def m_law17_ShardsRebuilds_l8 (x00 : List By) (z0 z1 : Int) (z10 : List Sapi_Item) (z2 z3 : Int) (z4 z5 z6 z7 z8 z9 : BitVec 32) (x63 : (List By) × Int × Int × Int × Int × (BitVec 32) × (BitVec 32) × (BitVec 32) × (BitVec 32) × (BitVec 32) × (BitVec 32) × (List Sapi_Item) × Int) : Nat -> (List By) -> Int -> Option Bool
  | 0, _, _ => none
  | q244 + 1, x239, x243 =>
    if x243 < (([(Sneedlestoreref17_Head.mk (Sapi_Super.mk x63.2.1 x63.2.2.1 x63.2.2.2.1) x63.2.2.2.2.1 x63.2.2.2.2.2.1 x63.2.2.2.2.2.2.1 x63.2.2.2.2.2.2.2.1 x63.2.2.2.2.2.2.2.2.1 x63.2.2.2.2.2.2.2.2.2.1 x63.2.2.2.2.2.2.2.2.2.2.1 x63.2.2.2.2.2.2.2.2.2.2.2.1), (Sneedlestoreref17_Head.mk (Sapi_Super.mk z0 z1 z2) z3 z4 z5 z6 z7 z8 z9 z10)] : List Sneedlestoreref17_Head).length : Int) then
      (idx ([(Sneedlestoreref17_Head.mk (Sapi_Super.mk x63.2.1 x63.2.2.1 x63.2.2.2.1) x63.2.2.2.2.1 x63.2.2.2.2.2.1 x63.2.2.2.2.2.2.1 x63.2.2.2.2.2.2.2.1 x63.2.2.2.2.2.2.2.2.1 x63.2.2.2.2.2.2.2.2.2.1 x63.2.2.2.2.2.2.2.2.2.2.1 x63.2.2.2.2.2.2.2.2.2.2.2.1), (Sneedlestoreref17_Head.mk (Sapi_Super.mk z0 z1 z2) z3 z4 z5 z6 z7 z8 z9 z10)] : List Sneedlestoreref17_Head) x243).bind fun x254 =>
      m_law17_ShardsRebuilds_l10 x00 x239 x243 x254 (m_law17_ShardsRebuilds_l8 x00 z0 z1 z10 z2 z3 z4 z5 z6 z7 z8 z9 x63 q244) forever (0 : Int)
    else
      m_law17_ShardsRebuilds_j7
def m_law17_ShardsRebuilds_j3 (x00 : List By) (z0 z1 : Int) (z10 : List Sapi_Item) (z2 z3 : Int) (z4 z5 z6 z7 z8 z9 : BitVec 32) (x63 : (List By) × Int × Int × Int × Int × (BitVec 32) × (BitVec 32) × (BitVec 32) × (BitVec 32) × (BitVec 32) × (BitVec 32) × (List Sapi_Item) × Int) (x95 : List By) : Option Bool :=
  m_law17_ShardsRebuilds_l8 x00 z0 z1 z10 z2 z3 z4 z5 z6 z7 z8 z9 x63 forever x95 (0 : Int)
def m_law17_ShardsRebuilds_l4 (x00 : List By) (x02 : List Int) (z0 z1 : Int) (z10 : List Sapi_Item) (z2 z3 : Int) (z4 z5 z6 z7 z8 z9 : BitVec 32) (x63 : (List By) × Int × Int × Int × Int × (BitVec 32) × (BitVec 32) × (BitVec 32) × (BitVec 32) × (BitVec 32) × (BitVec 32) × (List Sapi_Item) × Int) : Nat -> (List By) -> Int -> Option Bool
  | 0, _, _ => none
  | q105 + 1, x101, x104 =>
    (ck (x104 + (1 : Int))).bind fun x109 =>
    if x109 < (x02.length : Int) then
      if x104 < (8 : Int) then
        m_law17_ShardsRebuilds_j5 x02 x101 x104 (m_law17_ShardsRebuilds_l4 x00 x02 z0 z1 z10 z2 z3 z4 z5 z6 z7 z8 z9 x63 q105)
      else
        m_law17_ShardsRebuilds_j3 x00 z0 z1 z10 z2 z3 z4 z5 z6 z7 z8 z9 x63 x101
    else
      m_law17_ShardsRebuilds_j3 x00 z0 z1 z10 z2 z3 z4 z5 z6 z7 z8 z9 x63 x101
def m_law17_ShardsRebuilds_j1 (x00 : List By) (x01 : List Sapi_Needle) (x02 : List Int) (z0 z1 : Int) (z10 : List Sapi_Item) (z2 z3 : Int) (z4 z5 z6 z7 z8 z9 : BitVec 32) : Option Bool :=
  (m_law17_file x01).bind fun x37 =>
  (m_r17_Make x37.1 x37.2.1 x37.2.2.1 x37.2.2.2.1 x37.2.2.2.2).bind fun x63 =>
  m_law17_ShardsRebuilds_l4 x00 x02 z0 z1 z10 z2 z3 z4 z5 z6 z7 z8 z9 x63 forever x63.1 (0 : Int)
def m_law17_ShardsRebuilds_l2 (x00 : List By) (x01 : List Sapi_Needle) (x02 : List Int) (z0 z1 : Int) (z10 : List Sapi_Item) (z2 z3 : Int) (z4 z5 z6 z7 z8 z9 : BitVec 32) : Nat -> Int -> Option Bool
  | 0, _ => none
  | q18 + 1, x17 =>
    if x17 < (x00.length : Int) then
      (idx x00 x17).bind fun x26 =>
      if (500 : Int) < (x26.length : Int) then
        (m_law17_awake).bind fun x32 =>
        some (x32)
      else
        (ck (x17 + (1 : Int))).bind fun x35 =>
        (m_law17_ShardsRebuilds_l2 x00 x01 x02 z0 z1 z10 z2 z3 z4 z5 z6 z7 z8 z9 q18) x35
    else
      m_law17_ShardsRebuilds_j1 x00 x01 x02 z0 z1 z10 z2 z3 z4 z5 z6 z7 z8 z9
def m_law17_ShardsRebuilds_j0 (x00 : List By) (x01 : List Sapi_Needle) (x02 : List Int) (z0 z1 : Int) (z10 : List Sapi_Item) (z2 z3 : Int) (z4 z5 z6 z7 z8 z9 : BitVec 32) : Option Bool :=
  m_law17_ShardsRebuilds_l2 x00 x01 x02 z0 z1 z10 z2 z3 z4 z5 z6 z7 z8 z9 forever (0 : Int)
def m_law17_ShardsRebuilds (x00 : List By) (x01 : List Sapi_Needle) (x02 : List Int) (z0 z1 z2 z3 : Int) (z4 z5 z6 z7 z8 z9 : BitVec 32) (z10 : List Sapi_Item) : Option Bool :=
  if (8 : Int) < (x00.length : Int) then
    (m_law17_awake).bind fun x7 =>
    some (x7)
  else
    (m_law17_light z0 z1 z2 z3 z4 z5 z6 z7 z8 z9 z10).bind fun x9 =>
    if x9 = true then
      m_law17_ShardsRebuilds_j0 x00 x01 x02 z0 z1 z10 z2 z3 z4 z5 z6 z7 z8 z9
    else
      (m_law17_awake).bind fun x13 =>
      some (x13)
end Go.Proofs.YthjnhlmfcejhkaaGreat
