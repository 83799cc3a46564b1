/- A part of the proof. Conditions: as each theorem says. -/
import Derived.Test.YthjnhlmfcejhkaaGreatMdr
namespace Go.Proofs.YthjnhlmfcejhkaaGreat
set_option linter.unusedVariables false
structure Sapi_Super where
  fSlot : Int
  fGen : Int
  fRev : Int
  deriving DecidableEq
structure Sneedlestoreref17_Head where
  fSuper : Sapi_Super
  fLen : Int
  fSums_0 : BitVec 32
  fSums_1 : BitVec 32
  fSums_2 : BitVec 32
  fSums_3 : BitVec 32
  fSums_4 : BitVec 32
  fSums_5 : BitVec 32
  fItems : List Sapi_Item
  deriving DecidableEq
def m_law17_ShardsBack (x00 : List Sapi_Needle) : Option Bool :=
  (m_law17_file x00).bind fun x3 =>
  (m_shards_Make x3.1 x3.2.1 x3.2.2.1 x3.2.2.2.1 x3.2.2.2.2).bind fun x29 =>
  (m_shards_Encode x29.2.1 x29.2.2.1 x29.2.2.2.1 x29.2.2.2.2.1 x29.2.2.2.2.2.1 x29.2.2.2.2.2.2.1 x29.2.2.2.2.2.2.2.1 x29.2.2.2.2.2.2.2.2.1 x29.2.2.2.2.2.2.2.2.2.1 x29.2.2.2.2.2.2.2.2.2.2.1 x29.2.2.2.2.2.2.2.2.2.2.2.1).bind fun x61 =>
  (m_shards_Decode x61.1).bind fun x70 =>
  (m_stripe_Join x29.1 (x3.1.length : Int)).bind fun x80 =>
  if x29.2.2.2.2.2.2.2.2.2.2.2.2 = (0 : Int) then
    if x61.2 = (0 : Int) then
      if x70.2.2.2.2.2.2.2.2.2.2.2 = (0 : Int) then
        if x80.2 = (0 : Int) then
          (ck ((24 : Int) * (x3.2.2.2.2.length : Int))).bind fun x93 =>
          (ck ((52 : Int) + x93)).bind fun x94 =>
          if (x61.1.length : Int) = x94 then
            (m_law17_told x70.1 x70.2.1 x70.2.2.1 x70.2.2.2.1 x70.2.2.2.2.1 x70.2.2.2.2.2.1 x70.2.2.2.2.2.2.1 x70.2.2.2.2.2.2.2.1 x70.2.2.2.2.2.2.2.2.1 x70.2.2.2.2.2.2.2.2.2.1 x70.2.2.2.2.2.2.2.2.2.2.1).bind fun x96 =>
            (m_law17_told x29.2.1 x29.2.2.1 x29.2.2.2.1 x29.2.2.2.2.1 x29.2.2.2.2.2.1 x29.2.2.2.2.2.2.1 x29.2.2.2.2.2.2.2.1 x29.2.2.2.2.2.2.2.2.1 x29.2.2.2.2.2.2.2.2.2.1 x29.2.2.2.2.2.2.2.2.2.2.1 x29.2.2.2.2.2.2.2.2.2.2.2.1).bind fun x112 =>
            (m_r17_Same x96.1 x96.2.1 x96.2.2.1 x96.2.2.2.1 x96.2.2.2.2.1 x96.2.2.2.2.2.1 x96.2.2.2.2.2.2.1 x96.2.2.2.2.2.2.2.1 x96.2.2.2.2.2.2.2.2.1 x96.2.2.2.2.2.2.2.2.2.1 x96.2.2.2.2.2.2.2.2.2.2 x112.1 x112.2.1 x112.2.2.1 x112.2.2.2.1 x112.2.2.2.2.1 x112.2.2.2.2.2.1 x112.2.2.2.2.2.2.1 x112.2.2.2.2.2.2.2.1 x112.2.2.2.2.2.2.2.2.1 x112.2.2.2.2.2.2.2.2.2.1 x112.2.2.2.2.2.2.2.2.2.2).bind fun x128 =>
            if x128 = true then
              if x80.1 = x3.1 then
                (m_rs_Verify x29.1).bind fun x132 =>
                if x132 = true then
                  (m_law17_awake).bind fun x135 =>
                  some (x135)
                else
                  some (false)
              else
                some (false)
            else
              some (false)
          else
            some (false)
        else
          some (false)
      else
        some (false)
    else
      some (false)
  else
    some (false)
end Go.Proofs.YthjnhlmfcejhkaaGreat
