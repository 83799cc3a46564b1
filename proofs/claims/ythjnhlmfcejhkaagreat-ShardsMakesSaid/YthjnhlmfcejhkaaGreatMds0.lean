/- A part of the proof. Conditions: as each theorem says. -/
import Derived.Test.YthjnhlmfcejhkaaGreatMdr
namespace Go.Proofs.YthjnhlmfcejhkaaGreat
set_option linter.unusedVariables false
def m_law17_ShardsMakes_j3 (x55 : List Sapi_Item) (x57 : Int) (r2 : (List Sapi_Item) -> Int -> Option Bool) (x71 : By) (x73 x74 x75 : Int) (x79 : List Sapi_Item) : Option Bool :=
  (m_shards_Make x71 x73 x74 x75 x79).bind fun x93 =>
  (m_r17_Make x71 x73 x74 x75 x79).bind fun x123 =>
  if x93.2.2.2.2.2.2.2.2.2.2.2.2 = x123.2.2.2.2.2.2.2.2.2.2.2.2 then
    (m_r03_SameRows x93.1 x123.1).bind fun x154 =>
    if x154 = true then
      (m_law17_told x93.2.1 x93.2.2.1 x93.2.2.2.1 x93.2.2.2.2.1 x93.2.2.2.2.2.1 x93.2.2.2.2.2.2.1 x93.2.2.2.2.2.2.2.1 x93.2.2.2.2.2.2.2.2.1 x93.2.2.2.2.2.2.2.2.2.1 x93.2.2.2.2.2.2.2.2.2.2.1 x93.2.2.2.2.2.2.2.2.2.2.2.1).bind fun x157 =>
      (m_r17_Same x157.1 x157.2.1 x157.2.2.1 x157.2.2.2.1 x157.2.2.2.2.1 x157.2.2.2.2.2.1 x157.2.2.2.2.2.2.1 x157.2.2.2.2.2.2.2.1 x157.2.2.2.2.2.2.2.2.1 x157.2.2.2.2.2.2.2.2.2.1 x157.2.2.2.2.2.2.2.2.2.2 x123.2.1 x123.2.2.1 x123.2.2.2.1 x123.2.2.2.2.1 x123.2.2.2.2.2.1 x123.2.2.2.2.2.2.1 x123.2.2.2.2.2.2.2.1 x123.2.2.2.2.2.2.2.2.1 x123.2.2.2.2.2.2.2.2.2.1 x123.2.2.2.2.2.2.2.2.2.2.1 x123.2.2.2.2.2.2.2.2.2.2.2.1).bind fun x173 =>
      if x173 = true then
        (ck (x57 + (1 : Int))).bind fun x177 =>
        r2 x55 x177
      else
        some (false)
    else
      some (false)
  else
    some (false)
def m_law17_ShardsMakes_j1 : Option Bool :=
  (m_law17_awake).bind fun x182 =>
  some (x182)
def m_law17_ShardsMakes_l2 (x00 : By) (v0 v1 v2 : Int) (x02 : List Sapi_Item) (x21 : By × Int × Int × Int × (List Sapi_Item)) : Nat -> (List Sapi_Item) -> Int -> Option Bool
  | 0, _, _ => none
  | q58 + 1, x55, x57 =>
    if x57 < (4 : Int) then
      if x57 = (1 : Int) then
        m_law17_ShardsMakes_j3 x55 x57 (m_law17_ShardsMakes_l2 x00 v0 v1 v2 x02 x21 q58) x00 x21.2.1 x21.2.2.1 x21.2.2.2.1 x55
      else
        if x57 = (2 : Int) then
          m_law17_ShardsMakes_j3 x55 x57 (m_law17_ShardsMakes_l2 x00 v0 v1 v2 x02 x21 q58) x21.1 v0 v1 v2 x55
        else
          if x57 = (3 : Int) then
            m_law17_ShardsMakes_j3 x55 x57 (m_law17_ShardsMakes_l2 x00 v0 v1 v2 x02 x21 q58) x21.1 x21.2.1 x21.2.2.1 x21.2.2.2.1 x02
          else
            m_law17_ShardsMakes_j3 x55 x57 (m_law17_ShardsMakes_l2 x00 v0 v1 v2 x02 x21 q58) x21.1 x21.2.1 x21.2.2.1 x21.2.2.2.1 x55
    else
      m_law17_ShardsMakes_j1
def m_law17_ShardsMakes_j0 (x00 : By) (v0 v1 v2 : Int) (x02 : List Sapi_Item) (x6 : List Sapi_Needle) : Option Bool :=
  (m_law17_file x6).bind fun x21 =>
  m_law17_ShardsMakes_l2 x00 v0 v1 v2 x02 x21 forever x21.2.2.2.2 (0 : Int)
def m_law17_ShardsMakes (x00 : By) (v0 v1 v2 : Int) (x02 : List Sapi_Item) (x03 : List Sapi_Needle) : Option Bool :=
  if (1500 : Int) < (x00.length : Int) then
    (m_law17_awake).bind fun x14 =>
    some (x14)
  else
    if (30 : Int) < (x02.length : Int) then
      (m_law17_awake).bind fun x18 =>
      some (x18)
    else
      m_law17_ShardsMakes_j0 x00 v0 v1 v2 x02 x03
end Go.Proofs.YthjnhlmfcejhkaaGreat
