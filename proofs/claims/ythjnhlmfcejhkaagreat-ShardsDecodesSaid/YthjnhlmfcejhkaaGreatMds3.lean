/- A part of the proof. Conditions: as each theorem says. -/
import Derived.Test.YthjnhlmfcejhkaaGreatMdr
namespace Go.Proofs.YthjnhlmfcejhkaaGreat
set_option linter.unusedVariables false
def m_law17_ShardsDecodes_j2 : Option Bool :=
  (m_law17_awake).bind fun x190 =>
  some (x190)
def m_law17_ShardsDecodes_l3 (x5 : By) (x74 : By × Int) (x95 x115 x120 : By) : Nat -> Int -> Option Bool
  | 0, _ => none
  | q133 + 1, x132 =>
    if x132 < (([x5, x74.1, x95, x115, x120] : List By).length : Int) then
      (idx ([x5, x74.1, x95, x115, x120] : List By) x132).bind fun x140 =>
      (m_shards_Decode x140).bind fun x145 =>
      (m_r17_Decode x140).bind fun x155 =>
      if x145.2.2.2.2.2.2.2.2.2.2.2 = x155.2.2.2.2.2.2.2.2.2.2.2 then
        (m_law17_told x145.1 x145.2.1 x145.2.2.1 x145.2.2.2.1 x145.2.2.2.2.1 x145.2.2.2.2.2.1 x145.2.2.2.2.2.2.1 x145.2.2.2.2.2.2.2.1 x145.2.2.2.2.2.2.2.2.1 x145.2.2.2.2.2.2.2.2.2.1 x145.2.2.2.2.2.2.2.2.2.2.1).bind fun x166 =>
        (m_r17_Same x166.1 x166.2.1 x166.2.2.1 x166.2.2.2.1 x166.2.2.2.2.1 x166.2.2.2.2.2.1 x166.2.2.2.2.2.2.1 x166.2.2.2.2.2.2.2.1 x166.2.2.2.2.2.2.2.2.1 x166.2.2.2.2.2.2.2.2.2.1 x166.2.2.2.2.2.2.2.2.2.2 x155.1 x155.2.1 x155.2.2.1 x155.2.2.2.1 x155.2.2.2.2.1 x155.2.2.2.2.2.1 x155.2.2.2.2.2.2.1 x155.2.2.2.2.2.2.2.1 x155.2.2.2.2.2.2.2.2.1 x155.2.2.2.2.2.2.2.2.2.1 x155.2.2.2.2.2.2.2.2.2.2.1).bind fun x182 =>
        if x182 = true then
          (ck (x132 + (1 : Int))).bind fun x186 =>
          (m_law17_ShardsDecodes_l3 x5 x74 x95 x115 x120 q133) x186
        else
          some (false)
      else
        some (false)
    else
      m_law17_ShardsDecodes_j2
def m_law17_ShardsDecodes_j1 (x5 : By) (x74 : By × Int) (x91 : Int) (x95 : By) : Option Bool :=
  (slc x74.1 0 x91).bind fun x115 =>
  (apd 1 ([] : By) x74.1).bind fun x117 =>
  (apd 1 x117 x5).bind fun x120 =>
  m_law17_ShardsDecodes_l3 x5 x74 x95 x115 x120 forever (0 : Int)
def m_law17_ShardsDecodes_j0 (x01 : List Sapi_Needle) (x5 : By) (x7 : Int) (x8 : BitVec 8) (x9 : Bool) : Option Bool :=
  (m_law17_file x01).bind fun x16 =>
  (m_r17_Make x16.1 x16.2.1 x16.2.2.1 x16.2.2.2.1 x16.2.2.2.2).bind fun x42 =>
  (m_r17_Encode x42.2.1 x42.2.2.1 x42.2.2.2.1 x42.2.2.2.2.1 x42.2.2.2.2.2.1 x42.2.2.2.2.2.2.1 x42.2.2.2.2.2.2.2.1 x42.2.2.2.2.2.2.2.2.1 x42.2.2.2.2.2.2.2.2.2.1 x42.2.2.2.2.2.2.2.2.2.2.1 x42.2.2.2.2.2.2.2.2.2.2.2.1).bind fun x74 =>
  (apd 1 ([] : By) x74.1).bind fun x84 =>
  (rmi x7 (x84.length : Int)).bind fun x89 =>
  (ck (x89 + (x84.length : Int))).bind fun x90 =>
  (rmi x90 (x84.length : Int)).bind fun x91 =>
  (idx x84 x91).bind fun x93 =>
  (upd x84 x91 x8).bind fun x94 =>
  if x9 = true then
    (ck ((x84.length : Int) - (4 : Int))).bind fun x100 =>
    (slc x94 x100 (x94.length : Int)).bind fun x101 =>
    (ck ((x84.length : Int) - (4 : Int))).bind fun x102 =>
    (slc x94 0 x102).bind fun x103 =>
    (m_r06_Check x103).bind fun x104 =>
    m_law17_ShardsDecodes_j1 x5 x74 x91 (cpy x94 (x100).toNat ((x94.length : Int)).toNat x104)
  else
    m_law17_ShardsDecodes_j1 x5 x74 x91 x94
def m_law17_ShardsDecodes (x00 : By) (x01 : List Sapi_Needle) (x02 : Int) (x03 : BitVec 8) (x04 : Bool) : Option Bool :=
  if (600 : Int) < (x00.length : Int) then
    (slc x00 0 (600 : Int)).bind fun x14 =>
    m_law17_ShardsDecodes_j0 x01 x14 x02 x03 x04
  else
    m_law17_ShardsDecodes_j0 x01 x00 x02 x03 x04
end Go.Proofs.YthjnhlmfcejhkaaGreat
