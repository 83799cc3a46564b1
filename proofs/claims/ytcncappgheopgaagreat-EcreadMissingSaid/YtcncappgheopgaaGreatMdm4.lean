/-
  Models of functions of the program (m4): what each computes, as an option. Printed by a program of ours (vcm.py). No conditions.
-/
import Derived.Test.YtcncappgheopgaaGreatMdl
namespace Go.Proofs.YtcncappgheopgaaGreat
set_option linter.unusedVariables false
def m_law18_EcreadMissing_j4 (x100 : List (Sapi_Item)) (x102 : Int) (r3 : (List (Sapi_Item)) → Int → Option (Bool)) : Option (Bool) :=
  Option.bind (ck (x102 + (1 : Int))) fun x238 =>
  r3 x100 x238
def m_law18_EcreadMissing_j8 (x65 : Int) (x100 : List (Sapi_Item)) (x102 : Int) (x155 : Int) (r3 : (List (Sapi_Item)) → Int → Option (Bool)) (x203 : Bool) : Option (Bool) :=
  if x155 = (11 : Int) then
    if (4 : Int) ≤ x65 then
      some (false)
    else
      if x203 = true then
        some (false)
      else
        m_law18_EcreadMissing_j4 x100 x102 r3
  else
    some (false)
def m_law18_EcreadMissing_l9 (x64 : List (Bool)) (x65 : Int) (x100 : List (Sapi_Item)) (x102 : Int) (x155 : Int) (x194 : (List (Sstripe_Piece)) × Int) (r3 : (List (Sapi_Item)) → Int → Option (Bool)) : Nat → Bool → Int → Option (Bool)
  | 0, _, _ => none
  | q208 + 1, x206, x207 =>
    if x207 < (x194.1.length : Int) then
      Option.bind (idx x194.1 x207) fun x215 =>
      if x206 = true then
        if (0 : Int) ≤ x215.fShard then
          if x215.fShard < (6 : Int) then
            Option.bind (idx x64 x215.fShard) fun x221 =>
            Option.bind (ck (x207 + (1 : Int))) fun x223 =>
            (m_law18_EcreadMissing_l9 x64 x65 x100 x102 x155 x194 r3 q208) x221 x223
          else
            Option.bind (ck (x207 + (1 : Int))) fun x225 =>
            (m_law18_EcreadMissing_l9 x64 x65 x100 x102 x155 x194 r3 q208) false x225
        else
          Option.bind (ck (x207 + (1 : Int))) fun x227 =>
          (m_law18_EcreadMissing_l9 x64 x65 x100 x102 x155 x194 r3 q208) false x227
      else
        Option.bind (ck (x207 + (1 : Int))) fun x229 =>
        (m_law18_EcreadMissing_l9 x64 x65 x100 x102 x155 x194 r3 q208) false x229
    else
      m_law18_EcreadMissing_j8 x65 x100 x102 x155 r3 x206
def m_law18_EcreadMissing_j7 (x64 : List (Bool)) (x65 : Int) (x100 : List (Sapi_Item)) (x102 : Int) (x113 : Sneedlestoreref09_Record) (r3 : (List (Sapi_Item)) → Int → Option (Bool)) (x146 : BitVec 64) (x147 : BitVec 32) (x148 : Bool) (x154 : List (BitVec 8)) (x155 : Int) : Option (Bool) :=
  if x155 = (0 : Int) then
    Option.bind (m_r06_Same x146 x147 x148 x154 x113.fNeedle.fKey x113.fNeedle.fCookie x113.fNeedle.fDeleted x113.fNeedle.fData) fun x187 =>
    if x187 = true then
      m_law18_EcreadMissing_j4 x100 x102 r3
    else
      some (false)
  else
    Option.bind (m_needle_Size (x113.fNeedle.fData.length : Int)) fun x192 =>
    Option.bind (m_stripe_Pieces x113.fOff x192) fun x194 =>
    m_law18_EcreadMissing_l9 x64 x65 x100 x102 x155 x194 r3 forever (x194.2 == (0 : Int)) (0 : Int)
def m_law18_EcreadMissing_j5 (x3 : (List (BitVec 8)) × (List (Sneedlestoreref09_Record)) × Int × Int × Int × Int × (BitVec 32) × (BitVec 32) × (BitVec 32) × (BitVec 32) × (BitVec 32) × (BitVec 32) × (List (Sapi_Item)) × (List (List (BitVec 8)))) (x64 : List (Bool)) (x65 : Int) (x100 : List (Sapi_Item)) (x102 : Int) (x113 : Sneedlestoreref09_Record) (r3 : (List (Sapi_Item)) → Int → Option (Bool)) (x121 : Bool) : Option (Bool) :=
  if x121 = true then
    Option.bind (m_law18_given x3.2.2.1 x3.2.2.2.1 x3.2.2.2.2.1 x3.2.2.2.2.2.1 x3.2.2.2.2.2.2.1 x3.2.2.2.2.2.2.2.1 x3.2.2.2.2.2.2.2.2.1 x3.2.2.2.2.2.2.2.2.2.1 x3.2.2.2.2.2.2.2.2.2.2.1 x3.2.2.2.2.2.2.2.2.2.2.2.1 x100) fun x158 =>
    Option.bind (m_ecread_Read x158.1 x158.2.1 x158.2.2.1 x158.2.2.2.1 x158.2.2.2.2.1 x158.2.2.2.2.2.1 x158.2.2.2.2.2.2.1 x158.2.2.2.2.2.2.2.1 x158.2.2.2.2.2.2.2.2.1 x158.2.2.2.2.2.2.2.2.2.1 x158.2.2.2.2.2.2.2.2.2.2 x3.2.2.2.2.2.2.2.2.2.2.2.2.2 x64 x113.fNeedle.fKey x113.fNeedle.fCookie x113.fOff (x113.fNeedle.fData.length : Int)) fun x173 =>
    m_law18_EcreadMissing_j7 x64 x65 x100 x102 x113 r3 x173.1 x173.2.1 x173.2.2.1 x173.2.2.2.1 x173.2.2.2.2
  else
    m_law18_EcreadMissing_j4 x100 x102 r3
def m_law18_EcreadMissing_l6 (x3 : (List (BitVec 8)) × (List (Sneedlestoreref09_Record)) × Int × Int × Int × Int × (BitVec 32) × (BitVec 32) × (BitVec 32) × (BitVec 32) × (BitVec 32) × (BitVec 32) × (List (Sapi_Item)) × (List (List (BitVec 8)))) (x64 : List (Bool)) (x65 : Int) (x100 : List (Sapi_Item)) (x102 : Int) (x113 : Sneedlestoreref09_Record) (r3 : (List (Sapi_Item)) → Int → Option (Bool)) : Nat → Bool → Int → Option (Bool)
  | 0, _, _ => none
  | q126 + 1, x124, x125 =>
    if x125 < (x100.length : Int) then
      Option.bind (idx x100 x125) fun x133 =>
      if x124 = true then
        Option.bind (ck (x125 + (1 : Int))) fun x138 =>
        (m_law18_EcreadMissing_l6 x3 x64 x65 x100 x102 x113 r3 q126) true x138
      else
        Option.bind (ck (x125 + (1 : Int))) fun x140 =>
        (m_law18_EcreadMissing_l6 x3 x64 x65 x100 x102 x113 r3 q126) (decide (x133.fKey = x113.fNeedle.fKey ∧ x133.fCookie = x113.fNeedle.fCookie ∧ x133.fOff = x113.fOff ∧ x133.fSize = (x113.fNeedle.fData.length : Int) ∧ True)) x140
    else
      m_law18_EcreadMissing_j5 x3 x64 x65 x100 x102 x113 r3 x124
def m_law18_EcreadMissing_j2 : Option (Bool) :=
  Option.bind (m_law18_awake) fun x240 =>
  some (x240)
def m_law18_EcreadMissing_l3 (x3 : (List (BitVec 8)) × (List (Sneedlestoreref09_Record)) × Int × Int × Int × Int × (BitVec 32) × (BitVec 32) × (BitVec 32) × (BitVec 32) × (BitVec 32) × (BitVec 32) × (List (Sapi_Item)) × (List (List (BitVec 8)))) (x64 : List (Bool)) (x65 : Int) : Nat → (List (Sapi_Item)) → Int → Option (Bool)
  | 0, _, _ => none
  | q103 + 1, x100, x102 =>
    if x102 < (x3.2.1.length : Int) then
      Option.bind (idx x3.2.1 x102) fun x113 =>
      m_law18_EcreadMissing_l6 x3 x64 x65 x100 x102 x113 (m_law18_EcreadMissing_l3 x3 x64 x65 q103) forever false (0 : Int)
    else
      m_law18_EcreadMissing_j2
def m_law18_EcreadMissing_j0 (x3 : (List (BitVec 8)) × (List (Sneedlestoreref09_Record)) × Int × Int × Int × Int × (BitVec 32) × (BitVec 32) × (BitVec 32) × (BitVec 32) × (BitVec 32) × (BitVec 32) × (List (Sapi_Item)) × (List (List (BitVec 8)))) (x64 : List (Bool)) (x65 : Int) : Option (Bool) :=
  m_law18_EcreadMissing_l3 x3 x64 x65 forever x3.2.2.2.2.2.2.2.2.2.2.2.2.1 (0 : Int)
def m_law18_EcreadMissing_l1 (x01 : Int) (x3 : (List (BitVec 8)) × (List (Sneedlestoreref09_Record)) × Int × Int × Int × Int × (BitVec 32) × (BitVec 32) × (BitVec 32) × (BitVec 32) × (BitVec 32) × (BitVec 32) × (List (Sapi_Item)) × (List (List (BitVec 8)))) (x62 : List (Bool)) : Nat → (List (Bool)) → Int → Int → Option (Bool)
  | 0, _, _, _ => none
  | q71 + 1, x68, x69, x70 =>
    if x70 < (x62.length : Int) then
      Option.bind (shri x01 ((BitVec.ofInt 64 x70).toNat : Nat)) fun x79 =>
      Option.bind (idx x68 x70) fun x80 =>
      Option.bind (upd x68 x70 ((andi x79 (1 : Int)) == (1 : Int))) fun x81 =>
      Option.bind (idx x81 x70) fun x83 =>
      if x83 = true then
        Option.bind (ck (x69 + (1 : Int))) fun x86 =>
        Option.bind (ck (x70 + (1 : Int))) fun x88 =>
        (m_law18_EcreadMissing_l1 x01 x3 x62 q71) x81 x86 x88
      else
        Option.bind (ck (x70 + (1 : Int))) fun x90 =>
        (m_law18_EcreadMissing_l1 x01 x3 x62 q71) x81 x69 x90
    else
      m_law18_EcreadMissing_j0 x3 x68 x69
def m_law18_EcreadMissing (x00 : List (Sapi_Needle)) (x01 : Int) : Option (Bool) :=
  Option.bind (m_law18_made x00) fun x3 =>
  Option.bind (mks 1 (6 : Int) false) fun x62 =>
  m_law18_EcreadMissing_l1 x01 x3 x62 forever x62 (0 : Int) (0 : Int)
end Go.Proofs.YtcncappgheopgaaGreat
