/-
  Models of functions of the program (m0): what each computes, as an option. Printed by a program of ours (vcm.py). No conditions.
-/
import Derived.Test.YtcncappgheopgaaGreatMdl
namespace Go.Proofs.YtcncappgheopgaaGreat
set_option linter.unusedVariables false
structure Sanon42 where
  fe0 : Int
  fe1 : Int
  deriving DecidableEq
def m_law18_EcreadBytes_j3 (x140 : List (Sapi_Item)) (x145 : List (List (BitVec 8))) (x152 : List (Bool)) (x154 : Int) (r2 : (List (Sapi_Item)) -> (List (List (BitVec 8))) -> (List (Bool)) -> Int -> Option (Bool)) : Option (Bool) :=
  Option.bind (ck (x154 + (1 : Int))) fun x255 =>
  r2 x140 x145 x152 x255
def m_law18_EcreadBytes_l5 (x18 : List (Int)) (x20 x21 : Int) (x140 : List (Sapi_Item)) (x145 : List (List (BitVec 8))) (x152 : List (Bool)) (x154 x170 x171 x172 x173 : Int) (x174 x175 x176 x177 x178 x179 : BitVec 32) (x183 : List (Sapi_Item)) (x188 : List (List (BitVec 8))) (x195 : List (Bool)) (r2 : (List (Sapi_Item)) -> (List (List (BitVec 8))) -> (List (Bool)) -> Int -> Option (Bool)) : Nat -> Int -> Option (Bool)
  | 0, _ => none
  | q205 + 1, x204 =>
    if x204 < (([(Sanon42.mk x20 x21), (Sanon42.mk (andi x20 (511 : Int)) (andi x21 (255 : Int))), (Sanon42.mk (0 : Int) x173)] : List (Sanon42)).length : Int) then
      Option.bind (idx ([(Sanon42.mk x20 x21), (Sanon42.mk (andi x20 (511 : Int)) (andi x21 (255 : Int))), (Sanon42.mk (0 : Int) x173)] : List (Sanon42)) x204) fun x212 =>
      Option.bind (m_law18_given x170 x171 x172 x173 x174 x175 x176 x177 x178 x179 x183) fun x215 =>
      Option.bind (m_ecread_Bytes x215.1 x215.2.1 x215.2.2.1 x215.2.2.2.1 x215.2.2.2.2.1 x215.2.2.2.2.2.1 x215.2.2.2.2.2.2.1 x215.2.2.2.2.2.2.2.1 x215.2.2.2.2.2.2.2.2.1 x215.2.2.2.2.2.2.2.2.2.1 x215.2.2.2.2.2.2.2.2.2.2 x188 x195 x18 x212.fe0 x212.fe1) fun x230 =>
      Option.bind (m_r18_Bytes x170 x171 x172 x173 x174 x175 x176 x177 x178 x179 x183 x188 x195 x18 x212.fe0 x212.fe1) fun x239 =>
      if x230.2 = x239.2 then
        if x230.1 = x239.1 then
          Option.bind (ck (x204 + (1 : Int))) fun x251 =>
          (m_law18_EcreadBytes_l5 x18 x20 x21 x140 x145 x152 x154 x170 x171 x172 x173 x174 x175 x176 x177 x178 x179 x183 x188 x195 r2 q205) x251
        else
          some (false)
      else
        some (false)
    else
      m_law18_EcreadBytes_j3 x140 x145 x152 x154 r2
def m_law18_EcreadBytes_j4 (x18 : List (Int)) (x20 x21 : Int) (x140 : List (Sapi_Item)) (x145 : List (List (BitVec 8))) (x152 : List (Bool)) (x154 : Int) (r2 : (List (Sapi_Item)) -> (List (List (BitVec 8))) -> (List (Bool)) -> Int -> Option (Bool)) (x170 x171 x172 x173 : Int) (x174 x175 x176 x177 x178 x179 : BitVec 32) (x183 : List (Sapi_Item)) (x188 : List (List (BitVec 8))) (x195 : List (Bool)) : Option (Bool) :=
  m_law18_EcreadBytes_l5 x18 x20 x21 x140 x145 x152 x154 x170 x171 x172 x173 x174 x175 x176 x177 x178 x179 x183 x188 x195 r2 forever (0 : Int)
def m_law18_EcreadBytes_j1 : Option (Bool) :=
  Option.bind (m_law18_awake) fun x257 =>
  some (x257)
def m_law18_EcreadBytes_l2 (x00_0 x00_1 : Int) (x00_10 : List (Sapi_Item)) (x00_2 x00_3 : Int) (x00_4 x00_5 x00_6 x00_7 x00_8 x00_9 : BitVec 32) (x01 : List (List (BitVec 8))) (x02 : List (Bool)) (x18 : List (Int)) (x20 x21 : Int) (x39 : (List (BitVec 8)) × (List (Sneedlestoreref09_Record)) × Int × Int × Int × Int × (BitVec 32) × (BitVec 32) × (BitVec 32) × (BitVec 32) × (BitVec 32) × (BitVec 32) × (List (Sapi_Item)) × (List (List (BitVec 8)))) : Nat -> (List (Sapi_Item)) -> (List (List (BitVec 8))) -> (List (Bool)) -> Int -> Option (Bool)
  | 0, _, _, _, _ => none
  | q155 + 1, x140, x145, x152, x154 =>
    if x154 < (2 : Int) then
      if x154 = (1 : Int) then
        m_law18_EcreadBytes_j4 x18 x20 x21 x140 x145 x152 x154 (m_law18_EcreadBytes_l2 x00_0 x00_1 x00_10 x00_2 x00_3 x00_4 x00_5 x00_6 x00_7 x00_8 x00_9 x01 x02 x18 x20 x21 x39 q155) x39.2.2.1 x39.2.2.2.1 x39.2.2.2.2.1 x39.2.2.2.2.2.1 x39.2.2.2.2.2.2.1 x39.2.2.2.2.2.2.2.1 x39.2.2.2.2.2.2.2.2.1 x39.2.2.2.2.2.2.2.2.2.1 x39.2.2.2.2.2.2.2.2.2.2.1 x39.2.2.2.2.2.2.2.2.2.2.2.1 x140 x145 x152
      else
        m_law18_EcreadBytes_j4 x18 x20 x21 x140 x145 x152 x154 (m_law18_EcreadBytes_l2 x00_0 x00_1 x00_10 x00_2 x00_3 x00_4 x00_5 x00_6 x00_7 x00_8 x00_9 x01 x02 x18 x20 x21 x39 q155) x00_0 x00_1 x00_2 x00_3 x00_4 x00_5 x00_6 x00_7 x00_8 x00_9 x00_10 x01 x02
    else
      m_law18_EcreadBytes_j1
def m_law18_EcreadBytes_j0 (x00_0 x00_1 : Int) (x00_10 : List (Sapi_Item)) (x00_2 x00_3 : Int) (x00_4 x00_5 x00_6 x00_7 x00_8 x00_9 : BitVec 32) (x01 : List (List (BitVec 8))) (x02 : List (Bool)) (x6 : List (Sapi_Needle)) (x13 x18 : List (Int)) (x20 x21 : Int) : Option (Bool) :=
  Option.bind (m_law18_made x6) fun x39 =>
  Option.bind (m_law18_spoilt x39.2.2.2.2.2.2.2.2.2.2.2.2.2 x13) fun x97 =>
  m_law18_EcreadBytes_l2 x00_0 x00_1 x00_10 x00_2 x00_3 x00_4 x00_5 x00_6 x00_7 x00_8 x00_9 x01 x02 x18 x20 x21 x39 forever x39.2.2.2.2.2.2.2.2.2.2.2.2.1 x97.1 x97.2 (0 : Int)
def m_law18_EcreadBytes (x00_0 x00_1 x00_2 x00_3 : Int) (x00_4 x00_5 x00_6 x00_7 x00_8 x00_9 : BitVec 32) (x00_10 : List (Sapi_Item)) (x01 : List (List (BitVec 8))) (x02 : List (Bool)) (x03 : List (Sapi_Needle)) (x04 x05 : List (Int)) (x06 x07 : Int) : Option (Bool) :=
  Option.bind (m_law18_light x01 x00_0 x00_1 x00_2 x00_3 x00_4 x00_5 x00_6 x00_7 x00_8 x00_9 x00_10) fun x24 =>
  if x24 = true then
    if (6 : Int) < (x05.length : Int) then
      Option.bind (m_law18_awake) fun x29 =>
      some (x29)
    else
      if (10 : Int) < (x02.length : Int) then
        Option.bind (m_law18_awake) fun x33 =>
        some (x33)
      else
        m_law18_EcreadBytes_j0 x00_0 x00_1 x00_10 x00_2 x00_3 x00_4 x00_5 x00_6 x00_7 x00_8 x00_9 x01 x02 x03 x04 x05 x06 x07
  else
    Option.bind (m_law18_awake) fun x36 =>
    some (x36)
end Go.Proofs.YtcncappgheopgaaGreat
