/-
  Models of functions of the program (g6): what each computes, as an option. Printed by a program of ours (vcm.py). No conditions.
-/
import Derived.Test.YtnbcphofimicdaaMdf
namespace Go.Proofs.Ytnbcphofimicdaa
set_option linter.unusedVariables false

def m_law04_RsLocates_j2 (x03 : List (Int)) (x80 : List (List (BitVec 8))) (x83 : Int) (r1 : (List (List (BitVec 8))) → Int → Option (Bool)) : Option (Bool) :=
  Option.bind (idx x03 x83) fun x93 =>
  Option.bind (rmi (andi x93 (7 : Int)) (6 : Int)) fun x94 =>
  Option.bind (idx x80 x94) fun x97 =>
  Option.bind (apd 1 ([] : List (BitVec 8)) x97) fun x101 =>
  if (0 : Int) < (x101.length : Int) then
    Option.bind (ck (x83 + (1 : Int))) fun x108 =>
    Option.bind (idx x03 x108) fun x109 =>
    Option.bind (rmi x109 (x101.length : Int)) fun x110 =>
    Option.bind (ck (x110 + (x101.length : Int))) fun x111 =>
    Option.bind (rmi x111 (x101.length : Int)) fun x112 =>
    Option.bind (idx x101 x112) fun x113 =>
    Option.bind (idx x03 x83) fun x114 =>
    Option.bind (shri x114 (3 : Nat)) fun x115 =>
    Option.bind (idx x101 x112) fun x116 =>
    Option.bind (upd x101 x112 (x113 ^^^ (BitVec.ofInt 8 x115))) fun x117 =>
    Option.bind (idx x80 x94) fun x179 =>
    Option.bind (upd x80 x94 x117) fun x185 =>
    Option.bind (ck (x83 + (2 : Int))) fun x189 =>
    r1 x185 x189
  else
    Option.bind (idx x80 x94) fun x191 =>
    Option.bind (upd x80 x94 x101) fun x197 =>
    Option.bind (ck (x83 + (2 : Int))) fun x201 =>
    r1 x197 x201
def m_law04_RsLocates_j0 (x00 : List (List (BitVec 8))) (x74 : List (List (BitVec 8))) : Option (Bool) :=
  Option.bind (m_rs_Locate x00) fun x203 =>
  Option.bind (m_r04_Locate x00) fun x206 =>
  Option.bind (m_rs_Locate x74) fun x209 =>
  Option.bind (m_r04_Locate x74) fun x212 =>
  if x203.1 = x206.1 then
    if x203.2 = x206.2 then
      if x209.1 = x212.1 then
        if x209.2 = x212.2 then
          Option.bind (m_law04_awake) fun x219 =>
          some (x219)
        else
          some (false)
      else
        some (false)
    else
      some (false)
  else
    some (false)
def m_law04_RsLocates_l1 (x00 : List (List (BitVec 8))) (x03 : List (Int)) : Nat → (List (List (BitVec 8))) → Int → Option (Bool)
  | 0, _, _ => none
  | q84 + 1, x80, x83 =>
    Option.bind (ck (x83 + (1 : Int))) fun x88 =>
    if x88 < (x03.length : Int) then
      if x83 < (6 : Int) then
        m_law04_RsLocates_j2 x03 x80 x83 (m_law04_RsLocates_l1 x00 x03 q84)
      else
        m_law04_RsLocates_j0 x00 x80
    else
      m_law04_RsLocates_j0 x00 x80
def m_law04_RsLocates (x00 : List (List (BitVec 8))) (x01 : List (BitVec 8)) (x02 : Int) (x03 : List (Int)) : Option (Bool) :=
  Option.bind (m_law04_light x00) fun x4 =>
  if x4 = true then
    Option.bind (m_law04_data x01 x02) fun x8 =>
    Option.bind (m_r04_Encode x8) fun x26 =>
    Option.bind (m_law04_data x01 x02) fun x50 =>
    Option.bind (apd 24 x50 x26.1) fun x68 =>
    m_law04_RsLocates_l1 x00 x03 forever x68 (0 : Int)
  else
    Option.bind (m_law04_awake) fun x222 =>
    some (x222)

end Go.Proofs.Ytnbcphofimicdaa
