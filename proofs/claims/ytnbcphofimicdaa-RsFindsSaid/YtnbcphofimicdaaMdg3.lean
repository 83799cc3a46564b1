/-
  Models of functions of the program (g3): what each computes, as an option. Printed by a program of ours (vcm.py). No conditions.
-/
import Derived.Test.YtnbcphofimicdaaMdf
namespace Go.Proofs.Ytnbcphofimicdaa
set_option linter.unusedVariables false

def m_law04_RsLinear_j2 (x60 : Int) (r1 : (List (List (BitVec 8))) → Int → Option (Bool)) (x70 : List (List (BitVec 8))) : Option (Bool) :=
  Option.bind (ck (x60 + (1 : Int))) fun x120 =>
  r1 x70 x120
def m_law04_RsLinear_j3 (x57 : List (List (BitVec 8))) (x60 : Int) (r1 : (List (List (BitVec 8))) → Int → Option (Bool)) (x82 : List (BitVec 8)) : Option (Bool) :=
  Option.bind (apd 24 x57 ([x82] : List (List (BitVec 8)))) fun x114 =>
  m_law04_RsLinear_j2 x60 r1 x114
def m_law04_RsLinear_l4 (x3 : (List (List (BitVec 8)))) (x21 : (List (List (BitVec 8)))) (x57 : List (List (BitVec 8))) (x60 : Int) (x81 : List (BitVec 8)) (r1 : (List (List (BitVec 8))) → Int → Option (Bool)) : Nat → (List (BitVec 8)) → Int → Option (Bool)
  | 0, _, _ => none
  | q87 + 1, x85, x86 =>
    if x86 < (x81.length : Int) then
      Option.bind (idx x3 x60) fun x95 =>
      Option.bind (idx x95 x86) fun x99 =>
      Option.bind (idx x21 x60) fun x100 =>
      Option.bind (idx x100 x86) fun x104 =>
      Option.bind (idx x85 x86) fun x105 =>
      Option.bind (upd x85 x86 (x99 ^^^ x104)) fun x106 =>
      Option.bind (ck (x86 + (1 : Int))) fun x108 =>
      (m_law04_RsLinear_l4 x3 x21 x57 x60 x81 r1 q87) x106 x108
    else
      m_law04_RsLinear_j3 x57 x60 r1 x85
def m_law04_RsLinear_j8 (x200 : Int) (r7 : Int → Option (Bool)) : Option (Bool) :=
  Option.bind (ck (x200 + (1 : Int))) fun x264 =>
  r7 x264
def m_law04_RsLinear_l10 (x122 : (List (List (BitVec 8))) × Int) (x143 : (List (List (BitVec 8))) × Int) (x164 : (List (List (BitVec 8))) × Int) (x200 : Int) (x231 : List (BitVec 8)) (r7 : Int → Option (Bool)) : Nat → Int → Option (Bool)
  | 0, _ => none
  | q236 + 1, x235 =>
    if x235 < (x231.length : Int) then
      Option.bind (idx x164.1 x200) fun x244 =>
      Option.bind (idx x244 x235) fun x248 =>
      Option.bind (idx x122.1 x200) fun x249 =>
      Option.bind (idx x249 x235) fun x253 =>
      Option.bind (idx x143.1 x200) fun x254 =>
      Option.bind (idx x254 x235) fun x258 =>
      if x248 = (x253 ^^^ x258) then
        Option.bind (ck (x235 + (1 : Int))) fun x261 =>
        (m_law04_RsLinear_l10 x122 x143 x164 x200 x231 r7 q236) x261
      else
        some (false)
    else
      m_law04_RsLinear_j8 x200 r7
def m_law04_RsLinear_j9 (x122 : (List (List (BitVec 8))) × Int) (x143 : (List (List (BitVec 8))) × Int) (x164 : (List (List (BitVec 8))) × Int) (x200 : Int) (r7 : Int → Option (Bool)) : Option (Bool) :=
  Option.bind (idx x164.1 x200) fun x231 =>
  m_law04_RsLinear_l10 x122 x143 x164 x200 x231 r7 forever (0 : Int)
def m_law04_RsLinear_j6 : Option (Bool) :=
  Option.bind (m_law04_awake) fun x266 =>
  some (x266)
def m_law04_RsLinear_l7 (x122 : (List (List (BitVec 8))) × Int) (x143 : (List (List (BitVec 8))) × Int) (x164 : (List (List (BitVec 8))) × Int) : Nat → Int → Option (Bool)
  | 0, _ => none
  | q201 + 1, x200 =>
    if x200 < (x164.1.length : Int) then
      Option.bind (idx x122.1 x200) fun x210 =>
      Option.bind (idx x164.1 x200) fun x214 =>
      if (x210.length : Int) = (x214.length : Int) then
        Option.bind (idx x143.1 x200) fun x219 =>
        Option.bind (idx x164.1 x200) fun x223 =>
        if (x219.length : Int) = (x223.length : Int) then
          m_law04_RsLinear_j9 x122 x143 x164 x200 (m_law04_RsLinear_l7 x122 x143 x164 q201)
        else
          some (false)
      else
        some (false)
    else
      m_law04_RsLinear_j6
def m_law04_RsLinear_j5 (x122 : (List (List (BitVec 8))) × Int) (x143 : (List (List (BitVec 8))) × Int) (x164 : (List (List (BitVec 8))) × Int) : Option (Bool) :=
  m_law04_RsLinear_l7 x122 x143 x164 forever (0 : Int)
def m_law04_RsLinear_j0 (x3 : (List (List (BitVec 8)))) (x21 : (List (List (BitVec 8)))) (x46 : List (List (BitVec 8))) : Option (Bool) :=
  Option.bind (m_rs_Encode x3) fun x122 =>
  Option.bind (m_rs_Encode x21) fun x143 =>
  Option.bind (m_rs_Encode x46) fun x164 =>
  if x122.2 = (0 : Int) then
    if x143.2 = (0 : Int) then
      if x164.2 = (0 : Int) then
        if (x122.1.length : Int) = (2 : Int) then
          if (x143.1.length : Int) = (2 : Int) then
            if (x164.1.length : Int) = (2 : Int) then
              m_law04_RsLinear_j5 x122 x143 x164
            else
              some (false)
          else
            some (false)
        else
          some (false)
      else
        some (false)
    else
      some (false)
  else
    some (false)
def m_law04_RsLinear_l1 (x3 : (List (List (BitVec 8)))) (x21 : (List (List (BitVec 8)))) : Nat → (List (List (BitVec 8))) → Int → Option (Bool)
  | 0, _, _ => none
  | q61 + 1, x57, x60 =>
    if x60 < (x3.length : Int) then
      Option.bind (idx x3 x60) fun x76 =>
      Option.bind (mks 1 (x76.length : Int) 0#8) fun x81 =>
      m_law04_RsLinear_l4 x3 x21 x57 x60 x81 (m_law04_RsLinear_l1 x3 x21 q61) forever x81 (0 : Int)
    else
      m_law04_RsLinear_j0 x3 x21 x57
def m_law04_RsLinear (x00 : List (BitVec 8)) (x01 : List (BitVec 8)) (x02 : Int) : Option (Bool) :=
  Option.bind (m_law04_data x00 x02) fun x3 =>
  Option.bind (m_law04_data x01 x02) fun x21 =>
  m_law04_RsLinear_l1 x3 x21 forever ([] : List (List (BitVec 8))) (0 : Int)

end Go.Proofs.Ytnbcphofimicdaa
