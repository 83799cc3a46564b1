/-
  Models of functions of the program (e3): what each computes, as an option. Printed by a program of ours (vcm.py). No conditions.
-/
import Derived.Test.YtpebhdepmbnjbaaMdy
namespace Go.Proofs.Ytpebhdepmbnjbaa
set_option linter.unusedVariables false

def m_law24_HistoryParts_j2 (x97 : Int) (r1 : Int → Int → Option (Bool)) (x104 : Int) : Option (Bool) :=
  Option.bind (ck (x97 + (1 : Int))) fun x176 =>
  r1 x104 x176
def m_law24_HistoryParts_j3 (x46 : (List (Shistory_Op)) × Int) (x97 : Int) (x107 : BitVec 64) (r1 : Int → Int → Option (Bool)) (x109 : Int) : Option (Bool) :=
  Option.bind (m_history_Only x46.1 x107) fun x153 =>
  Option.bind (m_history_Valid x153) fun x171 =>
  if x171 = true then
    m_law24_HistoryParts_j2 x97 r1 x109
  else
    some (false)
def m_law24_HistoryParts_l4 (x46 : (List (Shistory_Op)) × Int) (x97 : Int) (x107 : BitVec 64) (x112 : (List (Shistory_Op))) (r1 : Int → Int → Option (Bool)) : Nat → Int → Int → Option (Bool)
  | 0, _, _ => none
  | q132 + 1, x130, x131 =>
    if x131 < (x112.length : Int) then
      Option.bind (idx x112 x131) fun x139 =>
      if x139.fKey = x107 then
        Option.bind (ck (x130 + (1 : Int))) fun x148 =>
        Option.bind (ck (x131 + (1 : Int))) fun x150 =>
        (m_law24_HistoryParts_l4 x46 x97 x107 x112 r1 q132) x148 x150
      else
        some (false)
    else
      m_law24_HistoryParts_j3 x46 x97 x107 r1 x130
def m_law24_HistoryParts_j0 (x46 : (List (Shistory_Op)) × Int) (x71 : List (Shistory_Op)) (x75 : Int) : Option (Bool) :=
  if x46.2 = (0 : Int) then
    if x75 = (x71.length : Int) then
      Option.bind (m_law24_awake) fun x180 =>
      some (x180)
    else
      some (false)
  else
    some (false)
def m_law24_HistoryParts_l1 (x46 : (List (Shistory_Op)) × Int) (x78 : (List (BitVec 64))) : Nat → Int → Int → Option (Bool)
  | 0, _, _ => none
  | q98 + 1, x96, x97 =>
    if x97 < (x78.length : Int) then
      Option.bind (idx x78 x97) fun x107 =>
      Option.bind (m_history_Only x46.1 x107) fun x112 =>
      m_law24_HistoryParts_l4 x46 x97 x107 x112 (m_law24_HistoryParts_l1 x46 x78 q98) forever x96 (0 : Int)
    else
      m_law24_HistoryParts_j0 x46 x46.1 x96
def m_law24_HistoryParts (x00 : List (Sneedlestoreref24_Event)) : Option (Bool) :=
  Option.bind (m_law24_light x00) fun x4 =>
  if x4 = true then
    Option.bind (m_law24_made x00) fun x8 =>
    Option.bind (m_law24_given x8) fun x26 =>
    Option.bind (m_history_Build x26) fun x46 =>
    Option.bind (m_history_Keys x46.1) fun x78 =>
    m_law24_HistoryParts_l1 x46 x78 forever (0 : Int) (0 : Int)
  else
    Option.bind (m_law24_awake) fun x183 =>
    some (x183)

end Go.Proofs.Ytpebhdepmbnjbaa
