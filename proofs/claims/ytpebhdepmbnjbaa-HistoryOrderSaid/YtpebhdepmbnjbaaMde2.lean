/-
  Models of functions of the program (e2): what each computes, as an option. Printed by a program of ours (vcm.py). No conditions.
-/
import Derived.Test.YtpebhdepmbnjbaaMdd
namespace Go.Proofs.Ytpebhdepmbnjbaa
set_option linter.unusedVariables false

def m_law24_HistoryValid_j2 (x47 : (List (Shistory_Op)) × Int) (x68 : Int) (x115 : Int) : Option (Bool) :=
  if x47.2 = (0 : Int) then
    Option.bind (m_history_Valid x47.1) fun x142 =>
    if x142 = true then
      if (x47.1.length : Int) = x68 then
        if x115 = (0 : Int) then
          Option.bind (m_law24_awake) fun x147 =>
          some (x147)
        else
          some (false)
      else
        some (false)
    else
      some (false)
  else
    some (false)
def m_law24_HistoryValid_l3 (x47 : (List (Shistory_Op)) × Int) (x68 : Int) : Nat → Int → Int → Option (Bool)
  | 0, _, _ => none
  | q120 + 1, x118, x119 =>
    if x119 < (x47.1.length : Int) then
      Option.bind (idx x47.1 x119) fun x127 =>
      if (0 : Int) ≤ x127.fReturn then
        Option.bind (ck (x118 - (1 : Int))) fun x135 =>
        Option.bind (ck (x119 + (1 : Int))) fun x137 =>
        (m_law24_HistoryValid_l3 x47 x68 q120) x135 x137
      else
        Option.bind (ck (x119 + (1 : Int))) fun x139 =>
        (m_law24_HistoryValid_l3 x47 x68 q120) x118 x139
    else
      m_law24_HistoryValid_j2 x47 x68 x118
def m_law24_HistoryValid_j0 (x47 : (List (Shistory_Op)) × Int) (x68 : Int) (x69 : Int) : Option (Bool) :=
  m_law24_HistoryValid_l3 x47 x68 forever x69 (0 : Int)
def m_law24_HistoryValid_l1 (x26 : (List (Shistory_Event))) (x47 : (List (Shistory_Op)) × Int) : Nat → Int → Int → Int → Option (Bool)
  | 0, _, _, _ => none
  | q75 + 1, x72, x73, x74 =>
    if x74 < (x26.length : Int) then
      Option.bind (idx x26 x74) fun x84 =>
      if x84.fKind = (1 : Int) then
        Option.bind (ck (x72 + (1 : Int))) fun x90 =>
        Option.bind (idx x26 x74) fun x92 =>
        if x92.fKind = (2 : Int) then
          Option.bind (ck (x73 + (1 : Int))) fun x98 =>
          Option.bind (ck (x74 + (1 : Int))) fun x100 =>
          (m_law24_HistoryValid_l1 x26 x47 q75) x90 x98 x100
        else
          Option.bind (ck (x74 + (1 : Int))) fun x102 =>
          (m_law24_HistoryValid_l1 x26 x47 q75) x90 x73 x102
      else
        Option.bind (idx x26 x74) fun x104 =>
        if x104.fKind = (2 : Int) then
          Option.bind (ck (x73 + (1 : Int))) fun x110 =>
          Option.bind (ck (x74 + (1 : Int))) fun x112 =>
          (m_law24_HistoryValid_l1 x26 x47 q75) x72 x110 x112
        else
          Option.bind (ck (x74 + (1 : Int))) fun x114 =>
          (m_law24_HistoryValid_l1 x26 x47 q75) x72 x73 x114
    else
      m_law24_HistoryValid_j0 x47 x72 x73
def m_law24_HistoryValid (x00 : List (Sneedlestoreref24_Event)) : Option (Bool) :=
  Option.bind (m_law24_light x00) fun x4 =>
  if x4 = true then
    Option.bind (m_law24_made x00) fun x8 =>
    Option.bind (m_law24_given x8) fun x26 =>
    Option.bind (m_history_Build x26) fun x47 =>
    m_law24_HistoryValid_l1 x26 x47 forever (0 : Int) (0 : Int) (0 : Int)
  else
    Option.bind (m_law24_awake) fun x150 =>
    some (x150)

end Go.Proofs.Ytpebhdepmbnjbaa
