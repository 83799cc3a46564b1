/-
  Models of functions of the program (e0): what each computes, as an option. Printed by a program of ours (vcm.py). No conditions.
-/
import Derived.Test.YtpebhdepmbnjbaaMdd
namespace Go.Proofs.Ytpebhdepmbnjbaa
set_option linter.unusedVariables false

def m_law24_HistoryBuilds_j0 : Option (Bool) :=
  Option.bind (m_law24_awake) fun x161 =>
  some (x161)
def m_law24_HistoryBuilds_l1 (x00 : List (Sneedlestoreref24_Event)) (x10 : (List (Sneedlestoreref24_Event))) (x46 : List (Sneedlestoreref24_Event)) : Nat → Int → Option (Bool)
  | 0, _ => none
  | q59 + 1, x58 =>
    if x58 < (([x00, x10, x46] : List (List (Sneedlestoreref24_Event))).length : Int) then
      Option.bind (idx ([x00, x10, x46] : List (List (Sneedlestoreref24_Event))) x58) fun x66 =>
      Option.bind (m_law24_given x66) fun x74 =>
      Option.bind (m_history_Build x74) fun x92 =>
      Option.bind (m_r24_Build x66) fun x113 =>
      if x92.2 = x113.2 then
        Option.bind (m_law24_told x92.1) fun x133 =>
        Option.bind (m_r24_Same x133 x113.1) fun x153 =>
        if x153 = true then
          Option.bind (ck (x58 + (1 : Int))) fun x157 =>
          (m_law24_HistoryBuilds_l1 x00 x10 x46 q59) x157
        else
          some (false)
      else
        some (false)
    else
      m_law24_HistoryBuilds_j0
def m_law24_HistoryBuilds (x00 : List (Sneedlestoreref24_Event)) : Option (Bool) :=
  Option.bind (m_law24_light x00) fun x4 =>
  if x4 = true then
    Option.bind (m_law24_made x00) fun x10 =>
    Option.bind (m_law24_made x00) fun x28 =>
    Option.bind (apd 72 x28 x00) fun x46 =>
    m_law24_HistoryBuilds_l1 x00 x10 x46 forever (0 : Int)
  else
    Option.bind (m_law24_awake) fun x164 =>
    some (x164)

end Go.Proofs.Ytpebhdepmbnjbaa
