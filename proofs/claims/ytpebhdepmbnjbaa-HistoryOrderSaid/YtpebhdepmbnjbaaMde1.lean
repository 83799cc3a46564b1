/-
  Models of functions of the program (e1): what each computes, as an option. Printed by a program of ours (vcm.py). No conditions.
-/
import Derived.Test.YtpebhdepmbnjbaaMdd
namespace Go.Proofs.Ytpebhdepmbnjbaa
set_option linter.unusedVariables false

def m_law24_HistoryOrder_j4 (x92 : Int) (r3 : Int → Option (Bool)) : Option (Bool) :=
  Option.bind (ck (x92 + (1 : Int))) fun x181 =>
  r3 x181
def m_law24_HistoryOrder_l8 (x47 : (List (Shistory_Op)) × Int) (x80 : Shistory_Op) (x92 : Int) (x100 : Shistory_Op) (r3 : Int → Option (Bool)) : Nat → Int → Option (Bool)
  | 0, _ => none
  | q151 + 1, x150 =>
    if x150 < (x47.1.length : Int) then
      Option.bind (idx x47.1 x150) fun x158 =>
      Option.bind (m_history_Before x80.fClient x80.fKind x80.fKey x80.fCookie x80.fData x80.fGot x80.fCall x80.fReturn x80.fClosed x80.fResult x100.fClient x100.fKind x100.fKey x100.fCookie x100.fData x100.fGot x100.fCall x100.fReturn x100.fClosed x100.fResult) fun x164 =>
      if x164 = true then
        Option.bind (m_history_Before x100.fClient x100.fKind x100.fKey x100.fCookie x100.fData x100.fGot x100.fCall x100.fReturn x100.fClosed x100.fResult x158.fClient x158.fKind x158.fKey x158.fCookie x158.fData x158.fGot x158.fCall x158.fReturn x158.fClosed x158.fResult) fun x167 =>
        if x167 = true then
          Option.bind (m_history_Before x80.fClient x80.fKind x80.fKey x80.fCookie x80.fData x80.fGot x80.fCall x80.fReturn x80.fClosed x80.fResult x158.fClient x158.fKind x158.fKey x158.fCookie x158.fData x158.fGot x158.fCall x158.fReturn x158.fClosed x158.fResult) fun x170 =>
          if x170 = true then
            Option.bind (ck (x150 + (1 : Int))) fun x174 =>
            (m_law24_HistoryOrder_l8 x47 x80 x92 x100 r3 q151) x174
          else
            some (false)
        else
          Option.bind (ck (x150 + (1 : Int))) fun x177 =>
          (m_law24_HistoryOrder_l8 x47 x80 x92 x100 r3 q151) x177
      else
        Option.bind (ck (x150 + (1 : Int))) fun x179 =>
        (m_law24_HistoryOrder_l8 x47 x80 x92 x100 r3 q151) x179
    else
      m_law24_HistoryOrder_j4 x92 r3
def m_law24_HistoryOrder_j6 (x47 : (List (Shistory_Op)) × Int) (x80 : Shistory_Op) (x92 : Int) (x100 : Shistory_Op) (r3 : Int → Option (Bool)) : Option (Bool) :=
  m_law24_HistoryOrder_l8 x47 x80 x92 x100 r3 forever (0 : Int)
def m_law24_HistoryOrder_l7 (x26 : (List (Shistory_Event))) (x47 : (List (Shistory_Op)) × Int) (x80 : Shistory_Op) (x92 : Int) (x100 : Shistory_Op) (r3 : Int → Option (Bool)) : Nat → Int → Option (Bool)
  | 0, _ => none
  | q129 + 1, x128 =>
    if x128 < x100.fCall then
      Option.bind (idx x26 x128) fun x136 =>
      if x136.fKind = (3 : Int) then
        Option.bind (m_history_Before x80.fClient x80.fKind x80.fKey x80.fCookie x80.fData x80.fGot x80.fCall x80.fReturn x80.fClosed x80.fResult x100.fClient x100.fKind x100.fKey x100.fCookie x100.fData x100.fGot x100.fCall x100.fReturn x100.fClosed x100.fResult) fun x141 =>
        if x141 = true then
          Option.bind (ck (x128 + (1 : Int))) fun x145 =>
          (m_law24_HistoryOrder_l7 x26 x47 x80 x92 x100 r3 q129) x145
        else
          some (false)
      else
        Option.bind (ck (x128 + (1 : Int))) fun x148 =>
        (m_law24_HistoryOrder_l7 x26 x47 x80 x92 x100 r3 q129) x148
    else
      m_law24_HistoryOrder_j6 x47 x80 x92 x100 r3
def m_law24_HistoryOrder_j5 (x26 : (List (Shistory_Event))) (x47 : (List (Shistory_Op)) × Int) (x80 : Shistory_Op) (x92 : Int) (x100 : Shistory_Op) (r3 : Int → Option (Bool)) : Option (Bool) :=
  m_law24_HistoryOrder_l7 x26 x47 x80 x92 x100 r3 forever x80.fCall
def m_law24_HistoryOrder_j2 (x72 : Int) (r1 : Int → Option (Bool)) : Option (Bool) :=
  Option.bind (ck (x72 + (1 : Int))) fun x183 =>
  r1 x183
def m_law24_HistoryOrder_l3 (x26 : (List (Shistory_Event))) (x47 : (List (Shistory_Op)) × Int) (x72 : Int) (x80 : Shistory_Op) (r1 : Int → Option (Bool)) : Nat → Int → Option (Bool)
  | 0, _ => none
  | q93 + 1, x92 =>
    if x92 < (x47.1.length : Int) then
      Option.bind (idx x47.1 x92) fun x100 =>
      Option.bind (m_history_Before x80.fClient x80.fKind x80.fKey x80.fCookie x80.fData x80.fGot x80.fCall x80.fReturn x80.fClosed x80.fResult x100.fClient x100.fKind x100.fKey x100.fCookie x100.fData x100.fGot x100.fCall x100.fReturn x100.fClosed x100.fResult) fun x107 =>
      if x107 = true then
        Option.bind (m_history_Before x100.fClient x100.fKind x100.fKey x100.fCookie x100.fData x100.fGot x100.fCall x100.fReturn x100.fClosed x100.fResult x80.fClient x80.fKind x80.fKey x80.fCookie x80.fData x80.fGot x80.fCall x80.fReturn x80.fClosed x80.fResult) fun x110 =>
        if x110 = true then
          some (false)
        else
          if x72 < x92 then
            if x80.fClient = x100.fClient then
              Option.bind (m_history_Before x80.fClient x80.fKind x80.fKey x80.fCookie x80.fData x80.fGot x80.fCall x80.fReturn x80.fClosed x80.fResult x100.fClient x100.fKind x100.fKey x100.fCookie x100.fData x100.fGot x100.fCall x100.fReturn x100.fClosed x100.fResult) fun x116 =>
              if x116 = true then
                m_law24_HistoryOrder_j5 x26 x47 x80 x92 x100 (m_law24_HistoryOrder_l3 x26 x47 x72 x80 r1 q93)
              else
                some (false)
            else
              m_law24_HistoryOrder_j5 x26 x47 x80 x92 x100 (m_law24_HistoryOrder_l3 x26 x47 x72 x80 r1 q93)
          else
            m_law24_HistoryOrder_j5 x26 x47 x80 x92 x100 (m_law24_HistoryOrder_l3 x26 x47 x72 x80 r1 q93)
      else
        if x72 < x92 then
          if x80.fClient = x100.fClient then
            Option.bind (m_history_Before x80.fClient x80.fKind x80.fKey x80.fCookie x80.fData x80.fGot x80.fCall x80.fReturn x80.fClosed x80.fResult x100.fClient x100.fKind x100.fKey x100.fCookie x100.fData x100.fGot x100.fCall x100.fReturn x100.fClosed x100.fResult) fun x122 =>
            if x122 = true then
              m_law24_HistoryOrder_j5 x26 x47 x80 x92 x100 (m_law24_HistoryOrder_l3 x26 x47 x72 x80 r1 q93)
            else
              some (false)
          else
            m_law24_HistoryOrder_j5 x26 x47 x80 x92 x100 (m_law24_HistoryOrder_l3 x26 x47 x72 x80 r1 q93)
        else
          m_law24_HistoryOrder_j5 x26 x47 x80 x92 x100 (m_law24_HistoryOrder_l3 x26 x47 x72 x80 r1 q93)
    else
      m_law24_HistoryOrder_j2 x72 r1
def m_law24_HistoryOrder_j0 : Option (Bool) :=
  Option.bind (m_law24_awake) fun x185 =>
  some (x185)
def m_law24_HistoryOrder_l1 (x26 : (List (Shistory_Event))) (x47 : (List (Shistory_Op)) × Int) : Nat → Int → Option (Bool)
  | 0, _ => none
  | q73 + 1, x72 =>
    if x72 < (x47.1.length : Int) then
      Option.bind (idx x47.1 x72) fun x80 =>
      Option.bind (m_history_Before x80.fClient x80.fKind x80.fKey x80.fCookie x80.fData x80.fGot x80.fCall x80.fReturn x80.fClosed x80.fResult x80.fClient x80.fKind x80.fKey x80.fCookie x80.fData x80.fGot x80.fCall x80.fReturn x80.fClosed x80.fResult) fun x87 =>
      if x87 = true then
        some (false)
      else
        m_law24_HistoryOrder_l3 x26 x47 x72 x80 (m_law24_HistoryOrder_l1 x26 x47 q73) forever (0 : Int)
    else
      m_law24_HistoryOrder_j0
def m_law24_HistoryOrder (x00 : List (Sneedlestoreref24_Event)) : Option (Bool) :=
  Option.bind (m_law24_light x00) fun x4 =>
  if x4 = true then
    Option.bind (m_law24_made x00) fun x8 =>
    Option.bind (m_law24_given x8) fun x26 =>
    Option.bind (m_history_Build x26) fun x47 =>
    if x47.2 = (0 : Int) then
      m_law24_HistoryOrder_l1 x26 x47 forever (0 : Int)
    else
      some (false)
  else
    Option.bind (m_law24_awake) fun x189 =>
    some (x189)

end Go.Proofs.Ytpebhdepmbnjbaa
