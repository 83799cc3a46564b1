/-
  Models of functions of the program (h): what each computes, as an option. Printed by a program of ours (vcm.py). No conditions.
-/
import Derived.Test.YtkcccenekglkoaaMdg
namespace Go.Proofs.Ytkcccenekglkoaa
set_option linter.unusedVariables false
def m_r25_waits_j0 : Option (Bool) :=
  some (false)
def m_r25_waits_l1 (x00 : List (Sneedlestoreref24_Op)) (x01 x02 : Int) : Nat -> Int -> Option (Bool)
  | 0, _ => none
  | q5 + 1, x4 =>
    if x4 < (x00.length : Int) then
      Option.bind (shri x01 ((BitVec.ofInt 64 x4).toNat : Nat)) fun x12 =>
      if (andi x12 (1 : Int)) = (0 : Int) then
        Option.bind (idx x00 x4) fun x14 =>
        Option.bind (idx x00 x02) fun x18 =>
        Option.bind (m_r24_Before x14.fClient x14.fKind x14.fKey x14.fCookie x14.fData x14.fGot x14.fCall x14.fReturn x14.fClosed x14.fResult x18.fClient x18.fKind x18.fKey x18.fCookie x18.fData x18.fGot x18.fCall x18.fReturn x18.fClosed x18.fResult) fun x22 =>
        if x22 = true then
          some (true)
        else
          Option.bind (ck (x4 + (1 : Int))) fun x27 =>
          (m_r25_waits_l1 x00 x01 x02 q5) x27
      else
        Option.bind (ck (x4 + (1 : Int))) fun x29 =>
        (m_r25_waits_l1 x00 x01 x02 q5) x29
    else
      m_r25_waits_j0
def m_r25_waits (x00 : List (Sneedlestoreref24_Op)) (x01 x02 : Int) : Option (Bool) :=
  m_r25_waits_l1 x00 x01 x02 forever (0 : Int)
def m_r25_rest_j5 (x00 : List (Sneedlestoreref24_Op)) (x01_0 : Bool) (x01_1 : BitVec 32) (x01_2 : List (BitVec 8)) (x02 : Int) (x67 : List ((List (BitVec 8)) × Bool)) (x69 : Int) (rc0 : (List (Sneedlestoreref24_Op)) -> Bool -> (BitVec 32) -> (List (BitVec 8)) -> Int -> (List ((List (BitVec 8)) × Bool)) -> Option (Bool × (List ((List (BitVec 8)) × Bool)))) (r4 : (List ((List (BitVec 8)) × Bool)) -> Int -> Option (Bool × (List ((List (BitVec 8)) × Bool)))) : Option (Bool × (List ((List (BitVec 8)) × Bool))) :=
  Option.bind (idx x00 x69) fun x89 =>
  Option.bind (m_r25_Step x01_0 x01_1 x01_2 x89.fClient x89.fKind x89.fKey x89.fCookie x89.fData x89.fGot x89.fCall x89.fReturn x89.fClosed x89.fResult) fun x93 =>
  if x93.2.2.2 = true then
    Option.bind (shli (1 : Int) ((BitVec.ofInt 64 x69).toNat : Nat)) fun x261 =>
    Option.bind (rc0 x00 x93.1 x93.2.1 x93.2.2.1 (ori x02 x261) x67) fun x262 =>
    if x262.1 = true then
      some (true, x262.2)
    else
      Option.bind (idx x00 x69) fun x270 =>
      Option.bind (m_r25_Drops x270.fClient x270.fKind x270.fKey x270.fCookie x270.fData x270.fGot x270.fCall x270.fReturn x270.fClosed x270.fResult) fun x274 =>
      if x274 = true then
        Option.bind (shli (1 : Int) ((BitVec.ofInt 64 x69).toNat : Nat)) fun x277 =>
        Option.bind (rc0 x00 x01_0 x01_1 x01_2 (ori x02 x277) x262.2) fun x278 =>
        if x278.1 = true then
          some (true, x278.2)
        else
          Option.bind (ck (x69 + (1 : Int))) fun x286 =>
          r4 x278.2 x286
      else
        Option.bind (ck (x69 + (1 : Int))) fun x288 =>
        r4 x262.2 x288
  else
    Option.bind (idx x00 x69) fun x290 =>
    Option.bind (m_r25_Drops x290.fClient x290.fKind x290.fKey x290.fCookie x290.fData x290.fGot x290.fCall x290.fReturn x290.fClosed x290.fResult) fun x294 =>
    if x294 = true then
      Option.bind (shli (1 : Int) ((BitVec.ofInt 64 x69).toNat : Nat)) fun x297 =>
      Option.bind (rc0 x00 x01_0 x01_1 x01_2 (ori x02 x297) x67) fun x298 =>
      if x298.1 = true then
        some (true, x298.2)
      else
        Option.bind (ck (x69 + (1 : Int))) fun x306 =>
        r4 x298.2 x306
    else
      Option.bind (ck (x69 + (1 : Int))) fun x308 =>
      r4 x67 x308
def m_r25_rest_j3 (x60 : List ((List (BitVec 8)) × Bool)) : Option (Bool × (List ((List (BitVec 8)) × Bool))) :=
  some (false, x60)
def m_r25_rest_l4 (x00 : List (Sneedlestoreref24_Op)) (x01_0 : Bool) (x01_1 : BitVec 32) (x01_2 : List (BitVec 8)) (x02 : Int) (rc0 : (List (Sneedlestoreref24_Op)) -> Bool -> (BitVec 32) -> (List (BitVec 8)) -> Int -> (List ((List (BitVec 8)) × Bool)) -> Option (Bool × (List ((List (BitVec 8)) × Bool)))) : Nat -> (List ((List (BitVec 8)) × Bool)) -> Int -> Option (Bool × (List ((List (BitVec 8)) × Bool)))
  | 0, _, _ => none
  | q70 + 1, x67, x69 =>
    if x69 < (x00.length : Int) then
      Option.bind (shri x02 ((BitVec.ofInt 64 x69).toNat : Nat)) fun x78 =>
      if (andi x78 (1 : Int)) = (1 : Int) then
        Option.bind (ck (x69 + (1 : Int))) fun x81 =>
        (m_r25_rest_l4 x00 x01_0 x01_1 x01_2 x02 rc0 q70) x67 x81
      else
        Option.bind (m_r25_waits x00 x02 x69) fun x82 =>
        if x82 = true then
          Option.bind (ck (x69 + (1 : Int))) fun x86 =>
          (m_r25_rest_l4 x00 x01_0 x01_1 x01_2 x02 rc0 q70) x67 x86
        else
          m_r25_rest_j5 x00 x01_0 x01_1 x01_2 x02 x67 x69 rc0 (m_r25_rest_l4 x00 x01_0 x01_1 x01_2 x02 rc0 q70)
    else
      m_r25_rest_j3 x67
def m_r25_rest_j2 (x00 : List (Sneedlestoreref24_Op)) (x01_0 : Bool) (x01_1 : BitVec 32) (x01_2 : List (BitVec 8)) (x02 : Int) (x1 : List ((List (BitVec 8)) × Bool)) (rc0 : (List (Sneedlestoreref24_Op)) -> Bool -> (BitVec 32) -> (List (BitVec 8)) -> Int -> (List ((List (BitVec 8)) × Bool)) -> Option (Bool × (List ((List (BitVec 8)) × Bool)))) (x41 : List (BitVec 8)) : Option (Bool × (List ((List (BitVec 8)) × Bool))) :=
  if ((mget x1 x41).getD false) = true then
    some (false, x1)
  else
    m_r25_rest_l4 x00 x01_0 x01_1 x01_2 x02 rc0 forever (mset x1 x41 true) (0 : Int)
def m_r25_rest_j0 (x00 : List (Sneedlestoreref24_Op)) (x01_0 : Bool) (x01_1 : BitVec 32) (x01_2 : List (BitVec 8)) (x02 : Int) (x1 : List ((List (BitVec 8)) × Bool)) (rc0 : (List (Sneedlestoreref24_Op)) -> Bool -> (BitVec 32) -> (List (BitVec 8)) -> Int -> (List ((List (BitVec 8)) × Bool)) -> Option (Bool × (List ((List (BitVec 8)) × Bool)))) (x6 : Bool) : Option (Bool × (List ((List (BitVec 8)) × Bool))) :=
  if x6 = true then
    some (true, x1)
  else
    Option.bind (shri x02 (8 : Nat)) fun x38 =>
    Option.bind (shri x02 (16 : Nat)) fun x39 =>
    if x01_0 = true then
      Option.bind (cat ([BitVec.ofInt 8 x02, BitVec.ofInt 8 x38, BitVec.ofInt 8 x39] : List (BitVec 8)) ([1#8, x01_1.setWidth 8, (x01_1 >>> 8).setWidth 8, (x01_1 >>> 16).setWidth 8, (x01_1 >>> 24).setWidth 8] : List (BitVec 8))) fun x47 =>
      Option.bind (cat x47 x01_2) fun x48 =>
      m_r25_rest_j2 x00 x01_0 x01_1 x01_2 x02 x1 rc0 x48
    else
      m_r25_rest_j2 x00 x01_0 x01_1 x01_2 x02 x1 rc0 ([BitVec.ofInt 8 x02, BitVec.ofInt 8 x38, BitVec.ofInt 8 x39] : List (BitVec 8))
def m_r25_rest_l1 (x00 : List (Sneedlestoreref24_Op)) (x01_0 : Bool) (x01_1 : BitVec 32) (x01_2 : List (BitVec 8)) (x02 : Int) (x1 : List ((List (BitVec 8)) × Bool)) (rc0 : (List (Sneedlestoreref24_Op)) -> Bool -> (BitVec 32) -> (List (BitVec 8)) -> Int -> (List ((List (BitVec 8)) × Bool)) -> Option (Bool × (List ((List (BitVec 8)) × Bool)))) : Nat -> Bool -> Int -> Option (Bool × (List ((List (BitVec 8)) × Bool)))
  | 0, _, _ => none
  | q11 + 1, x9, x10 =>
    if x10 < (x00.length : Int) then
      if x9 = true then
        Option.bind (shri x02 ((BitVec.ofInt 64 x10).toNat : Nat)) fun x19 =>
        if (andi x19 (1 : Int)) = (1 : Int) then
          Option.bind (ck (x10 + (1 : Int))) fun x22 =>
          (m_r25_rest_l1 x00 x01_0 x01_1 x01_2 x02 x1 rc0 q11) true x22
        else
          Option.bind (idx x00 x10) fun x23 =>
          Option.bind (m_r25_Drops x23.fClient x23.fKind x23.fKey x23.fCookie x23.fData x23.fGot x23.fCall x23.fReturn x23.fClosed x23.fResult) fun x27 =>
          Option.bind (ck (x10 + (1 : Int))) fun x30 =>
          (m_r25_rest_l1 x00 x01_0 x01_1 x01_2 x02 x1 rc0 q11) x27 x30
      else
        Option.bind (ck (x10 + (1 : Int))) fun x32 =>
        (m_r25_rest_l1 x00 x01_0 x01_1 x01_2 x02 x1 rc0 q11) false x32
    else
      m_r25_rest_j0 x00 x01_0 x01_1 x01_2 x02 x1 rc0 x9
def m_r25_restF (rc0 : (List (Sneedlestoreref24_Op)) -> Bool -> (BitVec 32) -> (List (BitVec 8)) -> Int -> (List ((List (BitVec 8)) × Bool)) -> Option (Bool × (List ((List (BitVec 8)) × Bool)))) (x00 : List (Sneedlestoreref24_Op)) (x01_0 : Bool) (x01_1 : BitVec 32) (x01_2 : List (BitVec 8)) (x02 : Int) (x1 : List ((List (BitVec 8)) × Bool)) : Option (Bool × (List ((List (BitVec 8)) × Bool))) :=
  m_r25_rest_l1 x00 x01_0 x01_1 x01_2 x02 x1 rc0 forever true (0 : Int)
def m_r25_restR : Nat -> (List (Sneedlestoreref24_Op)) -> Bool -> (BitVec 32) -> (List (BitVec 8)) -> Int -> (List ((List (BitVec 8)) × Bool)) -> Option (Bool × (List ((List (BitVec 8)) × Bool)))
  | 0, _, _, _, _, _, _ => none
  | q + 1, x00, x01_0, x01_1, x01_2, x02, x1 => m_r25_restF (m_r25_restR q) x00 x01_0 x01_1 x01_2 x02 x1
def m_r25_rest (x00 : List (Sneedlestoreref24_Op)) (x01_0 : Bool) (x01_1 : BitVec 32) (x01_2 : List (BitVec 8)) (x02 : Int) (x1 : List ((List (BitVec 8)) × Bool)) : Option (Bool × (List ((List (BitVec 8)) × Bool))) := m_r25_restR forever x00 x01_0 x01_1 x01_2 x02 x1
def m_r25_Has (x00 : List (Sneedlestoreref24_Op)) (x01_0 : Bool) (x01_1 : BitVec 32) (x01_2 : List (BitVec 8)) : Option (Bool) :=
  Option.bind (m_r25_rest x00 x01_0 x01_1 x01_2 (0 : Int) ([] : List ((List (BitVec 8)) × Bool))) fun x5 =>
  some (x5.1)
def m_r25_Legal_j2 (x00 : List (Sneedlestoreref24_Op)) (x16 : Bool) (x17 : BitVec 32) (x21 : List (BitVec 8)) (x23 : List (Int)) (x24 x32 : Int) (r1 : Bool -> (BitVec 32) -> (List (BitVec 8)) -> (List (Int)) -> Int -> Option (Bool)) : Option (Bool) :=
  Option.bind (ck (x24 + (1 : Int))) fun x43 =>
  Option.bind (idx x23 x32) fun x44 =>
  Option.bind (upd x23 x32 x43) fun x45 =>
  Option.bind (idx x00 x32) fun x47 =>
  Option.bind (m_r25_Step x16 x17 x21 x47.fClient x47.fKind x47.fKey x47.fCookie x47.fData x47.fGot x47.fCall x47.fReturn x47.fClosed x47.fResult) fun x51 =>
  if x51.2.2.2 = true then
    Option.bind (ck (x24 + (1 : Int))) fun x93 =>
    r1 x51.1 x51.2.1 x51.2.2.1 x45 x93
  else
    some (false)
def m_r25_Legal_j5 (x97 : Int) (r4 : Int -> Option (Bool)) : Option (Bool) :=
  Option.bind (ck (x97 + (1 : Int))) fun x153 =>
  r4 x153
def m_r25_Legal_l7 (x00 : List (Sneedlestoreref24_Op)) (x12 : List (Int)) (x97 : Int) (r4 : Int -> Option (Bool)) : Nat -> Int -> Option (Bool)
  | 0, _ => none
  | q118 + 1, x117 =>
    if x117 < (x00.length : Int) then
      Option.bind (idx x12 x97) fun x125 =>
      if (0 : Int) < x125 then
        Option.bind (idx x12 x117) fun x127 =>
        if (0 : Int) < x127 then
          Option.bind (idx x00 x97) fun x129 =>
          Option.bind (idx x00 x117) fun x133 =>
          Option.bind (m_r24_Before x129.fClient x129.fKind x129.fKey x129.fCookie x129.fData x129.fGot x129.fCall x129.fReturn x129.fClosed x129.fResult x133.fClient x133.fKind x133.fKey x133.fCookie x133.fData x133.fGot x133.fCall x133.fReturn x133.fClosed x133.fResult) fun x137 =>
          if x137 = true then
            Option.bind (idx x12 x97) fun x140 =>
            Option.bind (idx x12 x117) fun x141 =>
            if x141 < x140 then
              some (false)
            else
              Option.bind (ck (x117 + (1 : Int))) fun x145 =>
              (m_r25_Legal_l7 x00 x12 x97 r4 q118) x145
          else
            Option.bind (ck (x117 + (1 : Int))) fun x147 =>
            (m_r25_Legal_l7 x00 x12 x97 r4 q118) x147
        else
          Option.bind (ck (x117 + (1 : Int))) fun x149 =>
          (m_r25_Legal_l7 x00 x12 x97 r4 q118) x149
      else
        Option.bind (ck (x117 + (1 : Int))) fun x151 =>
        (m_r25_Legal_l7 x00 x12 x97 r4 q118) x151
    else
      m_r25_Legal_j5 x97 r4
def m_r25_Legal_j6 (x00 : List (Sneedlestoreref24_Op)) (x12 : List (Int)) (x97 : Int) (r4 : Int -> Option (Bool)) : Option (Bool) :=
  m_r25_Legal_l7 x00 x12 x97 r4 forever (0 : Int)
def m_r25_Legal_j3 : Option (Bool) :=
  some (true)
def m_r25_Legal_l4 (x00 : List (Sneedlestoreref24_Op)) (x12 : List (Int)) : Nat -> Int -> Option (Bool)
  | 0, _ => none
  | q98 + 1, x97 =>
    if x97 < (x00.length : Int) then
      Option.bind (idx x12 x97) fun x106 =>
      if x106 = (0 : Int) then
        Option.bind (idx x00 x97) fun x108 =>
        Option.bind (m_r25_Drops x108.fClient x108.fKind x108.fKey x108.fCookie x108.fData x108.fGot x108.fCall x108.fReturn x108.fClosed x108.fResult) fun x112 =>
        if x112 = true then
          m_r25_Legal_j6 x00 x12 x97 (m_r25_Legal_l4 x00 x12 q98)
        else
          some (false)
      else
        m_r25_Legal_j6 x00 x12 x97 (m_r25_Legal_l4 x00 x12 q98)
    else
      m_r25_Legal_j3
def m_r25_Legal_j0 (x00 : List (Sneedlestoreref24_Op)) (x12 : List (Int)) : Option (Bool) :=
  m_r25_Legal_l4 x00 x12 forever (0 : Int)
def m_r25_Legal_l1 (x00 : List (Sneedlestoreref24_Op)) (x02 : List (Int)) : Nat -> Bool -> (BitVec 32) -> (List (BitVec 8)) -> (List (Int)) -> Int -> Option (Bool)
  | 0, _, _, _, _, _ => none
  | q25 + 1, x16, x17, x21, x23, x24 =>
    if x24 < (x02.length : Int) then
      Option.bind (idx x02 x24) fun x32 =>
      if x32 < (0 : Int) then
        some (false)
      else
        if (x00.length : Int) <= x32 then
          some (false)
        else
          Option.bind (idx x23 x32) fun x39 =>
          if (0 : Int) < x39 then
            some (false)
          else
            m_r25_Legal_j2 x00 x16 x17 x21 x23 x24 x32 (m_r25_Legal_l1 x00 x02 q25)
    else
      m_r25_Legal_j0 x00 x23
def m_r25_Legal (x00 : List (Sneedlestoreref24_Op)) (x01_0 : Bool) (x01_1 : BitVec 32) (x01_2 : List (BitVec 8)) (x02 : List (Int)) : Option (Bool) :=
  Option.bind (m_r24_Valid x00) fun x5 =>
  if x5 = true then
    Option.bind (mks 8 (x00.length : Int) (0 : Int)) fun x10 =>
    m_r25_Legal_l1 x00 x02 forever x01_0 x01_1 x01_2 x10 (0 : Int)
  else
    some (false)
end Go.Proofs.Ytkcccenekglkoaa
