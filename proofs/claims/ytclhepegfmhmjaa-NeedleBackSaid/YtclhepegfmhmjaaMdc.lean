/-
  Models of functions of the program (c): what each computes, as a partial function. Printed by a program of ours (vcm.py). No conditions.
-/
import Derived.Test.YtclhepegfmhmjaaMda
import Derived.Test.YtclhepegfmhmjaaMdb
namespace Go.Proofs.Ytclhepegfmhmjaa
set_option linter.unusedVariables false

def m_law06_NeedleSizes (x00 : Int) (x01_0 : BitVec 64) (x01_1 : BitVec 32) (x01_2 : Bool) (x01_3 : List (BitVec 8)) : Option (Bool) :=
  Option.bind (m_needle_Size x00) fun x4 =>
  Option.bind (m_r06_Size x00) fun x6 =>
  if x4 = x6 then
    Option.bind (m_needle_Size (andi x00 (4095 : Int))) fun x9 =>
    Option.bind (m_r06_Size (andi x00 (4095 : Int))) fun x11 =>
    if x9 = x11 then
      Option.bind (m_needle_Valid x01_0 x01_1 x01_2 x01_3) fun x14 =>
      Option.bind (m_r06_Valid x01_0 x01_1 x01_2 x01_3) fun x16 =>
      if x14 = x16 then
        Option.bind (m_law06_awake) fun x19 =>
        some (x19)
      else
        some (false)
    else
      some (false)
  else
    some (false)

def m_law06_NeedleEncodes_j0 (x4 : (BitVec 64) × (BitVec 32) × Bool × (List (BitVec 8))) (x23 : List (BitVec 8)) : Option (Bool) :=
  Option.bind (m_needle_Encode x4.1 x4.2.1 x4.2.2.1 x23) fun x39 =>
  Option.bind (m_r06_Encode x4.1 x4.2.1 x4.2.2.1 x23) fun x48 =>
  if x39.2 = x48.2 then
    if x39.1 = x48.1 then
      Option.bind (m_law06_awake) fun x59 =>
      some (x59)
    else
      some (false)
  else
    some (false)
def m_law06_NeedleEncodes (x00_0 : BitVec 64) (x00_1 : BitVec 32) (x00_2 : Bool) (x00_3 : List (BitVec 8)) (x01 : Bool) : Option (Bool) :=
  Option.bind (m_law06_cut x00_0 x00_1 x00_2 x00_3) fun x4 =>
  if x01 = true then
    Option.bind (mks 1 (4095 : Int) 0#8) fun x30 =>
    Option.bind (apd 1 x30 x4.2.2.2) fun x31 =>
    m_law06_NeedleEncodes_j0 x4 x31
  else
    m_law06_NeedleEncodes_j0 x4 x4.2.2.2

def m_law06_NeedleDecodes_j2 : Option (Bool) :=
  Option.bind (m_law06_awake) fun x127 =>
  some (x127)
def m_law06_NeedleDecodes_l3 (x6 : List (BitVec 8)) (x44 : List (BitVec 8)) (x60 : List (BitVec 8)) (x67 : List (BitVec 8)) (x72 : List (BitVec 8)) : Nat → Int → Option (Bool)
  | 0, _ => none
  | q84 + 1, x83 =>
    if x83 < (([x6, x44, x60, x67, x72] : List (List (BitVec 8))).length : Int) then
      Option.bind (idx ([x6, x44, x60, x67, x72] : List (List (BitVec 8))) x83) fun x91 =>
      Option.bind (m_needle_Decode x91) fun x96 =>
      Option.bind (m_r06_Decode x91) fun x106 =>
      if x96.2.2.2.2.2 = x106.2.2.2.2.2 then
        if x96.2.2.2.2.1 = x106.2.2.2.2.1 then
          Option.bind (m_r06_Same x96.1 x96.2.1 x96.2.2.1 x96.2.2.2.1 x106.1 x106.2.1 x106.2.2.1 x106.2.2.2.1) fun x118 =>
          if x118 = true then
            Option.bind (ck (x83 + (1 : Int))) fun x122 =>
            (m_law06_NeedleDecodes_l3 x6 x44 x60 x67 x72 q84) x122
          else
            some (false)
        else
          some (false)
      else
        some (false)
    else
      m_law06_NeedleDecodes_j2
def m_law06_NeedleDecodes_j1 (x02 : Int) (x6 : List (BitVec 8)) (x8 : BitVec 8) (x9 : Int) (x44 : List (BitVec 8)) : Option (Bool) :=
  Option.bind (apd 1 ([] : List (BitVec 8)) x44) fun x52 =>
  Option.bind (rmi x02 (x44.length : Int)) fun x56 =>
  Option.bind (ck (x56 + (x44.length : Int))) fun x57 =>
  Option.bind (rmi x57 (x44.length : Int)) fun x58 =>
  Option.bind (idx x52 x58) fun x59 =>
  Option.bind (upd x52 x58 x8) fun x60 =>
  Option.bind (rmi x9 (x44.length : Int)) fun x64 =>
  Option.bind (ck (x64 + (x44.length : Int))) fun x65 =>
  Option.bind (rmi x65 (x44.length : Int)) fun x66 =>
  Option.bind (slc x44 0 x66) fun x67 =>
  Option.bind (apd 1 ([] : List (BitVec 8)) x44) fun x69 =>
  Option.bind (apd 1 x69 x6) fun x72 =>
  m_law06_NeedleDecodes_l3 x6 x44 x60 x67 x72 forever (0 : Int)
def m_law06_NeedleDecodes_j0 (x01_0 : BitVec 64) (x01_1 : BitVec 32) (x01_2 : Bool) (x01_3 : List (BitVec 8)) (x02 : Int) (x6 : List (BitVec 8)) (x8 : BitVec 8) (x9 : Int) : Option (Bool) :=
  Option.bind (m_law06_cut x01_0 x01_1 x01_2 x01_3) fun x16 =>
  Option.bind (m_r06_Encode x16.1 x16.2.1 x16.2.2.1 x16.2.2.2) fun x31 =>
  if x31.2 = (0 : Int) then
    m_law06_NeedleDecodes_j1 x02 x6 x8 x9 x31.1
  else
    m_law06_NeedleDecodes_j1 x02 x6 x8 x9 ([0#8] : List (BitVec 8))
def m_law06_NeedleDecodes (x00 : List (BitVec 8)) (x01_0 : BitVec 64) (x01_1 : BitVec 32) (x01_2 : Bool) (x01_3 : List (BitVec 8)) (x02 : Int) (x03 : BitVec 8) (x04 : Int) : Option (Bool) :=
  if (6000 : Int) < (x00.length : Int) then
    Option.bind (slc x00 0 (6000 : Int)) fun x14 =>
    m_law06_NeedleDecodes_j0 x01_0 x01_1 x01_2 x01_3 x02 x14 x03 x04
  else
    m_law06_NeedleDecodes_j0 x01_0 x01_1 x01_2 x01_3 x02 x00 x03 x04

def m_law06_NeedleBack (x00_0 : BitVec 64) (x00_1 : BitVec 32) (x00_2 : Bool) (x00_3 : List (BitVec 8)) (x01 : List (BitVec 8)) : Option (Bool) :=
  Option.bind (m_law06_cut x00_0 x00_1 x00_2 x00_3) fun x4 =>
  Option.bind (m_needle_Encode x4.1 x4.2.1 x4.2.2.1 x4.2.2.2) fun x20 =>
  Option.bind (m_needle_Valid x4.1 x4.2.1 x4.2.2.1 x4.2.2.2) fun x30 =>
  if x30 = true then
    Option.bind (apd 1 ([] : List (BitVec 8)) x20.1) fun x35 =>
    Option.bind (apd 1 x35 x01) fun x38 =>
    Option.bind (m_needle_Decode x38) fun x41 =>
    if x20.2 = (0 : Int) then
      if x41.2.2.2.2.2 = (0 : Int) then
        if x41.2.2.2.2.1 = (x20.1.length : Int) then
          Option.bind (m_needle_Size (x4.2.2.2.length : Int)) fun x54 =>
          if x41.2.2.2.2.1 = x54 then
            Option.bind (rmi x41.2.2.2.2.1 (8 : Int)) fun x57 =>
            if x57 = (0 : Int) then
              if x41.1 = x4.1 then
                if x41.2.1 = x4.2.1 then
                  if x41.2.2.1 = x4.2.2.1 then
                    if x41.2.2.2.1 = x4.2.2.2 then
                      Option.bind (m_law06_awake) fun x63 =>
                      some (x63)
                    else
                      some (false)
                  else
                    some (false)
                else
                  some (false)
              else
                some (false)
            else
              some (false)
          else
            some (false)
        else
          some (false)
      else
        some (false)
    else
      some (false)
  else
    if x20.2 = (0 : Int) then
      some (false)
    else
      if (x20.1.length : Int) = (0 : Int) then
        Option.bind (m_law06_awake) fun x68 =>
        some (x68)
      else
        some (false)

def m_law06_NeedleUnique_j2 : Option (Bool) :=
  Option.bind (m_law06_awake) fun x113 =>
  some (x113)
def m_law06_NeedleUnique_l3 (x6 : List (BitVec 8)) (x43 : List (BitVec 8)) : Nat → Int → Option (Bool)
  | 0, _ => none
  | q67 + 1, x66 =>
    if x66 < (([x6, x43] : List (List (BitVec 8))).length : Int) then
      Option.bind (idx ([x6, x43] : List (List (BitVec 8))) x66) fun x74 =>
      Option.bind (m_needle_Decode x74) fun x79 =>
      if x79.2.2.2.2.2 = (0 : Int) then
        Option.bind (m_needle_Encode x79.1 x79.2.1 x79.2.2.1 x79.2.2.2.1) fun x92 =>
        if x92.2 = (0 : Int) then
          if (x74.length : Int) < x79.2.2.2.2.1 then
            some (false)
          else
            Option.bind (slc x74 0 x79.2.2.2.2.1) fun x104 =>
            if x92.1 = x104 then
              Option.bind (ck (x66 + (1 : Int))) fun x107 =>
              (m_law06_NeedleUnique_l3 x6 x43 q67) x107
            else
              some (false)
        else
          some (false)
      else
        Option.bind (ck (x66 + (1 : Int))) fun x111 =>
        (m_law06_NeedleUnique_l3 x6 x43 q67) x111
    else
      m_law06_NeedleUnique_j2
def m_law06_NeedleUnique_j1 (x6 : List (BitVec 8)) (x43 : List (BitVec 8)) : Option (Bool) :=
  m_law06_NeedleUnique_l3 x6 x43 forever (0 : Int)
def m_law06_NeedleUnique_j0 (x01_0 : BitVec 64) (x01_1 : BitVec 32) (x01_2 : Bool) (x01_3 : List (BitVec 8)) (x02 : Int) (x6 : List (BitVec 8)) (x8 : BitVec 8) : Option (Bool) :=
  Option.bind (m_law06_cut x01_0 x01_1 x01_2 x01_3) fun x15 =>
  Option.bind (m_needle_Encode x15.1 x15.2.1 x15.2.2.1 x15.2.2.2) fun x30 =>
  if x30.2 = (0 : Int) then
    if (0 : Int) < (x30.1.length : Int) then
      Option.bind (apd 1 ([] : List (BitVec 8)) x30.1) fun x50 =>
      Option.bind (rmi x02 (x50.length : Int)) fun x54 =>
      Option.bind (ck (x54 + (x50.length : Int))) fun x55 =>
      Option.bind (rmi x55 (x50.length : Int)) fun x56 =>
      Option.bind (idx x50 x56) fun x57 =>
      Option.bind (upd x50 x56 x8) fun x58 =>
      m_law06_NeedleUnique_j1 x6 x58
    else
      m_law06_NeedleUnique_j1 x6 x30.1
  else
    m_law06_NeedleUnique_j1 x6 x30.1
def m_law06_NeedleUnique (x00 : List (BitVec 8)) (x01_0 : BitVec 64) (x01_1 : BitVec 32) (x01_2 : Bool) (x01_3 : List (BitVec 8)) (x02 : Int) (x03 : BitVec 8) : Option (Bool) :=
  if (6000 : Int) < (x00.length : Int) then
    Option.bind (slc x00 0 (6000 : Int)) fun x13 =>
    m_law06_NeedleUnique_j0 x01_0 x01_1 x01_2 x01_3 x02 x13 x03
  else
    m_law06_NeedleUnique_j0 x01_0 x01_1 x01_2 x01_3 x02 x00 x03

def m_law06_NeedleBursts_j3 (x02 : BitVec 32) (x44 : Int) (x53 : List (BitVec 8)) (x54 : Int) (r2 : (List (BitVec 8)) → Int → Option (Bool)) : Option (Bool) :=
  Option.bind (ck (x44 + x54)) fun x64 =>
  Option.bind (dvi x64 (8 : Int)) fun x65 =>
  Option.bind (idx x53 x65) fun x66 =>
  Option.bind (ck (x44 + x54)) fun x67 =>
  Option.bind (rmi x67 (8 : Int)) fun x68 =>
  Option.bind (idx x53 x65) fun x69 =>
  Option.bind (upd x53 x65 (x66 ^^^ ((((x02 >>> (BitVec.ofInt 64 x54).toNat) &&& 1#32) <<< (BitVec.ofInt 64 x68).toNat).setWidth 8))) fun x70 =>
  Option.bind (ck (x54 + (1 : Int))) fun x72 =>
  r2 x70 x72
def m_law06_NeedleBursts_j1 (x19 : (List (BitVec 8)) × Int) (x50 : List (BitVec 8)) : Option (Bool) :=
  if x19.1 = x50 then
    Option.bind (m_law06_awake) fun x77 =>
    some (x77)
  else
    Option.bind (slc x19.1 (16 : Int) (20 : Int)) fun x79 =>
    Option.bind (slc x50 (16 : Int) (20 : Int)) fun x80 =>
    if x79 = x80 then
      Option.bind (m_needle_Decode x50) fun x83 =>
      if x83.2.2.2.2.2 = (0 : Int) then
        some (false)
      else
        Option.bind (m_law06_awake) fun x94 =>
        some (x94)
    else
      Option.bind (m_law06_awake) fun x97 =>
      some (x97)
def m_law06_NeedleBursts_l2 (x02 : BitVec 32) (x19 : (List (BitVec 8)) × Int) (x40 : Int) (x44 : Int) : Nat → (List (BitVec 8)) → Int → Option (Bool)
  | 0, _, _ => none
  | q55 + 1, x53, x54 =>
    if x54 < (32 : Int) then
      Option.bind (ck (x44 + x54)) fun x60 =>
      if x60 < x40 then
        m_law06_NeedleBursts_j3 x02 x44 x53 x54 (m_law06_NeedleBursts_l2 x02 x19 x40 x44 q55)
      else
        m_law06_NeedleBursts_j1 x19 x53
    else
      m_law06_NeedleBursts_j1 x19 x53
def m_law06_NeedleBursts_j0 (x01 : Int) (x02 : BitVec 32) (x19 : (List (BitVec 8)) × Int) : Option (Bool) :=
  Option.bind (ck ((8 : Int) * (x19.1.length : Int))) fun x40 =>
  Option.bind (rmi x01 x40) fun x42 =>
  Option.bind (ck (x42 + x40)) fun x43 =>
  Option.bind (rmi x43 x40) fun x44 =>
  Option.bind (apd 1 ([] : List (BitVec 8)) x19.1) fun x47 =>
  m_law06_NeedleBursts_l2 x02 x19 x40 x44 forever x47 (0 : Int)
def m_law06_NeedleBursts (x00_0 : BitVec 64) (x00_1 : BitVec 32) (x00_2 : Bool) (x00_3 : List (BitVec 8)) (x01 : Int) (x02 : BitVec 32) : Option (Bool) :=
  Option.bind (m_law06_cut x00_0 x00_1 x00_2 x00_3) fun x4 =>
  Option.bind (m_needle_Encode x4.1 x4.2.1 x4.2.2.1 x4.2.2.2) fun x19 =>
  if x19.2 = (0 : Int) then
    if (x19.1.length : Int) < (24 : Int) then
      if x19.2 = (0 : Int) then
        some (false)
      else
        Option.bind (m_law06_awake) fun x33 =>
        some (x33)
    else
      m_law06_NeedleBursts_j0 x01 x02 x19
  else
    if x19.2 = (0 : Int) then
      some (false)
    else
      Option.bind (m_law06_awake) fun x37 =>
      some (x37)

def m_law06_NeedleShort_j0 (x01 : Int) (x19 : (List (BitVec 8)) × Int) : Option (Bool) :=
  Option.bind (rmi x01 (x19.1.length : Int)) fun x40 =>
  Option.bind (ck (x40 + (x19.1.length : Int))) fun x41 =>
  Option.bind (rmi x41 (x19.1.length : Int)) fun x42 =>
  Option.bind (slc x19.1 0 x42) fun x43 =>
  Option.bind (m_needle_Decode x43) fun x44 =>
  if x44.2.2.2.2.2 = (4 : Int) then
    Option.bind (m_law06_awake) fun x55 =>
    some (x55)
  else
    some (false)
def m_law06_NeedleShort (x00_0 : BitVec 64) (x00_1 : BitVec 32) (x00_2 : Bool) (x00_3 : List (BitVec 8)) (x01 : Int) : Option (Bool) :=
  Option.bind (m_law06_cut x00_0 x00_1 x00_2 x00_3) fun x4 =>
  Option.bind (m_needle_Encode x4.1 x4.2.1 x4.2.2.1 x4.2.2.2) fun x19 =>
  if x19.2 = (0 : Int) then
    if (x19.1.length : Int) = (0 : Int) then
      if x19.2 = (0 : Int) then
        some (false)
      else
        Option.bind (m_law06_awake) fun x33 =>
        some (x33)
    else
      m_law06_NeedleShort_j0 x01 x19
  else
    if x19.2 = (0 : Int) then
      some (false)
    else
      Option.bind (m_law06_awake) fun x37 =>
      some (x37)

end Go.Proofs.Ytclhepegfmhmjaa
