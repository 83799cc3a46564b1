/-
  Models of functions of the program (a): what each computes, as an option. Printed by a program of ours (vcm.py). No conditions.
-/
import Derived.Test.YtcncappgheopgaaGreatMo
namespace Go.Proofs.YtcncappgheopgaaGreat
set_option linter.unusedVariables false
def m_gf256_Mul_j0 (x3 : Int) : Option ((BitVec 8)) :=
  some (BitVec.ofInt 8 x3)
def m_gf256_Mul_l1 : Nat -> (BitVec 8) -> Int -> Int -> Option ((BitVec 8))
  | 0, _, _, _ => none
  | q8 + 1, x5, x6, x7 =>
    if x5 = 0#8 then
      m_gf256_Mul_j0 x6
    else
      if (x5 &&& 1#8) = 1#8 then
        Option.bind (shli x7 (1 : Nat)) fun x19 =>
        Option.bind (shri x19 (8 : Nat)) fun x21 =>
        if x21 = (1 : Int) then
          (m_gf256_Mul_l1 q8) (x5 >>> 1) (xori x6 x7) (xori x19 (285 : Int))
        else
          (m_gf256_Mul_l1 q8) (x5 >>> 1) (xori x6 x7) x19
      else
        Option.bind (shli x7 (1 : Nat)) fun x27 =>
        Option.bind (shri x27 (8 : Nat)) fun x29 =>
        if x29 = (1 : Int) then
          (m_gf256_Mul_l1 q8) (x5 >>> 1) x6 (xori x27 (285 : Int))
        else
          (m_gf256_Mul_l1 q8) (x5 >>> 1) x6 x27
def m_gf256_Mul (x00 x01 : BitVec 8) : Option ((BitVec 8)) :=
  m_gf256_Mul_l1 forever x01 (0 : Int) (x00.toNat : Int)
def m_gf256_tables_j0 (x5 : List (BitVec 8)) (x7 : List (Int)) : Option ((List (BitVec 8)) × (List (Int))) :=
  some (x5, x7)
def m_gf256_tables_l1 : Nat -> (List (BitVec 8)) -> (List (Int)) -> Int -> Int -> Option ((List (BitVec 8)) × (List (Int)))
  | 0, _, _, _, _ => none
  | q17 + 1, x11, x13, x15, x16 =>
    if x16 < (255 : Int) then
      Option.bind (ck (x16 + (255 : Int))) fun x25 =>
      Option.bind (idx x11 x16) fun x26 =>
      Option.bind (upd x11 x16 (BitVec.ofInt 8 x15)) fun x27 =>
      Option.bind (idx x27 x25) fun x28 =>
      Option.bind (upd x27 x25 (BitVec.ofInt 8 x15)) fun x29 =>
      Option.bind (idx x13 x15) fun x31 =>
      Option.bind (upd x13 x15 x16) fun x32 =>
      Option.bind (shli x15 (1 : Nat)) fun x34 =>
      Option.bind (shri x34 (8 : Nat)) fun x36 =>
      if x36 = (1 : Int) then
        Option.bind (ck (x16 + (1 : Int))) fun x40 =>
        (m_gf256_tables_l1 q17) x29 x32 (xori x34 (285 : Int)) x40
      else
        Option.bind (ck (x16 + (1 : Int))) fun x42 =>
        (m_gf256_tables_l1 q17) x29 x32 x34 x42
    else
      m_gf256_tables_j0 x11 x13
def m_gf256_tables : Option ((List (BitVec 8)) × (List (Int))) :=
  m_gf256_tables_l1 forever (List.replicate 510 (0#8)) (List.replicate 256 ((0 : Int))) (1 : Int) (0 : Int)
def m_gf256_within (x00 : Int) : Option (Int) :=
  Option.bind (rmi x00 (255 : Int)) fun x3 =>
  Option.bind (ck (x3 + (255 : Int))) fun x4 =>
  Option.bind (rmi x4 (255 : Int)) fun x5 =>
  some (x5)
def m_gf256_Inv (x00 : BitVec 8) : Option ((BitVec 8) × Int) :=
  if x00 = 0#8 then
    some (0#8, (1 : Int))
  else
    Option.bind (m_gf256_tables) fun x7 =>
    Option.bind (idx x7.2 (x00.toNat : Int)) fun x16 =>
    Option.bind (ck ((255 : Int) - x16)) fun x17 =>
    Option.bind (idx x7.1 x17) fun x18 =>
    some (x18, (0 : Int))
def m_gf256_Pow (x00 : BitVec 8) (x01 : Int) : Option ((BitVec 8)) :=
  if x01 = (0 : Int) then
    some (1#8)
  else
    if x00 = 0#8 then
      some (0#8)
    else
      Option.bind (m_gf256_tables) fun x10 =>
      Option.bind (idx x10.2 (x00.toNat : Int)) fun x19 =>
      Option.bind (m_gf256_within x01) fun x20 =>
      Option.bind (ck (x19 * x20)) fun x22 =>
      Option.bind (rmi x22 (255 : Int)) fun x23 =>
      Option.bind (idx x10.1 x23) fun x24 =>
      some (x24)
def m_gf256_MulAdd_j2 (x02 : BitVec 8) (x6 : (List (BitVec 8)) × (List (Int))) (x22 : List (BitVec 8)) (x23 : Int) (x31 : BitVec 8) (r1 : (List (BitVec 8)) -> Int -> Option ((List (BitVec 8)) × Int)) (x32 : Bool) : Option ((List (BitVec 8)) × Int) :=
  if x32 = true then
    Option.bind (idx x22 x23) fun x38 =>
    Option.bind (idx x6.2 (x02.toNat : Int)) fun x39 =>
    Option.bind (idx x6.2 (x31.toNat : Int)) fun x40 =>
    Option.bind (ck (x39 + x40)) fun x41 =>
    Option.bind (idx x6.1 x41) fun x42 =>
    Option.bind (idx x22 x23) fun x43 =>
    Option.bind (upd x22 x23 (x38 ^^^ x42)) fun x44 =>
    Option.bind (ck (x23 + (1 : Int))) fun x46 =>
    r1 x44 x46
  else
    Option.bind (ck (x23 + (1 : Int))) fun x48 =>
    r1 x22 x48
def m_gf256_MulAdd_j0 (x19 : List (BitVec 8)) : Option ((List (BitVec 8)) × Int) :=
  some (x19, (0 : Int))
def m_gf256_MulAdd_l1 (x01 : List (BitVec 8)) (x02 : BitVec 8) (x6 : (List (BitVec 8)) × (List (Int))) : Nat -> (List (BitVec 8)) -> Int -> Option ((List (BitVec 8)) × Int)
  | 0, _, _ => none
  | q24 + 1, x22, x23 =>
    if x23 < (x01.length : Int) then
      Option.bind (idx x01 x23) fun x31 =>
      if x02 = 0#8 then
        m_gf256_MulAdd_j2 x02 x6 x22 x23 x31 (m_gf256_MulAdd_l1 x01 x02 x6 q24) false
      else
        m_gf256_MulAdd_j2 x02 x6 x22 x23 x31 (m_gf256_MulAdd_l1 x01 x02 x6 q24) (x31 != 0#8)
    else
      m_gf256_MulAdd_j0 x22
def m_gf256_MulAdd (x00 x01 : List (BitVec 8)) (x02 : BitVec 8) : Option ((List (BitVec 8)) × Int) :=
  if (x00.length : Int) = (x01.length : Int) then
    Option.bind (m_gf256_tables) fun x6 =>
    Option.bind (apd 1 ([] : List (BitVec 8)) x00) fun x16 =>
    m_gf256_MulAdd_l1 x01 x02 x6 forever x16 (0 : Int)
  else
    some (([] : List (BitVec 8)), (1 : Int))
def m_r02_Mul_j2 (x22 : Int) : Option ((BitVec 8)) :=
  some (BitVec.ofInt 8 x22)
def m_r02_Mul_l3 : Nat -> Int -> Int -> Option ((BitVec 8))
  | 0, _, _ => none
  | q27 + 1, x25, x26 =>
    if (8 : Int) <= x26 then
      Option.bind (shri x25 ((BitVec.ofInt 64 x26).toNat : Nat)) fun x34 =>
      if (andi x34 (1 : Int)) = (1 : Int) then
        Option.bind (ck (x26 - (8 : Int))) fun x37 =>
        Option.bind (shli (285 : Int) ((BitVec.ofInt 64 x37).toNat : Nat)) fun x38 =>
        Option.bind (ck (x26 - (1 : Int))) fun x40 =>
        (m_r02_Mul_l3 q27) (xori x25 x38) x40
      else
        Option.bind (ck (x26 - (1 : Int))) fun x42 =>
        (m_r02_Mul_l3 q27) x25 x42
    else
      m_r02_Mul_j2 x25
def m_r02_Mul_j0 (x3 : Int) : Option ((BitVec 8)) :=
  m_r02_Mul_l3 forever x3 (14 : Int)
def m_r02_Mul_l1 (x00 x01 : BitVec 8) : Nat -> Int -> Int -> Option ((BitVec 8))
  | 0, _, _ => none
  | q8 + 1, x6, x7 =>
    if x7 < (8 : Int) then
      if ((x01 >>> (BitVec.ofInt 64 x7).toNat) &&& 1#8) = 1#8 then
        Option.bind (shli (x00.toNat : Int) ((BitVec.ofInt 64 x7).toNat : Nat)) fun x17 =>
        Option.bind (ck (x7 + (1 : Int))) fun x19 =>
        (m_r02_Mul_l1 x00 x01 q8) (xori x6 x17) x19
      else
        Option.bind (ck (x7 + (1 : Int))) fun x21 =>
        (m_r02_Mul_l1 x00 x01 q8) x6 x21
    else
      m_r02_Mul_j0 x6
def m_r02_Mul (x00 x01 : BitVec 8) : Option ((BitVec 8)) :=
  m_r02_Mul_l1 x00 x01 forever (0 : Int) (0 : Int)
def m_r02_Inv_j0 : Option ((BitVec 8) × Int) :=
  some (0#8, (1 : Int))
def m_r02_Inv_l1 (x00 : BitVec 8) : Nat -> Int -> Option ((BitVec 8) × Int)
  | 0, _ => none
  | q5 + 1, x4 =>
    if x4 < (256 : Int) then
      Option.bind (m_r02_Mul x00 (BitVec.ofInt 8 x4)) fun x12 =>
      if x12 = 1#8 then
        some (BitVec.ofInt 8 x4, (0 : Int))
      else
        Option.bind (ck (x4 + (1 : Int))) fun x17 =>
        (m_r02_Inv_l1 x00 q5) x17
    else
      m_r02_Inv_j0
def m_r02_Inv (x00 : BitVec 8) : Option ((BitVec 8) × Int) :=
  m_r02_Inv_l1 x00 forever (1 : Int)
def m_r02_MulAdd_j0 (x11 : List (BitVec 8)) : Option ((List (BitVec 8)) × Int) :=
  some (x11, (0 : Int))
def m_r02_MulAdd_l1 (x00 x01 : List (BitVec 8)) (x02 : BitVec 8) : Nat -> (List (BitVec 8)) -> Int -> Option ((List (BitVec 8)) × Int)
  | 0, _, _ => none
  | q21 + 1, x19, x20 =>
    if x20 < (x00.length : Int) then
      Option.bind (idx x00 x20) fun x28 =>
      Option.bind (idx x01 x20) fun x29 =>
      Option.bind (m_r02_Mul x02 x29) fun x30 =>
      Option.bind (apd 1 x19 ([x28 ^^^ x30] : List (BitVec 8))) fun x33 =>
      Option.bind (ck (x20 + (1 : Int))) fun x37 =>
      (m_r02_MulAdd_l1 x00 x01 x02 q21) x33 x37
    else
      m_r02_MulAdd_j0 x19
def m_r02_MulAdd (x00 x01 : List (BitVec 8)) (x02 : BitVec 8) : Option ((List (BitVec 8)) × Int) :=
  if (x00.length : Int) = (x01.length : Int) then
    m_r02_MulAdd_l1 x00 x01 x02 forever ([] : List (BitVec 8)) (0 : Int)
  else
    some (([] : List (BitVec 8)), (1 : Int))
end Go.Proofs.YtcncappgheopgaaGreat
