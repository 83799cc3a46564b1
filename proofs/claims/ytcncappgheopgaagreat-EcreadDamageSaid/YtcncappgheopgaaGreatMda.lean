/- A part of the proof. Conditions: as each theorem says. -/
import Derived.Test.YtcncappgheopgaaGreatMo
namespace Go.Proofs.YtcncappgheopgaaGreat
set_option linter.unusedVariables false
def m_gf256_Mul_j0 (x3 : Int) : Option ((BitVec 8)) :=
  some (BitVec.ofInt 8 x3)
def m_gf256_Mul_l1 : Nat -> (BitVec 8) -> Int -> Int -> Option ((BitVec 8))
  | 0, _, _, _ => none
  | q8 + 1, x5, x6, x7 =>
    if x5 = 0#8 then
      m_gf256_Mul_j0 x6
    else
      if (x5 &&& 1#8) = 1#8 then
        (shli x7 (1 : Nat)).bind fun x19 =>
        (shri x19 (8 : Nat)).bind fun x21 =>
        if x21 = (1 : Int) then
          (m_gf256_Mul_l1 q8) (x5 >>> 1) (xori x6 x7) (xori x19 (285 : Int))
        else
          (m_gf256_Mul_l1 q8) (x5 >>> 1) (xori x6 x7) x19
      else
        (shli x7 (1 : Nat)).bind fun x27 =>
        (shri x27 (8 : Nat)).bind fun x29 =>
        if x29 = (1 : Int) then
          (m_gf256_Mul_l1 q8) (x5 >>> 1) x6 (xori x27 (285 : Int))
        else
          (m_gf256_Mul_l1 q8) (x5 >>> 1) x6 x27
def m_gf256_Mul (x00 x01 : BitVec 8) : Option ((BitVec 8)) :=
  m_gf256_Mul_l1 forever x01 (0 : Int) (x00.toNat : Int)
def m_gf256_tables_j0 (x5 : By) (x7 : List Int) : Option (By × (List Int)) :=
  some (x5, x7)
def m_gf256_tables_l1 : Nat -> By -> (List Int) -> Int -> Int -> Option (By × (List Int))
  | 0, _, _, _, _ => none
  | q17 + 1, x11, x13, x15, x16 =>
    if x16 < (255 : Int) then
      (ck (x16 + (255 : Int))).bind fun x25 =>
      (idx x11 x16).bind fun x26 =>
      (upd x11 x16 (BitVec.ofInt 8 x15)).bind fun x27 =>
      (idx x27 x25).bind fun x28 =>
      (upd x27 x25 (BitVec.ofInt 8 x15)).bind fun x29 =>
      (idx x13 x15).bind fun x31 =>
      (upd x13 x15 x16).bind fun x32 =>
      (shli x15 (1 : Nat)).bind fun x34 =>
      (shri x34 (8 : Nat)).bind fun x36 =>
      if x36 = (1 : Int) then
        (ck (x16 + (1 : Int))).bind fun x40 =>
        (m_gf256_tables_l1 q17) x29 x32 (xori x34 (285 : Int)) x40
      else
        (ck (x16 + (1 : Int))).bind fun x42 =>
        (m_gf256_tables_l1 q17) x29 x32 x34 x42
    else
      m_gf256_tables_j0 x11 x13
def m_gf256_tables : Option (By × (List Int)) :=
  m_gf256_tables_l1 forever (List.replicate 510 (0#8)) (List.replicate 256 ((0 : Int))) (1 : Int) (0 : Int)
def m_gf256_within (x00 : Int) : Option Int :=
  (rmi x00 (255 : Int)).bind fun x3 =>
  (ck (x3 + (255 : Int))).bind fun x4 =>
  (rmi x4 (255 : Int)).bind fun x5 =>
  some (x5)
def m_gf256_Inv (x00 : BitVec 8) : Option ((BitVec 8) × Int) :=
  if x00 = 0#8 then
    some (0#8, (1 : Int))
  else
    (m_gf256_tables).bind fun x7 =>
    (idx x7.2 (x00.toNat : Int)).bind fun x16 =>
    (ck ((255 : Int) - x16)).bind fun x17 =>
    (idx x7.1 x17).bind fun x18 =>
    some (x18, (0 : Int))
def m_gf256_Pow (x00 : BitVec 8) (x01 : Int) : Option ((BitVec 8)) :=
  if x01 = (0 : Int) then
    some (1#8)
  else
    if x00 = 0#8 then
      some (0#8)
    else
      (m_gf256_tables).bind fun x10 =>
      (idx x10.2 (x00.toNat : Int)).bind fun x19 =>
      (m_gf256_within x01).bind fun x20 =>
      (ck (x19 * x20)).bind fun x22 =>
      (rmi x22 (255 : Int)).bind fun x23 =>
      (idx x10.1 x23).bind fun x24 =>
      some (x24)
def m_gf256_MulAdd_j2 (x02 : BitVec 8) (x6 : By × (List Int)) (x22 : By) (x23 : Int) (x31 : BitVec 8) (r1 : By -> Int -> Option (By × Int)) (x32 : Bool) : Option (By × Int) :=
  if x32 = true then
    (idx x22 x23).bind fun x38 =>
    (idx x6.2 (x02.toNat : Int)).bind fun x39 =>
    (idx x6.2 (x31.toNat : Int)).bind fun x40 =>
    (ck (x39 + x40)).bind fun x41 =>
    (idx x6.1 x41).bind fun x42 =>
    (idx x22 x23).bind fun x43 =>
    (upd x22 x23 (x38 ^^^ x42)).bind fun x44 =>
    (ck (x23 + (1 : Int))).bind fun x46 =>
    r1 x44 x46
  else
    (ck (x23 + (1 : Int))).bind fun x48 =>
    r1 x22 x48
def m_gf256_MulAdd_j0 (x19 : By) : Option (By × Int) :=
  some (x19, (0 : Int))
def m_gf256_MulAdd_l1 (x01 : By) (x02 : BitVec 8) (x6 : By × (List Int)) : Nat -> By -> Int -> Option (By × Int)
  | 0, _, _ => none
  | q24 + 1, x22, x23 =>
    if x23 < (x01.length : Int) then
      (idx x01 x23).bind fun x31 =>
      if x02 = 0#8 then
        m_gf256_MulAdd_j2 x02 x6 x22 x23 x31 (m_gf256_MulAdd_l1 x01 x02 x6 q24) false
      else
        m_gf256_MulAdd_j2 x02 x6 x22 x23 x31 (m_gf256_MulAdd_l1 x01 x02 x6 q24) (x31 != 0#8)
    else
      m_gf256_MulAdd_j0 x22
def m_gf256_MulAdd (x00 x01 : By) (x02 : BitVec 8) : Option (By × Int) :=
  if (x00.length : Int) = (x01.length : Int) then
    (m_gf256_tables).bind fun x6 =>
    (apd 1 ([] : By) x00).bind fun x16 =>
    m_gf256_MulAdd_l1 x01 x02 x6 forever x16 (0 : Int)
  else
    some (([] : By), (1 : Int))
def m_r02_Mul_j2 (x22 : Int) : Option ((BitVec 8)) :=
  some (BitVec.ofInt 8 x22)
def m_r02_Mul_l3 : Nat -> Int -> Int -> Option ((BitVec 8))
  | 0, _, _ => none
  | q27 + 1, x25, x26 =>
    if (8 : Int) <= x26 then
      (shri x25 ((BitVec.ofInt 64 x26).toNat : Nat)).bind fun x34 =>
      if (andi x34 (1 : Int)) = (1 : Int) then
        (ck (x26 - (8 : Int))).bind fun x37 =>
        (shli (285 : Int) ((BitVec.ofInt 64 x37).toNat : Nat)).bind fun x38 =>
        (ck (x26 - (1 : Int))).bind fun x40 =>
        (m_r02_Mul_l3 q27) (xori x25 x38) x40
      else
        (ck (x26 - (1 : Int))).bind fun x42 =>
        (m_r02_Mul_l3 q27) x25 x42
    else
      m_r02_Mul_j2 x25
def m_r02_Mul_j0 (x3 : Int) : Option ((BitVec 8)) :=
  m_r02_Mul_l3 forever x3 (14 : Int)
def m_r02_Mul_l1 (x00 x01 : BitVec 8) : Nat -> Int -> Int -> Option ((BitVec 8))
  | 0, _, _ => none
  | q8 + 1, x6, x7 =>
    if x7 < (8 : Int) then
      if ((x01 >>> (BitVec.ofInt 64 x7).toNat) &&& 1#8) = 1#8 then
        (shli (x00.toNat : Int) ((BitVec.ofInt 64 x7).toNat : Nat)).bind fun x17 =>
        (ck (x7 + (1 : Int))).bind fun x19 =>
        (m_r02_Mul_l1 x00 x01 q8) (xori x6 x17) x19
      else
        (ck (x7 + (1 : Int))).bind fun x21 =>
        (m_r02_Mul_l1 x00 x01 q8) x6 x21
    else
      m_r02_Mul_j0 x6
def m_r02_Mul (x00 x01 : BitVec 8) : Option ((BitVec 8)) :=
  m_r02_Mul_l1 x00 x01 forever (0 : Int) (0 : Int)
def m_r02_Inv_j0 : Option ((BitVec 8) × Int) :=
  some (0#8, (1 : Int))
def m_r02_Inv_l1 (x00 : BitVec 8) : Nat -> Int -> Option ((BitVec 8) × Int)
  | 0, _ => none
  | q5 + 1, x4 =>
    if x4 < (256 : Int) then
      (m_r02_Mul x00 (BitVec.ofInt 8 x4)).bind fun x12 =>
      if x12 = 1#8 then
        some (BitVec.ofInt 8 x4, (0 : Int))
      else
        (ck (x4 + (1 : Int))).bind fun x17 =>
        (m_r02_Inv_l1 x00 q5) x17
    else
      m_r02_Inv_j0
def m_r02_Inv (x00 : BitVec 8) : Option ((BitVec 8) × Int) :=
  m_r02_Inv_l1 x00 forever (1 : Int)
def m_r02_MulAdd_j0 (x11 : By) : Option (By × Int) :=
  some (x11, (0 : Int))
def m_r02_MulAdd_l1 (x00 x01 : By) (x02 : BitVec 8) : Nat -> By -> Int -> Option (By × Int)
  | 0, _, _ => none
  | q21 + 1, x19, x20 =>
    if x20 < (x00.length : Int) then
      (idx x00 x20).bind fun x28 =>
      (idx x01 x20).bind fun x29 =>
      (m_r02_Mul x02 x29).bind fun x30 =>
      (apd 1 x19 ([x28 ^^^ x30] : By)).bind fun x33 =>
      (ck (x20 + (1 : Int))).bind fun x37 =>
      (m_r02_MulAdd_l1 x00 x01 x02 q21) x33 x37
    else
      m_r02_MulAdd_j0 x19
def m_r02_MulAdd (x00 x01 : By) (x02 : BitVec 8) : Option (By × Int) :=
  if (x00.length : Int) = (x01.length : Int) then
    m_r02_MulAdd_l1 x00 x01 x02 forever ([] : By) (0 : Int)
  else
    some (([] : By), (1 : Int))
end Go.Proofs.YtcncappgheopgaaGreat
