/-
  Models of functions of the program (za): what each computes, as an option. Printed by a program of ours (vcm.py). No conditions.
-/
import Derived.Test.YtkcccenekglkoaaMdd
namespace Go.Proofs.Ytkcccenekglkoaa
set_option linter.unusedVariables false
def m_cmp_Less_uint64 (x00 x01 : BitVec 64) : Option (Bool) :=
  if x00 = x00 then
    some ((decide (x00 < x01)))
  else
    if x01 = x01 then
      some (true)
    else
      some ((decide (x00 < x01)))
def m_slices_insertionSortOrdered_uint64_j3 (x13 : List (BitVec 64)) (x14 : Int) (r2 : (List (BitVec 64)) -> Int -> Option (List (BitVec 64))) : Option (List (BitVec 64)) :=
  Option.bind (ck (x14 - (1 : Int))) fun x28 =>
  Option.bind (ck (x14 - (1 : Int))) fun x29 =>
  Option.bind (idx x13 x29) fun x30 =>
  Option.bind (idx x13 x14) fun x31 =>
  Option.bind (idx x13 x14) fun x32 =>
  Option.bind (upd x13 x14 x30) fun x33 =>
  Option.bind (idx x33 x28) fun x34 =>
  Option.bind (upd x33 x28 x31) fun x35 =>
  Option.bind (ck (x14 - (1 : Int))) fun x47 =>
  r2 x35 x47
def m_slices_insertionSortOrdered_uint64_j1 (x4 : Int) (r0 : (List (BitVec 64)) -> Int -> Option (List (BitVec 64))) (x10 : List (BitVec 64)) : Option (List (BitVec 64)) :=
  Option.bind (ck (x4 + (1 : Int))) fun x49 =>
  r0 x10 x49
def m_slices_insertionSortOrdered_uint64_l2 (x01 x4 : Int) (r0 : (List (BitVec 64)) -> Int -> Option (List (BitVec 64))) : Nat -> (List (BitVec 64)) -> Int -> Option (List (BitVec 64))
  | 0, _, _ => none
  | q15 + 1, x13, x14 =>
    if x01 < x14 then
      Option.bind (idx x13 x14) fun x20 =>
      Option.bind (ck (x14 - (1 : Int))) fun x21 =>
      Option.bind (idx x13 x21) fun x22 =>
      Option.bind (m_cmp_Less_uint64 x20 x22) fun x23 =>
      if x23 = true then
        m_slices_insertionSortOrdered_uint64_j3 x13 x14 (m_slices_insertionSortOrdered_uint64_l2 x01 x4 r0 q15)
      else
        m_slices_insertionSortOrdered_uint64_j1 x4 r0 x13
    else
      m_slices_insertionSortOrdered_uint64_j1 x4 r0 x13
def m_slices_insertionSortOrdered_uint64_l0 (x01 x02 : Int) : Nat -> (List (BitVec 64)) -> Int -> Option (List (BitVec 64))
  | 0, _, _ => none
  | q5 + 1, x3, x4 =>
    if x4 < x02 then
      m_slices_insertionSortOrdered_uint64_l2 x01 x4 (m_slices_insertionSortOrdered_uint64_l0 x01 x02 q5) forever x3 x4
    else
      some (x3)
def m_slices_insertionSortOrdered_uint64 (x0c : List (BitVec 64)) (x01 x02 : Int) : Option (List (BitVec 64)) :=
  Option.bind (ck (x01 + (1 : Int))) fun x2 =>
  m_slices_insertionSortOrdered_uint64_l0 x01 x02 forever x0c x2
def m_slices_siftDownOrdered_uint64_j1 (x2 : List (BitVec 64)) (x3 x4 x5 : Int) (r0 : (List (BitVec 64)) -> Int -> Int -> Int -> Option (List (BitVec 64))) (x14 : Int) : Option (List (BitVec 64)) :=
  Option.bind (ck (x4 + x5)) fun x31 =>
  Option.bind (idx x2 x31) fun x32 =>
  Option.bind (ck (x4 + x14)) fun x33 =>
  Option.bind (idx x2 x33) fun x34 =>
  Option.bind (m_cmp_Less_uint64 x32 x34) fun x35 =>
  if x35 = true then
    Option.bind (ck (x4 + x5)) fun x39 =>
    Option.bind (ck (x4 + x14)) fun x40 =>
    Option.bind (ck (x4 + x14)) fun x41 =>
    Option.bind (idx x2 x41) fun x42 =>
    Option.bind (ck (x4 + x5)) fun x43 =>
    Option.bind (idx x2 x43) fun x44 =>
    Option.bind (idx x2 x39) fun x45 =>
    Option.bind (upd x2 x39 x42) fun x46 =>
    Option.bind (idx x46 x40) fun x47 =>
    Option.bind (upd x46 x40 x44) fun x48 =>
    r0 x48 x3 x4 x14
  else
    some (x2)
def m_slices_siftDownOrdered_uint64_l0 : Nat -> (List (BitVec 64)) -> Int -> Int -> Int -> Option (List (BitVec 64))
  | 0, _, _, _, _ => none
  | q6 + 1, x2, x3, x4, x5 =>
    Option.bind (ck ((2 : Int) * x5)) fun x9 =>
    Option.bind (ck (x9 + (1 : Int))) fun x10 =>
    if x3 <= x10 then
      some (x2)
    else
      Option.bind (ck (x10 + (1 : Int))) fun x17 =>
      if x17 < x3 then
        Option.bind (ck (x4 + x10)) fun x19 =>
        Option.bind (idx x2 x19) fun x20 =>
        Option.bind (ck (x4 + x10)) fun x21 =>
        Option.bind (ck (x21 + (1 : Int))) fun x22 =>
        Option.bind (idx x2 x22) fun x23 =>
        Option.bind (m_cmp_Less_uint64 x20 x23) fun x24 =>
        if x24 = true then
          Option.bind (ck (x10 + (1 : Int))) fun x28 =>
          m_slices_siftDownOrdered_uint64_j1 x2 x3 x4 x5 (m_slices_siftDownOrdered_uint64_l0 q6) x28
        else
          m_slices_siftDownOrdered_uint64_j1 x2 x3 x4 x5 (m_slices_siftDownOrdered_uint64_l0 q6) x10
      else
        m_slices_siftDownOrdered_uint64_j1 x2 x3 x4 x5 (m_slices_siftDownOrdered_uint64_l0 q6) x10
def m_slices_siftDownOrdered_uint64 (x0c : List (BitVec 64)) (x01 x02 x03 : Int) : Option (List (BitVec 64)) :=
  m_slices_siftDownOrdered_uint64_l0 forever x0c x02 x03 x01
def m_slices_heapSortOrdered_uint64_l2 (x01 : Int) : Nat -> (List (BitVec 64)) -> Int -> Option (List (BitVec 64))
  | 0, _, _ => none
  | q26 + 1, x24, x25 =>
    if (0 : Int) <= x25 then
      Option.bind (ck (x01 + x25)) fun x33 =>
      Option.bind (ck (x01 + x25)) fun x34 =>
      Option.bind (idx x24 x34) fun x35 =>
      Option.bind (idx x24 x01) fun x36 =>
      Option.bind (idx x24 x01) fun x37 =>
      Option.bind (upd x24 x01 x35) fun x38 =>
      Option.bind (idx x38 x33) fun x39 =>
      Option.bind (upd x38 x33 x36) fun x40 =>
      Option.bind (m_slices_siftDownOrdered_uint64 x40 (0 : Int) x25 x01) fun x62 =>
      Option.bind (ck (x25 - (1 : Int))) fun x64 =>
      (m_slices_heapSortOrdered_uint64_l2 x01 q26) x62 x64
    else
      some (x24)
def m_slices_heapSortOrdered_uint64_j0 (x01 x4 : Int) (x5 : List (BitVec 64)) : Option (List (BitVec 64)) :=
  Option.bind (ck (x4 - (1 : Int))) fun x23 =>
  m_slices_heapSortOrdered_uint64_l2 x01 forever x5 x23
def m_slices_heapSortOrdered_uint64_l1 (x01 x4 : Int) : Nat -> (List (BitVec 64)) -> Int -> Option (List (BitVec 64))
  | 0, _, _ => none
  | q12 + 1, x10, x11 =>
    if (0 : Int) <= x11 then
      Option.bind (m_slices_siftDownOrdered_uint64 x10 x11 x4 x01) fun x19 =>
      Option.bind (ck (x11 - (1 : Int))) fun x21 =>
      (m_slices_heapSortOrdered_uint64_l1 x01 x4 q12) x19 x21
    else
      m_slices_heapSortOrdered_uint64_j0 x01 x4 x10
def m_slices_heapSortOrdered_uint64 (x0c : List (BitVec 64)) (x01 x02 : Int) : Option (List (BitVec 64)) :=
  Option.bind (ck (x02 - x01)) fun x4 =>
  Option.bind (ck (x4 - (1 : Int))) fun x8 =>
  Option.bind (dvi x8 (2 : Int)) fun x9 =>
  m_slices_heapSortOrdered_uint64_l1 x01 x4 forever x0c x9
def m_slices_partialInsertionSortOrdered_uint64_j2 (x9 : Int) (r1 : (List (BitVec 64)) -> Int -> Int -> Option ((List (BitVec 64)) × Bool)) (x15 : List (BitVec 64)) (x16 : Int) : Option ((List (BitVec 64)) × Bool) :=
  Option.bind (ck (x9 + (1 : Int))) fun x141 =>
  r1 x15 x16 x141
def m_slices_partialInsertionSortOrdered_uint64_l8 (x02 x9 x18 : Int) (r1 : (List (BitVec 64)) -> Int -> Int -> Option ((List (BitVec 64)) × Bool)) : Nat -> (List (BitVec 64)) -> Int -> Option ((List (BitVec 64)) × Bool)
  | 0, _, _ => none
  | q105 + 1, x103, x104 =>
    if x104 < x02 then
      Option.bind (idx x103 x104) fun x113 =>
      Option.bind (ck (x104 - (1 : Int))) fun x114 =>
      Option.bind (idx x103 x114) fun x115 =>
      Option.bind (m_cmp_Less_uint64 x113 x115) fun x116 =>
      if x116 = true then
        Option.bind (ck (x104 - (1 : Int))) fun x120 =>
        Option.bind (ck (x104 - (1 : Int))) fun x121 =>
        Option.bind (idx x103 x121) fun x122 =>
        Option.bind (idx x103 x104) fun x123 =>
        Option.bind (idx x103 x104) fun x124 =>
        Option.bind (upd x103 x104 x122) fun x125 =>
        Option.bind (idx x125 x120) fun x126 =>
        Option.bind (upd x125 x120 x123) fun x127 =>
        Option.bind (ck (x104 + (1 : Int))) fun x139 =>
        (m_slices_partialInsertionSortOrdered_uint64_l8 x02 x9 x18 r1 q105) x127 x139
      else
        m_slices_partialInsertionSortOrdered_uint64_j2 x9 r1 x103 x18
    else
      m_slices_partialInsertionSortOrdered_uint64_j2 x9 r1 x103 x18
def m_slices_partialInsertionSortOrdered_uint64_j6 (x02 x9 x18 : Int) (r1 : (List (BitVec 64)) -> Int -> Int -> Option ((List (BitVec 64)) × Bool)) (x54 : List (BitVec 64)) : Option ((List (BitVec 64)) × Bool) :=
  Option.bind (ck (x02 - x18)) fun x99 =>
  if (2 : Int) <= x99 then
    Option.bind (ck (x18 + (1 : Int))) fun x102 =>
    m_slices_partialInsertionSortOrdered_uint64_l8 x02 x9 x18 r1 forever x54 x102
  else
    m_slices_partialInsertionSortOrdered_uint64_j2 x9 r1 x54 x18
def m_slices_partialInsertionSortOrdered_uint64_l7 (x02 x9 x18 : Int) (r1 : (List (BitVec 64)) -> Int -> Int -> Option ((List (BitVec 64)) × Bool)) : Nat -> (List (BitVec 64)) -> Int -> Option ((List (BitVec 64)) × Bool)
  | 0, _, _ => none
  | q63 + 1, x61, x62 =>
    if (1 : Int) <= x62 then
      Option.bind (idx x61 x62) fun x71 =>
      Option.bind (ck (x62 - (1 : Int))) fun x72 =>
      Option.bind (idx x61 x72) fun x73 =>
      Option.bind (m_cmp_Less_uint64 x71 x73) fun x74 =>
      if x74 = true then
        Option.bind (ck (x62 - (1 : Int))) fun x78 =>
        Option.bind (ck (x62 - (1 : Int))) fun x79 =>
        Option.bind (idx x61 x79) fun x80 =>
        Option.bind (idx x61 x62) fun x81 =>
        Option.bind (idx x61 x62) fun x82 =>
        Option.bind (upd x61 x62 x80) fun x83 =>
        Option.bind (idx x83 x78) fun x84 =>
        Option.bind (upd x83 x78 x81) fun x85 =>
        Option.bind (ck (x62 - (1 : Int))) fun x97 =>
        (m_slices_partialInsertionSortOrdered_uint64_l7 x02 x9 x18 r1 q63) x85 x97
      else
        m_slices_partialInsertionSortOrdered_uint64_j6 x02 x9 x18 r1 x61
    else
      m_slices_partialInsertionSortOrdered_uint64_j6 x02 x9 x18 r1 x61
def m_slices_partialInsertionSortOrdered_uint64_j5 (x01 x02 x9 x18 : Int) (r1 : (List (BitVec 64)) -> Int -> Int -> Option ((List (BitVec 64)) × Bool)) (x43 : List (BitVec 64)) : Option ((List (BitVec 64)) × Bool) :=
  Option.bind (ck (x18 - x01)) fun x57 =>
  if (2 : Int) <= x57 then
    Option.bind (ck (x18 - (1 : Int))) fun x60 =>
    m_slices_partialInsertionSortOrdered_uint64_l7 x02 x9 x18 r1 forever x43 x60
  else
    m_slices_partialInsertionSortOrdered_uint64_j6 x02 x9 x18 r1 x43
def m_slices_partialInsertionSortOrdered_uint64_j3 (x01 x02 : Int) (x7 : List (BitVec 64)) (x9 : Int) (r1 : (List (BitVec 64)) -> Int -> Int -> Option ((List (BitVec 64)) × Bool)) (x18 : Int) : Option ((List (BitVec 64)) × Bool) :=
  if x18 = x02 then
    some (x7, true)
  else
    Option.bind (ck (x02 - x01)) fun x40 =>
    if x40 < (50 : Int) then
      some (x7, false)
    else
      Option.bind (ck (x18 - (1 : Int))) fun x46 =>
      Option.bind (ck (x18 - (1 : Int))) fun x47 =>
      Option.bind (idx x7 x47) fun x48 =>
      Option.bind (idx x7 x18) fun x49 =>
      Option.bind (idx x7 x18) fun x50 =>
      Option.bind (upd x7 x18 x48) fun x51 =>
      Option.bind (idx x51 x46) fun x52 =>
      Option.bind (upd x51 x46 x49) fun x53 =>
      m_slices_partialInsertionSortOrdered_uint64_j5 x01 x02 x9 x18 r1 x53
def m_slices_partialInsertionSortOrdered_uint64_l4 (x01 x02 : Int) (x7 : List (BitVec 64)) (x9 : Int) (r1 : (List (BitVec 64)) -> Int -> Int -> Option ((List (BitVec 64)) × Bool)) : Nat -> Int -> Option ((List (BitVec 64)) × Bool)
  | 0, _ => none
  | q21 + 1, x20 =>
    if x20 < x02 then
      Option.bind (idx x7 x20) fun x26 =>
      Option.bind (ck (x20 - (1 : Int))) fun x27 =>
      Option.bind (idx x7 x27) fun x28 =>
      Option.bind (m_cmp_Less_uint64 x26 x28) fun x29 =>
      if x29 = true then
        m_slices_partialInsertionSortOrdered_uint64_j3 x01 x02 x7 x9 r1 x20
      else
        Option.bind (ck (x20 + (1 : Int))) fun x33 =>
        (m_slices_partialInsertionSortOrdered_uint64_l4 x01 x02 x7 x9 r1 q21) x33
    else
      m_slices_partialInsertionSortOrdered_uint64_j3 x01 x02 x7 x9 r1 x20
def m_slices_partialInsertionSortOrdered_uint64_j0 (x4 : List (BitVec 64)) : Option ((List (BitVec 64)) × Bool) :=
  some (x4, false)
def m_slices_partialInsertionSortOrdered_uint64_l1 (x01 x02 : Int) : Nat -> (List (BitVec 64)) -> Int -> Int -> Option ((List (BitVec 64)) × Bool)
  | 0, _, _, _ => none
  | q10 + 1, x7, x8, x9 =>
    if x9 < (5 : Int) then
      m_slices_partialInsertionSortOrdered_uint64_l4 x01 x02 x7 x9 (m_slices_partialInsertionSortOrdered_uint64_l1 x01 x02 q10) forever x8
    else
      m_slices_partialInsertionSortOrdered_uint64_j0 x7
def m_slices_partialInsertionSortOrdered_uint64 (x0c : List (BitVec 64)) (x01 x02 : Int) : Option ((List (BitVec 64)) × Bool) :=
  Option.bind (ck (x01 + (1 : Int))) fun x3 =>
  m_slices_partialInsertionSortOrdered_uint64_l1 x01 x02 forever x0c x3 (0 : Int)
def m_slices_partitionEqualOrdered_uint64_j1 (x15 : List (BitVec 64)) (x16 : Int) : Option ((List (BitVec 64)) × Int) :=
  some (x15, x16)
def m_slices_partitionEqualOrdered_uint64_j5 (x18 : List (BitVec 64)) (x23 : Int) (r2 : (List (BitVec 64)) -> Int -> Int -> Option ((List (BitVec 64)) × Int)) (x38 : Int) : Option ((List (BitVec 64)) × Int) :=
  if x38 < x23 then
    m_slices_partitionEqualOrdered_uint64_j1 x18 x23
  else
    Option.bind (idx x18 x38) fun x57 =>
    Option.bind (idx x18 x23) fun x58 =>
    Option.bind (idx x18 x23) fun x59 =>
    Option.bind (upd x18 x23 x57) fun x60 =>
    Option.bind (idx x60 x38) fun x61 =>
    Option.bind (upd x60 x38 x58) fun x62 =>
    Option.bind (ck (x23 + (1 : Int))) fun x84 =>
    Option.bind (ck (x38 - (1 : Int))) fun x86 =>
    r2 x62 x84 x86
def m_slices_partitionEqualOrdered_uint64_l6 (x01 : Int) (x18 : List (BitVec 64)) (x23 : Int) (r2 : (List (BitVec 64)) -> Int -> Int -> Option ((List (BitVec 64)) × Int)) : Nat -> Int -> Option ((List (BitVec 64)) × Int)
  | 0, _ => none
  | q41 + 1, x40 =>
    if x23 <= x40 then
      Option.bind (idx x18 x01) fun x46 =>
      Option.bind (idx x18 x40) fun x47 =>
      Option.bind (m_cmp_Less_uint64 x46 x47) fun x48 =>
      if x48 = true then
        Option.bind (ck (x40 - (1 : Int))) fun x52 =>
        (m_slices_partitionEqualOrdered_uint64_l6 x01 x18 x23 r2 q41) x52
      else
        m_slices_partitionEqualOrdered_uint64_j5 x18 x23 r2 x40
    else
      m_slices_partitionEqualOrdered_uint64_j5 x18 x23 r2 x40
def m_slices_partitionEqualOrdered_uint64_j3 (x01 : Int) (x18 : List (BitVec 64)) (x20 : Int) (r2 : (List (BitVec 64)) -> Int -> Int -> Option ((List (BitVec 64)) × Int)) (x23 : Int) : Option ((List (BitVec 64)) × Int) :=
  m_slices_partitionEqualOrdered_uint64_l6 x01 x18 x23 r2 forever x20
def m_slices_partitionEqualOrdered_uint64_l4 (x01 : Int) (x18 : List (BitVec 64)) (x20 : Int) (r2 : (List (BitVec 64)) -> Int -> Int -> Option ((List (BitVec 64)) × Int)) : Nat -> Int -> Option ((List (BitVec 64)) × Int)
  | 0, _ => none
  | q26 + 1, x25 =>
    if x25 <= x20 then
      Option.bind (idx x18 x01) fun x31 =>
      Option.bind (idx x18 x25) fun x32 =>
      Option.bind (m_cmp_Less_uint64 x31 x32) fun x33 =>
      if x33 = true then
        m_slices_partitionEqualOrdered_uint64_j3 x01 x18 x20 r2 x25
      else
        Option.bind (ck (x25 + (1 : Int))) fun x37 =>
        (m_slices_partitionEqualOrdered_uint64_l4 x01 x18 x20 r2 q26) x37
    else
      m_slices_partitionEqualOrdered_uint64_j3 x01 x18 x20 r2 x25
def m_slices_partitionEqualOrdered_uint64_l2 (x01 : Int) : Nat -> (List (BitVec 64)) -> Int -> Int -> Option ((List (BitVec 64)) × Int)
  | 0, _, _, _ => none
  | q21 + 1, x18, x19, x20 =>
    m_slices_partitionEqualOrdered_uint64_l4 x01 x18 x20 (m_slices_partitionEqualOrdered_uint64_l2 x01 q21) forever x19
def m_slices_partitionEqualOrdered_uint64_j0 (x01 : Int) (x2 : List (BitVec 64)) (x3 : Int) : Option ((List (BitVec 64)) × Int) :=
  Option.bind (ck (x01 + (1 : Int))) fun x13 =>
  Option.bind (ck (x3 - (1 : Int))) fun x14 =>
  m_slices_partitionEqualOrdered_uint64_l2 x01 forever x2 x13 x14
def m_slices_partitionEqualOrdered_uint64 (x0c : List (BitVec 64)) (x01 x02 x03 : Int) : Option ((List (BitVec 64)) × Int) :=
  Option.bind (idx x0c x03) fun x6 =>
  Option.bind (idx x0c x01) fun x7 =>
  Option.bind (idx x0c x01) fun x8 =>
  Option.bind (upd x0c x01 x6) fun x9 =>
  Option.bind (idx x9 x03) fun x10 =>
  Option.bind (upd x9 x03 x7) fun x11 =>
  m_slices_partitionEqualOrdered_uint64_j0 x01 x11 x02
def m_slices_partitionOrdered_uint64_j6 (x01 : Int) (x74 : List (BitVec 64)) (x75 : Int) : Option ((List (BitVec 64)) × Int × Bool) :=
  Option.bind (idx x74 x01) fun x147 =>
  Option.bind (idx x74 x75) fun x148 =>
  Option.bind (idx x74 x75) fun x149 =>
  Option.bind (upd x74 x75 x147) fun x150 =>
  Option.bind (idx x150 x01) fun x151 =>
  Option.bind (upd x150 x01 x148) fun x152 =>
  some (x152, x75, false)
def m_slices_partitionOrdered_uint64_j10 (x01 : Int) (x77 : List (BitVec 64)) (x82 : Int) (r7 : (List (BitVec 64)) -> Int -> Int -> Option ((List (BitVec 64)) × Int × Bool)) (x97 : Int) : Option ((List (BitVec 64)) × Int × Bool) :=
  if x97 < x82 then
    m_slices_partitionOrdered_uint64_j6 x01 x77 x97
  else
    Option.bind (idx x77 x97) fun x116 =>
    Option.bind (idx x77 x82) fun x117 =>
    Option.bind (idx x77 x82) fun x118 =>
    Option.bind (upd x77 x82 x116) fun x119 =>
    Option.bind (idx x119 x97) fun x120 =>
    Option.bind (upd x119 x97 x117) fun x121 =>
    Option.bind (ck (x82 + (1 : Int))) fun x143 =>
    Option.bind (ck (x97 - (1 : Int))) fun x145 =>
    r7 x121 x143 x145
def m_slices_partitionOrdered_uint64_l11 (x01 : Int) (x77 : List (BitVec 64)) (x82 : Int) (r7 : (List (BitVec 64)) -> Int -> Int -> Option ((List (BitVec 64)) × Int × Bool)) : Nat -> Int -> Option ((List (BitVec 64)) × Int × Bool)
  | 0, _ => none
  | q100 + 1, x99 =>
    if x82 <= x99 then
      Option.bind (idx x77 x99) fun x105 =>
      Option.bind (idx x77 x01) fun x106 =>
      Option.bind (m_cmp_Less_uint64 x105 x106) fun x107 =>
      if x107 = true then
        m_slices_partitionOrdered_uint64_j10 x01 x77 x82 r7 x99
      else
        Option.bind (ck (x99 - (1 : Int))) fun x111 =>
        (m_slices_partitionOrdered_uint64_l11 x01 x77 x82 r7 q100) x111
    else
      m_slices_partitionOrdered_uint64_j10 x01 x77 x82 r7 x99
def m_slices_partitionOrdered_uint64_j8 (x01 : Int) (x77 : List (BitVec 64)) (x79 : Int) (r7 : (List (BitVec 64)) -> Int -> Int -> Option ((List (BitVec 64)) × Int × Bool)) (x82 : Int) : Option ((List (BitVec 64)) × Int × Bool) :=
  m_slices_partitionOrdered_uint64_l11 x01 x77 x82 r7 forever x79
def m_slices_partitionOrdered_uint64_l9 (x01 : Int) (x77 : List (BitVec 64)) (x79 : Int) (r7 : (List (BitVec 64)) -> Int -> Int -> Option ((List (BitVec 64)) × Int × Bool)) : Nat -> Int -> Option ((List (BitVec 64)) × Int × Bool)
  | 0, _ => none
  | q85 + 1, x84 =>
    if x84 <= x79 then
      Option.bind (idx x77 x84) fun x90 =>
      Option.bind (idx x77 x01) fun x91 =>
      Option.bind (m_cmp_Less_uint64 x90 x91) fun x92 =>
      if x92 = true then
        Option.bind (ck (x84 + (1 : Int))) fun x96 =>
        (m_slices_partitionOrdered_uint64_l9 x01 x77 x79 r7 q85) x96
      else
        m_slices_partitionOrdered_uint64_j8 x01 x77 x79 r7 x84
    else
      m_slices_partitionOrdered_uint64_j8 x01 x77 x79 r7 x84
def m_slices_partitionOrdered_uint64_l7 (x01 : Int) : Nat -> (List (BitVec 64)) -> Int -> Int -> Option ((List (BitVec 64)) × Int × Bool)
  | 0, _, _, _ => none
  | q80 + 1, x77, x78, x79 =>
    m_slices_partitionOrdered_uint64_l9 x01 x77 x79 (m_slices_partitionOrdered_uint64_l7 x01 q80) forever x78
def m_slices_partitionOrdered_uint64_j5 (x01 x15 x30 : Int) (x61 : List (BitVec 64)) : Option ((List (BitVec 64)) × Int × Bool) :=
  Option.bind (ck (x15 + (1 : Int))) fun x71 =>
  Option.bind (ck (x30 - (1 : Int))) fun x73 =>
  m_slices_partitionOrdered_uint64_l7 x01 forever x61 x71 x73
def m_slices_partitionOrdered_uint64_j3 (x01 : Int) (x2 : List (BitVec 64)) (x15 x30 : Int) : Option ((List (BitVec 64)) × Int × Bool) :=
  if x30 < x15 then
    Option.bind (idx x2 x01) fun x49 =>
    Option.bind (idx x2 x30) fun x50 =>
    Option.bind (idx x2 x30) fun x51 =>
    Option.bind (upd x2 x30 x49) fun x52 =>
    Option.bind (idx x52 x01) fun x53 =>
    Option.bind (upd x52 x01 x50) fun x54 =>
    some (x54, x30, true)
  else
    Option.bind (idx x2 x30) fun x64 =>
    Option.bind (idx x2 x15) fun x65 =>
    Option.bind (idx x2 x15) fun x66 =>
    Option.bind (upd x2 x15 x64) fun x67 =>
    Option.bind (idx x67 x30) fun x68 =>
    Option.bind (upd x67 x30 x65) fun x69 =>
    m_slices_partitionOrdered_uint64_j5 x01 x15 x30 x69
def m_slices_partitionOrdered_uint64_l4 (x01 : Int) (x2 : List (BitVec 64)) (x15 : Int) : Nat -> Int -> Option ((List (BitVec 64)) × Int × Bool)
  | 0, _ => none
  | q33 + 1, x32 =>
    if x15 <= x32 then
      Option.bind (idx x2 x32) fun x38 =>
      Option.bind (idx x2 x01) fun x39 =>
      Option.bind (m_cmp_Less_uint64 x38 x39) fun x40 =>
      if x40 = true then
        m_slices_partitionOrdered_uint64_j3 x01 x2 x15 x32
      else
        Option.bind (ck (x32 - (1 : Int))) fun x44 =>
        (m_slices_partitionOrdered_uint64_l4 x01 x2 x15 q33) x44
    else
      m_slices_partitionOrdered_uint64_j3 x01 x2 x15 x32
def m_slices_partitionOrdered_uint64_j1 (x01 : Int) (x2 : List (BitVec 64)) (x14 x15 : Int) : Option ((List (BitVec 64)) × Int × Bool) :=
  m_slices_partitionOrdered_uint64_l4 x01 x2 x15 forever x14
def m_slices_partitionOrdered_uint64_l2 (x01 : Int) (x2 : List (BitVec 64)) (x14 : Int) : Nat -> Int -> Option ((List (BitVec 64)) × Int × Bool)
  | 0, _ => none
  | q18 + 1, x17 =>
    if x17 <= x14 then
      Option.bind (idx x2 x17) fun x23 =>
      Option.bind (idx x2 x01) fun x24 =>
      Option.bind (m_cmp_Less_uint64 x23 x24) fun x25 =>
      if x25 = true then
        Option.bind (ck (x17 + (1 : Int))) fun x29 =>
        (m_slices_partitionOrdered_uint64_l2 x01 x2 x14 q18) x29
      else
        m_slices_partitionOrdered_uint64_j1 x01 x2 x14 x17
    else
      m_slices_partitionOrdered_uint64_j1 x01 x2 x14 x17
def m_slices_partitionOrdered_uint64_j0 (x01 : Int) (x2 : List (BitVec 64)) (x3 : Int) : Option ((List (BitVec 64)) × Int × Bool) :=
  Option.bind (ck (x01 + (1 : Int))) fun x13 =>
  Option.bind (ck (x3 - (1 : Int))) fun x14 =>
  m_slices_partitionOrdered_uint64_l2 x01 x2 x14 forever x13
def m_slices_partitionOrdered_uint64 (x0c : List (BitVec 64)) (x01 x02 x03 : Int) : Option ((List (BitVec 64)) × Int × Bool) :=
  Option.bind (idx x0c x03) fun x6 =>
  Option.bind (idx x0c x01) fun x7 =>
  Option.bind (idx x0c x01) fun x8 =>
  Option.bind (upd x0c x01 x6) fun x9 =>
  Option.bind (idx x9 x03) fun x10 =>
  Option.bind (upd x9 x03 x7) fun x11 =>
  m_slices_partitionOrdered_uint64_j0 x01 x11 x02
def m_slices_reverseRangeOrdered_uint64_l0 : Nat -> (List (BitVec 64)) -> Int -> Int -> Option (List (BitVec 64))
  | 0, _, _, _ => none
  | q7 + 1, x4, x5, x6 =>
    if x5 < x6 then
      Option.bind (idx x4 x6) fun x13 =>
      Option.bind (idx x4 x5) fun x14 =>
      Option.bind (idx x4 x5) fun x15 =>
      Option.bind (upd x4 x5 x13) fun x16 =>
      Option.bind (idx x16 x6) fun x17 =>
      Option.bind (upd x16 x6 x14) fun x18 =>
      Option.bind (ck (x5 + (1 : Int))) fun x40 =>
      Option.bind (ck (x6 - (1 : Int))) fun x42 =>
      (m_slices_reverseRangeOrdered_uint64_l0 q7) x18 x40 x42
    else
      some (x4)
def m_slices_reverseRangeOrdered_uint64 (x0c : List (BitVec 64)) (x01 x02 : Int) : Option (List (BitVec 64)) :=
  Option.bind (ck (x02 - (1 : Int))) fun x3 =>
  m_slices_reverseRangeOrdered_uint64_l0 forever x0c x01 x3
end Go.Proofs.Ytkcccenekglkoaa
