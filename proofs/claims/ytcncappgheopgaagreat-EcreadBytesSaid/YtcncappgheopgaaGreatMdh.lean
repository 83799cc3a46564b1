/-
  Models of functions of the program (h): what each computes, as an option. Printed by a program of ours (vcm.py). No conditions.
-/
import Derived.Test.YtcncappgheopgaaGreatMdg
namespace Go.Proofs.YtcncappgheopgaaGreat
set_option linter.unusedVariables false
structure Sstripe_Piece where
  fShard : Int
  fAt : Int
  fLen : Int
  deriving DecidableEq
structure Sneedlestoreref05_Piece where
  fShard : Int
  fAt : Int
  fLen : Int
  deriving DecidableEq
structure Sapi_Needle where
  fKey : BitVec 64
  fCookie : BitVec 32
  fDeleted : Bool
  fData : List (BitVec 8)
  deriving DecidableEq
structure Sneedlestoreref09_Record where
  fOff : Int
  fNeedle : Sapi_Needle
  deriving DecidableEq
def m_stripe_Size (x00 : Int) : Option (Int) :=
  if x00 <= (0 : Int) then
    some ((0 : Int))
  else
    Option.bind (ck (x00 - (1 : Int))) fun x7 =>
    Option.bind (dvi x7 (256 : Int)) fun x8 =>
    Option.bind (ck (x8 + (1 : Int))) fun x9 =>
    Option.bind (ck (x9 * (64 : Int))) fun x10 =>
    some (x10)
def m_stripe_place (x00 : Int) : Option (Int × Int) :=
  Option.bind (dvi x00 (64 : Int)) fun x3 =>
  Option.bind (rmi x3 (4 : Int)) fun x5 =>
  Option.bind (dvi x3 (4 : Int)) fun x6 =>
  Option.bind (ck (x6 * (64 : Int))) fun x7 =>
  Option.bind (rmi x00 (64 : Int)) fun x8 =>
  Option.bind (ck (x7 + x8)) fun x9 =>
  some (x5, x9)
def m_stripe_Pieces_l0 (x29 : Int) : Nat -> (List (Sstripe_Piece)) -> Int -> Option ((List (Sstripe_Piece)) × Int)
  | 0, _, _ => none
  | q37 + 1, x35, x36 =>
    if x36 < x29 then
      Option.bind (rmi x36 (64 : Int)) fun x43 =>
      Option.bind (ck ((64 : Int) - x43)) fun x44 =>
      Option.bind (ck (x29 - x36)) fun x45 =>
      Option.bind (m_stripe_place x36) fun x47 =>
      Option.bind (apd 24 x35 ([(Sstripe_Piece.mk x47.1 x47.2 (min x44 x45))] : List (Sstripe_Piece))) fun x61 =>
      Option.bind (ck (x36 + (min x44 x45))) fun x65 =>
      (m_stripe_Pieces_l0 x29 q37) x61 x65
    else
      some (x35, (0 : Int))
def m_stripe_Pieces (x00 x01 : Int) : Option ((List (Sstripe_Piece)) × Int) :=
  if x00 < (0 : Int) then
    some (([] : List (Sstripe_Piece)), (1 : Int))
  else
    if x01 < (0 : Int) then
      some (([] : List (Sstripe_Piece)), (1 : Int))
    else
      if (1048576 : Int) < x01 then
        some (([] : List (Sstripe_Piece)), (1 : Int))
      else
        if (4611686018427387904 : Int) < x00 then
          some (([] : List (Sstripe_Piece)), (1 : Int))
        else
          Option.bind (ck (x00 + x01)) fun x29 =>
          m_stripe_Pieces_l0 x29 forever ([] : List (Sstripe_Piece)) x00
def m_r05_Size (x00 : Int) : Option (Int) :=
  if x00 < (0 : Int) then
    some ((0 : Int))
  else
    Option.bind (dvi x00 (256 : Int)) fun x7 =>
    Option.bind (rmi x00 (256 : Int)) fun x10 =>
    if (0 : Int) < x10 then
      Option.bind (ck (x7 + (1 : Int))) fun x13 =>
      Option.bind (ck (x13 * (64 : Int))) fun x15 =>
      some (x15)
    else
      Option.bind (ck (x7 * (64 : Int))) fun x17 =>
      some (x17)
def m_r05_Place (x00 : Int) : Option (Int × Int × Int) :=
  if x00 < (0 : Int) then
    some ((0 : Int), (0 : Int), (1 : Int))
  else
    Option.bind (dvi x00 (64 : Int)) fun x7 =>
    Option.bind (rmi x7 (4 : Int)) fun x9 =>
    Option.bind (dvi x7 (4 : Int)) fun x10 =>
    Option.bind (ck (x10 * (64 : Int))) fun x11 =>
    Option.bind (rmi x00 (64 : Int)) fun x12 =>
    Option.bind (ck (x11 + x12)) fun x13 =>
    some (x9, x13, (0 : Int))
def m_r05_Pieces_j1 (x22 : List (Sneedlestoreref05_Piece)) : Option ((List (Sneedlestoreref05_Piece)) × Int) :=
  some (x22, (0 : Int))
def m_r05_Pieces_l2 (x00 x01 : Int) : Nat -> (List (Sneedlestoreref05_Piece)) -> Int -> Option ((List (Sneedlestoreref05_Piece)) × Int)
  | 0, _, _ => none
  | q32 + 1, x30, x31 =>
    if x31 < x01 then
      Option.bind (ck (x00 + x31)) fun x38 =>
      Option.bind (m_r05_Place x38) fun x39 =>
      Option.bind (ck (x00 + x31)) fun x42 =>
      Option.bind (rmi x42 (64 : Int)) fun x43 =>
      Option.bind (ck ((64 : Int) - x43)) fun x44 =>
      Option.bind (ck (x01 - x31)) fun x45 =>
      Option.bind (apd 24 x30 ([(Sneedlestoreref05_Piece.mk x39.1 x39.2.1 (min x44 x45))] : List (Sneedlestoreref05_Piece))) fun x48 =>
      Option.bind (ck (x31 + (min x44 x45))) fun x52 =>
      (m_r05_Pieces_l2 x00 x01 q32) x48 x52
    else
      m_r05_Pieces_j1 x30
def m_r05_Pieces_j0 (x00 x01 : Int) : Option ((List (Sneedlestoreref05_Piece)) × Int) :=
  m_r05_Pieces_l2 x00 x01 forever ([] : List (Sneedlestoreref05_Piece)) (0 : Int)
def m_r05_Pieces (x00 x01 : Int) : Option ((List (Sneedlestoreref05_Piece)) × Int) :=
  if x00 < (0 : Int) then
    some (([] : List (Sneedlestoreref05_Piece)), (1 : Int))
  else
    if (4611686018427387904 : Int) < x00 then
      some (([] : List (Sneedlestoreref05_Piece)), (1 : Int))
    else
      if x01 < (0 : Int) then
        some (([] : List (Sneedlestoreref05_Piece)), (1 : Int))
      else
        if (1048576 : Int) < x01 then
          some (([] : List (Sneedlestoreref05_Piece)), (1 : Int))
        else
          m_r05_Pieces_j0 x00 x01
def m_shards_Valid_j0 : Option (Bool) :=
  some ((!(decide ((0 : Int) <= (-1 : Int)))))
def m_shards_Valid_l1 (x00_10 : List (Sapi_Item)) (x00_3 : Int) : Nat -> Int -> Option (Bool)
  | 0, _ => none
  | q22 + 1, x21 =>
    if x21 < (x00_10.length : Int) then
      Option.bind (idx x00_10 x21) fun x30 =>
      Option.bind (m_needle_Size x30.fSize) fun x34 =>
      Option.bind (ck (x30.fOff + x34)) fun x36 =>
      if x00_3 < x36 then
        some ((!(decide ((0 : Int) <= x21))))
      else
        Option.bind (ck (x21 + (1 : Int))) fun x40 =>
        (m_shards_Valid_l1 x00_10 x00_3 q22) x40
    else
      m_shards_Valid_j0
def m_shards_Valid (x00_0 x00_1 x00_2 x00_3 : Int) (x00_4 x00_5 x00_6 x00_7 x00_8 x00_9 : BitVec 32) (x00_10 : List (Sapi_Item)) : Option (Bool) :=
  Option.bind (m_superblock_Valid x00_0 x00_1 x00_2) fun x5 =>
  if x5 = true then
    if x00_3 < (16 : Int) then
      some (false)
    else
      if (524288 : Int) < x00_3 then
        some (false)
      else
        Option.bind (m_index_Valid x00_10) fun x12 =>
        if x12 = true then
          m_shards_Valid_l1 x00_10 x00_3 forever (0 : Int)
        else
          some (false)
  else
    some (false)
def m_r17_Valid_j1 : Option (Bool) :=
  some (true)
def m_r17_Valid_l2 (x00_10 : List (Sapi_Item)) (x00_3 : Int) : Nat -> Int -> Option (Bool)
  | 0, _ => none
  | q20 + 1, x19 =>
    if x19 < (x00_10.length : Int) then
      Option.bind (idx x00_10 x19) fun x27 =>
      Option.bind (idx x00_10 x19) fun x28 =>
      Option.bind (m_r06_Size x28.fSize) fun x29 =>
      Option.bind (ck (x27.fOff + x29)) fun x31 =>
      if x00_3 < x31 then
        some (false)
      else
        Option.bind (ck (x19 + (1 : Int))) fun x35 =>
        (m_r17_Valid_l2 x00_10 x00_3 q20) x35
    else
      m_r17_Valid_j1
def m_r17_Valid_j0 (x00_10 : List (Sapi_Item)) (x00_3 : Int) : Option (Bool) :=
  m_r17_Valid_l2 x00_10 x00_3 forever (0 : Int)
def m_r17_Valid (x00_0 x00_1 x00_2 x00_3 : Int) (x00_4 x00_5 x00_6 x00_7 x00_8 x00_9 : BitVec 32) (x00_10 : List (Sapi_Item)) : Option (Bool) :=
  Option.bind (m_r07_Valid x00_0 x00_1 x00_2) fun x5 =>
  if x5 = true then
    if x00_3 < (16 : Int) then
      some (false)
    else
      if (524288 : Int) < x00_3 then
        some (false)
      else
        Option.bind (m_r08_Valid x00_10) fun x12 =>
        if x12 = true then
          m_r17_Valid_j0 x00_10 x00_3
        else
          some (false)
  else
    some (false)
def m_r09_Records_j0 (x4 : Int) (x10 : List (Sneedlestoreref09_Record)) : Option ((List (Sneedlestoreref09_Record)) × Int) :=
  some (x10, x4)
def m_r09_Records_l1 (x00 : List (BitVec 8)) : Nat -> Int -> (List (Sneedlestoreref09_Record)) -> Option ((List (Sneedlestoreref09_Record)) × Int)
  | 0, _, _ => none
  | q24 + 1, x15, x21 =>
    if x15 <= (x00.length : Int) then
      Option.bind (slc x00 x15 (x00.length : Int)) fun x30 =>
      Option.bind (m_r06_Decode x30) fun x31 =>
      if x31.2.2.2.2.2 = (0 : Int) then
        Option.bind (apd 48 x21 ([(Sneedlestoreref09_Record.mk x15 (Sapi_Needle.mk x31.1 x31.2.1 x31.2.2.1 x31.2.2.2.1))] : List (Sneedlestoreref09_Record))) fun x48 =>
        Option.bind (ck (x15 + x31.2.2.2.2.1)) fun x54 =>
        (m_r09_Records_l1 x00 q24) x54 x48
      else
        m_r09_Records_j0 x15 x21
    else
      m_r09_Records_j0 x15 x21
def m_r09_Records (x00 : List (BitVec 8)) (x01 : Int) : Option ((List (Sneedlestoreref09_Record)) × Int) :=
  m_r09_Records_l1 x00 forever x01 ([] : List (Sneedlestoreref09_Record))
def m_r09_Open (x00 : List (BitVec 8)) : Option (Int × Int × Int × (List (Sneedlestoreref09_Record)) × Int × Int) :=
  Option.bind (m_r07_Decode x00) fun x4 =>
  if x4.2.2.2 = (0 : Int) then
    Option.bind (m_r09_Records x00 (16 : Int)) fun x11 =>
    some (x4.1, x4.2.1, x4.2.2.1, x11.1, x11.2, (0 : Int))
  else
    some ((0 : Int), (0 : Int), (0 : Int), ([] : List (Sneedlestoreref09_Record)), (0 : Int), x4.2.2.2)
def m_r09_Items_j0 (x8 : List (Sapi_Item)) : Option ((List (Sapi_Item))) :=
  some (x8)
def m_r09_Items_l1 (x00 : List (Sneedlestoreref09_Record)) : Nat -> (List (Sapi_Item)) -> Int -> Option ((List (Sapi_Item)))
  | 0, _, _ => none
  | q18 + 1, x16, x17 =>
    if x17 < (x00.length : Int) then
      Option.bind (idx x00 x17) fun x25 =>
      if x25.fNeedle.fDeleted = true then
        Option.bind (m_r08_Drop x16 x25.fNeedle.fKey) fun x33 =>
        Option.bind (ck (x17 + (1 : Int))) fun x42 =>
        (m_r09_Items_l1 x00 q18) x33 x42
      else
        Option.bind (idx x00 x17) fun x44 =>
        Option.bind (m_r08_Put x16 x25.fNeedle.fKey x25.fNeedle.fCookie x44.fOff (x25.fNeedle.fData.length : Int)) fun x48 =>
        Option.bind (ck (x17 + (1 : Int))) fun x57 =>
        (m_r09_Items_l1 x00 q18) x48 x57
    else
      m_r09_Items_j0 x16
def m_r09_Items (x00 : List (Sneedlestoreref09_Record)) : Option ((List (Sapi_Item))) :=
  m_r09_Items_l1 x00 forever ([] : List (Sapi_Item)) (0 : Int)
end Go.Proofs.YtcncappgheopgaaGreat
