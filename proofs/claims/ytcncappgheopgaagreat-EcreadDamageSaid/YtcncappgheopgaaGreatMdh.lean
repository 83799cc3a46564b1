/- A part of the proof. Conditions: as each theorem says. -/
import Derived.Test.YtcncappgheopgaaGreatMdg
namespace Go.Proofs.YtcncappgheopgaaGreat
set_option linter.unusedVariables false
structure Sstripe_Piece where
  fShard : Int
  fAt : Int
  fLen : Int
  deriving DecidableEq
structure Sneedlestoreref05_Piece where
  fShard : Int
  fAt : Int
  fLen : Int
  deriving DecidableEq
structure Sapi_Needle where
  fKey : BitVec 64
  fCookie : BitVec 32
  fDeleted : Bool
  fData : By
  deriving DecidableEq
structure Sneedlestoreref09_Record where
  fOff : Int
  fNeedle : Sapi_Needle
  deriving DecidableEq
def m_stripe_Size (x00 : Int) : Option Int :=
  if x00 <= (0 : Int) then
    some ((0 : Int))
  else
    (ck (x00 - (1 : Int))).bind fun x7 =>
    (dvi x7 (256 : Int)).bind fun x8 =>
    (ck (x8 + (1 : Int))).bind fun x9 =>
    (ck (x9 * (64 : Int))).bind fun x10 =>
    some (x10)
def m_stripe_place (x00 : Int) : Option (Int × Int) :=
  (dvi x00 (64 : Int)).bind fun x3 =>
  (rmi x3 (4 : Int)).bind fun x5 =>
  (dvi x3 (4 : Int)).bind fun x6 =>
  (ck (x6 * (64 : Int))).bind fun x7 =>
  (rmi x00 (64 : Int)).bind fun x8 =>
  (ck (x7 + x8)).bind fun x9 =>
  some (x5, x9)
def m_stripe_Pieces_l0 (x29 : Int) : Nat -> (List Sstripe_Piece) -> Int -> Option ((List Sstripe_Piece) × Int)
  | 0, _, _ => none
  | q37 + 1, x35, x36 =>
    if x36 < x29 then
      (rmi x36 (64 : Int)).bind fun x43 =>
      (ck ((64 : Int) - x43)).bind fun x44 =>
      (ck (x29 - x36)).bind fun x45 =>
      (m_stripe_place x36).bind fun x47 =>
      (apd 24 x35 ([(Sstripe_Piece.mk x47.1 x47.2 (min x44 x45))] : List Sstripe_Piece)).bind fun x61 =>
      (ck (x36 + (min x44 x45))).bind fun x65 =>
      (m_stripe_Pieces_l0 x29 q37) x61 x65
    else
      some (x35, (0 : Int))
def m_stripe_Pieces (x00 x01 : Int) : Option ((List Sstripe_Piece) × Int) :=
  if x00 < (0 : Int) then
    some (([] : List Sstripe_Piece), (1 : Int))
  else
    if x01 < (0 : Int) then
      some (([] : List Sstripe_Piece), (1 : Int))
    else
      if (1048576 : Int) < x01 then
        some (([] : List Sstripe_Piece), (1 : Int))
      else
        if (4611686018427387904 : Int) < x00 then
          some (([] : List Sstripe_Piece), (1 : Int))
        else
          (ck (x00 + x01)).bind fun x29 =>
          m_stripe_Pieces_l0 x29 forever ([] : List Sstripe_Piece) x00
def m_r05_Size (x00 : Int) : Option Int :=
  if x00 < (0 : Int) then
    some ((0 : Int))
  else
    (dvi x00 (256 : Int)).bind fun x7 =>
    (rmi x00 (256 : Int)).bind fun x10 =>
    if (0 : Int) < x10 then
      (ck (x7 + (1 : Int))).bind fun x13 =>
      (ck (x13 * (64 : Int))).bind fun x15 =>
      some (x15)
    else
      (ck (x7 * (64 : Int))).bind fun x17 =>
      some (x17)
def m_r05_Place (x00 : Int) : Option (Int × Int × Int) :=
  if x00 < (0 : Int) then
    some ((0 : Int), (0 : Int), (1 : Int))
  else
    (dvi x00 (64 : Int)).bind fun x7 =>
    (rmi x7 (4 : Int)).bind fun x9 =>
    (dvi x7 (4 : Int)).bind fun x10 =>
    (ck (x10 * (64 : Int))).bind fun x11 =>
    (rmi x00 (64 : Int)).bind fun x12 =>
    (ck (x11 + x12)).bind fun x13 =>
    some (x9, x13, (0 : Int))
def m_r05_Pieces_j1 (x22 : List Sneedlestoreref05_Piece) : Option ((List Sneedlestoreref05_Piece) × Int) :=
  some (x22, (0 : Int))
def m_r05_Pieces_l2 (x00 x01 : Int) : Nat -> (List Sneedlestoreref05_Piece) -> Int -> Option ((List Sneedlestoreref05_Piece) × Int)
  | 0, _, _ => none
  | q32 + 1, x30, x31 =>
    if x31 < x01 then
      (ck (x00 + x31)).bind fun x38 =>
      (m_r05_Place x38).bind fun x39 =>
      (ck (x00 + x31)).bind fun x42 =>
      (rmi x42 (64 : Int)).bind fun x43 =>
      (ck ((64 : Int) - x43)).bind fun x44 =>
      (ck (x01 - x31)).bind fun x45 =>
      (apd 24 x30 ([(Sneedlestoreref05_Piece.mk x39.1 x39.2.1 (min x44 x45))] : List Sneedlestoreref05_Piece)).bind fun x48 =>
      (ck (x31 + (min x44 x45))).bind fun x52 =>
      (m_r05_Pieces_l2 x00 x01 q32) x48 x52
    else
      m_r05_Pieces_j1 x30
def m_r05_Pieces_j0 (x00 x01 : Int) : Option ((List Sneedlestoreref05_Piece) × Int) :=
  m_r05_Pieces_l2 x00 x01 forever ([] : List Sneedlestoreref05_Piece) (0 : Int)
def m_r05_Pieces (x00 x01 : Int) : Option ((List Sneedlestoreref05_Piece) × Int) :=
  if x00 < (0 : Int) then
    some (([] : List Sneedlestoreref05_Piece), (1 : Int))
  else
    if (4611686018427387904 : Int) < x00 then
      some (([] : List Sneedlestoreref05_Piece), (1 : Int))
    else
      if x01 < (0 : Int) then
        some (([] : List Sneedlestoreref05_Piece), (1 : Int))
      else
        if (1048576 : Int) < x01 then
          some (([] : List Sneedlestoreref05_Piece), (1 : Int))
        else
          m_r05_Pieces_j0 x00 x01
def m_shards_Valid_j0 : Option Bool :=
  some ((!(decide ((0 : Int) <= (-1 : Int)))))
def m_shards_Valid_l1 (u10 : List Sapi_Item) (u3 : Int) : Nat -> Int -> Option Bool
  | 0, _ => none
  | q22 + 1, x21 =>
    if x21 < (u10.length : Int) then
      (idx u10 x21).bind fun x30 =>
      (m_needle_Size x30.fSize).bind fun x34 =>
      (ck (x30.fOff + x34)).bind fun x36 =>
      if u3 < x36 then
        some ((!(decide ((0 : Int) <= x21))))
      else
        (ck (x21 + (1 : Int))).bind fun x40 =>
        (m_shards_Valid_l1 u10 u3 q22) x40
    else
      m_shards_Valid_j0
def m_shards_Valid (u0 u1 u2 u3 : Int) (u4 u5 u6 u7 u8 u9 : BitVec 32) (u10 : List Sapi_Item) : Option Bool :=
  (m_superblock_Valid u0 u1 u2).bind fun x5 =>
  if x5 = true then
    if u3 < (16 : Int) then
      some (false)
    else
      if (524288 : Int) < u3 then
        some (false)
      else
        (m_index_Valid u10).bind fun x12 =>
        if x12 = true then
          m_shards_Valid_l1 u10 u3 forever (0 : Int)
        else
          some (false)
  else
    some (false)
def m_r17_Valid_j1 : Option Bool :=
  some (true)
def m_r17_Valid_l2 (u10 : List Sapi_Item) (u3 : Int) : Nat -> Int -> Option Bool
  | 0, _ => none
  | q20 + 1, x19 =>
    if x19 < (u10.length : Int) then
      (idx u10 x19).bind fun x27 =>
      (idx u10 x19).bind fun x28 =>
      (m_r06_Size x28.fSize).bind fun x29 =>
      (ck (x27.fOff + x29)).bind fun x31 =>
      if u3 < x31 then
        some (false)
      else
        (ck (x19 + (1 : Int))).bind fun x35 =>
        (m_r17_Valid_l2 u10 u3 q20) x35
    else
      m_r17_Valid_j1
def m_r17_Valid_j0 (u10 : List Sapi_Item) (u3 : Int) : Option Bool :=
  m_r17_Valid_l2 u10 u3 forever (0 : Int)
def m_r17_Valid (u0 u1 u2 u3 : Int) (u4 u5 u6 u7 u8 u9 : BitVec 32) (u10 : List Sapi_Item) : Option Bool :=
  (m_r07_Valid u0 u1 u2).bind fun x5 =>
  if x5 = true then
    if u3 < (16 : Int) then
      some (false)
    else
      if (524288 : Int) < u3 then
        some (false)
      else
        (m_r08_Valid u10).bind fun x12 =>
        if x12 = true then
          m_r17_Valid_j0 u10 u3
        else
          some (false)
  else
    some (false)
def m_r09_Records_j0 (x4 : Int) (x10 : List Sneedlestoreref09_Record) : Option ((List Sneedlestoreref09_Record) × Int) :=
  some (x10, x4)
def m_r09_Records_l1 (x00 : By) : Nat -> Int -> (List Sneedlestoreref09_Record) -> Option ((List Sneedlestoreref09_Record) × Int)
  | 0, _, _ => none
  | q24 + 1, x15, x21 =>
    if x15 <= (x00.length : Int) then
      (slc x00 x15 (x00.length : Int)).bind fun x30 =>
      (m_r06_Decode x30).bind fun x31 =>
      if x31.2.2.2.2.2 = (0 : Int) then
        (apd 48 x21 ([(Sneedlestoreref09_Record.mk x15 (Sapi_Needle.mk x31.1 x31.2.1 x31.2.2.1 x31.2.2.2.1))] : List Sneedlestoreref09_Record)).bind fun x48 =>
        (ck (x15 + x31.2.2.2.2.1)).bind fun x54 =>
        (m_r09_Records_l1 x00 q24) x54 x48
      else
        m_r09_Records_j0 x15 x21
    else
      m_r09_Records_j0 x15 x21
def m_r09_Records (x00 : By) (x01 : Int) : Option ((List Sneedlestoreref09_Record) × Int) :=
  m_r09_Records_l1 x00 forever x01 ([] : List Sneedlestoreref09_Record)
def m_r09_Open (x00 : By) : Option (Int × Int × Int × (List Sneedlestoreref09_Record) × Int × Int) :=
  (m_r07_Decode x00).bind fun x4 =>
  if x4.2.2.2 = (0 : Int) then
    (m_r09_Records x00 (16 : Int)).bind fun x11 =>
    some (x4.1, x4.2.1, x4.2.2.1, x11.1, x11.2, (0 : Int))
  else
    some ((0 : Int), (0 : Int), (0 : Int), ([] : List Sneedlestoreref09_Record), (0 : Int), x4.2.2.2)
def m_r09_Items_j0 (x8 : List Sapi_Item) : Option ((List Sapi_Item)) :=
  some (x8)
def m_r09_Items_l1 (x00 : List Sneedlestoreref09_Record) : Nat -> (List Sapi_Item) -> Int -> Option ((List Sapi_Item))
  | 0, _, _ => none
  | q18 + 1, x16, x17 =>
    if x17 < (x00.length : Int) then
      (idx x00 x17).bind fun x25 =>
      if x25.fNeedle.fDeleted = true then
        (m_r08_Drop x16 x25.fNeedle.fKey).bind fun x33 =>
        (ck (x17 + (1 : Int))).bind fun x42 =>
        (m_r09_Items_l1 x00 q18) x33 x42
      else
        (idx x00 x17).bind fun x44 =>
        (m_r08_Put x16 x25.fNeedle.fKey x25.fNeedle.fCookie x44.fOff (x25.fNeedle.fData.length : Int)).bind fun x48 =>
        (ck (x17 + (1 : Int))).bind fun x57 =>
        (m_r09_Items_l1 x00 q18) x48 x57
    else
      m_r09_Items_j0 x16
def m_r09_Items (x00 : List Sneedlestoreref09_Record) : Option ((List Sapi_Item)) :=
  m_r09_Items_l1 x00 forever ([] : List Sapi_Item) (0 : Int)
end Go.Proofs.YtcncappgheopgaaGreat
