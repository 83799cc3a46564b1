/-
  Models of functions of the program (zb): what each computes, as an option. Printed by a program of ours (vcm.py). No conditions.
-/
import Derived.Test.YtkcccenekglkoaaMdza
namespace Go.Proofs.Ytkcccenekglkoaa
set_option linter.unusedVariables false
def m_math_bits_Len64 (x00 : BitVec 64) : Option (Int) :=
  if 4294967296#64 <= x00 then
    if 65536#64 <= (x00 >>> 32) then
      Option.bind (ck ((32 : Int) + (16 : Int))) fun x12 =>
      if 256#64 <= ((x00 >>> 32) >>> 16) then
        Option.bind (ck (x12 + (8 : Int))) fun x18 =>
        Option.bind (idx ([0#8, 1#8, 2#8, 2#8, 3#8, 3#8, 3#8, 3#8, 4#8, 4#8, 4#8, 4#8, 4#8, 4#8, 4#8, 4#8, 5#8, 5#8, 5#8, 5#8, 5#8, 5#8, 5#8, 5#8, 5#8, 5#8, 5#8, 5#8, 5#8, 5#8, 5#8, 5#8, 6#8, 6#8, 6#8, 6#8, 6#8, 6#8, 6#8, 6#8, 6#8, 6#8, 6#8, 6#8, 6#8, 6#8, 6#8, 6#8, 6#8, 6#8, 6#8, 6#8, 6#8, 6#8, 6#8, 6#8, 6#8, 6#8, 6#8, 6#8, 6#8, 6#8, 6#8, 6#8, 7#8, 7#8, 7#8, 7#8, 7#8, 7#8, 7#8, 7#8, 7#8, 7#8, 7#8, 7#8, 7#8, 7#8, 7#8, 7#8, 7#8, 7#8, 7#8, 7#8, 7#8, 7#8, 7#8, 7#8, 7#8, 7#8, 7#8, 7#8, 7#8, 7#8, 7#8, 7#8, 7#8, 7#8, 7#8, 7#8, 7#8, 7#8, 7#8, 7#8, 7#8, 7#8, 7#8, 7#8, 7#8, 7#8, 7#8, 7#8, 7#8, 7#8, 7#8, 7#8, 7#8, 7#8, 7#8, 7#8, 7#8, 7#8, 7#8, 7#8, 7#8, 7#8, 7#8, 7#8, 8#8, 8#8, 8#8, 8#8, 8#8, 8#8, 8#8, 8#8, 8#8, 8#8, 8#8, 8#8, 8#8, 8#8, 8#8, 8#8, 8#8, 8#8, 8#8, 8#8, 8#8, 8#8, 8#8, 8#8, 8#8, 8#8, 8#8, 8#8, 8#8, 8#8, 8#8, 8#8, 8#8, 8#8, 8#8, 8#8, 8#8, 8#8, 8#8, 8#8, 8#8, 8#8, 8#8, 8#8, 8#8, 8#8, 8#8, 8#8, 8#8, 8#8, 8#8, 8#8, 8#8, 8#8, 8#8, 8#8, 8#8, 8#8, 8#8, 8#8, 8#8, 8#8, 8#8, 8#8, 8#8, 8#8, 8#8, 8#8, 8#8, 8#8, 8#8, 8#8, 8#8, 8#8, 8#8, 8#8, 8#8, 8#8, 8#8, 8#8, 8#8, 8#8, 8#8, 8#8, 8#8, 8#8, 8#8, 8#8, 8#8, 8#8, 8#8, 8#8, 8#8, 8#8, 8#8, 8#8, 8#8, 8#8, 8#8, 8#8, 8#8, 8#8, 8#8, 8#8, 8#8, 8#8, 8#8, 8#8, 8#8, 8#8, 8#8, 8#8, 8#8, 8#8, 8#8, 8#8, 8#8, 8#8, 8#8, 8#8, 8#8, 8#8, 8#8, 8#8, 8#8, 8#8, 8#8, 8#8] : List (BitVec 8)) (((((x00 >>> 32) >>> 16) >>> 8).setWidth 8).toNat : Int)) fun x20 =>
        Option.bind (ck (x18 + (x20.toNat : Int))) fun x21 =>
        some (x21)
      else
        Option.bind (idx ([0#8, 1#8, 2#8, 2#8, 3#8, 3#8, 3#8, 3#8, 4#8, 4#8, 4#8, 4#8, 4#8, 4#8, 4#8, 4#8, 5#8, 5#8, 5#8, 5#8, 5#8, 5#8, 5#8, 5#8, 5#8, 5#8, 5#8, 5#8, 5#8, 5#8, 5#8, 5#8, 6#8, 6#8, 6#8, 6#8, 6#8, 6#8, 6#8, 6#8, 6#8, 6#8, 6#8, 6#8, 6#8, 6#8, 6#8, 6#8, 6#8, 6#8, 6#8, 6#8, 6#8, 6#8, 6#8, 6#8, 6#8, 6#8, 6#8, 6#8, 6#8, 6#8, 6#8, 6#8, 7#8, 7#8, 7#8, 7#8, 7#8, 7#8, 7#8, 7#8, 7#8, 7#8, 7#8, 7#8, 7#8, 7#8, 7#8, 7#8, 7#8, 7#8, 7#8, 7#8, 7#8, 7#8, 7#8, 7#8, 7#8, 7#8, 7#8, 7#8, 7#8, 7#8, 7#8, 7#8, 7#8, 7#8, 7#8, 7#8, 7#8, 7#8, 7#8, 7#8, 7#8, 7#8, 7#8, 7#8, 7#8, 7#8, 7#8, 7#8, 7#8, 7#8, 7#8, 7#8, 7#8, 7#8, 7#8, 7#8, 7#8, 7#8, 7#8, 7#8, 7#8, 7#8, 7#8, 7#8, 8#8, 8#8, 8#8, 8#8, 8#8, 8#8, 8#8, 8#8, 8#8, 8#8, 8#8, 8#8, 8#8, 8#8, 8#8, 8#8, 8#8, 8#8, 8#8, 8#8, 8#8, 8#8, 8#8, 8#8, 8#8, 8#8, 8#8, 8#8, 8#8, 8#8, 8#8, 8#8, 8#8, 8#8, 8#8, 8#8, 8#8, 8#8, 8#8, 8#8, 8#8, 8#8, 8#8, 8#8, 8#8, 8#8, 8#8, 8#8, 8#8, 8#8, 8#8, 8#8, 8#8, 8#8, 8#8, 8#8, 8#8, 8#8, 8#8, 8#8, 8#8, 8#8, 8#8, 8#8, 8#8, 8#8, 8#8, 8#8, 8#8, 8#8, 8#8, 8#8, 8#8, 8#8, 8#8, 8#8, 8#8, 8#8, 8#8, 8#8, 8#8, 8#8, 8#8, 8#8, 8#8, 8#8, 8#8, 8#8, 8#8, 8#8, 8#8, 8#8, 8#8, 8#8, 8#8, 8#8, 8#8, 8#8, 8#8, 8#8, 8#8, 8#8, 8#8, 8#8, 8#8, 8#8, 8#8, 8#8, 8#8, 8#8, 8#8, 8#8, 8#8, 8#8, 8#8, 8#8, 8#8, 8#8, 8#8, 8#8, 8#8, 8#8, 8#8, 8#8, 8#8, 8#8, 8#8, 8#8] : List (BitVec 8)) ((((x00 >>> 32) >>> 16).setWidth 8).toNat : Int)) fun x23 =>
        Option.bind (ck (x12 + (x23.toNat : Int))) fun x24 =>
        some (x24)
    else
      if 256#64 <= (x00 >>> 32) then
        Option.bind (ck ((32 : Int) + (8 : Int))) fun x30 =>
        Option.bind (idx ([0#8, 1#8, 2#8, 2#8, 3#8, 3#8, 3#8, 3#8, 4#8, 4#8, 4#8, 4#8, 4#8, 4#8, 4#8, 4#8, 5#8, 5#8, 5#8, 5#8, 5#8, 5#8, 5#8, 5#8, 5#8, 5#8, 5#8, 5#8, 5#8, 5#8, 5#8, 5#8, 6#8, 6#8, 6#8, 6#8, 6#8, 6#8, 6#8, 6#8, 6#8, 6#8, 6#8, 6#8, 6#8, 6#8, 6#8, 6#8, 6#8, 6#8, 6#8, 6#8, 6#8, 6#8, 6#8, 6#8, 6#8, 6#8, 6#8, 6#8, 6#8, 6#8, 6#8, 6#8, 7#8, 7#8, 7#8, 7#8, 7#8, 7#8, 7#8, 7#8, 7#8, 7#8, 7#8, 7#8, 7#8, 7#8, 7#8, 7#8, 7#8, 7#8, 7#8, 7#8, 7#8, 7#8, 7#8, 7#8, 7#8, 7#8, 7#8, 7#8, 7#8, 7#8, 7#8, 7#8, 7#8, 7#8, 7#8, 7#8, 7#8, 7#8, 7#8, 7#8, 7#8, 7#8, 7#8, 7#8, 7#8, 7#8, 7#8, 7#8, 7#8, 7#8, 7#8, 7#8, 7#8, 7#8, 7#8, 7#8, 7#8, 7#8, 7#8, 7#8, 7#8, 7#8, 7#8, 7#8, 8#8, 8#8, 8#8, 8#8, 8#8, 8#8, 8#8, 8#8, 8#8, 8#8, 8#8, 8#8, 8#8, 8#8, 8#8, 8#8, 8#8, 8#8, 8#8, 8#8, 8#8, 8#8, 8#8, 8#8, 8#8, 8#8, 8#8, 8#8, 8#8, 8#8, 8#8, 8#8, 8#8, 8#8, 8#8, 8#8, 8#8, 8#8, 8#8, 8#8, 8#8, 8#8, 8#8, 8#8, 8#8, 8#8, 8#8, 8#8, 8#8, 8#8, 8#8, 8#8, 8#8, 8#8, 8#8, 8#8, 8#8, 8#8, 8#8, 8#8, 8#8, 8#8, 8#8, 8#8, 8#8, 8#8, 8#8, 8#8, 8#8, 8#8, 8#8, 8#8, 8#8, 8#8, 8#8, 8#8, 8#8, 8#8, 8#8, 8#8, 8#8, 8#8, 8#8, 8#8, 8#8, 8#8, 8#8, 8#8, 8#8, 8#8, 8#8, 8#8, 8#8, 8#8, 8#8, 8#8, 8#8, 8#8, 8#8, 8#8, 8#8, 8#8, 8#8, 8#8, 8#8, 8#8, 8#8, 8#8, 8#8, 8#8, 8#8, 8#8, 8#8, 8#8, 8#8, 8#8, 8#8, 8#8, 8#8, 8#8, 8#8, 8#8, 8#8, 8#8, 8#8, 8#8, 8#8, 8#8] : List (BitVec 8)) ((((x00 >>> 32) >>> 8).setWidth 8).toNat : Int)) fun x32 =>
        Option.bind (ck (x30 + (x32.toNat : Int))) fun x33 =>
        some (x33)
      else
        Option.bind (idx ([0#8, 1#8, 2#8, 2#8, 3#8, 3#8, 3#8, 3#8, 4#8, 4#8, 4#8, 4#8, 4#8, 4#8, 4#8, 4#8, 5#8, 5#8, 5#8, 5#8, 5#8, 5#8, 5#8, 5#8, 5#8, 5#8, 5#8, 5#8, 5#8, 5#8, 5#8, 5#8, 6#8, 6#8, 6#8, 6#8, 6#8, 6#8, 6#8, 6#8, 6#8, 6#8, 6#8, 6#8, 6#8, 6#8, 6#8, 6#8, 6#8, 6#8, 6#8, 6#8, 6#8, 6#8, 6#8, 6#8, 6#8, 6#8, 6#8, 6#8, 6#8, 6#8, 6#8, 6#8, 7#8, 7#8, 7#8, 7#8, 7#8, 7#8, 7#8, 7#8, 7#8, 7#8, 7#8, 7#8, 7#8, 7#8, 7#8, 7#8, 7#8, 7#8, 7#8, 7#8, 7#8, 7#8, 7#8, 7#8, 7#8, 7#8, 7#8, 7#8, 7#8, 7#8, 7#8, 7#8, 7#8, 7#8, 7#8, 7#8, 7#8, 7#8, 7#8, 7#8, 7#8, 7#8, 7#8, 7#8, 7#8, 7#8, 7#8, 7#8, 7#8, 7#8, 7#8, 7#8, 7#8, 7#8, 7#8, 7#8, 7#8, 7#8, 7#8, 7#8, 7#8, 7#8, 7#8, 7#8, 8#8, 8#8, 8#8, 8#8, 8#8, 8#8, 8#8, 8#8, 8#8, 8#8, 8#8, 8#8, 8#8, 8#8, 8#8, 8#8, 8#8, 8#8, 8#8, 8#8, 8#8, 8#8, 8#8, 8#8, 8#8, 8#8, 8#8, 8#8, 8#8, 8#8, 8#8, 8#8, 8#8, 8#8, 8#8, 8#8, 8#8, 8#8, 8#8, 8#8, 8#8, 8#8, 8#8, 8#8, 8#8, 8#8, 8#8, 8#8, 8#8, 8#8, 8#8, 8#8, 8#8, 8#8, 8#8, 8#8, 8#8, 8#8, 8#8, 8#8, 8#8, 8#8, 8#8, 8#8, 8#8, 8#8, 8#8, 8#8, 8#8, 8#8, 8#8, 8#8, 8#8, 8#8, 8#8, 8#8, 8#8, 8#8, 8#8, 8#8, 8#8, 8#8, 8#8, 8#8, 8#8, 8#8, 8#8, 8#8, 8#8, 8#8, 8#8, 8#8, 8#8, 8#8, 8#8, 8#8, 8#8, 8#8, 8#8, 8#8, 8#8, 8#8, 8#8, 8#8, 8#8, 8#8, 8#8, 8#8, 8#8, 8#8, 8#8, 8#8, 8#8, 8#8, 8#8, 8#8, 8#8, 8#8, 8#8, 8#8, 8#8, 8#8, 8#8, 8#8, 8#8, 8#8, 8#8, 8#8] : List (BitVec 8)) (((x00 >>> 32).setWidth 8).toNat : Int)) fun x35 =>
        Option.bind (ck ((32 : Int) + (x35.toNat : Int))) fun x36 =>
        some (x36)
  else
    if 65536#64 <= x00 then
      Option.bind (ck ((0 : Int) + (16 : Int))) fun x42 =>
      if 256#64 <= (x00 >>> 16) then
        Option.bind (ck (x42 + (8 : Int))) fun x48 =>
        Option.bind (idx ([0#8, 1#8, 2#8, 2#8, 3#8, 3#8, 3#8, 3#8, 4#8, 4#8, 4#8, 4#8, 4#8, 4#8, 4#8, 4#8, 5#8, 5#8, 5#8, 5#8, 5#8, 5#8, 5#8, 5#8, 5#8, 5#8, 5#8, 5#8, 5#8, 5#8, 5#8, 5#8, 6#8, 6#8, 6#8, 6#8, 6#8, 6#8, 6#8, 6#8, 6#8, 6#8, 6#8, 6#8, 6#8, 6#8, 6#8, 6#8, 6#8, 6#8, 6#8, 6#8, 6#8, 6#8, 6#8, 6#8, 6#8, 6#8, 6#8, 6#8, 6#8, 6#8, 6#8, 6#8, 7#8, 7#8, 7#8, 7#8, 7#8, 7#8, 7#8, 7#8, 7#8, 7#8, 7#8, 7#8, 7#8, 7#8, 7#8, 7#8, 7#8, 7#8, 7#8, 7#8, 7#8, 7#8, 7#8, 7#8, 7#8, 7#8, 7#8, 7#8, 7#8, 7#8, 7#8, 7#8, 7#8, 7#8, 7#8, 7#8, 7#8, 7#8, 7#8, 7#8, 7#8, 7#8, 7#8, 7#8, 7#8, 7#8, 7#8, 7#8, 7#8, 7#8, 7#8, 7#8, 7#8, 7#8, 7#8, 7#8, 7#8, 7#8, 7#8, 7#8, 7#8, 7#8, 7#8, 7#8, 8#8, 8#8, 8#8, 8#8, 8#8, 8#8, 8#8, 8#8, 8#8, 8#8, 8#8, 8#8, 8#8, 8#8, 8#8, 8#8, 8#8, 8#8, 8#8, 8#8, 8#8, 8#8, 8#8, 8#8, 8#8, 8#8, 8#8, 8#8, 8#8, 8#8, 8#8, 8#8, 8#8, 8#8, 8#8, 8#8, 8#8, 8#8, 8#8, 8#8, 8#8, 8#8, 8#8, 8#8, 8#8, 8#8, 8#8, 8#8, 8#8, 8#8, 8#8, 8#8, 8#8, 8#8, 8#8, 8#8, 8#8, 8#8, 8#8, 8#8, 8#8, 8#8, 8#8, 8#8, 8#8, 8#8, 8#8, 8#8, 8#8, 8#8, 8#8, 8#8, 8#8, 8#8, 8#8, 8#8, 8#8, 8#8, 8#8, 8#8, 8#8, 8#8, 8#8, 8#8, 8#8, 8#8, 8#8, 8#8, 8#8, 8#8, 8#8, 8#8, 8#8, 8#8, 8#8, 8#8, 8#8, 8#8, 8#8, 8#8, 8#8, 8#8, 8#8, 8#8, 8#8, 8#8, 8#8, 8#8, 8#8, 8#8, 8#8, 8#8, 8#8, 8#8, 8#8, 8#8, 8#8, 8#8, 8#8, 8#8, 8#8, 8#8, 8#8, 8#8, 8#8, 8#8, 8#8, 8#8] : List (BitVec 8)) ((((x00 >>> 16) >>> 8).setWidth 8).toNat : Int)) fun x50 =>
        Option.bind (ck (x48 + (x50.toNat : Int))) fun x51 =>
        some (x51)
      else
        Option.bind (idx ([0#8, 1#8, 2#8, 2#8, 3#8, 3#8, 3#8, 3#8, 4#8, 4#8, 4#8, 4#8, 4#8, 4#8, 4#8, 4#8, 5#8, 5#8, 5#8, 5#8, 5#8, 5#8, 5#8, 5#8, 5#8, 5#8, 5#8, 5#8, 5#8, 5#8, 5#8, 5#8, 6#8, 6#8, 6#8, 6#8, 6#8, 6#8, 6#8, 6#8, 6#8, 6#8, 6#8, 6#8, 6#8, 6#8, 6#8, 6#8, 6#8, 6#8, 6#8, 6#8, 6#8, 6#8, 6#8, 6#8, 6#8, 6#8, 6#8, 6#8, 6#8, 6#8, 6#8, 6#8, 7#8, 7#8, 7#8, 7#8, 7#8, 7#8, 7#8, 7#8, 7#8, 7#8, 7#8, 7#8, 7#8, 7#8, 7#8, 7#8, 7#8, 7#8, 7#8, 7#8, 7#8, 7#8, 7#8, 7#8, 7#8, 7#8, 7#8, 7#8, 7#8, 7#8, 7#8, 7#8, 7#8, 7#8, 7#8, 7#8, 7#8, 7#8, 7#8, 7#8, 7#8, 7#8, 7#8, 7#8, 7#8, 7#8, 7#8, 7#8, 7#8, 7#8, 7#8, 7#8, 7#8, 7#8, 7#8, 7#8, 7#8, 7#8, 7#8, 7#8, 7#8, 7#8, 7#8, 7#8, 8#8, 8#8, 8#8, 8#8, 8#8, 8#8, 8#8, 8#8, 8#8, 8#8, 8#8, 8#8, 8#8, 8#8, 8#8, 8#8, 8#8, 8#8, 8#8, 8#8, 8#8, 8#8, 8#8, 8#8, 8#8, 8#8, 8#8, 8#8, 8#8, 8#8, 8#8, 8#8, 8#8, 8#8, 8#8, 8#8, 8#8, 8#8, 8#8, 8#8, 8#8, 8#8, 8#8, 8#8, 8#8, 8#8, 8#8, 8#8, 8#8, 8#8, 8#8, 8#8, 8#8, 8#8, 8#8, 8#8, 8#8, 8#8, 8#8, 8#8, 8#8, 8#8, 8#8, 8#8, 8#8, 8#8, 8#8, 8#8, 8#8, 8#8, 8#8, 8#8, 8#8, 8#8, 8#8, 8#8, 8#8, 8#8, 8#8, 8#8, 8#8, 8#8, 8#8, 8#8, 8#8, 8#8, 8#8, 8#8, 8#8, 8#8, 8#8, 8#8, 8#8, 8#8, 8#8, 8#8, 8#8, 8#8, 8#8, 8#8, 8#8, 8#8, 8#8, 8#8, 8#8, 8#8, 8#8, 8#8, 8#8, 8#8, 8#8, 8#8, 8#8, 8#8, 8#8, 8#8, 8#8, 8#8, 8#8, 8#8, 8#8, 8#8, 8#8, 8#8, 8#8, 8#8, 8#8, 8#8] : List (BitVec 8)) (((x00 >>> 16).setWidth 8).toNat : Int)) fun x53 =>
        Option.bind (ck (x42 + (x53.toNat : Int))) fun x54 =>
        some (x54)
    else
      if 256#64 <= x00 then
        Option.bind (ck ((0 : Int) + (8 : Int))) fun x60 =>
        Option.bind (idx ([0#8, 1#8, 2#8, 2#8, 3#8, 3#8, 3#8, 3#8, 4#8, 4#8, 4#8, 4#8, 4#8, 4#8, 4#8, 4#8, 5#8, 5#8, 5#8, 5#8, 5#8, 5#8, 5#8, 5#8, 5#8, 5#8, 5#8, 5#8, 5#8, 5#8, 5#8, 5#8, 6#8, 6#8, 6#8, 6#8, 6#8, 6#8, 6#8, 6#8, 6#8, 6#8, 6#8, 6#8, 6#8, 6#8, 6#8, 6#8, 6#8, 6#8, 6#8, 6#8, 6#8, 6#8, 6#8, 6#8, 6#8, 6#8, 6#8, 6#8, 6#8, 6#8, 6#8, 6#8, 7#8, 7#8, 7#8, 7#8, 7#8, 7#8, 7#8, 7#8, 7#8, 7#8, 7#8, 7#8, 7#8, 7#8, 7#8, 7#8, 7#8, 7#8, 7#8, 7#8, 7#8, 7#8, 7#8, 7#8, 7#8, 7#8, 7#8, 7#8, 7#8, 7#8, 7#8, 7#8, 7#8, 7#8, 7#8, 7#8, 7#8, 7#8, 7#8, 7#8, 7#8, 7#8, 7#8, 7#8, 7#8, 7#8, 7#8, 7#8, 7#8, 7#8, 7#8, 7#8, 7#8, 7#8, 7#8, 7#8, 7#8, 7#8, 7#8, 7#8, 7#8, 7#8, 7#8, 7#8, 8#8, 8#8, 8#8, 8#8, 8#8, 8#8, 8#8, 8#8, 8#8, 8#8, 8#8, 8#8, 8#8, 8#8, 8#8, 8#8, 8#8, 8#8, 8#8, 8#8, 8#8, 8#8, 8#8, 8#8, 8#8, 8#8, 8#8, 8#8, 8#8, 8#8, 8#8, 8#8, 8#8, 8#8, 8#8, 8#8, 8#8, 8#8, 8#8, 8#8, 8#8, 8#8, 8#8, 8#8, 8#8, 8#8, 8#8, 8#8, 8#8, 8#8, 8#8, 8#8, 8#8, 8#8, 8#8, 8#8, 8#8, 8#8, 8#8, 8#8, 8#8, 8#8, 8#8, 8#8, 8#8, 8#8, 8#8, 8#8, 8#8, 8#8, 8#8, 8#8, 8#8, 8#8, 8#8, 8#8, 8#8, 8#8, 8#8, 8#8, 8#8, 8#8, 8#8, 8#8, 8#8, 8#8, 8#8, 8#8, 8#8, 8#8, 8#8, 8#8, 8#8, 8#8, 8#8, 8#8, 8#8, 8#8, 8#8, 8#8, 8#8, 8#8, 8#8, 8#8, 8#8, 8#8, 8#8, 8#8, 8#8, 8#8, 8#8, 8#8, 8#8, 8#8, 8#8, 8#8, 8#8, 8#8, 8#8, 8#8, 8#8, 8#8, 8#8, 8#8, 8#8, 8#8, 8#8, 8#8] : List (BitVec 8)) (((x00 >>> 8).setWidth 8).toNat : Int)) fun x62 =>
        Option.bind (ck (x60 + (x62.toNat : Int))) fun x63 =>
        some (x63)
      else
        Option.bind (idx ([0#8, 1#8, 2#8, 2#8, 3#8, 3#8, 3#8, 3#8, 4#8, 4#8, 4#8, 4#8, 4#8, 4#8, 4#8, 4#8, 5#8, 5#8, 5#8, 5#8, 5#8, 5#8, 5#8, 5#8, 5#8, 5#8, 5#8, 5#8, 5#8, 5#8, 5#8, 5#8, 6#8, 6#8, 6#8, 6#8, 6#8, 6#8, 6#8, 6#8, 6#8, 6#8, 6#8, 6#8, 6#8, 6#8, 6#8, 6#8, 6#8, 6#8, 6#8, 6#8, 6#8, 6#8, 6#8, 6#8, 6#8, 6#8, 6#8, 6#8, 6#8, 6#8, 6#8, 6#8, 7#8, 7#8, 7#8, 7#8, 7#8, 7#8, 7#8, 7#8, 7#8, 7#8, 7#8, 7#8, 7#8, 7#8, 7#8, 7#8, 7#8, 7#8, 7#8, 7#8, 7#8, 7#8, 7#8, 7#8, 7#8, 7#8, 7#8, 7#8, 7#8, 7#8, 7#8, 7#8, 7#8, 7#8, 7#8, 7#8, 7#8, 7#8, 7#8, 7#8, 7#8, 7#8, 7#8, 7#8, 7#8, 7#8, 7#8, 7#8, 7#8, 7#8, 7#8, 7#8, 7#8, 7#8, 7#8, 7#8, 7#8, 7#8, 7#8, 7#8, 7#8, 7#8, 7#8, 7#8, 8#8, 8#8, 8#8, 8#8, 8#8, 8#8, 8#8, 8#8, 8#8, 8#8, 8#8, 8#8, 8#8, 8#8, 8#8, 8#8, 8#8, 8#8, 8#8, 8#8, 8#8, 8#8, 8#8, 8#8, 8#8, 8#8, 8#8, 8#8, 8#8, 8#8, 8#8, 8#8, 8#8, 8#8, 8#8, 8#8, 8#8, 8#8, 8#8, 8#8, 8#8, 8#8, 8#8, 8#8, 8#8, 8#8, 8#8, 8#8, 8#8, 8#8, 8#8, 8#8, 8#8, 8#8, 8#8, 8#8, 8#8, 8#8, 8#8, 8#8, 8#8, 8#8, 8#8, 8#8, 8#8, 8#8, 8#8, 8#8, 8#8, 8#8, 8#8, 8#8, 8#8, 8#8, 8#8, 8#8, 8#8, 8#8, 8#8, 8#8, 8#8, 8#8, 8#8, 8#8, 8#8, 8#8, 8#8, 8#8, 8#8, 8#8, 8#8, 8#8, 8#8, 8#8, 8#8, 8#8, 8#8, 8#8, 8#8, 8#8, 8#8, 8#8, 8#8, 8#8, 8#8, 8#8, 8#8, 8#8, 8#8, 8#8, 8#8, 8#8, 8#8, 8#8, 8#8, 8#8, 8#8, 8#8, 8#8, 8#8, 8#8, 8#8, 8#8, 8#8, 8#8, 8#8, 8#8, 8#8] : List (BitVec 8)) ((x00.setWidth 8).toNat : Int)) fun x65 =>
        Option.bind (ck ((0 : Int) + (x65.toNat : Int))) fun x66 =>
        some (x66)
def m_math_bits_Len (x00 : BitVec 64) : Option (Int) :=
  Option.bind (m_math_bits_Len64 x00) fun x4 =>
  some (x4)
def m_slices_nextPowerOfTwo (x00 : Int) : Option ((BitVec 64)) :=
  Option.bind (m_math_bits_Len (BitVec.ofInt 64 x00)) fun x3 =>
  Option.bind (shlu 1#64 x3) fun x5 =>
  some (x5)
def m_slices_breakPatternsOrdered_uint64_j1 (x01 x2 : Int) (x8 : (BitVec 64)) (x15 : List (BitVec 64)) (x16 : BitVec 64) (x17 : Int) (r0 : (List (BitVec 64)) -> (BitVec 64) -> Int -> Option (List (BitVec 64))) : Option (List (BitVec 64)) :=
  if x2 <= (((((x16 ^^^ (x16 <<< 13)) ^^^ ((x16 ^^^ (x16 <<< 13)) >>> 7)) ^^^ (((x16 ^^^ (x16 <<< 13)) ^^^ ((x16 ^^^ (x16 <<< 13)) >>> 7)) <<< 17)) &&& (x8 - 1#64)).toInt) then
    Option.bind (ck ((((((x16 ^^^ (x16 <<< 13)) ^^^ ((x16 ^^^ (x16 <<< 13)) >>> 7)) ^^^ (((x16 ^^^ (x16 <<< 13)) ^^^ ((x16 ^^^ (x16 <<< 13)) >>> 7)) <<< 17)) &&& (x8 - 1#64)).toInt) - x2)) fun x184 =>
    Option.bind (ck (x01 + x184)) fun x186 =>
    Option.bind (ck (x01 + x184)) fun x187 =>
    Option.bind (idx x15 x187) fun x188 =>
    Option.bind (idx x15 x17) fun x189 =>
    Option.bind (idx x15 x17) fun x190 =>
    Option.bind (upd x15 x17 x188) fun x191 =>
    Option.bind (idx x191 x186) fun x192 =>
    Option.bind (upd x191 x186 x189) fun x193 =>
    Option.bind (ck (x17 + (1 : Int))) fun x205 =>
    r0 x193 (((x16 ^^^ (x16 <<< 13)) ^^^ ((x16 ^^^ (x16 <<< 13)) >>> 7)) ^^^ (((x16 ^^^ (x16 <<< 13)) ^^^ ((x16 ^^^ (x16 <<< 13)) >>> 7)) <<< 17)) x205
  else
    Option.bind (ck (x01 + (((((x16 ^^^ (x16 <<< 13)) ^^^ ((x16 ^^^ (x16 <<< 13)) >>> 7)) ^^^ (((x16 ^^^ (x16 <<< 13)) ^^^ ((x16 ^^^ (x16 <<< 13)) >>> 7)) <<< 17)) &&& (x8 - 1#64)).toInt))) fun x207 =>
    Option.bind (ck (x01 + (((((x16 ^^^ (x16 <<< 13)) ^^^ ((x16 ^^^ (x16 <<< 13)) >>> 7)) ^^^ (((x16 ^^^ (x16 <<< 13)) ^^^ ((x16 ^^^ (x16 <<< 13)) >>> 7)) <<< 17)) &&& (x8 - 1#64)).toInt))) fun x208 =>
    Option.bind (idx x15 x208) fun x209 =>
    Option.bind (idx x15 x17) fun x210 =>
    Option.bind (idx x15 x17) fun x211 =>
    Option.bind (upd x15 x17 x209) fun x212 =>
    Option.bind (idx x212 x207) fun x213 =>
    Option.bind (upd x212 x207 x210) fun x214 =>
    Option.bind (ck (x17 + (1 : Int))) fun x226 =>
    r0 x214 (((x16 ^^^ (x16 <<< 13)) ^^^ ((x16 ^^^ (x16 <<< 13)) >>> 7)) ^^^ (((x16 ^^^ (x16 <<< 13)) ^^^ ((x16 ^^^ (x16 <<< 13)) >>> 7)) <<< 17)) x226
def m_slices_breakPatternsOrdered_uint64_l0 (x01 x2 : Int) (x8 : (BitVec 64)) : Nat -> (List (BitVec 64)) -> (BitVec 64) -> Int -> Option (List (BitVec 64))
  | 0, _, _, _ => none
  | q18 + 1, x15, x16, x17 =>
    Option.bind (dvi x2 (4 : Int)) fun x22 =>
    Option.bind (ck (x22 * (2 : Int))) fun x23 =>
    Option.bind (ck (x01 + x23)) fun x24 =>
    Option.bind (ck (x24 + (1 : Int))) fun x25 =>
    if x17 <= x25 then
      m_slices_breakPatternsOrdered_uint64_j1 x01 x2 x8 x15 x16 x17 (m_slices_breakPatternsOrdered_uint64_l0 x01 x2 x8 q18)
    else
      some (x15)
def m_slices_breakPatternsOrdered_uint64 (x0c : List (BitVec 64)) (x01 x02 : Int) : Option (List (BitVec 64)) :=
  Option.bind (ck (x02 - x01)) fun x2 =>
  if (8 : Int) <= x2 then
    Option.bind (m_slices_nextPowerOfTwo x2) fun x8 =>
    Option.bind (dvi x2 (4 : Int)) fun x11 =>
    Option.bind (ck (x11 * (2 : Int))) fun x12 =>
    Option.bind (ck (x01 + x12)) fun x13 =>
    Option.bind (ck (x13 - (1 : Int))) fun x14 =>
    m_slices_breakPatternsOrdered_uint64_l0 x01 x2 x8 forever x0c (BitVec.ofInt 64 x2) x14
  else
    some (x0c)
def m_slices_choosePivotOrdered_uint64 (x00 : List (BitVec 64)) (x01 x02 : Int) : Option (Int × Int) :=
  Option.bind (ck (x02 - x01)) fun x3 =>
  Option.bind (dvi x3 (4 : Int)) fun x7 =>
  Option.bind (ck (x7 * (1 : Int))) fun x8 =>
  Option.bind (ck (x01 + x8)) fun x9 =>
  Option.bind (dvi x3 (4 : Int)) fun x11 =>
  Option.bind (ck (x11 * (2 : Int))) fun x12 =>
  Option.bind (ck (x01 + x12)) fun x13 =>
  Option.bind (dvi x3 (4 : Int)) fun x15 =>
  Option.bind (ck (x15 * (3 : Int))) fun x16 =>
  Option.bind (ck (x01 + x16)) fun x17 =>
  if (8 : Int) <= x3 then
    if (50 : Int) <= x3 then
      none
    else
      Option.bind (idx x00 x13) fun x31 =>
      Option.bind (idx x00 x9) fun x32 =>
      Option.bind (m_cmp_Less_uint64 x31 x32) fun x33 =>
      if x33 = true then
        Option.bind (idx x00 x17) fun x42 =>
        Option.bind (idx x00 x9) fun x43 =>
        Option.bind (m_cmp_Less_uint64 x42 x43) fun x44 =>
        if x44 = true then
          Option.bind (idx x00 x17) fun x53 =>
          Option.bind (idx x00 x13) fun x54 =>
          Option.bind (m_cmp_Less_uint64 x53 x54) fun x55 =>
          if x55 = true then
            some (x13, (0 : Int))
          else
            some (x17, (0 : Int))
        else
          Option.bind (idx x00 x9) fun x80 =>
          Option.bind (idx x00 x13) fun x81 =>
          Option.bind (m_cmp_Less_uint64 x80 x81) fun x82 =>
          if x82 = true then
            some (x13, (0 : Int))
          else
            some (x9, (0 : Int))
      else
        Option.bind (idx x00 x17) fun x107 =>
        Option.bind (idx x00 x13) fun x108 =>
        Option.bind (m_cmp_Less_uint64 x107 x108) fun x109 =>
        if x109 = true then
          Option.bind (idx x00 x17) fun x118 =>
          Option.bind (idx x00 x9) fun x119 =>
          Option.bind (m_cmp_Less_uint64 x118 x119) fun x120 =>
          if x120 = true then
            some (x9, (0 : Int))
          else
            some (x17, (0 : Int))
        else
          Option.bind (idx x00 x13) fun x145 =>
          Option.bind (idx x00 x9) fun x146 =>
          Option.bind (m_cmp_Less_uint64 x145 x146) fun x147 =>
          if x147 = true then
            some (x9, (0 : Int))
          else
            some (x13, (1 : Int))
  else
    some (x13, (1 : Int))
def m_slices_pdqsortOrdered_uint64_j4 (x4 x5 x12 x24 x36 : Int) (x48 : List (BitVec 64)) (r0 : (List (BitVec 64)) -> Int -> Int -> Int -> Bool -> Bool -> Option (List (BitVec 64))) (rc0 : (List (BitVec 64)) -> Int -> Int -> Int -> Option (List (BitVec 64))) : Option (List (BitVec 64)) :=
  Option.bind (m_slices_partitionOrdered_uint64 x48 x4 x5 x36) fun x70 =>
  Option.bind (ck (x70.2.1 - x4)) fun x73 =>
  Option.bind (ck (x5 - x70.2.1)) fun x74 =>
  Option.bind (dvi x12 (8 : Int)) fun x76 =>
  if x73 < x74 then
    Option.bind (rc0 x70.1 x4 x70.2.1 x24) fun x81 =>
    Option.bind (ck (x70.2.1 + (1 : Int))) fun x83 =>
    r0 x81 x83 x5 x24 (decide (x76 <= x73)) x70.2.2
  else
    Option.bind (ck (x70.2.1 + (1 : Int))) fun x86 =>
    Option.bind (rc0 x70.1 x86 x5 x24) fun x87 =>
    r0 x87 x4 x70.2.1 x24 (decide (x76 <= x74)) x70.2.2
def m_slices_pdqsortOrdered_uint64_j3 (x4 x5 : Int) (x7 x8 : Bool) (x12 x24 x36 : Int) (r0 : (List (BitVec 64)) -> Int -> Int -> Int -> Bool -> Bool -> Option (List (BitVec 64))) (rc0 : (List (BitVec 64)) -> Int -> Int -> Int -> Option (List (BitVec 64))) (x48 : List (BitVec 64)) : Option (List (BitVec 64)) :=
  if (0 : Int) < x4 then
    Option.bind (ck (x4 - (1 : Int))) fun x60 =>
    Option.bind (idx x48 x60) fun x61 =>
    Option.bind (idx x48 x36) fun x62 =>
    Option.bind (m_cmp_Less_uint64 x61 x62) fun x63 =>
    if x63 = true then
      m_slices_pdqsortOrdered_uint64_j4 x4 x5 x12 x24 x36 x48 r0 rc0
    else
      Option.bind (m_slices_partitionEqualOrdered_uint64 x48 x4 x5 x36) fun x67 =>
      r0 x67.1 x67.2 x5 x24 x7 x8
  else
    m_slices_pdqsortOrdered_uint64_j4 x4 x5 x12 x24 x36 x48 r0 rc0
def m_slices_pdqsortOrdered_uint64_j2 (x4 x5 : Int) (x7 x8 : Bool) (x12 x24 : Int) (r0 : (List (BitVec 64)) -> Int -> Int -> Int -> Bool -> Bool -> Option (List (BitVec 64))) (rc0 : (List (BitVec 64)) -> Int -> Int -> Int -> Option (List (BitVec 64))) (x35 : List (BitVec 64)) (x36 x37 : Int) : Option (List (BitVec 64)) :=
  if x7 = true then
    if x8 = true then
      if x37 = (1 : Int) then
        Option.bind (m_slices_partialInsertionSortOrdered_uint64 x35 x4 x5) fun x55 =>
        if x55.2 = true then
          some (x55.1)
        else
          m_slices_pdqsortOrdered_uint64_j3 x4 x5 x7 x8 x12 x24 x36 r0 rc0 x55.1
      else
        m_slices_pdqsortOrdered_uint64_j3 x4 x5 x7 x8 x12 x24 x36 r0 rc0 x35
    else
      m_slices_pdqsortOrdered_uint64_j3 x4 x5 x7 x8 x12 x24 x36 r0 rc0 x35
  else
    m_slices_pdqsortOrdered_uint64_j3 x4 x5 x7 x8 x12 x24 x36 r0 rc0 x35
def m_slices_pdqsortOrdered_uint64_j1 (x4 x5 : Int) (x7 x8 : Bool) (x12 : Int) (r0 : (List (BitVec 64)) -> Int -> Int -> Int -> Bool -> Bool -> Option (List (BitVec 64))) (rc0 : (List (BitVec 64)) -> Int -> Int -> Int -> Option (List (BitVec 64))) (x23 : List (BitVec 64)) (x24 : Int) : Option (List (BitVec 64)) :=
  Option.bind (m_slices_choosePivotOrdered_uint64 x23 x4 x5) fun x33 =>
  if x33.2 = (2 : Int) then
    Option.bind (m_slices_reverseRangeOrdered_uint64 x23 x4 x5) fun x42 =>
    Option.bind (ck (x5 - (1 : Int))) fun x44 =>
    Option.bind (ck (x33.1 - x4)) fun x45 =>
    Option.bind (ck (x44 - x45)) fun x46 =>
    m_slices_pdqsortOrdered_uint64_j2 x4 x5 x7 x8 x12 x24 r0 rc0 x42 x46 (1 : Int)
  else
    m_slices_pdqsortOrdered_uint64_j2 x4 x5 x7 x8 x12 x24 r0 rc0 x23 x33.1 x33.2
def m_slices_pdqsortOrdered_uint64_l0 (rc0 : (List (BitVec 64)) -> Int -> Int -> Int -> Option (List (BitVec 64))) : Nat -> (List (BitVec 64)) -> Int -> Int -> Int -> Bool -> Bool -> Option (List (BitVec 64))
  | 0, _, _, _, _, _, _ => none
  | q9 + 1, x3, x4, x5, x6, x7, x8 =>
    Option.bind (ck (x5 - x4)) fun x12 =>
    if x12 <= (12 : Int) then
      Option.bind (m_slices_insertionSortOrdered_uint64 x3 x4 x5) fun x17 =>
      some (x17)
    else
      if x6 = (0 : Int) then
        Option.bind (m_slices_heapSortOrdered_uint64 x3 x4 x5) fun x22 =>
        some (x22)
      else
        if x7 = true then
          m_slices_pdqsortOrdered_uint64_j1 x4 x5 x7 x8 x12 (m_slices_pdqsortOrdered_uint64_l0 rc0 q9) rc0 x3 x6
        else
          Option.bind (m_slices_breakPatternsOrdered_uint64 x3 x4 x5) fun x29 =>
          Option.bind (ck (x6 - (1 : Int))) fun x31 =>
          m_slices_pdqsortOrdered_uint64_j1 x4 x5 x7 x8 x12 (m_slices_pdqsortOrdered_uint64_l0 rc0 q9) rc0 x29 x31
def m_slices_pdqsortOrdered_uint64F (rc0 : (List (BitVec 64)) -> Int -> Int -> Int -> Option (List (BitVec 64))) (x0c : List (BitVec 64)) (x01 x02 x03 : Int) : Option (List (BitVec 64)) :=
  m_slices_pdqsortOrdered_uint64_l0 rc0 forever x0c x01 x02 x03 true true
def m_slices_pdqsortOrdered_uint64R : Nat -> (List (BitVec 64)) -> Int -> Int -> Int -> Option (List (BitVec 64))
  | 0, _, _, _, _ => none
  | q + 1, x0c, x01, x02, x03 => m_slices_pdqsortOrdered_uint64F (m_slices_pdqsortOrdered_uint64R q) x0c x01 x02 x03
def m_slices_pdqsortOrdered_uint64 (x0c : List (BitVec 64)) (x01 x02 x03 : Int) : Option (List (BitVec 64)) := m_slices_pdqsortOrdered_uint64R forever x0c x01 x02 x03
def m_slices_Sort_uint64_uint64 (x0c : List (BitVec 64)) : Option (List (BitVec 64)) :=
  Option.bind (m_math_bits_Len (BitVec.ofInt 64 (x0c.length : Int))) fun x3 =>
  Option.bind (m_slices_pdqsortOrdered_uint64 x0c (0 : Int) (x0c.length : Int) x3) fun x5 =>
  some (x5)
end Go.Proofs.Ytkcccenekglkoaa
