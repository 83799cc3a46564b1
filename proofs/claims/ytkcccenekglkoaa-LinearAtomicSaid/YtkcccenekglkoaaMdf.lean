/-
  Models of functions of the program (f): what each computes, as an option. Printed by a program of ours (vcm.py). No conditions.
-/
import Derived.Test.YtkcccenekglkoaaMdb
namespace Go.Proofs.Ytkcccenekglkoaa
set_option linter.unusedVariables false
def m_bytes_Equal (x00 x01 : List (BitVec 8)) : Option (Bool) :=
  some ((x00 == x01))
def m_linear_Drops (x00_0 x00_1 : Int) (x00_2 : BitVec 64) (x00_3 : BitVec 32) (x00_4 x00_5 : List (BitVec 8)) (x00_6 x00_7 x00_8 x00_9 : Int) : Option (Bool) :=
  some ((x00_7 == (-1 : Int)))
def m_linear_put_j0 (x00_0 : Bool) (x00_1 : BitVec 32) (x00_2 : List (BitVec 8)) (x01_9 : Int) : Option (Bool × (BitVec 32) × (List (BitVec 8)) × Bool) :=
  if x01_9 = (8 : Int) then
    some (x00_0, x00_1, x00_2, true)
  else
    if x01_9 = (9 : Int) then
      some (x00_0, x00_1, x00_2, true)
    else
      some (x00_0, x00_1, x00_2, (x01_9 == (10 : Int)))
def m_linear_put (x00_0 : Bool) (x00_1 : BitVec 32) (x00_2 : List (BitVec 8)) (x01_0 x01_1 : Int) (x01_2 : BitVec 64) (x01_3 : BitVec 32) (x01_4 x01_5 : List (BitVec 8)) (x01_6 x01_7 x01_8 x01_9 : Int) : Option (Bool × (BitVec 32) × (List (BitVec 8)) × Bool) :=
  Option.bind (m_linear_Drops x01_0 x01_1 x01_2 x01_3 x01_4 x01_5 x01_6 x01_7 x01_8 x01_9) fun x7 =>
  if x7 = true then
    Option.bind (m_bytes_Clone x01_4) fun x11 =>
    some (true, x01_3, x11, true)
  else
    if x01_9 = (0 : Int) then
      Option.bind (m_bytes_Clone x01_4) fun x23 =>
      some (true, x01_3, x23, true)
    else
      m_linear_put_j0 x00_0 x00_1 x00_2 x01_9
def m_linear_State_fits (x00_0 : Bool) (x00_1 : BitVec 32) (x00_2 : List (BitVec 8)) (x01 : BitVec 32) : Option (Bool) :=
  if x00_0 = true then
    some ((x00_1 == x01))
  else
    some (false)
def m_linear_remove_j0 (x00_0 : Bool) (x00_1 : BitVec 32) (x00_2 : List (BitVec 8)) (x01_0 x01_1 : Int) (x01_2 : BitVec 64) (x01_3 : BitVec 32) (x01_4 x01_5 : List (BitVec 8)) (x01_6 x01_7 x01_8 x01_9 : Int) (x6 x9 : Bool) : Option (Bool × (BitVec 32) × (List (BitVec 8)) × Bool) :=
  if x9 = true then
    some (x00_0, x00_1, x00_2, true)
  else
    Option.bind (m_linear_Drops x01_0 x01_1 x01_2 x01_3 x01_4 x01_5 x01_6 x01_7 x01_8 x01_9) fun x19 =>
    if x19 = true then
      if x19 = true then
        some (false, 0#32, ([] : List (BitVec 8)), x6)
      else
        if x01_9 = (6 : Int) then
          some (x00_0, x00_1, x00_2, (!x6))
        else
          some (x00_0, x00_1, x00_2, (x01_9 == (10 : Int)))
    else
      if x01_9 = (0 : Int) then
        some (false, 0#32, ([] : List (BitVec 8)), x6)
      else
        if x01_9 = (6 : Int) then
          some (x00_0, x00_1, x00_2, (!x6))
        else
          some (x00_0, x00_1, x00_2, (x01_9 == (10 : Int)))
def m_linear_remove (x00_0 : Bool) (x00_1 : BitVec 32) (x00_2 : List (BitVec 8)) (x01_0 x01_1 : Int) (x01_2 : BitVec 64) (x01_3 : BitVec 32) (x01_4 x01_5 : List (BitVec 8)) (x01_6 x01_7 x01_8 x01_9 : Int) : Option (Bool × (BitVec 32) × (List (BitVec 8)) × Bool) :=
  Option.bind (m_linear_State_fits x00_0 x00_1 x00_2 x01_3) fun x6 =>
  Option.bind (m_linear_Drops x01_0 x01_1 x01_2 x01_3 x01_4 x01_5 x01_6 x01_7 x01_8 x01_9) fun x12 =>
  if x12 = true then
    m_linear_remove_j0 x00_0 x00_1 x00_2 x01_0 x01_1 x01_2 x01_3 x01_4 x01_5 x01_6 x01_7 x01_8 x01_9 x6 (!x6)
  else
    m_linear_remove_j0 x00_0 x00_1 x00_2 x01_0 x01_1 x01_2 x01_3 x01_4 x01_5 x01_6 x01_7 x01_8 x01_9 x6 false
def m_linear_get_j0 (x00_0 : Bool) (x00_1 : BitVec 32) (x00_2 x01_5 : List (BitVec 8)) (x01_9 : Int) (x6 x9 : Bool) : Option (Bool × (BitVec 32) × (List (BitVec 8)) × Bool) :=
  if x9 = true then
    some (x00_0, x00_1, x00_2, true)
  else
    if x01_9 = (0 : Int) then
      if x6 = true then
        Option.bind (m_bytes_Equal x00_2 x01_5) fun x22 =>
        some (x00_0, x00_1, x00_2, x22)
      else
        some (x00_0, x00_1, x00_2, false)
    else
      if x01_9 = (6 : Int) then
        some (x00_0, x00_1, x00_2, (!x6))
      else
        some (x00_0, x00_1, x00_2, false)
def m_linear_get (x00_0 : Bool) (x00_1 : BitVec 32) (x00_2 : List (BitVec 8)) (x01_0 x01_1 : Int) (x01_2 : BitVec 64) (x01_3 : BitVec 32) (x01_4 x01_5 : List (BitVec 8)) (x01_6 x01_7 x01_8 x01_9 : Int) : Option (Bool × (BitVec 32) × (List (BitVec 8)) × Bool) :=
  Option.bind (m_linear_State_fits x00_0 x00_1 x00_2 x01_3) fun x6 =>
  Option.bind (m_linear_Drops x01_0 x01_1 x01_2 x01_3 x01_4 x01_5 x01_6 x01_7 x01_8 x01_9) fun x12 =>
  if x12 = true then
    m_linear_get_j0 x00_0 x00_1 x00_2 x01_5 x01_9 x6 x12
  else
    m_linear_get_j0 x00_0 x00_1 x00_2 x01_5 x01_9 x6 (x01_9 == (11 : Int))
def m_linear_Step (x00_0 : Bool) (x00_1 : BitVec 32) (x00_2 : List (BitVec 8)) (x01_0 x01_1 : Int) (x01_2 : BitVec 64) (x01_3 : BitVec 32) (x01_4 x01_5 : List (BitVec 8)) (x01_6 x01_7 x01_8 x01_9 : Int) : Option (Bool × (BitVec 32) × (List (BitVec 8)) × Bool) :=
  if x01_1 = (1 : Int) then
    Option.bind (m_linear_put x00_0 x00_1 x00_2 x01_0 x01_1 x01_2 x01_3 x01_4 x01_5 x01_6 x01_7 x01_8 x01_9) fun x12 =>
    if x12.2.2.2 = true then
      Option.bind (m_bytes_Clone x12.2.2.1) fun x31 =>
      some (x12.1, x12.2.1, x31, true)
    else
      some (false, 0#32, ([] : List (BitVec 8)), false)
  else
    if x01_1 = (2 : Int) then
      Option.bind (m_linear_remove x00_0 x00_1 x00_2 x01_0 x01_1 x01_2 x01_3 x01_4 x01_5 x01_6 x01_7 x01_8 x01_9) fun x45 =>
      if x45.2.2.2 = true then
        Option.bind (m_bytes_Clone x45.2.2.1) fun x64 =>
        some (x45.1, x45.2.1, x64, true)
      else
        some (false, 0#32, ([] : List (BitVec 8)), false)
    else
      if x01_1 = (3 : Int) then
        Option.bind (m_linear_get x00_0 x00_1 x00_2 x01_0 x01_1 x01_2 x01_3 x01_4 x01_5 x01_6 x01_7 x01_8 x01_9) fun x78 =>
        if x78.2.2.2 = true then
          Option.bind (m_bytes_Clone x78.2.2.1) fun x97 =>
          some (x78.1, x78.2.1, x97, true)
        else
          some (false, 0#32, ([] : List (BitVec 8)), false)
      else
        some (false, 0#32, ([] : List (BitVec 8)), false)
end Go.Proofs.Ytkcccenekglkoaa
