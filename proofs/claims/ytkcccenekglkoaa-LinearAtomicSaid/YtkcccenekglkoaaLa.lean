/-
 A step of a key's state: the package's and the reference's. Conditions: the lengths of the data, as each theorem says.
-/
import Derived.Test.YtkcccenekglkoaaKp
import Derived.Test.YtkcccenekglkoaaMdf
namespace Go.Proofs.Ytkcccenekglkoaa
set_option linter.unusedVariables false
set_option linter.unusedSimpArgs false
abbrev LS := Bool × BitVec 32 × List (BitVec 8)
def dropL (x : KO) : Bool := x.fReturn == (-1 : Int)
def fitsL (s : LS) (c : BitVec 32) : Bool := s.1 && (s.2.1 == c)
def zeroL : LS := (false, 0#32, [])
def stepL (s : LS) (x : KO) : Option LS :=
 if x.fKind = 1 then
  if x.fReturn = -1 then some (true, x.fCookie, x.fData)
  else if x.fResult = 0 then some (true, x.fCookie, x.fData)
  else if x.fResult = 8 then some s else if x.fResult = 9 then some s else if x.fResult = 10 then some s else none
 else if x.fKind = 2 then
  if x.fReturn = -1 then (if fitsL s x.fCookie = true then some zeroL else some s)
  else if x.fResult = 0 then (if fitsL s x.fCookie = true then some zeroL else none)
  else if x.fResult = 6 then (if fitsL s x.fCookie = true then none else some s)
  else if x.fResult = 10 then some s else none
 else if x.fKind = 3 then
  if x.fReturn = -1 then some s
  else if x.fResult = 11 then some s
  else if x.fResult = 0 then (if fitsL s x.fCookie = true then (if s.2.2 = x.fGot then some s else none) else none)
  else if x.fResult = 6 then (if fitsL s x.fCookie = true then none else some s) else none
 else none
def outL : Option LS -> Bool × BitVec 32 × List (BitVec 8) × Bool
 | some t => (t.1, t.2.1, t.2.2, true)
 | none => (false, 0#32, [], false)
def lenL (s : LS) : Prop := s.2.2.length <= 1000
theorem stepL_len {s t : LS} {x : KO} (hs : lenL s) (hx : smallK x) (h : stepL s x = some t) : lenL t := by
 have e0 : lenL (true, x.fCookie, x.fData) := hx.1
 have e1 : lenL zeroL := Nat.zero_le _
 unfold stepL at h
 repeat' split at h
 all_goals first | (cases h; done) | (obtain rfl := Option.some.inj h; first | exact hs | exact e0 | exact e1)
theorem fits_ok (s : LS) (c : BitVec 32) : m_linear_State_fits s.1 s.2.1 s.2.2 c = some (fitsL s c) := by
 unfold m_linear_State_fits fitsL
 cases h : s.1 <;> simp
theorem step_okL (s : LS) (x : KO) (hs : lenL s) (hx : smallK x) :
  m_linear_Step s.1 s.2.1 s.2.2 x.fClient x.fKind x.fKey x.fCookie x.fData x.fGot x.fCall x.fReturn x.fClosed x.fResult = some (outL (stepL s x)) := by
 have hs' : s.2.2.length <= 1000 := hs
 have c0 : m_bytes_Clone ([] : List (BitVec 8)) = some [] := cloneK _ (by simp)
 unfold m_linear_Step stepL
 by_cases k1 : x.fKind = 1
 ·rw [if_pos k1, if_pos k1]
  unfold m_linear_put m_linear_Drops
  rw [obs]
  by_cases r : x.fReturn = -1
  ·simp [r, cloneK _ hx.1, outL]
  ·by_cases e0 : x.fResult = 0
   ·simp [r, e0, cloneK _ hx.1, outL]
   ·unfold m_linear_put_j0
    by_cases e8 : x.fResult = 8
    ·simp [r, e8, cloneK _ hs', outL]
    ·by_cases e9 : x.fResult = 9
     ·simp [r, e9, cloneK _ hs', outL]
     ·by_cases e10 : x.fResult = 10
      ·simp [r, e10, cloneK _ hs', outL]
      ·simp [r, e0, e8, e9, e10, outL]
 ·rw [if_neg k1, if_neg k1]
  by_cases k2 : x.fKind = 2
  ·rw [if_pos k2, if_pos k2]
   unfold m_linear_remove m_linear_Drops m_linear_remove_j0 m_linear_Drops
   rw [fits_ok]
   by_cases r : x.fReturn = -1
   ·cases f : fitsL s x.fCookie
    ·simp [r, cloneK _ hs', outL]
    ·simp [r, c0, outL, zeroL]
   ·by_cases e0 : x.fResult = 0
    ·cases f : fitsL s x.fCookie
     ·simp [r, e0, outL]
     ·simp [r, e0, c0, outL, zeroL]
    ·by_cases e6 : x.fResult = 6
     ·cases f : fitsL s x.fCookie
      ·simp [r, e6, cloneK _ hs', outL]
      ·simp [r, e6, outL]
     ·by_cases e10 : x.fResult = 10
      ·simp [r, e10, cloneK _ hs', outL]
      ·simp [r, e0, e6, e10, outL]
  ·rw [if_neg k2, if_neg k2]
   by_cases k3 : x.fKind = 3
   ·rw [if_pos k3, if_pos k3]
    unfold m_linear_get m_linear_Drops m_linear_get_j0 m_bytes_Equal
    rw [fits_ok]
    by_cases r : x.fReturn = -1
    ·simp [r, cloneK _ hs', outL]
    ·by_cases e11 : x.fResult = 11
     ·simp [r, e11, cloneK _ hs', outL]
     ·by_cases e0 : x.fResult = 0
      ·cases f : fitsL s x.fCookie
       ·simp [r, e0, outL]
       ·by_cases g : s.2.2 = x.fGot
        ·have g2 : x.fGot.length <= 1000 := hx.2
         simp [r, e0, g, cloneK _ g2, outL]
        ·simp [r, e0, g, outL]
      ·by_cases e6 : x.fResult = 6
       ·cases f : fitsL s x.fCookie
        ·simp [r, e6, cloneK _ hs', outL]
        ·simp [r, e6, outL]
       ·simp [r, e0, e6, e11, outL]
   ·rw [if_neg k3, if_neg k3]; rfl
end Go.Proofs.Ytkcccenekglkoaa
