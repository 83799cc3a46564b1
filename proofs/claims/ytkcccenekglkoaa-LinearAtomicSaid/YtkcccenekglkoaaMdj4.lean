/-
  Models of functions of the program (j4): what each computes, as an option. Printed by a program of ours (vcm.py). No conditions.
-/
import Derived.Test.YtkcccenekglkoaaMdi
namespace Go.Proofs.Ytkcccenekglkoaa
set_option linter.unusedVariables false
structure Slinear_State where
  fHas : Bool
  fCookie : BitVec 32
  fData : List (BitVec 8)
  deriving DecidableEq
structure Sneedlestorelaw25_doing where
  fact : Int
  fstage : Int
  fresult : Int
  fgot : List (BitVec 8)
  deriving DecidableEq
def m_law25_atomic_j3 (x54 : Int) (r1 : (List ((BitVec 64) × Slinear_State)) -> (List (Int × Sneedlestorelaw25_doing)) -> (List (Shistory_Event)) -> Int -> Int -> Option ((List (Shistory_Event)))) (x66 : List ((BitVec 64) × Slinear_State)) (x75 : List (Int × Sneedlestorelaw25_doing)) (x81 : List (Shistory_Event)) (x84 : Int) : Option ((List (Shistory_Event))) :=
  Option.bind (ck (x54 + (1 : Int))) fun x268 =>
  r1 x66 x75 x81 x84 x268
def m_law25_atomic_j11 (x33 : List ((BitVec 64) × Slinear_State)) (x42 : List (Int × Sneedlestorelaw25_doing)) (x50 : List (Shistory_Event)) (x53 x54 x129 : Int) (x160 : Sneedlestorelaw25_Act) (x189 : Sneedlestorelaw25_doing) (r1 : (List ((BitVec 64) × Slinear_State)) -> (List (Int × Sneedlestorelaw25_doing)) -> (List (Shistory_Event)) -> Int -> Int -> Option ((List (Shistory_Event)))) (x200 : Bool) : Option ((List (Shistory_Event))) :=
  if x160.fKind = (1 : Int) then
    m_law25_atomic_j3 x54 r1 (mset x33 x160.fKey (Slinear_State.mk true x160.fCookie ([x160.fData] : List (BitVec 8)))) (mset x42 x129 ({ x189 with fstage := (1 : Int) } : Sneedlestorelaw25_doing)) x50 x53
  else
    if x200 = true then
      if x160.fKind = (2 : Int) then
        m_law25_atomic_j3 x54 r1 (mset x33 x160.fKey (Slinear_State.mk false 0#32 ([] : List (BitVec 8)))) (mset x42 x129 ({ x189 with fstage := (1 : Int) } : Sneedlestorelaw25_doing)) x50 x53
      else
        Option.bind (mget (mset x42 x129 ({ x189 with fstage := (1 : Int) } : Sneedlestorelaw25_doing)) x129) fun x224 =>
        m_law25_atomic_j3 x54 r1 x33 (mset (mset x42 x129 ({ x189 with fstage := (1 : Int) } : Sneedlestorelaw25_doing)) x129 ({ x224 with fgot := ((mget x33 x160.fKey).getD (Slinear_State.mk false 0#32 ([] : List (BitVec 8)))).fData } : Sneedlestorelaw25_doing)) x50 x53
    else
      Option.bind (mget (mset x42 x129 ({ x189 with fstage := (1 : Int) } : Sneedlestorelaw25_doing)) x129) fun x231 =>
      m_law25_atomic_j3 x54 r1 x33 (mset (mset x42 x129 ({ x189 with fstage := (1 : Int) } : Sneedlestorelaw25_doing)) x129 ({ x231 with fresult := (6 : Int) } : Sneedlestorelaw25_doing)) x50 x53
def m_law25_atomic_j10 (x33 : List ((BitVec 64) × Slinear_State)) (x42 : List (Int × Sneedlestorelaw25_doing)) (x50 : List (Shistory_Event)) (x53 x54 x129 : Int) (x160 : Sneedlestorelaw25_Act) (r1 : (List ((BitVec 64) × Slinear_State)) -> (List (Int × Sneedlestorelaw25_doing)) -> (List (Shistory_Event)) -> Int -> Int -> Option ((List (Shistory_Event)))) (x177 : Bool) : Option ((List (Shistory_Event))) :=
  if x177 = true then
    Option.bind (mget x42 x129) fun x189 =>
    if (((mget x33 x160.fKey).getD (Slinear_State.mk false 0#32 ([] : List (BitVec 8)))).fHas) = true then
      m_law25_atomic_j11 x33 x42 x50 x53 x54 x129 x160 x189 r1 ((((mget x33 x160.fKey).getD (Slinear_State.mk false 0#32 ([] : List (BitVec 8)))).fCookie) == x160.fCookie)
    else
      m_law25_atomic_j11 x33 x42 x50 x53 x54 x129 x160 x189 r1 false
  else
    Option.bind (mget x42 x129) fun x238 =>
    if x238.fstage = (1 : Int) then
      Option.bind (mget x42 x129) fun x245 =>
      Option.bind (mget x42 x129) fun x250 =>
      Option.bind (apd 72 x50 ([(Shistory_Event.mk (2 : Int) x129 (0 : Int) 0#64 0#32 x250.fgot x245.fresult)] : List (Shistory_Event))) fun x257 =>
      m_law25_atomic_j3 x54 r1 x33 (mdel x42 x129) x257 x53
    else
      m_law25_atomic_j3 x54 r1 x33 x42 x50 x53
def m_law25_atomic_j9 (x33 : List ((BitVec 64) × Slinear_State)) (x42 : List (Int × Sneedlestorelaw25_doing)) (x50 : List (Shistory_Event)) (x53 x54 x88 x129 : Int) (x160 : Sneedlestorelaw25_Act) (r1 : (List ((BitVec 64) × Slinear_State)) -> (List (Int × Sneedlestorelaw25_doing)) -> (List (Shistory_Event)) -> Int -> Int -> Option ((List (Shistory_Event)))) (x162 : Bool) : Option ((List (Shistory_Event))) :=
  if x162 = true then
    Option.bind (apd 72 x50 ([(Shistory_Event.mk (3 : Int) (0 : Int) (0 : Int) 0#64 0#32 ([] : List (BitVec 8)) (0 : Int))] : List (Shistory_Event))) fun x170 =>
    m_law25_atomic_j3 x54 r1 x33 ([] : List (Int × Sneedlestorelaw25_doing)) x170 x53
  else
    Option.bind (mget x42 x129) fun x180 =>
    if x180.fstage = (0 : Int) then
      if x160.fLost = true then
        m_law25_atomic_j10 x33 x42 x50 x53 x54 x129 x160 r1 (!(decide ((0 : Int) < (andi x88 (64 : Int)))))
      else
        m_law25_atomic_j10 x33 x42 x50 x53 x54 x129 x160 r1 true
    else
      m_law25_atomic_j10 x33 x42 x50 x53 x54 x129 x160 r1 false
def m_law25_atomic_j7 (x3 : (List (Sneedlestorelaw25_Act))) (x33 : List ((BitVec 64) × Slinear_State)) (x42 : List (Int × Sneedlestorelaw25_doing)) (x50 : List (Shistory_Event)) (x53 x54 x88 : Int) (r1 : (List ((BitVec 64) × Slinear_State)) -> (List (Int × Sneedlestorelaw25_doing)) -> (List (Shistory_Event)) -> Int -> Int -> Option ((List (Shistory_Event)))) (x129 : Int) : Option ((List (Shistory_Event))) :=
  if ((mget x42 x129).isNone) = true then
    m_law25_atomic_j3 x54 r1 x33 x42 x50 x53
  else
    Option.bind (mget x42 x129) fun x155 =>
    Option.bind (idx x3 x155.fact) fun x160 =>
    if x160.fCrash = true then
      m_law25_atomic_j9 x33 x42 x50 x53 x54 x88 x129 x160 r1 ((andi x88 (96 : Int)) == (96 : Int))
    else
      m_law25_atomic_j9 x33 x42 x50 x53 x54 x88 x129 x160 r1 false
def m_law25_atomic_l8 (x3 : (List (Sneedlestorelaw25_Act))) (x33 : List ((BitVec 64) × Slinear_State)) (x42 : List (Int × Sneedlestorelaw25_doing)) (x50 : List (Shistory_Event)) (x53 x54 x88 : Int) (r1 : (List ((BitVec 64) × Slinear_State)) -> (List (Int × Sneedlestorelaw25_doing)) -> (List (Shistory_Event)) -> Int -> Int -> Option ((List (Shistory_Event)))) : Nat -> Int -> Int -> Option ((List (Shistory_Event)))
  | 0, _, _ => none
  | q134 + 1, x132, x133 =>
    if x133 < (3 : Int) then
      if ((mget x42 x132).isNone) = true then
        Option.bind (ck (x132 + (1 : Int))) fun x144 =>
        Option.bind (rmi x144 (3 : Int)) fun x145 =>
        Option.bind (ck (x133 + (1 : Int))) fun x147 =>
        (m_law25_atomic_l8 x3 x33 x42 x50 x53 x54 x88 r1 q134) x145 x147
      else
        m_law25_atomic_j7 x3 x33 x42 x50 x53 x54 x88 r1 x132
    else
      m_law25_atomic_j7 x3 x33 x42 x50 x53 x54 x88 r1 x132
def m_law25_atomic_j5 (x3 : (List (Sneedlestorelaw25_Act))) (x33 : List ((BitVec 64) × Slinear_State)) (x42 : List (Int × Sneedlestorelaw25_doing)) (x50 : List (Shistory_Event)) (x53 x54 x88 : Int) (r1 : (List ((BitVec 64) × Slinear_State)) -> (List (Int × Sneedlestorelaw25_doing)) -> (List (Shistory_Event)) -> Int -> Int -> Option ((List (Shistory_Event)))) : Option ((List (Shistory_Event))) :=
  Option.bind (shri x88 (1 : Nat)) fun x127 =>
  Option.bind (rmi x127 (3 : Int)) fun x128 =>
  m_law25_atomic_l8 x3 x33 x42 x50 x53 x54 x88 r1 forever x128 (0 : Int)
def m_law25_atomic_j6 (x3 : (List (Sneedlestorelaw25_Act))) (x33 : List ((BitVec 64) × Slinear_State)) (x42 : List (Int × Sneedlestorelaw25_doing)) (x50 : List (Shistory_Event)) (x53 x54 x88 : Int) (r1 : (List ((BitVec 64) × Slinear_State)) -> (List (Int × Sneedlestorelaw25_doing)) -> (List (Shistory_Event)) -> Int -> Int -> Option ((List (Shistory_Event)))) (x95 : Bool) : Option ((List (Shistory_Event))) :=
  if x95 = true then
    Option.bind (idx x3 x53) fun x105 =>
    Option.bind (apd 72 x50 ([(Shistory_Event.mk (1 : Int) x105.fClient x105.fKind x105.fKey x105.fCookie ([x105.fData] : List (BitVec 8)) (0 : Int))] : List (Shistory_Event))) fun x113 =>
    Option.bind (ck (x53 + (1 : Int))) fun x125 =>
    m_law25_atomic_j3 x54 r1 x33 (mset x42 x105.fClient (Sneedlestorelaw25_doing.mk x53 (0 : Int) (0 : Int) ([] : List (BitVec 8)))) x113 x125
  else
    m_law25_atomic_j5 x3 x33 x42 x50 x53 x54 x88 r1
def m_law25_atomic_j4 (x3 : (List (Sneedlestorelaw25_Act))) (x33 : List ((BitVec 64) × Slinear_State)) (x42 : List (Int × Sneedlestorelaw25_doing)) (x50 : List (Shistory_Event)) (x53 x54 : Int) (r1 : (List ((BitVec 64) × Slinear_State)) -> (List (Int × Sneedlestorelaw25_doing)) -> (List (Shistory_Event)) -> Int -> Int -> Option ((List (Shistory_Event)))) (x88 : Int) : Option ((List (Shistory_Event))) :=
  if x53 < (x3.length : Int) then
    if (andi x88 (1 : Int)) = (0 : Int) then
      Option.bind (idx x3 x53) fun x100 =>
      m_law25_atomic_j6 x3 x33 x42 x50 x53 x54 x88 r1 ((mget x42 x100.fClient).isNone)
    else
      m_law25_atomic_j6 x3 x33 x42 x50 x53 x54 x88 r1 false
  else
    m_law25_atomic_j6 x3 x33 x42 x50 x53 x54 x88 r1 false
def m_law25_atomic_j2 (x01 : List (BitVec 8)) (x3 : (List (Sneedlestorelaw25_Act))) (x33 : List ((BitVec 64) × Slinear_State)) (x42 : List (Int × Sneedlestorelaw25_doing)) (x50 : List (Shistory_Event)) (x53 x54 : Int) (r1 : (List ((BitVec 64) × Slinear_State)) -> (List (Int × Sneedlestorelaw25_doing)) -> (List (Shistory_Event)) -> Int -> Int -> Option ((List (Shistory_Event)))) : Option ((List (Shistory_Event))) :=
  Option.bind (ck (x54 * (7 : Int))) fun x87 =>
  if x54 < (x01.length : Int) then
    Option.bind (idx x01 x54) fun x93 =>
    m_law25_atomic_j4 x3 x33 x42 x50 x53 x54 r1 (x93.toNat : Int)
  else
    m_law25_atomic_j4 x3 x33 x42 x50 x53 x54 r1 x87
def m_law25_atomic_j0 (x24 : List (Shistory_Event)) : Option ((List (Shistory_Event))) :=
  some (x24)
def m_law25_atomic_l1 (x01 : List (BitVec 8)) (x3 : (List (Sneedlestorelaw25_Act))) : Nat -> (List ((BitVec 64) × Slinear_State)) -> (List (Int × Sneedlestorelaw25_doing)) -> (List (Shistory_Event)) -> Int -> Int -> Option ((List (Shistory_Event)))
  | 0, _, _, _, _, _ => none
  | q55 + 1, x33, x42, x50, x53, x54 =>
    if x54 < (200 : Int) then
      if x53 < (x3.length : Int) then
        m_law25_atomic_j2 x01 x3 x33 x42 x50 x53 x54 (m_law25_atomic_l1 x01 x3 q55)
      else
        if (0 : Int) < (x42.length : Int) then
          m_law25_atomic_j2 x01 x3 x33 x42 x50 x53 x54 (m_law25_atomic_l1 x01 x3 q55)
        else
          m_law25_atomic_j0 x50
    else
      m_law25_atomic_j0 x50
def m_law25_atomic (x00 : List (Sneedlestorelaw25_Act)) (x01 : List (BitVec 8)) : Option ((List (Shistory_Event))) :=
  Option.bind (m_law25_short x00 (20 : Int)) fun x3 =>
  m_law25_atomic_l1 x01 x3 forever ([] : List ((BitVec 64) × Slinear_State)) ([] : List (Int × Sneedlestorelaw25_doing)) ([] : List (Shistory_Event)) (0 : Int) (0 : Int)
def m_law25_LinearAtomic_j0 (x48 : List (Shistory_Op)) : Option (Bool) :=
  Option.bind (m_linear_Check x48) fun x107 =>
  if x107.1 = true then
    if x107.2 = (0 : Int) then
      Option.bind (m_law25_awake) fun x112 =>
      some (x112)
    else
      some (false)
  else
    some (false)
def m_law25_LinearAtomic_l1 (x21 : (List (Shistory_Op)) × Int) (x54 : (List (BitVec 64))) : Nat -> Int -> Option (Bool)
  | 0, _ => none
  | q73 + 1, x72 =>
    if x72 < (x54.length : Int) then
      Option.bind (idx x54 x72) fun x80 =>
      Option.bind (m_history_Only x21.1 x80) fun x82 =>
      if (12 : Int) < (x82.length : Int) then
        Option.bind (m_law25_awake) fun x102 =>
        some (x102)
      else
        Option.bind (ck (x72 + (1 : Int))) fun x105 =>
        (m_law25_LinearAtomic_l1 x21 x54 q73) x105
    else
      m_law25_LinearAtomic_j0 x21.1
def m_law25_LinearAtomic (x00 : List (Sneedlestorelaw25_Act)) (x01 : List (BitVec 8)) : Option (Bool) :=
  Option.bind (m_law25_atomic x00 x01) fun x3 =>
  Option.bind (m_history_Build x3) fun x21 =>
  if x21.2 = (0 : Int) then
    Option.bind (m_history_Keys x21.1) fun x54 =>
    m_law25_LinearAtomic_l1 x21 x54 forever (0 : Int)
  else
    some (false)
end Go.Proofs.Ytkcccenekglkoaa
