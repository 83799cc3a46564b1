/- A part of the proof. Conditions: as each theorem says. -/
import Derived.Test.YthjnhlmfcejhkaaGreatX11
import Derived.OpenShut
import Derived.Test.YthjnhlmfcejhkaaGreatWke
import Derived.Test.YthjnhlmfcejhkaaGreatWko
import Derived.Test.YthjnhlmfcejhkaaGreatWkr
namespace Go.Proofs.YthjnhlmfcejhkaaGreat
set_option maxRecDepth 100000
open Go Go.RowKit
set_option linter.unusedVariables false
set_option linter.unusedSimpArgs false
theorem opn_array {H : Type} {enc : TypeId × Value -> H} {P : Program} {w : World} {base : Nat} {spare : Nat -> Bool} {held : Bool} {fuel : Nat} {t : TypeId} {cs : List Value} {x : DataW H × List MemPlace} {n : Nat} {e : TypeId} (ht : P.underlying t = some (.array n e)) (h : DataW.trod enc P w base spare held fuel t cs = some x) :
  ∃ m, ∀ i, i < n -> ∃ y, DataW.trod enc P w base spare held m e ((cs.drop (i * P.cellsOf e)).take (P.cellsOf e)) = some y := by
 obtain ⟨xs, m, _, _, _, hl, h2⟩ := DataW.trod_array ht h
 exact ⟨m, fun i hi => ⟨xs[i], by rw [h2 i hi, List.getElem?_eq_getElem (by omega)]⟩⟩
theorem opn_T5 {H : Type} {enc : TypeId × Value -> H} {w : World} {base : Nat} {spare : Nat -> Bool} {held : Bool} {fuel : Nat} {cs : List Value} {x : DataW H × List MemPlace} (h : DataW.trod enc Tryz.prog w base spare held fuel 5 cs = some x) : ∃ a : BitVec 8, cs = [U8 a] := opn_u8 Tryz.underlying5 h
theorem opn_T22 {H : Type} {enc : TypeId × Value -> H} {w : World} {base : Nat} {spare : Nat -> Bool} {held : Bool} {fuel : Nat} {cs : List Value} {x : DataW H × List MemPlace} (h : DataW.trod enc Tryz.prog w base spare held fuel 22 cs = some x) : ∃ (A : Option Addr) (n c : Nat) (a : List (BitVec 8)), cs = [.slice A n c] /\ SlT (Mem.snap w) A n c a /\ ∀ z ∈ a, True :=
 opn_slice (Q := fun z => True) Tryz.underlying22 (by kernel_rfl : Tryz.prog.cellsOf 5 = 1) (fun n cs y hy hl => let ⟨a, h1⟩ := opn_T5 hy; ⟨a, h1, trivial⟩) h
theorem opn_T3 {H : Type} {enc : TypeId × Value -> H} {w : World} {base : Nat} {spare : Nat -> Bool} {held : Bool} {fuel : Nat} {cs : List Value} {x : DataW H × List MemPlace} (h : DataW.trod enc Tryz.prog w base spare held fuel 3 cs = some x) : ∃ a : Int, cs = [I64 a] /\ (-9223372036854775808 <= a /\ a <= 9223372036854775807) := opn_i64 Tryz.underlying3 h
theorem opn_T2 {H : Type} {enc : TypeId × Value -> H} {w : World} {base : Nat} {spare : Nat -> Bool} {held : Bool} {fuel : Nat} {cs : List Value} {x : DataW H × List MemPlace} (h : DataW.trod enc Tryz.prog w base spare held fuel 2 cs = some x) : ∃ a : Int, cs = [I64 a] /\ (-9223372036854775808 <= a /\ a <= 9223372036854775807) := opn_i64 Tryz.underlying2 h
theorem opn_T57 {H : Type} {enc : TypeId × Value -> H} {w : World} {base : Nat} {spare : Nat -> Bool} {held : Bool} {fuel : Nat} {cs : List Value} {x : DataW H × List MemPlace} (h : DataW.trod enc Tryz.prog w base spare held fuel 57 cs = some x) : ∃ a : BitVec 64, cs = [U64 a] := opn_u64 Tryz.underlying57 h
theorem opn_T31 {H : Type} {enc : TypeId × Value -> H} {w : World} {base : Nat} {spare : Nat -> Bool} {held : Bool} {fuel : Nat} {cs : List Value} {x : DataW H × List MemPlace} (h : DataW.trod enc Tryz.prog w base spare held fuel 31 cs = some x) : ∃ a : BitVec 32, cs = [U32 a] := opn_u32 Tryz.underlying31 h
theorem opn_C59 {H : Type} {enc : TypeId × Value -> H} {w : World} {base : Nat} {spare : Nat -> Bool} {held : Bool} {fuel : Nat} {cs : List Value} {x : DataW H × List MemPlace} (h : DataW.trod enc Tryz.prog w base spare held fuel 59 cs = some x) : ∃ (a0 : BitVec 64) (a1 : BitVec 32) (a2 : Int) (a3 : Int), cs = [U64 a0, U32 a1, I64 a2, I64 a3] /\ (-9223372036854775808 <= a2 /\ a2 <= 9223372036854775807) /\ (-9223372036854775808 <= a3 /\ a3 <= 9223372036854775807) := by
 obtain ⟨hlh, nh, hfh⟩ := opn_struct Tryz.underlying59 h
 rw [show Tryz.prog.cellsOf 59 = 4 by kernel_rfl] at hlh
 match cs, hlh with
 | [d0, d1, d2, d3], _ =>
 obtain ⟨yh0_, h0_⟩ := hfh 0 _ rfl
 replace h0_ : DataW.trod enc Tryz.prog w base spare held nh 57 [d0] = some yh0_ := by
   have e : Tryz.prog.cellsOf 57 = 1 := by kernel_rfl
   have z := h0_
   change DataW.trod enc Tryz.prog w base spare held nh 57 (List.take (Tryz.prog.cellsOf 57) _) = some yh0_ at z
   rw [e] at z
   exact z
 obtain ⟨yh1_, h1_⟩ := hfh 1 _ rfl
 replace h1_ : DataW.trod enc Tryz.prog w base spare held nh 31 [d1] = some yh1_ := by
   have e : Tryz.prog.cellsOf 31 = 1 := by kernel_rfl
   have z := h1_
   change DataW.trod enc Tryz.prog w base spare held nh 31 (List.take (Tryz.prog.cellsOf 31) _) = some yh1_ at z
   rw [e] at z
   exact z
 obtain ⟨yh2_, h2_⟩ := hfh 2 _ rfl
 replace h2_ : DataW.trod enc Tryz.prog w base spare held nh 2 [d2] = some yh2_ := by
   have e : Tryz.prog.cellsOf 2 = 1 := by kernel_rfl
   have z := h2_
   change DataW.trod enc Tryz.prog w base spare held nh 2 (List.take (Tryz.prog.cellsOf 2) _) = some yh2_ at z
   rw [e] at z
   exact z
 obtain ⟨yh3_, h3_⟩ := hfh 3 _ rfl
 replace h3_ : DataW.trod enc Tryz.prog w base spare held nh 3 [d3] = some yh3_ := by
   have e : Tryz.prog.cellsOf 3 = 1 := by kernel_rfl
   have z := h3_
   change DataW.trod enc Tryz.prog w base spare held nh 3 (List.take (Tryz.prog.cellsOf 3) _) = some yh3_ at z
   rw [e] at z
   exact z
 obtain ⟨a0, e0⟩ := opn_T57 h0_
 injection e0 with e0; subst e0
 obtain ⟨a1, e1⟩ := opn_T31 h1_
 injection e1 with e1; subst e1
 obtain ⟨a2, e2, f2_0⟩ := opn_T2 h2_
 injection e2 with e2; subst e2
 obtain ⟨a3, e3, f3_0⟩ := opn_T3 h3_
 injection e3 with e3; subst e3
 exact ⟨a0, a1, a2, a3, rfl, f2_0, f3_0⟩
theorem opn_S59 {H : Type} {enc : TypeId × Value -> H} {w : World} {base : Nat} {spare : Nat -> Bool} {held : Bool} {fuel : Nat} {cs : List Value} {x : DataW H × List MemPlace} (h : DataW.trod enc Tryz.prog w base spare held fuel 59 cs = some x) : ∃ a : Sapi_Item, cs = Lay.enc a /\ ((-9223372036854775808 <= a.fOff /\ a.fOff <= 9223372036854775807) /\ (-9223372036854775808 <= a.fSize /\ a.fSize <= 9223372036854775807)) := by
 obtain ⟨a0, a1, a2, a3, e, f0, f1⟩ := opn_C59 h
 exact ⟨(Sapi_Item.mk a0 a1 a2 a3), e, ⟨f0, f1⟩⟩
theorem opn_T25 {H : Type} {enc : TypeId × Value -> H} {w : World} {base : Nat} {spare : Nat -> Bool} {held : Bool} {fuel : Nat} {cs : List Value} {x : DataW H × List MemPlace} (h : DataW.trod enc Tryz.prog w base spare held fuel 25 cs = some x) : ∃ (A : Option Addr) (n c : Nat) (a : List (Sapi_Item)), cs = [.slice A n c] /\ SlT (Mem.snap w) A n c a /\ ∀ z ∈ a, (-9223372036854775808 <= z.fOff /\ z.fOff <= 9223372036854775807) /\ (-9223372036854775808 <= z.fSize /\ z.fSize <= 9223372036854775807) :=
 opn_slice (Q := fun z => (-9223372036854775808 <= z.fOff /\ z.fOff <= 9223372036854775807) /\ (-9223372036854775808 <= z.fSize /\ z.fSize <= 9223372036854775807)) Tryz.underlying25 (by kernel_rfl : Tryz.prog.cellsOf 59 = 4) (fun n cs y hy hl => let ⟨a, h1, h2⟩ := opn_S59 hy; ⟨a, h1, h2⟩) h
theorem opn_T4 {H : Type} {enc : TypeId × Value -> H} {w : World} {base : Nat} {spare : Nat -> Bool} {held : Bool} {fuel : Nat} {cs : List Value} {x : DataW H × List MemPlace} (h : DataW.trod enc Tryz.prog w base spare held fuel 4 cs = some x) : ∃ a : Bool, cs = [.bool a] := opn_bool Tryz.underlying4 h
theorem opn_C77 {H : Type} {enc : TypeId × Value -> H} {w : World} {base : Nat} {spare : Nat -> Bool} {held : Bool} {fuel : Nat} {cs : List Value} {x : DataW H × List MemPlace} (h : DataW.trod enc Tryz.prog w base spare held fuel 77 cs = some x) : ∃ (a0 : BitVec 64) (a1 : BitVec 32) (a2 : Bool) (A3 : Option Addr) (n3 : Nat) (c3 : Nat) (a3 : List (BitVec 8)), cs = [U64 a0, U32 a1, .bool a2, .slice A3 n3 c3] /\ (SlT (Mem.snap w) A3 n3 c3 a3) /\ (∀ z ∈ a3, True) := by
 obtain ⟨hlh, nh, hfh⟩ := opn_struct Tryz.underlying77 h
 rw [show Tryz.prog.cellsOf 77 = 4 by kernel_rfl] at hlh
 match cs, hlh with
 | [d0, d1, d2, d3], _ =>
 obtain ⟨yh0_, h0_⟩ := hfh 0 _ rfl
 replace h0_ : DataW.trod enc Tryz.prog w base spare held nh 57 [d0] = some yh0_ := by
   have e : Tryz.prog.cellsOf 57 = 1 := by kernel_rfl
   have z := h0_
   change DataW.trod enc Tryz.prog w base spare held nh 57 (List.take (Tryz.prog.cellsOf 57) _) = some yh0_ at z
   rw [e] at z
   exact z
 obtain ⟨yh1_, h1_⟩ := hfh 1 _ rfl
 replace h1_ : DataW.trod enc Tryz.prog w base spare held nh 31 [d1] = some yh1_ := by
   have e : Tryz.prog.cellsOf 31 = 1 := by kernel_rfl
   have z := h1_
   change DataW.trod enc Tryz.prog w base spare held nh 31 (List.take (Tryz.prog.cellsOf 31) _) = some yh1_ at z
   rw [e] at z
   exact z
 obtain ⟨yh2_, h2_⟩ := hfh 2 _ rfl
 replace h2_ : DataW.trod enc Tryz.prog w base spare held nh 4 [d2] = some yh2_ := by
   have e : Tryz.prog.cellsOf 4 = 1 := by kernel_rfl
   have z := h2_
   change DataW.trod enc Tryz.prog w base spare held nh 4 (List.take (Tryz.prog.cellsOf 4) _) = some yh2_ at z
   rw [e] at z
   exact z
 obtain ⟨yh3_, h3_⟩ := hfh 3 _ rfl
 replace h3_ : DataW.trod enc Tryz.prog w base spare held nh 22 [d3] = some yh3_ := by
   have e : Tryz.prog.cellsOf 22 = 1 := by kernel_rfl
   have z := h3_
   change DataW.trod enc Tryz.prog w base spare held nh 22 (List.take (Tryz.prog.cellsOf 22) _) = some yh3_ at z
   rw [e] at z
   exact z
 obtain ⟨a0, e0⟩ := opn_T57 h0_
 injection e0 with e0; subst e0
 obtain ⟨a1, e1⟩ := opn_T31 h1_
 injection e1 with e1; subst e1
 obtain ⟨a2, e2⟩ := opn_T4 h2_
 injection e2 with e2; subst e2
 obtain ⟨A3, n3, c3, a3, e3, f3_0, f3_1⟩ := opn_T22 h3_
 injection e3 with e3; subst e3
 exact ⟨a0, a1, a2, A3, n3, c3, a3, rfl, f3_0, f3_1⟩
theorem opn_S77 {H : Type} {enc : TypeId × Value -> H} {w : World} {base : Nat} {spare : Nat -> Bool} {held : Bool} {fuel : Nat} {cs : List Value} {x : DataW H × List MemPlace} (h : DataW.trod enc Tryz.prog w base spare held fuel 77 cs = some x) : ∃ (r : Rapi_Needle) (a : Sapi_Needle), cs = Lay.enc r /\ rel_api_Needle (Mem.snap w) r a := by
 obtain ⟨a0, a1, a2, A3, n3, c3, a3, e, f0, f1⟩ := opn_C77 h
 exact ⟨⟨(Sapi_Needle.mk a0 a1 a2 a3), ⟨A3, n3, c3⟩⟩, (Sapi_Needle.mk a0 a1 a2 a3), e, ⟨rfl, f0⟩⟩
theorem opn_T26 {H : Type} {enc : TypeId × Value -> H} {w : World} {base : Nat} {spare : Nat -> Bool} {held : Bool} {fuel : Nat} {cs : List Value} {x : DataW H × List MemPlace} (h : DataW.trod enc Tryz.prog w base spare held fuel 26 cs = some x) : ∃ (A : Option Addr) (n c : Nat) (rs : List Rapi_Needle) (a : List (Sapi_Needle)), cs = [.slice A n c] /\ SlT (Mem.snap w) A n c rs /\ Rels (rel_api_Needle (Mem.snap w)) rs a /\ ∀ z ∈ a, True :=
 opn_deep (Q := fun z => True) Tryz.underlying26 (by kernel_rfl : Tryz.prog.cellsOf 77 = 4) (fun n cs y hy hl => let ⟨r, a, h1, h2⟩ := opn_S77 hy; ⟨r, a, h1, h2, trivial⟩) h
theorem opn_T30 {H : Type} {enc : TypeId × Value -> H} {w : World} {base : Nat} {spare : Nat -> Bool} {held : Bool} {fuel : Nat} {cs : List Value} {x : DataW H × List MemPlace} (h : DataW.trod enc Tryz.prog w base spare held fuel 30 cs = some x) : ∃ (A : Option Addr) (n c : Nat) (rs : List Hdr) (a : List (List (BitVec 8))), cs = [.slice A n c] /\ SlT (Mem.snap w) A n c rs /\ Rels ((RelB (α := BitVec 8)) (Mem.snap w)) rs a /\ ∀ z ∈ a, True :=
 opn_deep (Q := fun z => True) Tryz.underlying30 (by kernel_rfl : Tryz.prog.cellsOf 22 = 1) (fun n cs y hy hl => let ⟨A, n, c, a, h1, h2, h3⟩ := opn_T22 hy; ⟨⟨A, n, c⟩, a, h1, h2, trivial⟩) h
theorem opn_T45 {H : Type} {enc : TypeId × Value -> H} {w : World} {base : Nat} {spare : Nat -> Bool} {held : Bool} {fuel : Nat} {cs : List Value} {x : DataW H × List MemPlace} (h : DataW.trod enc Tryz.prog w base spare held fuel 45 cs = some x) : ∃ (A : Option Addr) (n c : Nat) (a : List (Int)), cs = [.slice A n c] /\ SlT (Mem.snap w) A n c a /\ ∀ z ∈ a, -9223372036854775808 <= z /\ z <= 9223372036854775807 :=
 opn_slice (Q := fun z => -9223372036854775808 <= z /\ z <= 9223372036854775807) Tryz.underlying45 (by kernel_rfl : Tryz.prog.cellsOf 3 = 1) (fun n cs y hy hl => let ⟨a, h1, h2⟩ := opn_T3 hy; ⟨a, h1, h2⟩) h
theorem opn_C38 {H : Type} {enc : TypeId × Value -> H} {w : World} {base : Nat} {spare : Nat -> Bool} {held : Bool} {fuel : Nat} {cs : List Value} {x : DataW H × List MemPlace} (h : DataW.trod enc Tryz.prog w base spare held fuel 38 cs = some x) : ∃ (a0 : Int) (a1 : Int) (a2 : Int) (a3 : Int) (a4 : BitVec 32) (a5 : BitVec 32) (a6 : BitVec 32) (a7 : BitVec 32) (a8 : BitVec 32) (a9 : BitVec 32) (A10 : Option Addr) (n10 : Nat) (c10 : Nat) (a10 : List (Sapi_Item)), cs = [I64 a0, I64 a1, I64 a2, I64 a3, U32 a4, U32 a5, U32 a6, U32 a7, U32 a8, U32 a9, .slice A10 n10 c10] /\ (-9223372036854775808 <= a0 /\ a0 <= 9223372036854775807) /\ (-9223372036854775808 <= a1 /\ a1 <= 9223372036854775807) /\ (-9223372036854775808 <= a2 /\ a2 <= 9223372036854775807) /\ (-9223372036854775808 <= a3 /\ a3 <= 9223372036854775807) /\ (SlT (Mem.snap w) A10 n10 c10 a10) /\ (∀ z ∈ a10, (-9223372036854775808 <= z.fOff /\ z.fOff <= 9223372036854775807) /\ (-9223372036854775808 <= z.fSize /\ z.fSize <= 9223372036854775807)) := by
 obtain ⟨hlh, nh, hfh⟩ := opn_struct Tryz.underlying38 h
 rw [show Tryz.prog.cellsOf 38 = 11 by kernel_rfl] at hlh
 match cs, hlh with
 | [d0, d1, d2, d3, d4, d5, d6, d7, d8, d9, d10], _ =>
 obtain ⟨yh0_, h0_⟩ := hfh 0 _ rfl
 replace h0_ : DataW.trod enc Tryz.prog w base spare held nh 24 [d0, d1, d2] = some yh0_ := by
   have e : Tryz.prog.cellsOf 24 = 3 := by kernel_rfl
   have z := h0_
   change DataW.trod enc Tryz.prog w base spare held nh 24 (List.take (Tryz.prog.cellsOf 24) _) = some yh0_ at z
   rw [e] at z
   exact z
 obtain ⟨hlh0_, nh0_, hfh0_⟩ := opn_struct Tryz.underlying24 h0_
 obtain ⟨yh0_0_, h0_0_⟩ := hfh0_ 0 _ rfl
 replace h0_0_ : DataW.trod enc Tryz.prog w base spare held nh0_ 3 [d0] = some yh0_0_ := by
   have e : Tryz.prog.cellsOf 3 = 1 := by kernel_rfl
   have z := h0_0_
   change DataW.trod enc Tryz.prog w base spare held nh0_ 3 (List.take (Tryz.prog.cellsOf 3) _) = some yh0_0_ at z
   rw [e] at z
   exact z
 obtain ⟨yh0_1_, h0_1_⟩ := hfh0_ 1 _ rfl
 replace h0_1_ : DataW.trod enc Tryz.prog w base spare held nh0_ 3 [d1] = some yh0_1_ := by
   have e : Tryz.prog.cellsOf 3 = 1 := by kernel_rfl
   have z := h0_1_
   change DataW.trod enc Tryz.prog w base spare held nh0_ 3 (List.take (Tryz.prog.cellsOf 3) _) = some yh0_1_ at z
   rw [e] at z
   exact z
 obtain ⟨yh0_2_, h0_2_⟩ := hfh0_ 2 _ rfl
 replace h0_2_ : DataW.trod enc Tryz.prog w base spare held nh0_ 2 [d2] = some yh0_2_ := by
   have e : Tryz.prog.cellsOf 2 = 1 := by kernel_rfl
   have z := h0_2_
   change DataW.trod enc Tryz.prog w base spare held nh0_ 2 (List.take (Tryz.prog.cellsOf 2) _) = some yh0_2_ at z
   rw [e] at z
   exact z
 obtain ⟨yh1_, h1_⟩ := hfh 1 _ rfl
 replace h1_ : DataW.trod enc Tryz.prog w base spare held nh 2 [d3] = some yh1_ := by
   have e : Tryz.prog.cellsOf 2 = 1 := by kernel_rfl
   have z := h1_
   change DataW.trod enc Tryz.prog w base spare held nh 2 (List.take (Tryz.prog.cellsOf 2) _) = some yh1_ at z
   rw [e] at z
   exact z
 obtain ⟨yh2_, h2_⟩ := hfh 2 _ rfl
 replace h2_ : DataW.trod enc Tryz.prog w base spare held nh 32 [d4, d5, d6, d7, d8, d9] = some yh2_ := by
   have e : Tryz.prog.cellsOf 32 = 6 := by kernel_rfl
   have z := h2_
   change DataW.trod enc Tryz.prog w base spare held nh 32 (List.take (Tryz.prog.cellsOf 32) _) = some yh2_ at z
   rw [e] at z
   exact z
 obtain ⟨nh2_, hfh2_⟩ := opn_array Tryz.underlying32 h2_
 obtain ⟨yh2_0_, h2_0_⟩ := hfh2_ 0 (by omega)
 replace h2_0_ : DataW.trod enc Tryz.prog w base spare held nh2_ 31 [d4] = some yh2_0_ := by
   have e : Tryz.prog.cellsOf 31 = 1 := by kernel_rfl
   have z := h2_0_
   rw [e] at z
   exact z
 obtain ⟨yh2_1_, h2_1_⟩ := hfh2_ 1 (by omega)
 replace h2_1_ : DataW.trod enc Tryz.prog w base spare held nh2_ 31 [d5] = some yh2_1_ := by
   have e : Tryz.prog.cellsOf 31 = 1 := by kernel_rfl
   have z := h2_1_
   rw [e] at z
   exact z
 obtain ⟨yh2_2_, h2_2_⟩ := hfh2_ 2 (by omega)
 replace h2_2_ : DataW.trod enc Tryz.prog w base spare held nh2_ 31 [d6] = some yh2_2_ := by
   have e : Tryz.prog.cellsOf 31 = 1 := by kernel_rfl
   have z := h2_2_
   rw [e] at z
   exact z
 obtain ⟨yh2_3_, h2_3_⟩ := hfh2_ 3 (by omega)
 replace h2_3_ : DataW.trod enc Tryz.prog w base spare held nh2_ 31 [d7] = some yh2_3_ := by
   have e : Tryz.prog.cellsOf 31 = 1 := by kernel_rfl
   have z := h2_3_
   rw [e] at z
   exact z
 obtain ⟨yh2_4_, h2_4_⟩ := hfh2_ 4 (by omega)
 replace h2_4_ : DataW.trod enc Tryz.prog w base spare held nh2_ 31 [d8] = some yh2_4_ := by
   have e : Tryz.prog.cellsOf 31 = 1 := by kernel_rfl
   have z := h2_4_
   rw [e] at z
   exact z
 obtain ⟨yh2_5_, h2_5_⟩ := hfh2_ 5 (by omega)
 replace h2_5_ : DataW.trod enc Tryz.prog w base spare held nh2_ 31 [d9] = some yh2_5_ := by
   have e : Tryz.prog.cellsOf 31 = 1 := by kernel_rfl
   have z := h2_5_
   rw [e] at z
   exact z
 obtain ⟨yh3_, h3_⟩ := hfh 3 _ rfl
 replace h3_ : DataW.trod enc Tryz.prog w base spare held nh 25 [d10] = some yh3_ := by
   have e : Tryz.prog.cellsOf 25 = 1 := by kernel_rfl
   have z := h3_
   change DataW.trod enc Tryz.prog w base spare held nh 25 (List.take (Tryz.prog.cellsOf 25) _) = some yh3_ at z
   rw [e] at z
   exact z
 obtain ⟨a0, e0, f0_0⟩ := opn_T3 h0_0_
 injection e0 with e0; subst e0
 obtain ⟨a1, e1, f1_0⟩ := opn_T3 h0_1_
 injection e1 with e1; subst e1
 obtain ⟨a2, e2, f2_0⟩ := opn_T2 h0_2_
 injection e2 with e2; subst e2
 obtain ⟨a3, e3, f3_0⟩ := opn_T2 h1_
 injection e3 with e3; subst e3
 obtain ⟨a4, e4⟩ := opn_T31 h2_0_
 injection e4 with e4; subst e4
 obtain ⟨a5, e5⟩ := opn_T31 h2_1_
 injection e5 with e5; subst e5
 obtain ⟨a6, e6⟩ := opn_T31 h2_2_
 injection e6 with e6; subst e6
 obtain ⟨a7, e7⟩ := opn_T31 h2_3_
 injection e7 with e7; subst e7
 obtain ⟨a8, e8⟩ := opn_T31 h2_4_
 injection e8 with e8; subst e8
 obtain ⟨a9, e9⟩ := opn_T31 h2_5_
 injection e9 with e9; subst e9
 obtain ⟨A10, n10, c10, a10, e10, f10_0, f10_1⟩ := opn_T25 h3_
 injection e10 with e10; subst e10
 exact ⟨a0, a1, a2, a3, a4, a5, a6, a7, a8, a9, A10, n10, c10, a10, rfl, f0_0, f1_0, f2_0, f3_0, f10_0, f10_1⟩
end Go.Proofs.YthjnhlmfcejhkaaGreat
