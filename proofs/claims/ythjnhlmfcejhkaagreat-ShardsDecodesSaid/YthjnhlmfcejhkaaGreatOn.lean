/- A part of the proof. Conditions: as each theorem says. -/
import Derived.Test.YthjnhlmfcejhkaaGreatX11
import Derived.OpenShut
import Derived.Test.YthjnhlmfcejhkaaGreatWke
import Derived.Test.YthjnhlmfcejhkaaGreatWko
import Derived.Test.YthjnhlmfcejhkaaGreatWkr
namespace Go.Proofs.YthjnhlmfcejhkaaGreat
set_option maxRecDepth 100000
open Go Go.RowKit
set_option linter.unusedVariables false
set_option linter.unusedSimpArgs false
theorem opn_T5 {H : Type} {enc : TypeId × Value -> H} {w : World} {base : Nat} {spare : Nat -> Bool} {held : Bool} {fuel : Nat} {cs : List Value} {x : DataW H × List MemPlace} (h : DataW.trod enc Tryz.prog w base spare held fuel 5 cs = some x) : ∃ a : BitVec 8, cs = [U8 a] := opn_u8 Tryz.underlying5 h
theorem opn_T22 {H : Type} {enc : TypeId × Value -> H} {w : World} {base : Nat} {spare : Nat -> Bool} {held : Bool} {fuel : Nat} {cs : List Value} {x : DataW H × List MemPlace} (h : DataW.trod enc Tryz.prog w base spare held fuel 22 cs = some x) : ∃ (A : Option Addr) (n c : Nat) (a : List (BitVec 8)), cs = [.slice A n c] /\ SlT (Mem.snap w) A n c a /\ ∀ z ∈ a, True :=
 opn_slice (Q := fun z => True) Tryz.underlying22 (by kernel_rfl : Tryz.prog.cellsOf 5 = 1) (fun n cs y hy hl => let ⟨a, h1⟩ := opn_T5 hy; ⟨a, h1, trivial⟩) h
theorem opn_T3 {H : Type} {enc : TypeId × Value -> H} {w : World} {base : Nat} {spare : Nat -> Bool} {held : Bool} {fuel : Nat} {cs : List Value} {x : DataW H × List MemPlace} (h : DataW.trod enc Tryz.prog w base spare held fuel 3 cs = some x) : ∃ a : Int, cs = [I64 a] /\ (-9223372036854775808 <= a /\ a <= 9223372036854775807) := opn_i64 Tryz.underlying3 h
theorem opn_T57 {H : Type} {enc : TypeId × Value -> H} {w : World} {base : Nat} {spare : Nat -> Bool} {held : Bool} {fuel : Nat} {cs : List Value} {x : DataW H × List MemPlace} (h : DataW.trod enc Tryz.prog w base spare held fuel 57 cs = some x) : ∃ a : BitVec 64, cs = [U64 a] := opn_u64 Tryz.underlying57 h
theorem opn_T31 {H : Type} {enc : TypeId × Value -> H} {w : World} {base : Nat} {spare : Nat -> Bool} {held : Bool} {fuel : Nat} {cs : List Value} {x : DataW H × List MemPlace} (h : DataW.trod enc Tryz.prog w base spare held fuel 31 cs = some x) : ∃ a : BitVec 32, cs = [U32 a] := opn_u32 Tryz.underlying31 h
theorem opn_T4 {H : Type} {enc : TypeId × Value -> H} {w : World} {base : Nat} {spare : Nat -> Bool} {held : Bool} {fuel : Nat} {cs : List Value} {x : DataW H × List MemPlace} (h : DataW.trod enc Tryz.prog w base spare held fuel 4 cs = some x) : ∃ a : Bool, cs = [.bool a] := opn_bool Tryz.underlying4 h
theorem opn_C77 {H : Type} {enc : TypeId × Value -> H} {w : World} {base : Nat} {spare : Nat -> Bool} {held : Bool} {fuel : Nat} {cs : List Value} {x : DataW H × List MemPlace} (h : DataW.trod enc Tryz.prog w base spare held fuel 77 cs = some x) : ∃ (a0 : BitVec 64) (a1 : BitVec 32) (a2 : Bool) (A3 : Option Addr) (n3 : Nat) (c3 : Nat) (a3 : List (BitVec 8)), cs = [U64 a0, U32 a1, .bool a2, .slice A3 n3 c3] /\ (SlT (Mem.snap w) A3 n3 c3 a3) /\ (∀ z ∈ a3, True) := by
 obtain ⟨hlh, nh, hfh⟩ := opn_struct Tryz.underlying77 h
 rw [show Tryz.prog.cellsOf 77 = 4 by kernel_rfl] at hlh
 match cs, hlh with
 | [d0, d1, d2, d3], _ =>
 obtain ⟨yh0_, h0_⟩ := hfh 0 _ rfl
 replace h0_ : DataW.trod enc Tryz.prog w base spare held nh 57 [d0] = some yh0_ := by
   have e : Tryz.prog.cellsOf 57 = 1 := by kernel_rfl
   have z := h0_
   change DataW.trod enc Tryz.prog w base spare held nh 57 (List.take (Tryz.prog.cellsOf 57) _) = some yh0_ at z
   rw [e] at z
   exact z
 obtain ⟨yh1_, h1_⟩ := hfh 1 _ rfl
 replace h1_ : DataW.trod enc Tryz.prog w base spare held nh 31 [d1] = some yh1_ := by
   have e : Tryz.prog.cellsOf 31 = 1 := by kernel_rfl
   have z := h1_
   change DataW.trod enc Tryz.prog w base spare held nh 31 (List.take (Tryz.prog.cellsOf 31) _) = some yh1_ at z
   rw [e] at z
   exact z
 obtain ⟨yh2_, h2_⟩ := hfh 2 _ rfl
 replace h2_ : DataW.trod enc Tryz.prog w base spare held nh 4 [d2] = some yh2_ := by
   have e : Tryz.prog.cellsOf 4 = 1 := by kernel_rfl
   have z := h2_
   change DataW.trod enc Tryz.prog w base spare held nh 4 (List.take (Tryz.prog.cellsOf 4) _) = some yh2_ at z
   rw [e] at z
   exact z
 obtain ⟨yh3_, h3_⟩ := hfh 3 _ rfl
 replace h3_ : DataW.trod enc Tryz.prog w base spare held nh 22 [d3] = some yh3_ := by
   have e : Tryz.prog.cellsOf 22 = 1 := by kernel_rfl
   have z := h3_
   change DataW.trod enc Tryz.prog w base spare held nh 22 (List.take (Tryz.prog.cellsOf 22) _) = some yh3_ at z
   rw [e] at z
   exact z
 obtain ⟨a0, e0⟩ := opn_T57 h0_
 injection e0 with e0; subst e0
 obtain ⟨a1, e1⟩ := opn_T31 h1_
 injection e1 with e1; subst e1
 obtain ⟨a2, e2⟩ := opn_T4 h2_
 injection e2 with e2; subst e2
 obtain ⟨A3, n3, c3, a3, e3, f3_0, f3_1⟩ := opn_T22 h3_
 injection e3 with e3; subst e3
 exact ⟨a0, a1, a2, A3, n3, c3, a3, rfl, f3_0, f3_1⟩
theorem opn_S77 {H : Type} {enc : TypeId × Value -> H} {w : World} {base : Nat} {spare : Nat -> Bool} {held : Bool} {fuel : Nat} {cs : List Value} {x : DataW H × List MemPlace} (h : DataW.trod enc Tryz.prog w base spare held fuel 77 cs = some x) : ∃ (r : Rapi_Needle) (a : Sapi_Needle), cs = Lay.enc r /\ rel_api_Needle (Mem.snap w) r a := by
 obtain ⟨a0, a1, a2, A3, n3, c3, a3, e, f0, f1⟩ := opn_C77 h
 exact ⟨⟨(Sapi_Needle.mk a0 a1 a2 a3), ⟨A3, n3, c3⟩⟩, (Sapi_Needle.mk a0 a1 a2 a3), e, ⟨rfl, f0⟩⟩
theorem opn_T26 {H : Type} {enc : TypeId × Value -> H} {w : World} {base : Nat} {spare : Nat -> Bool} {held : Bool} {fuel : Nat} {cs : List Value} {x : DataW H × List MemPlace} (h : DataW.trod enc Tryz.prog w base spare held fuel 26 cs = some x) : ∃ (A : Option Addr) (n c : Nat) (rs : List Rapi_Needle) (a : List (Sapi_Needle)), cs = [.slice A n c] /\ SlT (Mem.snap w) A n c rs /\ Rels (rel_api_Needle (Mem.snap w)) rs a /\ ∀ z ∈ a, True :=
 opn_deep (Q := fun z => True) Tryz.underlying26 (by kernel_rfl : Tryz.prog.cellsOf 77 = 4) (fun n cs y hy hl => let ⟨r, a, h1, h2⟩ := opn_S77 hy; ⟨r, a, h1, h2, trivial⟩) h
end Go.Proofs.YthjnhlmfcejhkaaGreat
