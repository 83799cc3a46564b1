/-
 Walks (a): what a function's model gives, the function returns. Printed by a program of ours (vcm.py) from the function's operations. Conditions: as each theorem says.
-/
import Derived.Test.YtkcccenekglkoaaX18
import Derived.Test.YtkcccenekglkoaaProg
import Derived.Test.YtkcccenekglkoaaMda
import Derived.Test.YtkcccenekglkoaaX22
namespace Go.Proofs.Ytkcccenekglkoaa
set_option maxRecDepth 10000
open Go Go.RowKit
set_option linter.unusedVariables false
theorem und_23 : Try.prog.underlying 23 = some (.slice 5) := by kernel_rfl
theorem und_46 : Try.prog.underlying 46 = some (.slice 39) := by kernel_rfl
theorem agg_39 : Agg Try.prog 39 10 := ⟨⟨_, Try.underlying39, rfl⟩, by kernel_rfl⟩
theorem mixed : Try.prog.follows .mixedOrders = true := by kernel_rfl
theorem nm_31 : (Try.f31.name == "runtime.NumGoroutine") = false := by kernel_rfl
theorem nz_22 : (Try.prog.info? 22).map (fun i => decide (i.size = 0)) = some false := by kernel_rfl
theorem nz_23 : (Try.prog.info? 23).map (fun i => decide (i.size = 0)) = some false := by kernel_rfl
theorem nz_26 : (Try.prog.info? 26).map (fun i => decide (i.size = 0)) = some false := by kernel_rfl
theorem nz_27 : (Try.prog.info? 27).map (fun i => decide (i.size = 0)) = some false := by kernel_rfl
theorem nz_3 : (Try.prog.info? 3).map (fun i => decide (i.size = 0)) = some false := by kernel_rfl
theorem scal_22 : scal Try.prog 22 = true := by kernel_rfl
theorem scal_23 : scal Try.prog 23 = true := by kernel_rfl
theorem scal_26 : scal Try.prog 26 = true := by kernel_rfl
theorem scal_27 : scal Try.prog 27 = true := by kernel_rfl
theorem scal_3 : scal Try.prog 3 = true := by kernel_rfl
theorem scal_46 : scal Try.prog 46 = true := by kernel_rfl
theorem siz_23 : (Try.prog.info? 23).map (·.size) = some 1 := by kernel_rfl
theorem siz_27 : (Try.prog.info? 27).map (·.size) = some 1 := by kernel_rfl
theorem siz_3 : (Try.prog.info? 3).map (·.size) = some 1 := by kernel_rfl
theorem sty_23 : STy Try.prog 23 5 (U8 0#8) 1 1 := STy.of und_23 (by kernel_rfl) rfl
theorem sty_46 : STy Try.prog 46 39 (.agg #[(I64 0), (I64 0), (U64 0#64), (U32 0#32), (.slice none 0 0), (.slice none 0 0), (I64 0), (I64 0), (I64 0), (I64 0)]) 10 112 := STy.of und_46 (by kernel_rfl) rfl
theorem zr_39 : (Try.prog.info? 39).map (fun i => i.zero.map (·.cells)) = some (some ([I64 (0 : Int), I64 (0 : Int), U64 0#64, U32 0#32, .slice none 0 0, .slice none 0 0, I64 (0 : Int), I64 (0 : Int), I64 (0 : Int), I64 (0 : Int)] : List Value).toArray) := by kernel_rfl
structure Rhistory_Op where
 x : Shistory_Op
 h0 : Hdr
 h1 : Hdr
instance : Lay Rhistory_Op := ⟨10, fun r => [I64 r.x.fClient, I64 r.x.fKind, U64 r.x.fKey, U32 r.x.fCookie, .slice r.h0.A r.h0.n r.h0.c, .slice r.h1.A r.h1.n r.h1.c, I64 r.x.fCall, I64 r.x.fReturn, I64 r.x.fClosed, I64 r.x.fResult], fun _ => rfl, fun _ u h => by simp only [List.mem_cons, List.not_mem_nil, or_false] at h; rcases h with rfl | rfl | rfl | rfl | rfl | rfl | rfl | rfl | rfl | rfl <;> rfl, by decide⟩
def rel_history_Op (M : Mem) (r : Rhistory_Op) (x : Shistory_Op) : Prop := x = r.x /\ (RelB (α := BitVec 8)) M r.h0 x.fData /\ (RelB (α := BitVec 8)) M r.h1 x.fGot
instance : Mono rel_history_Op := ⟨fun ⟨h0, h1, h2⟩ hm => ⟨h0, Mono.mono h1 hm, Mono.mono h2 hm⟩⟩
namespace Z
end Z
theorem w_history_known (M0 : Mem) (x00 : Int) {res : Bool} (h : m_history_known x00 = some res) :
  Fn Try.prog 38 #[I64 x00] M0 fun r M' es => r = .bool res /\ es = [] := by
 refine Fn.intro (N := 9) Try.func38 rfl rfl (Nat.le_of_ble_eq_true rfl) fun w0 => ?_
 unfold m_history_known at h
 refine sr fun _ k1 => asn rfl <| dn <| k1 _ _ <| sr fun _ k2 => mv rfl <| ya (Yld.geq rfl rfl) <| mv rfl <| spl h decide_eq_true decide_eq_false (fun hc3 h => ?_) fun hc3 h => ?_
 ·refine mvg rfl <| yg (Yld.leq rfl rfl) <| pt rfl rfl <| asn rfl <| dn <| k2 _ _ <| re ?_
  injection h with h; subst h
  exact rt0 (ResIs.one rfl rfl)
 refine sk <| sk <| pf rfl rfl <| asn rfl <| dn <| k2 _ _ <| re ?_
 injection h with h; subst h
 exact rt0 (ResIs.one rfl rfl)
theorem w_bytes_Clone (M0 : Mem) (A00 : Option Addr) (n00 c00 : Nat) (x00 : List (BitVec 8)) (hf00 : SlT M0 A00 n00 c00 x00) {res : (List (BitVec 8))} (h : m_bytes_Clone x00 = some res) :
  Fn Try.prog 31 #[.slice A00 n00 c00] M0 fun r M' es => ∃ (A1 : Option Addr) (n1 c1 : Nat), r = .slice A1 n1 c1 /\ es = [.own 5 (Lay.sz (BitVec 8)) A1 n1 c1 (cel res)] := by
 refine Fn.intro (N := 8) Try.func31 rfl rfl (Nat.le_of_ble_eq_true rfl) fun w0 => ?_
 unfold m_bytes_Clone at h
 refine sr fun _ k1 => asn rfl <| dn <| k1 _ _ <| sq fun _ k2 => sr fun _ k3 => mv rfl <| ya (Yld.eqlNil und_23 rfl rfl) <| dn <| k3 _ _ ?_
 by_cases hA4 : A00 = none
 ·have hz := nil_of hf00 hA4
  subst hz
  replace h : some ([] : List (BitVec 8)) = some res := h
  refine WC.condTe rfl (by rw [hA4]; rfl) <| sr fun _ k5 => asn rfl <| dn <| k5 _ _ <| re <| tr <| QK.nilOwn 106 5 (Lay.sz (BitVec 8)) none ?_
  injection h with h; subst h
  exact rt [106] (ResIs.one rfl rfl) (Ext.refl _ _) ⟨none, 0, 0, rfl, rfl⟩
 skip
 refine WC.condFe rfl (isNone_ne hA4) <| ss <| k2 _ _ <| sr fun _ k7 => ?_
 obtain ⟨x9, hx9, h⟩ := bnd h
 refine WL.eff (by decide) (Eff.buildC 108 ([] : List (BitVec 8)) sty_23 rfl rfl rfl rfl rfl (by decide)) ?_
 rintro _ _ ⟨g8, rfl, rfl⟩
 refine mv rfl <| ap 108 (xs := ([] : List (BitVec 8))) (ys := x00) sty_23 rfl rfl rfl (RdH.memM (k := 0) rfl hf00) hx9 fun A10 c11 => asn rfl <| dn <| k7 _ _ <| re ?_
 injection h with h; subst h
 exact rt [108] (ResIs.one rfl rfl) (Ext.refl _ _) ⟨A10, x9.length, c11, rfl, rfl⟩
end Go.Proofs.Ytkcccenekglkoaa
