/-
 Walks (a): what a function's model gives, the function returns. Printed by a program of ours (vcm.py) from the function's operations. Conditions: as each theorem says.
-/
import Derived.Test.YtcncappgheopgaaZ2
import Derived.Test.YtcncappgheopgaaProg
import Derived.Test.YtcncappgheopgaaMda
namespace Go.Proofs.Ytcncappgheopgaa
open Go Go.RowKit
set_option linter.unusedVariables false

theorem und_22 : Try.prog.underlying 22 = some (.slice 3) := by kernel_rfl
theorem nm_7 : (Try.f7.name == "runtime.NumGoroutine") = false := by kernel_rfl
theorem nm_9 : (Try.f9.name == "runtime.NumGoroutine") = false := by kernel_rfl
theorem nz_2 : (Try.prog.info? 2).map (fun i => decide (i.size = 0)) = some false := by kernel_rfl
theorem nz_3 : (Try.prog.info? 3).map (fun i => decide (i.size = 0)) = some false := by kernel_rfl
theorem scal_2 : scal Try.prog 2 = true := by kernel_rfl
theorem scal_22 : scal Try.prog 22 = true := by kernel_rfl
theorem scal_3 : scal Try.prog 3 = true := by kernel_rfl
theorem siz_22 : (Try.prog.info? 22).map (·.size) = some 1 := by kernel_rfl
theorem siz_3 : (Try.prog.info? 3).map (·.size) = some 1 := by kernel_rfl
theorem sty_22 : STy Try.prog 22 3 (I64 0) 1 8 := STy.of und_22 (by kernel_rfl) rfl
theorem zr_22 : (Try.prog.info? 22).map (fun i => i.zero.map (·.cells)) = some (some ([.slice none 0 0] : List Value).toArray) := by kernel_rfl

set_option maxRecDepth 10000 in
theorem w_superblock_Valid (M0 : Mem) (x00_0 : Int) (x00_1 : Int) (x00_2 : Int) {res : Bool} (h : m_superblock_Valid x00_0 x00_1 x00_2 = some res) :
  Fn Try.prog 18 #[.agg ([I64 x00_0, I64 x00_1, I64 x00_2] : List Value).toArray] M0 fun r M' es => r = .bool res ∧ es = [] := by
 refine Fn.intro (N := 31) Try.func18 rfl rfl (Nat.le_of_ble_eq_true rfl) fun w0 => ?_
 unfold m_superblock_Valid at h
 refine WC.seqRegion fun K1 hK1 => ?_
 refine WL.eff (by decide) (Eff.box 102 (us := [I64 x00_0, I64 x00_1, I64 x00_2]) rfl rfl rfl) ?_
 rintro _ _ ⟨g2, rfl, rfl⟩
 refine WL.yld (by decide) (Yld.assign rfl) ?_
 refine WL.done (hK1 _ _ ?_)
 refine WC.seqRegion fun K3 hK3 => ?_
 by_cases hc4 : (0 : Int) ≤ x00_0
 ·
  replace h := of_t hc4 h
  by_cases hc5 : x00_0 < (4 : Int)
  ·
   replace h := of_t hc5 h
   by_cases hc6 : (1 : Int) ≤ x00_1
   ·
    replace h := of_t hc6 h
    by_cases hc7 : x00_1 ≤ (8 : Int)
    ·
     replace h := of_t hc7 h
     by_cases hc8 : (0 : Int) ≤ x00_2
     ·
      replace h := of_t hc8 h
      refine WL.yld (by decide) (Yld.fieldAddr Try.underlying39 rfl nz_3 rfl rfl) ?_
      refine WL.yld (by decide) (Yld.loadB (k := 102) scal_3 rfl rfl rfl) ?_
      refine WL.yld (by decide) (Yld.geq rfl rfl) ?_
      refine WL.yld (by decide) (Yld.move rfl) ?_
      refine WL.new (v' := .bool true) (congrArg Value.bool (decide_eq_true hc4)) ?_
      refine WL.yldG (by decide) rfl (Yld.fieldAddr Try.underlying39 rfl nz_3 rfl rfl) ?_
      refine WL.yldG (by decide) rfl (Yld.loadB (k := 102) scal_3 rfl rfl rfl) ?_
      refine WL.yldG (by decide) rfl (Yld.lss rfl rfl) ?_
      refine WL.yld (by decide) (Yld.pickT rfl rfl) ?_
      refine WL.yld (by decide) (Yld.move rfl) ?_
      refine WL.new (v' := .bool true) (congrArg Value.bool (decide_eq_true hc5)) ?_
      refine WL.yldG (by decide) rfl (Yld.fieldAddr Try.underlying39 rfl nz_3 rfl rfl) ?_
      refine WL.yldG (by decide) rfl (Yld.loadB (k := 102) scal_3 rfl rfl rfl) ?_
      refine WL.yldG (by decide) rfl (Yld.geq rfl rfl) ?_
      refine WL.yld (by decide) (Yld.pickT rfl rfl) ?_
      refine WL.yld (by decide) (Yld.move rfl) ?_
      refine WL.new (v' := .bool true) (congrArg Value.bool (decide_eq_true hc6)) ?_
      refine WL.yldG (by decide) rfl (Yld.fieldAddr Try.underlying39 rfl nz_3 rfl rfl) ?_
      refine WL.yldG (by decide) rfl (Yld.loadB (k := 102) scal_3 rfl rfl rfl) ?_
      refine WL.yldG (by decide) rfl (Yld.leq rfl rfl) ?_
      refine WL.yld (by decide) (Yld.pickT rfl rfl) ?_
      refine WL.yld (by decide) (Yld.move rfl) ?_
      refine WL.new (v' := .bool true) (congrArg Value.bool (decide_eq_true hc7)) ?_
      refine WL.yldG (by decide) rfl (Yld.fieldAddr Try.underlying39 rfl nz_2 rfl rfl) ?_
      refine WL.yldG (by decide) rfl (Yld.loadB (k := 102) scal_2 rfl rfl rfl) ?_
      refine WL.yldG (by decide) rfl (Yld.geq rfl rfl) ?_
      refine WL.yld (by decide) (Yld.pickT rfl rfl) ?_
      refine WL.yld (by decide) (Yld.move rfl) ?_
      refine WL.new (v' := .bool true) (congrArg Value.bool (decide_eq_true hc8)) ?_
      refine WL.yldG (by decide) rfl (Yld.fieldAddr Try.underlying39 rfl nz_2 rfl rfl) ?_
      refine WL.yldG (by decide) rfl (Yld.loadB (k := 102) scal_2 rfl rfl rfl) ?_
      refine WL.yldG (by decide) rfl (Yld.leq rfl rfl) ?_
      refine WL.yld (by decide) (Yld.pickT rfl rfl) ?_
      refine WL.yld (by decide) (Yld.assign rfl) ?_
      refine WL.done (hK3 _ _ ?_)
      refine WC.ret ?_
      injection h with h; subst h
      exact Ret.fn [] (ResIs.one rfl rfl) rfl (Ext.refl _ _) rfl (by decide) rfl rfl ⟨rfl, rfl⟩
     ·
      replace h := of_f hc8 h
      refine WL.yld (by decide) (Yld.fieldAddr Try.underlying39 rfl nz_3 rfl rfl) ?_
      refine WL.yld (by decide) (Yld.loadB (k := 102) scal_3 rfl rfl rfl) ?_
      refine WL.yld (by decide) (Yld.geq rfl rfl) ?_
      refine WL.yld (by decide) (Yld.move rfl) ?_
      refine WL.new (v' := .bool true) (congrArg Value.bool (decide_eq_true hc4)) ?_
      refine WL.yldG (by decide) rfl (Yld.fieldAddr Try.underlying39 rfl nz_3 rfl rfl) ?_
      refine WL.yldG (by decide) rfl (Yld.loadB (k := 102) scal_3 rfl rfl rfl) ?_
      refine WL.yldG (by decide) rfl (Yld.lss rfl rfl) ?_
      refine WL.yld (by decide) (Yld.pickT rfl rfl) ?_
      refine WL.yld (by decide) (Yld.move rfl) ?_
      refine WL.new (v' := .bool true) (congrArg Value.bool (decide_eq_true hc5)) ?_
      refine WL.yldG (by decide) rfl (Yld.fieldAddr Try.underlying39 rfl nz_3 rfl rfl) ?_
      refine WL.yldG (by decide) rfl (Yld.loadB (k := 102) scal_3 rfl rfl rfl) ?_
      refine WL.yldG (by decide) rfl (Yld.geq rfl rfl) ?_
      refine WL.yld (by decide) (Yld.pickT rfl rfl) ?_
      refine WL.yld (by decide) (Yld.move rfl) ?_
      refine WL.new (v' := .bool true) (congrArg Value.bool (decide_eq_true hc6)) ?_
      refine WL.yldG (by decide) rfl (Yld.fieldAddr Try.underlying39 rfl nz_3 rfl rfl) ?_
      refine WL.yldG (by decide) rfl (Yld.loadB (k := 102) scal_3 rfl rfl rfl) ?_
      refine WL.yldG (by decide) rfl (Yld.leq rfl rfl) ?_
      refine WL.yld (by decide) (Yld.pickT rfl rfl) ?_
      refine WL.yld (by decide) (Yld.move rfl) ?_
      refine WL.new (v' := .bool true) (congrArg Value.bool (decide_eq_true hc7)) ?_
      refine WL.yldG (by decide) rfl (Yld.fieldAddr Try.underlying39 rfl nz_2 rfl rfl) ?_
      refine WL.yldG (by decide) rfl (Yld.loadB (k := 102) scal_2 rfl rfl rfl) ?_
      refine WL.yldG (by decide) rfl (Yld.geq rfl rfl) ?_
      refine WL.yld (by decide) (Yld.pickT rfl rfl) ?_
      refine WL.yld (by decide) (Yld.move rfl) ?_
      refine WL.new (v' := .bool false) (congrArg Value.bool (decide_eq_false hc8)) ?_
      refine WL.skip (by decide) rfl rfl ?_
      refine WL.skip (by decide) rfl rfl ?_
      refine WL.skip (by decide) rfl rfl ?_
      refine WL.yld (by decide) (Yld.pickF rfl rfl) ?_
      refine WL.yld (by decide) (Yld.assign rfl) ?_
      refine WL.done (hK3 _ _ ?_)
      refine WC.ret ?_
      injection h with h; subst h
      exact Ret.fn [] (ResIs.one rfl rfl) rfl (Ext.refl _ _) rfl (by decide) rfl rfl ⟨rfl, rfl⟩
    ·
     replace h := of_f hc7 h
     refine WL.yld (by decide) (Yld.fieldAddr Try.underlying39 rfl nz_3 rfl rfl) ?_
     refine WL.yld (by decide) (Yld.loadB (k := 102) scal_3 rfl rfl rfl) ?_
     refine WL.yld (by decide) (Yld.geq rfl rfl) ?_
     refine WL.yld (by decide) (Yld.move rfl) ?_
     refine WL.new (v' := .bool true) (congrArg Value.bool (decide_eq_true hc4)) ?_
     refine WL.yldG (by decide) rfl (Yld.fieldAddr Try.underlying39 rfl nz_3 rfl rfl) ?_
     refine WL.yldG (by decide) rfl (Yld.loadB (k := 102) scal_3 rfl rfl rfl) ?_
     refine WL.yldG (by decide) rfl (Yld.lss rfl rfl) ?_
     refine WL.yld (by decide) (Yld.pickT rfl rfl) ?_
     refine WL.yld (by decide) (Yld.move rfl) ?_
     refine WL.new (v' := .bool true) (congrArg Value.bool (decide_eq_true hc5)) ?_
     refine WL.yldG (by decide) rfl (Yld.fieldAddr Try.underlying39 rfl nz_3 rfl rfl) ?_
     refine WL.yldG (by decide) rfl (Yld.loadB (k := 102) scal_3 rfl rfl rfl) ?_
     refine WL.yldG (by decide) rfl (Yld.geq rfl rfl) ?_
     refine WL.yld (by decide) (Yld.pickT rfl rfl) ?_
     refine WL.yld (by decide) (Yld.move rfl) ?_
     refine WL.new (v' := .bool true) (congrArg Value.bool (decide_eq_true hc6)) ?_
     refine WL.yldG (by decide) rfl (Yld.fieldAddr Try.underlying39 rfl nz_3 rfl rfl) ?_
     refine WL.yldG (by decide) rfl (Yld.loadB (k := 102) scal_3 rfl rfl rfl) ?_
     refine WL.yldG (by decide) rfl (Yld.leq rfl rfl) ?_
     refine WL.yld (by decide) (Yld.pickT rfl rfl) ?_
     refine WL.yld (by decide) (Yld.move rfl) ?_
     refine WL.new (v' := .bool false) (congrArg Value.bool (decide_eq_false hc7)) ?_
     refine WL.skip (by decide) rfl rfl ?_
     refine WL.skip (by decide) rfl rfl ?_
     refine WL.skip (by decide) rfl rfl ?_
     refine WL.yld (by decide) (Yld.pickF rfl rfl) ?_
     refine WL.yld (by decide) (Yld.move rfl) ?_
     refine WL.skip (by decide) rfl rfl ?_
     refine WL.skip (by decide) rfl rfl ?_
     refine WL.skip (by decide) rfl rfl ?_
     refine WL.yld (by decide) (Yld.pickF rfl rfl) ?_
     refine WL.yld (by decide) (Yld.assign rfl) ?_
     refine WL.done (hK3 _ _ ?_)
     refine WC.ret ?_
     injection h with h; subst h
     exact Ret.fn [] (ResIs.one rfl rfl) rfl (Ext.refl _ _) rfl (by decide) rfl rfl ⟨rfl, rfl⟩
   ·
    replace h := of_f hc6 h
    refine WL.yld (by decide) (Yld.fieldAddr Try.underlying39 rfl nz_3 rfl rfl) ?_
    refine WL.yld (by decide) (Yld.loadB (k := 102) scal_3 rfl rfl rfl) ?_
    refine WL.yld (by decide) (Yld.geq rfl rfl) ?_
    refine WL.yld (by decide) (Yld.move rfl) ?_
    refine WL.new (v' := .bool true) (congrArg Value.bool (decide_eq_true hc4)) ?_
    refine WL.yldG (by decide) rfl (Yld.fieldAddr Try.underlying39 rfl nz_3 rfl rfl) ?_
    refine WL.yldG (by decide) rfl (Yld.loadB (k := 102) scal_3 rfl rfl rfl) ?_
    refine WL.yldG (by decide) rfl (Yld.lss rfl rfl) ?_
    refine WL.yld (by decide) (Yld.pickT rfl rfl) ?_
    refine WL.yld (by decide) (Yld.move rfl) ?_
    refine WL.new (v' := .bool true) (congrArg Value.bool (decide_eq_true hc5)) ?_
    refine WL.yldG (by decide) rfl (Yld.fieldAddr Try.underlying39 rfl nz_3 rfl rfl) ?_
    refine WL.yldG (by decide) rfl (Yld.loadB (k := 102) scal_3 rfl rfl rfl) ?_
    refine WL.yldG (by decide) rfl (Yld.geq rfl rfl) ?_
    refine WL.yld (by decide) (Yld.pickT rfl rfl) ?_
    refine WL.yld (by decide) (Yld.move rfl) ?_
    refine WL.new (v' := .bool false) (congrArg Value.bool (decide_eq_false hc6)) ?_
    refine WL.skip (by decide) rfl rfl ?_
    refine WL.skip (by decide) rfl rfl ?_
    refine WL.skip (by decide) rfl rfl ?_
    refine WL.yld (by decide) (Yld.pickF rfl rfl) ?_
    refine WL.yld (by decide) (Yld.move rfl) ?_
    refine WL.skip (by decide) rfl rfl ?_
    refine WL.skip (by decide) rfl rfl ?_
    refine WL.skip (by decide) rfl rfl ?_
    refine WL.yld (by decide) (Yld.pickF rfl rfl) ?_
    refine WL.yld (by decide) (Yld.move rfl) ?_
    refine WL.skip (by decide) rfl rfl ?_
    refine WL.skip (by decide) rfl rfl ?_
    refine WL.skip (by decide) rfl rfl ?_
    refine WL.yld (by decide) (Yld.pickF rfl rfl) ?_
    refine WL.yld (by decide) (Yld.assign rfl) ?_
    refine WL.done (hK3 _ _ ?_)
    refine WC.ret ?_
    injection h with h; subst h
    exact Ret.fn [] (ResIs.one rfl rfl) rfl (Ext.refl _ _) rfl (by decide) rfl rfl ⟨rfl, rfl⟩
  ·
   replace h := of_f hc5 h
   refine WL.yld (by decide) (Yld.fieldAddr Try.underlying39 rfl nz_3 rfl rfl) ?_
   refine WL.yld (by decide) (Yld.loadB (k := 102) scal_3 rfl rfl rfl) ?_
   refine WL.yld (by decide) (Yld.geq rfl rfl) ?_
   refine WL.yld (by decide) (Yld.move rfl) ?_
   refine WL.new (v' := .bool true) (congrArg Value.bool (decide_eq_true hc4)) ?_
   refine WL.yldG (by decide) rfl (Yld.fieldAddr Try.underlying39 rfl nz_3 rfl rfl) ?_
   refine WL.yldG (by decide) rfl (Yld.loadB (k := 102) scal_3 rfl rfl rfl) ?_
   refine WL.yldG (by decide) rfl (Yld.lss rfl rfl) ?_
   refine WL.yld (by decide) (Yld.pickT rfl rfl) ?_
   refine WL.yld (by decide) (Yld.move rfl) ?_
   refine WL.new (v' := .bool false) (congrArg Value.bool (decide_eq_false hc5)) ?_
   refine WL.skip (by decide) rfl rfl ?_
   refine WL.skip (by decide) rfl rfl ?_
   refine WL.skip (by decide) rfl rfl ?_
   refine WL.yld (by decide) (Yld.pickF rfl rfl) ?_
   refine WL.yld (by decide) (Yld.move rfl) ?_
   refine WL.skip (by decide) rfl rfl ?_
   refine WL.skip (by decide) rfl rfl ?_
   refine WL.skip (by decide) rfl rfl ?_
   refine WL.yld (by decide) (Yld.pickF rfl rfl) ?_
   refine WL.yld (by decide) (Yld.move rfl) ?_
   refine WL.skip (by decide) rfl rfl ?_
   refine WL.skip (by decide) rfl rfl ?_
   refine WL.skip (by decide) rfl rfl ?_
   refine WL.yld (by decide) (Yld.pickF rfl rfl) ?_
   refine WL.yld (by decide) (Yld.move rfl) ?_
   refine WL.skip (by decide) rfl rfl ?_
   refine WL.skip (by decide) rfl rfl ?_
   refine WL.skip (by decide) rfl rfl ?_
   refine WL.yld (by decide) (Yld.pickF rfl rfl) ?_
   refine WL.yld (by decide) (Yld.assign rfl) ?_
   refine WL.done (hK3 _ _ ?_)
   refine WC.ret ?_
   injection h with h; subst h
   exact Ret.fn [] (ResIs.one rfl rfl) rfl (Ext.refl _ _) rfl (by decide) rfl rfl ⟨rfl, rfl⟩
 ·
  replace h := of_f hc4 h
  refine WL.yld (by decide) (Yld.fieldAddr Try.underlying39 rfl nz_3 rfl rfl) ?_
  refine WL.yld (by decide) (Yld.loadB (k := 102) scal_3 rfl rfl rfl) ?_
  refine WL.yld (by decide) (Yld.geq rfl rfl) ?_
  refine WL.yld (by decide) (Yld.move rfl) ?_
  refine WL.new (v' := .bool false) (congrArg Value.bool (decide_eq_false hc4)) ?_
  refine WL.skip (by decide) rfl rfl ?_
  refine WL.skip (by decide) rfl rfl ?_
  refine WL.skip (by decide) rfl rfl ?_
  refine WL.yld (by decide) (Yld.pickF rfl rfl) ?_
  refine WL.yld (by decide) (Yld.move rfl) ?_
  refine WL.skip (by decide) rfl rfl ?_
  refine WL.skip (by decide) rfl rfl ?_
  refine WL.skip (by decide) rfl rfl ?_
  refine WL.yld (by decide) (Yld.pickF rfl rfl) ?_
  refine WL.yld (by decide) (Yld.move rfl) ?_
  refine WL.skip (by decide) rfl rfl ?_
  refine WL.skip (by decide) rfl rfl ?_
  refine WL.skip (by decide) rfl rfl ?_
  refine WL.yld (by decide) (Yld.pickF rfl rfl) ?_
  refine WL.yld (by decide) (Yld.move rfl) ?_
  refine WL.skip (by decide) rfl rfl ?_
  refine WL.skip (by decide) rfl rfl ?_
  refine WL.skip (by decide) rfl rfl ?_
  refine WL.yld (by decide) (Yld.pickF rfl rfl) ?_
  refine WL.yld (by decide) (Yld.move rfl) ?_
  refine WL.skip (by decide) rfl rfl ?_
  refine WL.skip (by decide) rfl rfl ?_
  refine WL.skip (by decide) rfl rfl ?_
  refine WL.yld (by decide) (Yld.pickF rfl rfl) ?_
  refine WL.yld (by decide) (Yld.assign rfl) ?_
  refine WL.done (hK3 _ _ ?_)
  refine WC.ret ?_
  injection h with h; subst h
  exact Ret.fn [] (ResIs.one rfl rfl) rfl (Ext.refl _ _) rfl (by decide) rfl rfl ⟨rfl, rfl⟩

namespace Z
set_option maxRecDepth 10000 in
theorem _root_.Go.Proofs.Ytcncappgheopgaa.w_ecread_Exclude (M0 : Mem) (x00 : Int) {res : (List (Int))} (h : m_ecread_Exclude x00 = some res) :
  Fn Try.prog 4 #[I64 x00] M0 fun r M' es => ∃ (A1 : Option Addr) (n1 c1 : Nat), r = .slice A1 n1 c1 ∧ es = [.own 3 (Lay.sz Int) A1 n1 c1 (cel res)] := by
 refine Fn.intro (N := 11) Try.func4 rfl rfl (Nat.le_of_ble_eq_true rfl) fun w0 => ?_
 unfold m_ecread_Exclude at h
 refine WC.seqRegion fun K1 hK1 => ?_
 refine WL.eff (by decide) (Eff.box 102 (us := [I64 x00]) rfl rfl rfl) ?_
 rintro _ _ ⟨g2, rfl, rfl⟩
 refine WL.eff (by decide) (Eff.alloc 103 rfl zr_22) ?_
 rintro _ _ ⟨g3, rfl, rfl⟩
 refine WL.done (hK1 _ _ ?_)
 refine WC.seq fun K4 hK4 => ?_
 refine WC.seqRegion fun K5 hK5 => ?_
 refine WL.inl (by decide) Try.func7 nm_7 rfl rfl (Tri.intro (N := 1) Try.func7 rfl rfl (Nat.le_of_ble_eq_true rfl) ?_)
 refine WC.seqRegion fun K6 hK6 => ?_
 refine WL.yld (by decide) (Yld.assign rfl) ?_
 refine WL.done (hK6 _ _ ?_)
 refine WC.seqRegion fun K7 hK7 => ?_
 refine WL.yld (by decide) (Yld.assign rfl) ?_
 refine WL.done (hK7 _ _ ?_)
 refine WC.ret ?_
 refine Ret.go (ResIs.one rfl rfl) ?_
 refine WL.done (hK5 _ _ ?_)
 refine WC.block ?_
 refine WC.rangeFunc 98 97 rfl Try.func9 nm_9 rfl rfl rfl rfl fun D8 l9 rc10 hrc11 => ?_
 refine Tri.intro (N := 33) Try.func9 rfl rfl (Nat.le_of_ble_eq_true rfl) ?_
 refine WC.seq fun K12 hK12 => ?_
 refine WC.seqRegion fun K13 hK13 => ?_
 refine WL.yld (by decide) (Yld.move rfl) ?_
 refine WL.round 97 (by decide) rfl rfl rfl hrc11 rfl rfl fun RQ14 hN15 hR16 hX17 KA18 hKA19 => ?_
 refine WC.region fun K20 hK20 => ?_
 refine WL.yld (by decide) (Yld.assign rfl) ?_
 refine WL.done (hK20 _ _ ?_)
 refine QK.thenN (hKA19 _ _ rfl ?_)
 refine WC.block ?_
 refine WC.seq fun K21 hK21 => ?_
 refine WC.seqRegion fun K22 hK22 => ?_
 refine WL.yld (by decide) (Yld.loadB (k := 102) scal_3 rfl rfl rfl) ?_
 refine WL.yld (by decide) (Yld.eqlI rfl rfl) ?_
 refine WL.done (hK22 _ _ ?_)
 by_cases hc23 : x00 = (0 : Int)
 ·
  replace h := of_t hc23 h
  refine WC.condTe rfl (beq_iff_eq.2 hc23) ?_
  refine WC.seqRegion fun K24 hK24 => ?_
  refine WL.yld (by decide) (Yld.move rfl) ?_
  refine WL.eff0 (Eff0.storeB 103 siz_22 rfl rfl rfl rfl (Nat.le_of_ble_eq_true rfl)) ?_
  refine WL.done (hK24 _ _ ?_)
  refine WC.ret (QK.thenR (QK.blockR ?_))
  refine hR16 _ _ rfl ?_
  refine WL.yld (by decide) (Yld.notB rfl) ?_
  refine WL.done (hK13 _ _ ?_)
  refine WC.condT rfl ?_
  refine WC.ret (QK.thenR ?_)
  refine Ret.go (ResIs.zero rfl) ?_
  refine After.ret 97 rfl ?_
  refine (QK.blockR (QK.thenR ?_))
  refine QK.unmark 98 rfl ?_
  refine QK.nilOwn 125 3 (Lay.sz Int) none ?_
  injection h with h; subst h
  exact Ret.fn [125] (ResIs.cellS (k := 103) rfl scal_22 rfl rfl rfl) rfl (Ext.refl _ _) rfl (by decide) rfl rfl ⟨none, 0, 0, rfl, rfl⟩
 ·
  replace h := of_f hc23 h
  refine WC.condFe rfl (beq_eq_false_iff_ne.2 hc23) ?_
  refine WC.skip ?_
  refine QK.thenN (hK21 _ _ ?_)
  refine WC.region fun K26 hK26 => ?_
  refine WL.yld (by decide) (Yld.loadB (k := 102) scal_3 rfl rfl rfl) ?_
  refine WL.yld (by decide) (Yld.subWi rfl rfl) ?_
  refine WL.eff0 (Eff0.storeB 102 siz_3 rfl rfl rfl rfl (Nat.le_of_ble_eq_true rfl)) ?_
  refine WL.done (hK26 _ _ ?_)
  refine QK.blockN ?_
  refine hN15 _ _ rfl ?_
  refine WL.yld (by decide) (Yld.notB rfl) ?_
  refine WL.done (hK13 _ _ ?_)
  refine WC.condF rfl ?_
  refine WC.skip ?_
  refine QK.thenN (hK12 _ _ ?_)
  refine WC.seqCut (σ := Int) (fun x27 => [(0, .func (.yield l9) #[] #[])]) (fun x27 => [(0, .mem M0), (97, .obj l9 (.loop (Rc .ready none rc10))), (98, .obj D8 (.deferred (some []))), (102, .blk g2 3 [I64 x27]), (103, .blk g3 22 [.slice none 0 0])]) (fun x27 => m_ecread_Exclude_j0 x27 = some res) (fun K28 hK28 => ?_) ?_
  ·
   skip
   refine WC.seqRegion fun K29 hK29 => ?_
   refine WL.yld (by decide) (Yld.move rfl) ?_
   refine WL.done (hK29 _ _ ?_)
   refine WC.block ?_
   refine WC.loop (σ := Nat × Int × Int) (fun ⟨q32, x30, x31⟩ => [(0, .func (.yield l9) #[] #[]), (8, I64 x31)]) (fun ⟨q32, x30, x31⟩ => [(0, .mem M0), (97, .obj l9 (.loop (Rc .ready none rc10))), (98, .obj D8 (.deferred (some []))), (102, .blk g2 3 [I64 x30]), (103, .blk g3 22 [.slice none 0 0])]) (fun ⟨q32, x30, x31⟩ => m_ecread_Exclude_l1 q32 x30 x31 = some res) (fun ⟨q32, x30, x31⟩ => q32) ⟨forever, wri (x00 - (1 : Int)), (0 : Int)⟩ ?_ (Sub.cons rfl (Sub.cons rfl (Sub.nil _))) (Sub.cons rfl (Sub.cons rfl (Sub.cons rfl (Sub.cons rfl (Sub.cons rfl (Sub.nil _)))))) ?_
   ·
    exact h
   rintro ⟨q32, x30, x31⟩ h K33 hK33
   cases q32 with
   | zero => exact absurd h (by simp [m_ecread_Exclude_l1])
   | succ q32 =>
    unfold m_ecread_Exclude_l1 at h
    refine WC.seqRegion fun K34 hK34 => ?_
    refine WL.yld (by decide) (Yld.lss rfl rfl) ?_
    refine WL.done (hK34 _ _ ?_)
    refine WC.seq fun K35 hK35 => ?_
    by_cases hc36 : x31 < (6 : Int)
    ·
     replace h := of_t hc36 h
     refine WC.condTe rfl (decide_eq_true hc36) ?_
     refine WC.skip ?_
     refine QK.thenN (hK35 _ _ ?_)
     refine WC.seq fun K37 hK37 => ?_
     refine WC.block ?_
     refine WC.seqRegion fun K38 hK38 => ?_
     refine WL.yld (by decide) (Yld.move rfl) ?_
     refine WL.yld (by decide) (Yld.assign rfl) ?_
     refine WL.done (hK38 _ _ ?_)
     refine WC.seqRegion fun K39 hK39 => ?_
     refine WL.yld (by decide) (Yld.move rfl) ?_
     refine WL.yld (by decide) (Yld.move rfl) ?_
     refine WL.eff (by decide) (Eff.buildC 140 ([x31] : List (Int)) sty_22 rfl rfl rfl rfl rfl (by decide)) ?_
     rintro _ _ ⟨g40, rfl, rfl⟩
     refine WL.round 97 (by decide) rfl rfl rfl hrc11 rfl rfl fun RQ41 hN42 hR43 hX44 KA45 hKA46 => ?_
     refine WC.region fun K47 hK47 => ?_
     refine WL.yld (by decide) (Yld.assign rfl) ?_
     refine WL.done (hK47 _ _ ?_)
     refine QK.thenN (hKA46 _ _ rfl ?_)
     refine WC.block ?_
     refine WC.seq fun K48 hK48 => ?_
     refine WC.seqRegion fun K49 hK49 => ?_
     refine WL.yld (by decide) (Yld.loadB (k := 102) scal_3 rfl rfl rfl) ?_
     refine WL.yld (by decide) (Yld.eqlI rfl rfl) ?_
     refine WL.done (hK49 _ _ ?_)
     by_cases hc50 : x30 = (0 : Int)
     ·
      replace h := of_t hc50 h
      refine WC.condTe rfl (beq_iff_eq.2 hc50) ?_
      refine WC.seqRegion fun K51 hK51 => ?_
      refine WL.yld (by decide) (Yld.move rfl) ?_
      refine WL.eff0 (Eff0.storeB 103 siz_22 rfl rfl rfl rfl (Nat.le_of_ble_eq_true rfl)) ?_
      refine WL.done (hK51 _ _ ?_)
      refine WC.ret (QK.thenR (QK.blockR ?_))
      refine hR43 _ _ rfl ?_
      refine WL.yld (by decide) (Yld.notB rfl) ?_
      refine WL.done (hK39 _ _ ?_)
      refine WC.condT rfl ?_
      refine WC.ret (QK.blockR (QK.thenR (QK.thenR (QK.blockR (QK.thenR ?_)))))
      refine Ret.go (ResIs.zero rfl) ?_
      refine After.ret 97 rfl ?_
      refine (QK.blockR (QK.thenR ?_))
      refine QK.unmark 98 rfl ?_
      injection h with h; subst h
      exact Ret.fn [140] (ResIs.cellS (k := 103) rfl scal_22 rfl rfl rfl) rfl (Ext.refl _ _) rfl (by decide) rfl rfl ⟨(some ⟨g40, 0, none⟩), ([x31] : List (Int)).length, ([x31] : List (Int)).length, rfl, rfl⟩
     ·
      replace h := of_f hc50 h
      refine WC.condFe rfl (beq_eq_false_iff_ne.2 hc50) ?_
      refine WC.skip ?_
      refine QK.thenN (hK48 _ _ ?_)
      refine WC.region fun K52 hK52 => ?_
      refine WL.yld (by decide) (Yld.loadB (k := 102) scal_3 rfl rfl rfl) ?_
      refine WL.yld (by decide) (Yld.subWi rfl rfl) ?_
      refine WL.eff0 (Eff0.storeB 102 siz_3 rfl rfl rfl rfl (Nat.le_of_ble_eq_true rfl)) ?_
      refine WL.done (hK52 _ _ ?_)
      refine QK.blockN ?_
      refine hN42 _ _ rfl ?_
      refine WL.yld (by decide) (Yld.notB rfl) ?_
      refine WL.done (hK39 _ _ ?_)
      refine WC.condF rfl ?_
      refine WC.skip ?_
      refine QK.blockN ?_
      refine QK.thenN (hK37 _ _ ?_)
      refine WC.region fun K53 hK53 => ?_
      refine WL.yld (by decide) (Yld.addWi rfl rfl) ?_
      refine WL.yld (by decide) (Yld.move rfl) ?_
      refine WL.done (hK53 _ _ ?_)
      refine QK.thenN ?_
      refine hK33 ⟨q32, wri (x30 - (1 : Int)), wri (x31 + (1 : Int))⟩ _ _ ?_ (Nat.lt_succ_self _) (Sub.cons rfl (Sub.cons rfl (Sub.nil _))) (Sub.cons rfl (Sub.cons rfl (Sub.cons rfl (Sub.cons rfl (Sub.cons rfl (Sub.nil _))))))
      exact h
    ·
     replace h := of_f hc36 h
     refine WC.condFe rfl (decide_eq_false hc36) ?_
     refine WC.exit (QK.thenE (QK.thenE (QK.blockX ?_)))
     refine QK.thenN ?_
     refine hK28 x30 _ _ ?_ (Sub.cons rfl (Sub.nil _)) (Sub.cons rfl (Sub.cons rfl (Sub.cons rfl (Sub.cons rfl (Sub.cons rfl (Sub.nil _))))))
     exact h
  ·
   rintro x27 h
   unfold m_ecread_Exclude_j0 at h
   refine WC.seqRegion fun K54 hK54 => ?_
   refine WL.yld (by decide) (Yld.move rfl) ?_
   refine WL.done (hK54 _ _ ?_)
   refine WC.block ?_
   refine WC.loop (σ := Nat × Int × Int) (fun ⟨q57, x55, x56⟩ => [(0, .func (.yield l9) #[] #[]), (17, I64 x56)]) (fun ⟨q57, x55, x56⟩ => [(0, .mem M0), (97, .obj l9 (.loop (Rc .ready none rc10))), (98, .obj D8 (.deferred (some []))), (102, .blk g2 3 [I64 x55]), (103, .blk g3 22 [.slice none 0 0])]) (fun ⟨q57, x55, x56⟩ => m_ecread_Exclude_l2 q57 x55 x56 = some res) (fun ⟨q57, x55, x56⟩ => q57) ⟨forever, x27, (0 : Int)⟩ ?_ (Sub.cons rfl (Sub.cons rfl (Sub.nil _))) (Sub.cons rfl (Sub.cons rfl (Sub.cons rfl (Sub.cons rfl (Sub.cons rfl (Sub.nil _)))))) ?_
   ·
    exact h
   rintro ⟨q57, x55, x56⟩ h K58 hK58
   cases q57 with
   | zero => exact absurd h (by simp [m_ecread_Exclude_l2])
   | succ q57 =>
    unfold m_ecread_Exclude_l2 at h
    refine WC.seqRegion fun K59 hK59 => ?_
    refine WL.yld (by decide) (Yld.lss rfl rfl) ?_
    refine WL.done (hK59 _ _ ?_)
    refine WC.seq fun K60 hK60 => ?_
    by_cases hc61 : x56 < (6 : Int)
    ·
     replace h := of_t hc61 h
     refine WC.condTe rfl (decide_eq_true hc61) ?_
     refine WC.skip ?_
     refine QK.thenN (hK60 _ _ ?_)
     refine WC.seqCut (σ := Int) (fun x62 => [(0, .func (.yield l9) #[] #[]), (17, I64 x56)]) (fun x62 => [(0, .mem M0), (97, .obj l9 (.loop (Rc .ready none rc10))), (98, .obj D8 (.deferred (some []))), (102, .blk g2 3 [I64 x62]), (103, .blk g3 22 [.slice none 0 0])]) (fun x62 => m_ecread_Exclude_j3 x56 (m_ecread_Exclude_l2 q57) x62 = some res) (fun K63 hK63 => ?_) ?_
     ·
      skip
      refine WC.block ?_
      refine WC.seqRegion fun K64 hK64 => ?_
      refine WL.yld (by decide) (Yld.move rfl) ?_
      refine WL.yld (by decide) (Yld.assign rfl) ?_
      refine WL.done (hK64 _ _ ?_)
      refine WC.seqRegion fun K65 hK65 => ?_
      refine WL.yld (by decide) (Yld.move rfl) ?_
      refine WL.yld (by decide) (Yld.addWi rfl rfl) ?_
      refine WL.yld (by decide) (Yld.assign rfl) ?_
      refine WL.done (hK65 _ _ ?_)
      refine WC.block ?_
      refine WC.loop (σ := Nat × Int × Int) (fun ⟨q68, x66, x67⟩ => [(0, .func (.yield l9) #[] #[]), (3, I64 x56), (4, I64 x67), (17, I64 x56)]) (fun ⟨q68, x66, x67⟩ => [(0, .mem M0), (97, .obj l9 (.loop (Rc .ready none rc10))), (98, .obj D8 (.deferred (some []))), (102, .blk g2 3 [I64 x66]), (103, .blk g3 22 [.slice none 0 0])]) (fun ⟨q68, x66, x67⟩ => m_ecread_Exclude_l4 x56 (m_ecread_Exclude_l2 q57) q68 x66 x67 = some res) (fun ⟨q68, x66, x67⟩ => q68) ⟨forever, x55, wri (x56 + (1 : Int))⟩ ?_ (Sub.cons rfl (Sub.cons rfl (Sub.cons rfl (Sub.cons rfl (Sub.nil _))))) (Sub.cons rfl (Sub.cons rfl (Sub.cons rfl (Sub.cons rfl (Sub.cons rfl (Sub.nil _)))))) ?_
      ·
       exact h
      rintro ⟨q68, x66, x67⟩ h K69 hK69
      cases q68 with
      | zero => exact absurd h (by simp [m_ecread_Exclude_l4])
      | succ q68 =>
       unfold m_ecread_Exclude_l4 at h
       refine WC.seq fun K70 hK70 => ?_
       refine WC.seqRegion fun K71 hK71 => ?_
       refine WL.yld (by decide) (Yld.move rfl) ?_
       refine WL.yld (by decide) (Yld.lss rfl rfl) ?_
       refine WL.done (hK71 _ _ ?_)
       by_cases hc72 : x67 < (6 : Int)
       ·
        replace h := of_t hc72 h
        refine WC.condTe rfl (decide_eq_true hc72) ?_
        refine WC.skip ?_
        refine QK.thenN (hK70 _ _ ?_)
        refine WC.seq fun K73 hK73 => ?_
        refine WC.block ?_
        refine WC.seqRegion fun K74 hK74 => ?_
        refine WL.yld (by decide) (Yld.move rfl) ?_
        refine WL.yld (by decide) (Yld.move rfl) ?_
        refine WL.yld (by decide) (Yld.move rfl) ?_
        refine WL.eff (by decide) (Eff.buildC 175 ([x56, x67] : List (Int)) sty_22 rfl rfl rfl rfl rfl (by decide)) ?_
        rintro _ _ ⟨g75, rfl, rfl⟩
        refine WL.round 97 (by decide) rfl rfl rfl hrc11 rfl rfl fun RQ76 hN77 hR78 hX79 KA80 hKA81 => ?_
        refine WC.region fun K82 hK82 => ?_
        refine WL.yld (by decide) (Yld.assign rfl) ?_
        refine WL.done (hK82 _ _ ?_)
        refine QK.thenN (hKA81 _ _ rfl ?_)
        refine WC.block ?_
        refine WC.seq fun K83 hK83 => ?_
        refine WC.seqRegion fun K84 hK84 => ?_
        refine WL.yld (by decide) (Yld.loadB (k := 102) scal_3 rfl rfl rfl) ?_
        refine WL.yld (by decide) (Yld.eqlI rfl rfl) ?_
        refine WL.done (hK84 _ _ ?_)
        by_cases hc85 : x66 = (0 : Int)
        ·
         replace h := of_t hc85 h
         refine WC.condTe rfl (beq_iff_eq.2 hc85) ?_
         refine WC.seqRegion fun K86 hK86 => ?_
         refine WL.yld (by decide) (Yld.move rfl) ?_
         refine WL.eff0 (Eff0.storeB 103 siz_22 rfl rfl rfl rfl (Nat.le_of_ble_eq_true rfl)) ?_
         refine WL.done (hK86 _ _ ?_)
         refine WC.ret (QK.thenR (QK.blockR ?_))
         refine hR78 _ _ rfl ?_
         refine WL.yld (by decide) (Yld.notB rfl) ?_
         refine WL.done (hK74 _ _ ?_)
         refine WC.condT rfl ?_
         refine WC.ret (QK.blockR (QK.thenR (QK.thenR (QK.blockR (QK.blockR (QK.thenR (QK.thenR (QK.blockR ?_))))))))
         refine Ret.go (ResIs.zero rfl) ?_
         refine After.ret 97 rfl ?_
         refine (QK.blockR (QK.thenR ?_))
         refine QK.unmark 98 rfl ?_
         injection h with h; subst h
         exact Ret.fn [175] (ResIs.cellS (k := 103) rfl scal_22 rfl rfl rfl) rfl (Ext.refl _ _) rfl (by decide) rfl rfl ⟨(some ⟨g75, 0, none⟩), ([x56, x67] : List (Int)).length, ([x56, x67] : List (Int)).length, rfl, rfl⟩
        ·
         replace h := of_f hc85 h
         refine WC.condFe rfl (beq_eq_false_iff_ne.2 hc85) ?_
         refine WC.skip ?_
         refine QK.thenN (hK83 _ _ ?_)
         refine WC.region fun K87 hK87 => ?_
         refine WL.yld (by decide) (Yld.loadB (k := 102) scal_3 rfl rfl rfl) ?_
         refine WL.yld (by decide) (Yld.subWi rfl rfl) ?_
         refine WL.eff0 (Eff0.storeB 102 siz_3 rfl rfl rfl rfl (Nat.le_of_ble_eq_true rfl)) ?_
         refine WL.done (hK87 _ _ ?_)
         refine QK.blockN ?_
         refine hN77 _ _ rfl ?_
         refine WL.yld (by decide) (Yld.notB rfl) ?_
         refine WL.done (hK74 _ _ ?_)
         refine WC.condF rfl ?_
         refine WC.skip ?_
         refine QK.blockN ?_
         refine QK.thenN (hK73 _ _ ?_)
         refine WC.region fun K88 hK88 => ?_
         refine WL.yld (by decide) (Yld.move rfl) ?_
         refine WL.yld (by decide) (Yld.addWi rfl rfl) ?_
         refine WL.yld (by decide) (Yld.assign rfl) ?_
         refine WL.done (hK88 _ _ ?_)
         refine QK.thenN ?_
         refine hK69 ⟨q68, wri (x66 - (1 : Int)), wri (x67 + (1 : Int))⟩ _ _ ?_ (Nat.lt_succ_self _) (Sub.cons rfl (Sub.cons rfl (Sub.cons rfl (Sub.cons rfl (Sub.nil _))))) (Sub.cons rfl (Sub.cons rfl (Sub.cons rfl (Sub.cons rfl (Sub.cons rfl (Sub.nil _))))))
         exact h
       ·
        replace h := of_f hc72 h
        refine WC.condFe rfl (decide_eq_false hc72) ?_
        refine WC.exit (QK.thenE (QK.thenE (QK.blockX ?_)))
        refine QK.blockN ?_
        refine QK.thenN ?_
        refine hK63 x66 _ _ ?_ (Sub.cons rfl (Sub.cons rfl (Sub.nil _))) (Sub.cons rfl (Sub.cons rfl (Sub.cons rfl (Sub.cons rfl (Sub.cons rfl (Sub.nil _))))))
        exact h
     ·
      rintro x62 h
      unfold m_ecread_Exclude_j3 at h
      refine WC.region fun K89 hK89 => ?_
      refine WL.yld (by decide) (Yld.addWi rfl rfl) ?_
      refine WL.yld (by decide) (Yld.move rfl) ?_
      refine WL.done (hK89 _ _ ?_)
      refine QK.thenN ?_
      refine hK58 ⟨q57, x62, wri (x56 + (1 : Int))⟩ _ _ ?_ (Nat.lt_succ_self _) (Sub.cons rfl (Sub.cons rfl (Sub.nil _))) (Sub.cons rfl (Sub.cons rfl (Sub.cons rfl (Sub.cons rfl (Sub.cons rfl (Sub.nil _))))))
      exact h
    ·
     replace h := of_f hc61 h
     refine WC.condFe rfl (decide_eq_false hc61) ?_
     refine WC.exit (QK.thenE (QK.thenE (QK.blockX ?_)))
     refine Ret.goN (ResIs.zero rfl) ?_
     refine After.go 97 rfl ?_
     refine QK.blockN ?_
     refine QK.thenN (hK4 _ _ ?_)
     refine WC.seqRegion fun K90 hK90 => ?_
     refine WL.eff0 (Eff0.storeB 103 siz_22 rfl rfl rfl rfl (Nat.le_of_ble_eq_true rfl)) ?_
     refine WL.done (hK90 _ _ ?_)
     refine WC.ret ?_
     refine QK.unmark 98 rfl ?_
     refine QK.nilOwn 191 3 (Lay.sz Int) none ?_
     injection h with h; subst h
     exact Ret.fn [191] (ResIs.cellS (k := 103) rfl scal_22 rfl rfl rfl) rfl (Ext.refl _ _) rfl (by decide) rfl rfl ⟨none, 0, 0, rfl, rfl⟩
end Z

end Go.Proofs.Ytcncappgheopgaa
