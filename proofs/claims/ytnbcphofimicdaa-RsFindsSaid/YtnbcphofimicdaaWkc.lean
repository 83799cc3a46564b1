/-
 Walks (c): what a function's model gives, the function returns. Printed by a program of ours (vcm.py) from the function's operations. Conditions: as each theorem says.
-/
import Derived.Test.YtnbcphofimicdaaWkb
import Derived.Test.YtnbcphofimicdaaMdc
namespace Go.Proofs.Ytnbcphofimicdaa
open Go Go.RowKit
set_option linter.unusedVariables false

theorem und_9 : Try.prog.underlying 9 = some .string := by kernel_rfl
theorem agg_26 : Agg Try.prog 26 3 := ⟨⟨_, Try.underlying26, rfl⟩, by kernel_rfl⟩
theorem bu_26_ : Try.prog.built 26 [] = some ([I64 (0 : Int), I64 (0 : Int), .slice none 0 0] : List Value).toArray := by kernel_rfl
theorem bu_26_0_1 : ∀ (a0 : Int) (a1 : Int), Try.prog.built 26 [(0, I64 a0), (1, I64 a1)] = some ([I64 a0, I64 a1, .slice none 0 0] : List Value).toArray := fun a0 a1 => by kernel_rfl
theorem bu_26_0_1_2 : ∀ (a0 : Int) (a1 : Int) (a2 : Option Addr) (n2 c2 : Nat), Try.prog.built 26 [(0, I64 a0), (1, I64 a1), (2, .slice a2 n2 c2)] = some ([I64 a0, I64 a1, .slice a2 n2 c2] : List Value).toArray := fun a0 a1 a2 n2 c2 => by kernel_rfl
theorem nm_55 : (Try.f55.name == "runtime.NumGoroutine") = false := by kernel_rfl
theorem nm_57 : (Try.f57.name == "runtime.NumGoroutine") = false := by kernel_rfl
theorem nm_58 : (Try.f58.name == "runtime.NumGoroutine") = false := by kernel_rfl
theorem nm_59 : (Try.f59.name == "runtime.NumGoroutine") = false := by kernel_rfl
theorem nm_60 : (Try.f60.name == "runtime.NumGoroutine") = false := by kernel_rfl
theorem nm_62 : (Try.f62.name == "runtime.NumGoroutine") = false := by kernel_rfl
theorem zr_26 : (Try.prog.info? 26).map (fun i => i.zero.map (·.cells)) = some (some ([I64 (0 : Int), I64 (0 : Int), .slice none 0 0] : List Value).toArray) := by kernel_rfl

set_option maxRecDepth 10000 in
theorem w_r03_size (M0 : Mem) (x00 : Int) (x01 : Int) {res : Bool} (h : m_r03_size x00 x01 = some res) :
  Fn Try.prog 55 #[I64 x00, I64 x01] M0 fun r M' es => r = .bool res ∧ es = [] := by
 refine Fn.intro (N := 19) Try.func55 rfl rfl (Nat.le_of_ble_eq_true rfl) fun w0 => ?_
 unfold m_r03_size at h
 refine WC.seqRegion fun K1 hK1 => ?_
 refine WL.yld (by decide) (Yld.assign rfl) ?_
 refine WL.done (hK1 _ _ ?_)
 refine WC.seqRegion fun K2 hK2 => ?_
 by_cases hc3 : (1 : Int) ≤ x00
 ·
  replace h := of_t hc3 h
  by_cases hc4 : x00 ≤ (16 : Int)
  ·
   replace h := of_t hc4 h
   by_cases hc5 : (1 : Int) ≤ x01
   ·
    replace h := of_t hc5 h
    refine WL.yld (by decide) (Yld.move rfl) ?_
    refine WL.yld (by decide) (Yld.geq rfl rfl) ?_
    refine WL.yld (by decide) (Yld.move rfl) ?_
    refine WL.new (v' := .bool true) (congrArg Value.bool (decide_eq_true hc3)) ?_
    refine WL.yldG (by decide) rfl (Yld.move rfl) ?_
    refine WL.yldG (by decide) rfl (Yld.leq rfl rfl) ?_
    refine WL.yld (by decide) (Yld.pickT rfl rfl) ?_
    refine WL.yld (by decide) (Yld.move rfl) ?_
    refine WL.new (v' := .bool true) (congrArg Value.bool (decide_eq_true hc4)) ?_
    refine WL.yldG (by decide) rfl (Yld.move rfl) ?_
    refine WL.yldG (by decide) rfl (Yld.geq rfl rfl) ?_
    refine WL.yld (by decide) (Yld.pickT rfl rfl) ?_
    refine WL.yld (by decide) (Yld.move rfl) ?_
    refine WL.new (v' := .bool true) (congrArg Value.bool (decide_eq_true hc5)) ?_
    refine WL.yldG (by decide) rfl (Yld.move rfl) ?_
    refine WL.yldG (by decide) rfl (Yld.leq rfl rfl) ?_
    refine WL.yld (by decide) (Yld.pickT rfl rfl) ?_
    refine WL.yld (by decide) (Yld.assign rfl) ?_
    refine WL.done (hK2 _ _ ?_)
    refine WC.ret ?_
    injection h with h; subst h
    exact Ret.fn [] (ResIs.one rfl rfl) rfl (Ext.refl _ _) rfl (by decide) rfl rfl ⟨rfl, rfl⟩
   ·
    replace h := of_f hc5 h
    refine WL.yld (by decide) (Yld.move rfl) ?_
    refine WL.yld (by decide) (Yld.geq rfl rfl) ?_
    refine WL.yld (by decide) (Yld.move rfl) ?_
    refine WL.new (v' := .bool true) (congrArg Value.bool (decide_eq_true hc3)) ?_
    refine WL.yldG (by decide) rfl (Yld.move rfl) ?_
    refine WL.yldG (by decide) rfl (Yld.leq rfl rfl) ?_
    refine WL.yld (by decide) (Yld.pickT rfl rfl) ?_
    refine WL.yld (by decide) (Yld.move rfl) ?_
    refine WL.new (v' := .bool true) (congrArg Value.bool (decide_eq_true hc4)) ?_
    refine WL.yldG (by decide) rfl (Yld.move rfl) ?_
    refine WL.yldG (by decide) rfl (Yld.geq rfl rfl) ?_
    refine WL.yld (by decide) (Yld.pickT rfl rfl) ?_
    refine WL.yld (by decide) (Yld.move rfl) ?_
    refine WL.new (v' := .bool false) (congrArg Value.bool (decide_eq_false hc5)) ?_
    refine WL.skip (by decide) rfl rfl ?_
    refine WL.skip (by decide) rfl rfl ?_
    refine WL.yld (by decide) (Yld.pickF rfl rfl) ?_
    refine WL.yld (by decide) (Yld.assign rfl) ?_
    refine WL.done (hK2 _ _ ?_)
    refine WC.ret ?_
    injection h with h; subst h
    exact Ret.fn [] (ResIs.one rfl rfl) rfl (Ext.refl _ _) rfl (by decide) rfl rfl ⟨rfl, rfl⟩
  ·
   replace h := of_f hc4 h
   refine WL.yld (by decide) (Yld.move rfl) ?_
   refine WL.yld (by decide) (Yld.geq rfl rfl) ?_
   refine WL.yld (by decide) (Yld.move rfl) ?_
   refine WL.new (v' := .bool true) (congrArg Value.bool (decide_eq_true hc3)) ?_
   refine WL.yldG (by decide) rfl (Yld.move rfl) ?_
   refine WL.yldG (by decide) rfl (Yld.leq rfl rfl) ?_
   refine WL.yld (by decide) (Yld.pickT rfl rfl) ?_
   refine WL.yld (by decide) (Yld.move rfl) ?_
   refine WL.new (v' := .bool false) (congrArg Value.bool (decide_eq_false hc4)) ?_
   refine WL.skip (by decide) rfl rfl ?_
   refine WL.skip (by decide) rfl rfl ?_
   refine WL.yld (by decide) (Yld.pickF rfl rfl) ?_
   refine WL.yld (by decide) (Yld.move rfl) ?_
   refine WL.skip (by decide) rfl rfl ?_
   refine WL.skip (by decide) rfl rfl ?_
   refine WL.yld (by decide) (Yld.pickF rfl rfl) ?_
   refine WL.yld (by decide) (Yld.assign rfl) ?_
   refine WL.done (hK2 _ _ ?_)
   refine WC.ret ?_
   injection h with h; subst h
   exact Ret.fn [] (ResIs.one rfl rfl) rfl (Ext.refl _ _) rfl (by decide) rfl rfl ⟨rfl, rfl⟩
 ·
  replace h := of_f hc3 h
  refine WL.yld (by decide) (Yld.move rfl) ?_
  refine WL.yld (by decide) (Yld.geq rfl rfl) ?_
  refine WL.yld (by decide) (Yld.move rfl) ?_
  refine WL.new (v' := .bool false) (congrArg Value.bool (decide_eq_false hc3)) ?_
  refine WL.skip (by decide) rfl rfl ?_
  refine WL.skip (by decide) rfl rfl ?_
  refine WL.yld (by decide) (Yld.pickF rfl rfl) ?_
  refine WL.yld (by decide) (Yld.move rfl) ?_
  refine WL.skip (by decide) rfl rfl ?_
  refine WL.skip (by decide) rfl rfl ?_
  refine WL.yld (by decide) (Yld.pickF rfl rfl) ?_
  refine WL.yld (by decide) (Yld.move rfl) ?_
  refine WL.skip (by decide) rfl rfl ?_
  refine WL.skip (by decide) rfl rfl ?_
  refine WL.yld (by decide) (Yld.pickF rfl rfl) ?_
  refine WL.yld (by decide) (Yld.assign rfl) ?_
  refine WL.done (hK2 _ _ ?_)
  refine WC.ret ?_
  injection h with h; subst h
  exact Ret.fn [] (ResIs.one rfl rfl) rfl (Ext.refl _ _) rfl (by decide) rfl rfl ⟨rfl, rfl⟩

set_option maxRecDepth 10000 in
theorem w_r03_Valid (M0 : Mem) (x00_0 : Int) (x00_1 : Int) (A00_2 : Option Addr) (n00_2 c00_2 : Nat) (x00_2 : List (BitVec 8)) (hf00_2 : SlT M0 A00_2 n00_2 c00_2 x00_2) {res : Bool} (h : m_r03_Valid x00_0 x00_1 x00_2 = some res) :
  Fn Try.prog 57 #[.agg ([I64 x00_0, I64 x00_1, .slice A00_2 n00_2 c00_2] : List Value).toArray] M0 fun r M' es => r = .bool res ∧ es = [] := by
 refine Fn.intro (N := 19) Try.func57 rfl rfl (Nat.le_of_ble_eq_true rfl) fun w0 => ?_
 unfold m_r03_Valid at h
 refine WC.seqRegion fun K1 hK1 => ?_
 refine WL.eff (by decide) (Eff.box 102 (us := [I64 x00_0, I64 x00_1, .slice A00_2 n00_2 c00_2]) rfl rfl rfl) ?_
 rintro _ _ ⟨g2, rfl, rfl⟩
 refine WL.yld (by decide) (Yld.assign rfl) ?_
 refine WL.done (hK1 _ _ ?_)
 refine WC.seqRegion fun K3 hK3 => ?_
 obtain ⟨x4, hx4, h⟩ := bnd h
 by_cases hc6 : x4 = true
 ·
  replace h := of_t hc6 h
  obtain ⟨x7, hx7, h⟩ := bnd h
  refine WL.yld (by decide) (Yld.fieldAddr Try.underlying26 rfl nz_3 rfl rfl) ?_
  refine WL.yld (by decide) (Yld.loadB (k := 102) scal_3 rfl rfl rfl) ?_
  refine WL.yld (by decide) (Yld.fieldAddr Try.underlying26 rfl nz_3 rfl rfl) ?_
  refine WL.yld (by decide) (Yld.loadB (k := 102) scal_3 rfl rfl rfl) ?_
  refine WL.eff (by decide) (Eff.callS 105 rfl Try.func55 nm_55 rfl rfl (fun w hb hh => w_r03_size (Mem.snap w) x00_0 x00_1 hx4)) ?_
  rintro _ _ ⟨_, ⟨rfl, rfl⟩, rfl⟩
  refine WL.yld (by decide) (Yld.move rfl) ?_
  refine WL.new (v' := .bool true) (congrArg Value.bool hc6) ?_
  refine WL.yldG (by decide) rfl (Yld.fieldAddr Try.underlying26 rfl nz_22 rfl rfl) ?_
  refine WL.yldG (by decide) rfl (Yld.loadB (k := 102) scal_22 rfl rfl rfl) ?_
  refine WL.yldG (by decide) rfl (Yld.lenC (xs := x00_2) und_22 rfl (RdH.memM (k := 0) rfl hf00_2)) ?_
  refine WL.yldG (by decide) rfl (Yld.fieldAddr Try.underlying26 rfl nz_3 rfl rfl) ?_
  refine WL.yldG (by decide) rfl (Yld.loadB (k := 102) scal_3 rfl rfl rfl) ?_
  refine WL.yldG (by decide) rfl (Yld.fieldAddr Try.underlying26 rfl nz_3 rfl rfl) ?_
  refine WL.yldG (by decide) rfl (Yld.loadB (k := 102) scal_3 rfl rfl rfl) ?_
  refine WL.yldG (by decide) rfl (Yld.mulC rfl rfl hx7) ?_
  refine WL.yldG (by decide) rfl (Yld.eqlI rfl rfl) ?_
  refine WL.yld (by decide) (Yld.pickT rfl rfl) ?_
  refine WL.yld (by decide) (Yld.assign rfl) ?_
  refine WL.done (hK3 _ _ ?_)
  refine WC.ret ?_
  injection h with h; subst h
  exact Ret.fn [] (ResIs.one rfl rfl) rfl (Ext.refl _ _) rfl (by decide) rfl rfl ⟨rfl, rfl⟩
 ·
  replace h := of_f hc6 h
  refine WL.yld (by decide) (Yld.fieldAddr Try.underlying26 rfl nz_3 rfl rfl) ?_
  refine WL.yld (by decide) (Yld.loadB (k := 102) scal_3 rfl rfl rfl) ?_
  refine WL.yld (by decide) (Yld.fieldAddr Try.underlying26 rfl nz_3 rfl rfl) ?_
  refine WL.yld (by decide) (Yld.loadB (k := 102) scal_3 rfl rfl rfl) ?_
  refine WL.eff (by decide) (Eff.callS 105 rfl Try.func55 nm_55 rfl rfl (fun w hb hh => w_r03_size (Mem.snap w) x00_0 x00_1 hx4)) ?_
  rintro _ _ ⟨_, ⟨rfl, rfl⟩, rfl⟩
  refine WL.yld (by decide) (Yld.move rfl) ?_
  refine WL.new (v' := .bool false) (congrArg Value.bool (Bool.eq_false_iff.2 hc6)) ?_
  refine WL.skip (by decide) rfl rfl ?_
  refine WL.skip (by decide) rfl rfl ?_
  refine WL.skip (by decide) rfl rfl ?_
  refine WL.skip (by decide) rfl rfl ?_
  refine WL.skip (by decide) rfl rfl ?_
  refine WL.skip (by decide) rfl rfl ?_
  refine WL.skip (by decide) rfl rfl ?_
  refine WL.skip (by decide) rfl rfl ?_
  refine WL.skip (by decide) rfl rfl ?_
  refine WL.yld (by decide) (Yld.pickF rfl rfl) ?_
  refine WL.yld (by decide) (Yld.assign rfl) ?_
  refine WL.done (hK3 _ _ ?_)
  refine WC.ret ?_
  injection h with h; subst h
  exact Ret.fn [] (ResIs.one rfl rfl) rfl (Ext.refl _ _) rfl (by decide) rfl rfl ⟨rfl, rfl⟩

set_option maxRecDepth 10000 in
theorem w_r03_Identity (M0 : Mem) (x00 : Int) {res : Int × Int × (List (BitVec 8)) × Int} (h : m_r03_Identity x00 = some res) :
  Fn Try.prog 58 #[I64 x00] M0 fun r M' es => ∃ (A1 : Option Addr) (n1 c1 : Nat), r = .tuple #[.agg ([I64 res.1, I64 res.2.1, .slice A1 n1 c1] : List Value).toArray, I64 res.2.2.2] ∧ es = [.own 5 (Lay.sz (BitVec 8)) A1 n1 c1 (cel res.2.2.1)] := by
 refine Fn.intro (N := 32) Try.func58 rfl rfl (Nat.le_of_ble_eq_true rfl) fun w0 => ?_
 unfold m_r03_Identity at h
 refine WC.seqRegion fun K1 hK1 => ?_
 refine WL.eff (by decide) (Eff.alloc 102 rfl zr_26) ?_
 rintro _ _ ⟨g2, rfl, rfl⟩
 refine WL.yld (by decide) (Yld.assign rfl) ?_
 refine WL.done (hK1 _ _ ?_)
 refine WC.seq fun K3 hK3 => ?_
 refine WC.seqRegion fun K4 hK4 => ?_
 obtain ⟨x5, hx5, h⟩ := bnd h
 refine WL.yld (by decide) (Yld.move rfl) ?_
 refine WL.yld (by decide) (Yld.move rfl) ?_
 refine WL.eff (by decide) (Eff.callS 106 rfl Try.func55 nm_55 rfl rfl (fun w hb hh => w_r03_size (Mem.snap w) x00 x00 hx5)) ?_
 rintro _ _ ⟨_, ⟨rfl, rfl⟩, rfl⟩
 refine WL.yld (by decide) (Yld.notB rfl) ?_
 refine WL.done (hK4 _ _ ?_)
 by_cases hc7 : x5 = true
 ·
  replace h := of_t hc7 h
  refine WC.condFe rfl (not_f hc7) ?_
  refine WC.skip ?_
  refine QK.thenN (hK3 _ _ ?_)
  refine WC.seqRegion fun K8 hK8 => ?_
  obtain ⟨x9, hx9, h⟩ := bnd h
  obtain ⟨x11, hx11, h⟩ := bnd h
  refine WL.yld (by decide) (Yld.move rfl) ?_
  refine WL.yld (by decide) (Yld.move rfl) ?_
  refine WL.yld (by decide) (Yld.move rfl) ?_
  refine WL.yld (by decide) (Yld.move rfl) ?_
  refine WL.yld (by decide) (Yld.mulC rfl rfl hx9) ?_
  refine WL.eff (by decide) (Eff.makeC 110 0#8 sty_22 rfl rfl rfl rfl rfl rfl hx11) ?_
  rintro _ _ ⟨g10, rfl, rfl⟩
  refine WL.yld (by decide) (Yld.build rfl (bu_26_0_1_2 x00 x00 (some ⟨g10, 0, none⟩) x11.length x11.length)) ?_
  refine WL.eff (by decide) (Eff.alloc 112 rfl zr_26) ?_
  rintro _ _ ⟨g12, rfl, rfl⟩
  refine WL.eff0 (Eff0.storeBAM 112 agg_26 rfl rfl rfl ⟨rfl, rfl⟩ rfl) ?_
  refine WL.done (hK8 _ _ ?_)
  refine WC.seqCut (σ := (List (BitVec 8))) (fun x13 => [(2, .pointer (some ⟨g2, 0, none⟩)), (4, .pointer (some ⟨g12, 0, none⟩))]) (fun x13 => [(0, .mem M0), (102, .blk g2 26 [I64 (0 : Int), I64 (0 : Int), .slice none 0 0]), (110, .own 5 (Lay.sz (BitVec 8)) (some ⟨g10, 0, none⟩) x11.length x11.length (cel x13)), (112, .blk g12 26 [I64 x00, I64 x00, .slice (some ⟨g10, 0, none⟩) x11.length x11.length])]) (fun x13 => m_r03_Identity_j0 x00 x13 = some res) (fun K14 hK14 => ?_) ?_
  ·
   skip
   refine WC.seqRegion fun K15 hK15 => ?_
   refine WL.yld (by decide) (Yld.assign rfl) ?_
   refine WL.done (hK15 _ _ ?_)
   refine WC.block ?_
   refine WC.loop (σ := Nat × (List (BitVec 8)) × Int) (fun ⟨q18, x16, x17⟩ => [(0, I64 x00), (2, .pointer (some ⟨g2, 0, none⟩)), (4, .pointer (some ⟨g12, 0, none⟩)), (5, I64 x17)]) (fun ⟨q18, x16, x17⟩ => [(0, .mem M0), (102, .blk g2 26 [I64 (0 : Int), I64 (0 : Int), .slice none 0 0]), (110, .own 5 (Lay.sz (BitVec 8)) (some ⟨g10, 0, none⟩) x11.length x11.length (cel x16)), (112, .blk g12 26 [I64 x00, I64 x00, .slice (some ⟨g10, 0, none⟩) x11.length x11.length])]) (fun ⟨q18, x16, x17⟩ => m_r03_Identity_l1 x00 q18 x16 x17 = some res) (fun ⟨q18, x16, x17⟩ => q18) ⟨forever, x11, (0 : Int)⟩ ?_ (Sub.cons rfl (Sub.cons rfl (Sub.cons rfl (Sub.cons rfl (Sub.nil _))))) (Sub.cons rfl (Sub.cons rfl (Sub.cons rfl (Sub.cons rfl (Sub.nil _))))) ?_
   ·
    exact h
   rintro ⟨q18, x16, x17⟩ h K19 hK19
   cases q18 with
   | zero => exact absurd h (by simp [m_r03_Identity_l1])
   | succ q18 =>
    unfold m_r03_Identity_l1 at h
    refine WC.seq fun K20 hK20 => ?_
    refine WC.seqRegion fun K21 hK21 => ?_
    refine WL.yld (by decide) (Yld.move rfl) ?_
    refine WL.yld (by decide) (Yld.move rfl) ?_
    refine WL.yld (by decide) (Yld.lss rfl rfl) ?_
    refine WL.done (hK21 _ _ ?_)
    by_cases hc22 : x17 < x00
    ·
     replace h := of_t hc22 h
     refine WC.condTe rfl (decide_eq_true hc22) ?_
     refine WC.skip ?_
     refine QK.thenN (hK20 _ _ ?_)
     refine WC.seq fun K23 hK23 => ?_
     refine WC.block ?_
     refine WC.region fun K24 hK24 => ?_
     obtain ⟨x25, hx25, h⟩ := bnd h
     obtain ⟨x26, hx26, h⟩ := bnd h
     obtain ⟨x27, hx27, h⟩ := bnd h
     obtain ⟨x28, hx28, h⟩ := bnd h
     refine WL.yld (by decide) (Yld.fieldAddr Try.underlying26 rfl nz_22 rfl rfl) ?_
     refine WL.yld (by decide) (Yld.loadB (k := 112) scal_22 rfl rfl rfl) ?_
     refine WL.yld (by decide) (Yld.move rfl) ?_
     refine WL.yld (by decide) (Yld.move rfl) ?_
     refine WL.yld (by decide) (Yld.mulC rfl rfl hx25) ?_
     refine WL.yld (by decide) (Yld.move rfl) ?_
     refine WL.yld (by decide) (Yld.addC rfl rfl hx26) ?_
     refine WL.yld (by decide) (Yld.idxC (xs := x16) sty_22 rfl rfl (RdH.own (k := 110) rfl) hx27) ?_
     refine WL.eff0 (Eff0.storeC1 110 (xs := x16) (a' := 1#8) siz_5 rfl rfl rfl rfl rfl rfl hx28) ?_
     refine WL.done (hK24 _ _ ?_)
     refine QK.blockN ?_
     refine QK.thenN (hK23 _ _ ?_)
     refine WC.region fun K29 hK29 => ?_
     obtain ⟨x30, hx30, h⟩ := bnd h
     refine WL.yld (by decide) (Yld.move rfl) ?_
     refine WL.yld (by decide) (Yld.addC rfl rfl hx30) ?_
     refine WL.yld (by decide) (Yld.assign rfl) ?_
     refine WL.done (hK29 _ _ ?_)
     refine QK.thenN ?_
     refine hK19 ⟨q18, x28, x30⟩ _ _ ?_ (Nat.lt_succ_self _) (Sub.cons rfl (Sub.cons rfl (Sub.cons rfl (Sub.cons rfl (Sub.nil _))))) (Sub.cons rfl (Sub.cons rfl (Sub.cons rfl (Sub.cons rfl (Sub.nil _)))))
     exact h
    ·
     replace h := of_f hc22 h
     refine WC.condFe rfl (decide_eq_false hc22) ?_
     refine WC.exit (QK.thenE (QK.thenE (QK.blockX ?_)))
     refine QK.thenN ?_
     refine hK14 x16 _ _ ?_ (Sub.cons rfl (Sub.cons rfl (Sub.nil _))) (Sub.cons rfl (Sub.cons rfl (Sub.cons rfl (Sub.cons rfl (Sub.nil _)))))
     exact h
  ·
   rintro x13 h
   unfold m_r03_Identity_j0 at h
   refine WC.seqRegion fun K31 hK31 => ?_
   refine WL.yld (by decide) (Yld.loadBM (k := 112) agg_26 rfl rfl rfl) ?_
   refine WL.eff0 (Eff0.storeBAM 102 agg_26 rfl rfl rfl ⟨rfl, rfl⟩ rfl) ?_
   refine WL.yld (by decide) (Yld.assign rfl) ?_
   refine WL.done (hK31 _ _ ?_)
   refine WC.ret ?_
   injection h with h; subst h
   exact Ret.fn [110] (ResIs.cellTmpM (k := 102) rfl agg_26 rfl rfl rfl rfl) rfl (Ext.refl _ _) rfl (by decide) rfl rfl ⟨(some ⟨g10, 0, none⟩), x11.length, x11.length, rfl, rfl⟩
 ·
  replace h := of_f hc7 h
  refine WC.condTe rfl (not_t (Bool.eq_false_iff.2 hc7)) ?_
  refine WC.seqRegion fun K32 hK32 => ?_
  refine WL.yld (by decide) (Yld.build rfl (bu_26_)) ?_
  refine WL.eff0 (Eff0.storeBAM 102 agg_26 rfl rfl rfl ⟨rfl, rfl⟩ rfl) ?_
  refine WL.yld (by decide) (Yld.assign rfl) ?_
  refine WL.done (hK32 _ _ ?_)
  refine WC.ret (QK.thenR ?_)
  refine QK.nilOwn 133 5 (Lay.sz (BitVec 8)) none ?_
  injection h with h; subst h
  exact Ret.fn [133] (ResIs.cellTmpM (k := 102) rfl agg_26 rfl rfl rfl rfl) rfl (Ext.refl _ _) rfl (by decide) rfl rfl ⟨none, 0, 0, rfl, rfl⟩

set_option maxRecDepth 10000 in
theorem w_r03_Vandermonde (M0 : Mem) (x00 : Int) (x01 : Int) {res : Int × Int × (List (BitVec 8)) × Int} (h : m_r03_Vandermonde x00 x01 = some res) :
  Fn Try.prog 30 #[I64 x00, I64 x01] M0 fun r M' es => ∃ (A1 : Option Addr) (n1 c1 : Nat), r = .tuple #[.agg ([I64 res.1, I64 res.2.1, .slice A1 n1 c1] : List Value).toArray, I64 res.2.2.2] ∧ es = [.own 5 (Lay.sz (BitVec 8)) A1 n1 c1 (cel res.2.2.1)] := by
 refine Fn.intro (N := 39) Try.func30 rfl rfl (Nat.le_of_ble_eq_true rfl) fun w0 => ?_
 unfold m_r03_Vandermonde at h
 refine WC.seqRegion fun K1 hK1 => ?_
 refine WL.eff (by decide) (Eff.alloc 102 rfl zr_26) ?_
 rintro _ _ ⟨g2, rfl, rfl⟩
 refine WL.yld (by decide) (Yld.assign rfl) ?_
 refine WL.done (hK1 _ _ ?_)
 refine WC.seq fun K3 hK3 => ?_
 refine WC.seqRegion fun K4 hK4 => ?_
 obtain ⟨x5, hx5, h⟩ := bnd h
 refine WL.yld (by decide) (Yld.move rfl) ?_
 refine WL.yld (by decide) (Yld.move rfl) ?_
 refine WL.eff (by decide) (Eff.callS 106 rfl Try.func55 nm_55 rfl rfl (fun w hb hh => w_r03_size (Mem.snap w) x00 x01 hx5)) ?_
 rintro _ _ ⟨_, ⟨rfl, rfl⟩, rfl⟩
 refine WL.yld (by decide) (Yld.notB rfl) ?_
 refine WL.done (hK4 _ _ ?_)
 by_cases hc7 : x5 = true
 ·
  replace h := of_t hc7 h
  refine WC.condFe rfl (not_f hc7) ?_
  refine WC.skip ?_
  refine QK.thenN (hK3 _ _ ?_)
  refine WC.seqRegion fun K8 hK8 => ?_
  refine WL.yld (by decide) (Yld.move rfl) ?_
  refine WL.yld (by decide) (Yld.move rfl) ?_
  refine WL.yld (by decide) (Yld.build rfl (bu_26_0_1 x00 x01)) ?_
  refine WL.eff (by decide) (Eff.alloc 109 rfl zr_26) ?_
  rintro _ _ ⟨g9, rfl, rfl⟩
  refine WL.eff0 (Eff0.storeBAM 109 agg_26 rfl rfl rfl ⟨rfl, rfl⟩ rfl) ?_
  refine WL.done (hK8 _ _ ?_)
  refine WC.seqCut (σ := (Option Addr) × Nat × Nat × (List (BitVec 8))) (fun ⟨A12, n13, c14, x15⟩ => [(4, .pointer (some ⟨g2, 0, none⟩)), (6, .pointer (some ⟨g9, 0, none⟩))]) (fun ⟨A12, n13, c14, x15⟩ => [(0, .mem M0), (102, .blk g2 26 [I64 (0 : Int), I64 (0 : Int), .slice none 0 0]), (109, .blk g9 26 [I64 x00, I64 x01, .slice A12 n13 c14]), (111, .own 5 (Lay.sz (BitVec 8)) A12 n13 c14 (cel x15))]) (fun ⟨A12, n13, c14, x15⟩ => m_r03_Vandermonde_j0 x00 x01 x15 = some res) (fun K16 hK16 => ?_) ?_
  ·
   skip
   refine WC.seqRegion fun K17 hK17 => ?_
   refine WL.yld (by decide) (Yld.assign rfl) ?_
   refine WL.done (hK17 _ _ ?_)
   refine WC.block ?_
   refine WC.nilOwn 119 5 (Lay.sz (BitVec 8)) none ?_
   refine WC.loop (σ := Nat × (Option Addr) × Nat × Nat × (List (BitVec 8)) × Int) (fun ⟨q25, A20, n21, c22, x23, x24⟩ => [(0, I64 x00), (1, I64 x01), (4, .pointer (some ⟨g2, 0, none⟩)), (6, .pointer (some ⟨g9, 0, none⟩)), (7, I64 x24)]) (fun ⟨q25, A20, n21, c22, x23, x24⟩ => [(0, .mem M0), (102, .blk g2 26 [I64 (0 : Int), I64 (0 : Int), .slice none 0 0]), (109, .blk g9 26 [I64 x00, I64 x01, .slice A20 n21 c22]), (119, .own 5 (Lay.sz (BitVec 8)) A20 n21 c22 (cel x23))]) (fun ⟨q25, A20, n21, c22, x23, x24⟩ => m_r03_Vandermonde_l1 x00 x01 q25 x23 x24 = some res) (fun ⟨q25, A20, n21, c22, x23, x24⟩ => q25) ⟨forever, none, 0, 0, ([] : List (BitVec 8)), (0 : Int)⟩ ?_ (Sub.cons rfl (Sub.cons rfl (Sub.cons rfl (Sub.cons rfl (Sub.cons rfl (Sub.nil _)))))) (Sub.cons rfl (Sub.cons rfl (Sub.cons rfl (Sub.cons rfl (Sub.nil _))))) ?_
   ·
    exact h
   rintro ⟨q25, A20, n21, c22, x23, x24⟩ h K26 hK26
   cases q25 with
   | zero => exact absurd h (by simp [m_r03_Vandermonde_l1])
   | succ q25 =>
    unfold m_r03_Vandermonde_l1 at h
    refine WC.seq fun K27 hK27 => ?_
    refine WC.seqRegion fun K28 hK28 => ?_
    refine WL.yld (by decide) (Yld.move rfl) ?_
    refine WL.yld (by decide) (Yld.move rfl) ?_
    refine WL.yld (by decide) (Yld.lss rfl rfl) ?_
    refine WL.done (hK28 _ _ ?_)
    by_cases hc29 : x24 < x00
    ·
     replace h := of_t hc29 h
     refine WC.condTe rfl (decide_eq_true hc29) ?_
     refine WC.skip ?_
     refine QK.thenN (hK27 _ _ ?_)
     refine WC.seqCut (σ := (Option Addr) × Nat × Nat × (List (BitVec 8))) (fun ⟨A30, n31, c32, x33⟩ => [(0, I64 x00), (1, I64 x01), (4, .pointer (some ⟨g2, 0, none⟩)), (6, .pointer (some ⟨g9, 0, none⟩)), (7, I64 x24)]) (fun ⟨A30, n31, c32, x33⟩ => [(0, .mem M0), (102, .blk g2 26 [I64 (0 : Int), I64 (0 : Int), .slice none 0 0]), (109, .blk g9 26 [I64 x00, I64 x01, .slice A30 n31 c32]), (119, .own 5 (Lay.sz (BitVec 8)) A30 n31 c32 (cel x33))]) (fun ⟨A30, n31, c32, x33⟩ => m_r03_Vandermonde_j2 x24 (m_r03_Vandermonde_l1 x00 x01 q25) x33 = some res) (fun K34 hK34 => ?_) ?_
     ·
      skip
      refine WC.block ?_
      refine WC.seqRegion fun K35 hK35 => ?_
      refine WL.yld (by decide) (Yld.assign (v := U8 1#8) rfl) ?_
      refine WL.done (hK35 _ _ ?_)
      refine WC.seqRegion fun K36 hK36 => ?_
      refine WL.yld (by decide) (Yld.assign rfl) ?_
      refine WL.done (hK36 _ _ ?_)
      refine WC.block ?_
      refine WC.loop (σ := Nat × (Option Addr) × Nat × Nat × (List (BitVec 8)) × (BitVec 8) × Int) (fun ⟨q43, A37, n38, c39, x40, x41, x42⟩ => [(0, I64 x00), (1, I64 x01), (4, .pointer (some ⟨g2, 0, none⟩)), (6, .pointer (some ⟨g9, 0, none⟩)), (7, I64 x24), (8, U8 x41), (9, I64 x42)]) (fun ⟨q43, A37, n38, c39, x40, x41, x42⟩ => [(0, .mem M0), (102, .blk g2 26 [I64 (0 : Int), I64 (0 : Int), .slice none 0 0]), (109, .blk g9 26 [I64 x00, I64 x01, .slice A37 n38 c39]), (119, .own 5 (Lay.sz (BitVec 8)) A37 n38 c39 (cel x40))]) (fun ⟨q43, A37, n38, c39, x40, x41, x42⟩ => m_r03_Vandermonde_l3 x01 x24 (m_r03_Vandermonde_l1 x00 x01 q25) q43 x40 x41 x42 = some res) (fun ⟨q43, A37, n38, c39, x40, x41, x42⟩ => q43) ⟨forever, A20, n21, c22, x23, 1#8, (0 : Int)⟩ ?_ (Sub.cons rfl (Sub.cons rfl (Sub.cons rfl (Sub.cons rfl (Sub.cons rfl (Sub.cons rfl (Sub.cons rfl (Sub.nil _)))))))) (Sub.cons rfl (Sub.cons rfl (Sub.cons rfl (Sub.cons rfl (Sub.nil _))))) ?_
      ·
       exact h
      rintro ⟨q43, A37, n38, c39, x40, x41, x42⟩ h K44 hK44
      cases q43 with
      | zero => exact absurd h (by simp [m_r03_Vandermonde_l3])
      | succ q43 =>
       unfold m_r03_Vandermonde_l3 at h
       refine WC.seq fun K45 hK45 => ?_
       refine WC.seqRegion fun K46 hK46 => ?_
       refine WL.yld (by decide) (Yld.move rfl) ?_
       refine WL.yld (by decide) (Yld.move rfl) ?_
       refine WL.yld (by decide) (Yld.lss rfl rfl) ?_
       refine WL.done (hK46 _ _ ?_)
       by_cases hc47 : x42 < x01
       ·
        replace h := of_t hc47 h
        refine WC.condTe rfl (decide_eq_true hc47) ?_
        refine WC.skip ?_
        refine QK.thenN (hK45 _ _ ?_)
        refine WC.seq fun K48 hK48 => ?_
        refine WC.block ?_
        refine WC.seqRegion fun K49 hK49 => ?_
        obtain ⟨x51, hx51, h⟩ := bnd h
        refine WL.yld (by decide) (Yld.fieldAddr Try.underlying26 rfl nz_22 rfl rfl) ?_
        refine WL.yld (by decide) (Yld.loadB (k := 109) scal_22 rfl rfl rfl) ?_
        refine WL.yld (by decide) (Yld.move rfl) ?_
        refine WL.eff (by decide) (Eff.buildC 150 ([x41] : List (BitVec 8)) sty_22 rfl rfl rfl rfl rfl (by decide)) ?_
        rintro _ _ ⟨g50, rfl, rfl⟩
        refine WL.eff (by decide) (Eff.appendC 119 (xs := x40) (ys := ([x41] : List (BitVec 8))) sty_22 rfl rfl rfl (RdH.own (k := 150) rfl) hx51) ?_
        rintro _ _ ⟨A52, c53, rfl, rfl⟩
        refine WL.yld (by decide) (Yld.fieldAddr Try.underlying26 rfl nz_22 rfl rfl) ?_
        refine WL.eff0 (Eff0.storeB 109 siz_22 rfl rfl rfl rfl (Nat.le_of_ble_eq_true rfl)) ?_
        refine WL.done (hK49 _ _ ?_)
        refine WC.region fun K54 hK54 => ?_
        obtain ⟨x55, hx55, h⟩ := bnd h
        refine WL.yld (by decide) (Yld.move rfl) ?_
        refine WL.yld (by decide) (Yld.move rfl) ?_
        refine WL.yld (by decide) (Yld.conv_i64_u8 some_3 und_5 rfl) ?_
        refine WL.eff (by decide) (Eff.callS 156 rfl Try.func56 nm_56 rfl rfl (fun w hb hh => w_r02_Mul (Mem.snap w) x41 (BitVec.ofInt 8 x24) hx55)) ?_
        rintro _ _ ⟨_, ⟨rfl, rfl⟩, rfl⟩
        refine WL.yld (by decide) (Yld.assign rfl) ?_
        refine WL.done (hK54 _ _ ?_)
        refine QK.blockN ?_
        refine QK.thenN (hK48 _ _ ?_)
        refine WC.region fun K57 hK57 => ?_
        obtain ⟨x58, hx58, h⟩ := bnd h
        refine WL.yld (by decide) (Yld.move rfl) ?_
        refine WL.yld (by decide) (Yld.addC rfl rfl hx58) ?_
        refine WL.yld (by decide) (Yld.assign rfl) ?_
        refine WL.done (hK57 _ _ ?_)
        refine QK.thenN ?_
        refine hK44 ⟨q43, A52, x51.length, c53, x51, x55, x58⟩ _ _ ?_ (Nat.lt_succ_self _) (Sub.cons rfl (Sub.cons rfl (Sub.cons rfl (Sub.cons rfl (Sub.cons rfl (Sub.cons rfl (Sub.cons rfl (Sub.nil _)))))))) (Sub.cons rfl (Sub.cons rfl (Sub.cons rfl (Sub.cons rfl (Sub.nil _)))))
        exact h
       ·
        replace h := of_f hc47 h
        refine WC.condFe rfl (decide_eq_false hc47) ?_
        refine WC.exit (QK.thenE (QK.thenE (QK.blockX ?_)))
        refine QK.blockN ?_
        refine QK.thenN ?_
        refine hK34 ⟨A37, n38, c39, x40⟩ _ _ ?_ (Sub.cons rfl (Sub.cons rfl (Sub.cons rfl (Sub.cons rfl (Sub.cons rfl (Sub.nil _)))))) (Sub.cons rfl (Sub.cons rfl (Sub.cons rfl (Sub.cons rfl (Sub.nil _)))))
        exact h
     ·
      rintro ⟨A30, n31, c32, x33⟩ h
      unfold m_r03_Vandermonde_j2 at h
      refine WC.region fun K59 hK59 => ?_
      obtain ⟨x60, hx60, h⟩ := bnd h
      refine WL.yld (by decide) (Yld.move rfl) ?_
      refine WL.yld (by decide) (Yld.addC rfl rfl hx60) ?_
      refine WL.yld (by decide) (Yld.assign rfl) ?_
      refine WL.done (hK59 _ _ ?_)
      refine QK.thenN ?_
      refine hK26 ⟨q25, A30, n31, c32, x33, x60⟩ _ _ ?_ (Nat.lt_succ_self _) (Sub.cons rfl (Sub.cons rfl (Sub.cons rfl (Sub.cons rfl (Sub.cons rfl (Sub.nil _)))))) (Sub.cons rfl (Sub.cons rfl (Sub.cons rfl (Sub.cons rfl (Sub.nil _)))))
      exact h
    ·
     replace h := of_f hc29 h
     refine WC.condFe rfl (decide_eq_false hc29) ?_
     refine WC.exit (QK.thenE (QK.thenE (QK.blockX ?_)))
     refine QK.thenN ?_
     refine KK.move 119 111 rfl rfl ?_
     refine hK16 ⟨A20, n21, c22, x23⟩ _ _ ?_ (Sub.cons rfl (Sub.cons rfl (Sub.nil _))) (Sub.cons rfl (Sub.cons rfl (Sub.cons rfl (Sub.cons rfl (Sub.nil _)))))
     exact h
  ·
   rintro ⟨A12, n13, c14, x15⟩ h
   unfold m_r03_Vandermonde_j0 at h
   refine WC.seqRegion fun K61 hK61 => ?_
   refine WL.yld (by decide) (Yld.loadBM (k := 109) agg_26 rfl rfl rfl) ?_
   refine WL.eff0 (Eff0.storeBAM 102 agg_26 rfl rfl rfl ⟨rfl, rfl⟩ rfl) ?_
   refine WL.yld (by decide) (Yld.assign rfl) ?_
   refine WL.done (hK61 _ _ ?_)
   refine WC.ret ?_
   injection h with h; subst h
   exact Ret.fn [111] (ResIs.cellTmpM (k := 102) rfl agg_26 rfl rfl rfl rfl) rfl (Ext.refl _ _) rfl (by decide) rfl rfl ⟨A12, n13, c14, rfl, rfl⟩
 ·
  replace h := of_f hc7 h
  refine WC.condTe rfl (not_t (Bool.eq_false_iff.2 hc7)) ?_
  refine WC.seqRegion fun K62 hK62 => ?_
  refine WL.yld (by decide) (Yld.build rfl (bu_26_)) ?_
  refine WL.eff0 (Eff0.storeBAM 102 agg_26 rfl rfl rfl ⟨rfl, rfl⟩ rfl) ?_
  refine WL.yld (by decide) (Yld.assign rfl) ?_
  refine WL.done (hK62 _ _ ?_)
  refine WC.ret (QK.thenR ?_)
  refine QK.nilOwn 163 5 (Lay.sz (BitVec 8)) none ?_
  injection h with h; subst h
  exact Ret.fn [163] (ResIs.cellTmpM (k := 102) rfl agg_26 rfl rfl rfl rfl) rfl (Ext.refl _ _) rfl (by decide) rfl rfl ⟨none, 0, 0, rfl, rfl⟩

set_option maxRecDepth 10000 in
theorem w_r03_Mul (M0 : Mem) (x00_0 : Int) (x00_1 : Int) (A00_2 : Option Addr) (n00_2 c00_2 : Nat) (x00_2 : List (BitVec 8)) (hf00_2 : SlT M0 A00_2 n00_2 c00_2 x00_2) (x01_0 : Int) (x01_1 : Int) (A01_2 : Option Addr) (n01_2 c01_2 : Nat) (x01_2 : List (BitVec 8)) (hf01_2 : SlT M0 A01_2 n01_2 c01_2 x01_2) {res : Int × Int × (List (BitVec 8)) × Int} (h : m_r03_Mul x00_0 x00_1 x00_2 x01_0 x01_1 x01_2 = some res) :
  Fn Try.prog 33 #[.agg ([I64 x00_0, I64 x00_1, .slice A00_2 n00_2 c00_2] : List Value).toArray, .agg ([I64 x01_0, I64 x01_1, .slice A01_2 n01_2 c01_2] : List Value).toArray] M0 fun r M' es => ∃ (A1 : Option Addr) (n1 c1 : Nat), r = .tuple #[.agg ([I64 res.1, I64 res.2.1, .slice A1 n1 c1] : List Value).toArray, I64 res.2.2.2] ∧ es = [.own 5 (Lay.sz (BitVec 8)) A1 n1 c1 (cel res.2.2.1)] := by
 refine Fn.intro (N := 80) Try.func33 rfl rfl (Nat.le_of_ble_eq_true rfl) fun w0 => ?_
 unfold m_r03_Mul at h
 refine WC.seqRegion fun K1 hK1 => ?_
 refine WL.eff (by decide) (Eff.box 102 (us := [I64 x00_0, I64 x00_1, .slice A00_2 n00_2 c00_2]) rfl rfl rfl) ?_
 rintro _ _ ⟨g2, rfl, rfl⟩
 refine WL.eff (by decide) (Eff.box 103 (us := [I64 x01_0, I64 x01_1, .slice A01_2 n01_2 c01_2]) rfl rfl rfl) ?_
 rintro _ _ ⟨g3, rfl, rfl⟩
 refine WL.eff (by decide) (Eff.alloc 104 rfl zr_26) ?_
 rintro _ _ ⟨g4, rfl, rfl⟩
 refine WL.yld (by decide) (Yld.assign rfl) ?_
 refine WL.done (hK1 _ _ ?_)
 refine WC.seqCut (σ := Unit) (fun _ => [(2, .pointer (some ⟨g2, 0, none⟩)), (3, .pointer (some ⟨g3, 0, none⟩)), (4, .pointer (some ⟨g4, 0, none⟩))]) (fun _ => [(0, .mem M0), (102, .blk g2 26 [I64 x00_0, I64 x00_1, .slice A00_2 n00_2 c00_2]), (103, .blk g3 26 [I64 x01_0, I64 x01_1, .slice A01_2 n01_2 c01_2]), (104, .blk g4 26 [I64 (0 : Int), I64 (0 : Int), .slice none 0 0])]) (fun _ => m_r03_Mul_j0 x00_0 x00_1 x00_2 x01_1 x01_2 = some res) (fun K5 hK5 => ?_) ?_
 ·
  skip
  refine WC.seqRegion fun K6 hK6 => ?_
  obtain ⟨x7, hx7, h⟩ := bnd h
  by_cases hc9 : x7 = true
  ·
   replace h := of_t hc9 h
   obtain ⟨x10, hx10, h⟩ := bnd h
   by_cases hc12 : x10 = true
   ·
    replace h := of_t hc12 h
    refine WL.yld (by decide) (Yld.loadBM (k := 102) agg_26 rfl rfl rfl) ?_
    refine WL.eff (by decide) (Eff.callS 108 rfl Try.func57 nm_57 rfl rfl (fun w hb hh => w_r03_Valid (Mem.snap w) x00_0 x00_1 A00_2 n00_2 c00_2 _ (RdH.sn (RdH.memM (k := 0) rfl hf00_2) w hb hh) hx7)) ?_
    rintro _ _ ⟨_, ⟨rfl, rfl⟩, rfl⟩
    refine WL.yld (by decide) (Yld.notB rfl) ?_
    refine WL.yld (by decide) (Yld.move rfl) ?_
    refine WL.new (v' := .bool false) (congrArg Value.bool (not_f hc9)) ?_
    refine WL.yldG (by decide) rfl (Yld.loadBM (k := 103) agg_26 rfl rfl rfl) ?_
    refine WL.effG (by decide) rfl (Eff.callS 111 rfl Try.func57 nm_57 rfl rfl (fun w hb hh => w_r03_Valid (Mem.snap w) x01_0 x01_1 A01_2 n01_2 c01_2 _ (RdH.sn (RdH.memM (k := 0) rfl hf01_2) w hb hh) hx10)) ?_
    rintro _ _ ⟨_, ⟨rfl, rfl⟩, rfl⟩
    refine WL.yldG (by decide) rfl (Yld.notB rfl) ?_
    refine WL.yld (by decide) (Yld.pickF rfl rfl) ?_
    refine WL.yld (by decide) (Yld.move rfl) ?_
    refine WL.new (v' := .bool false) (congrArg Value.bool (not_f hc12)) ?_
    refine WL.yldG (by decide) rfl (Yld.fieldAddr Try.underlying26 rfl nz_3 rfl rfl) ?_
    refine WL.yldG (by decide) rfl (Yld.loadB (k := 102) scal_3 rfl rfl rfl) ?_
    refine WL.yldG (by decide) rfl (Yld.fieldAddr Try.underlying26 rfl nz_3 rfl rfl) ?_
    refine WL.yldG (by decide) rfl (Yld.loadB (k := 103) scal_3 rfl rfl rfl) ?_
    refine WL.yldG (by decide) rfl (Yld.neqI rfl rfl) ?_
    refine WL.yld (by decide) (Yld.pickF rfl rfl) ?_
    refine WL.done (hK6 _ _ ?_)
    by_cases hc13 : x00_1 = x01_0
    ·
     replace h := of_t hc13 h
     refine WC.condFe rfl (bne_eq_false_iff_eq.2 hc13) ?_
     refine WC.skip ?_
     refine QK.thenN ?_
     refine hK5 () _ _ ?_ (Sub.cons rfl (Sub.cons rfl (Sub.cons rfl (Sub.nil _)))) (Sub.cons rfl (Sub.cons rfl (Sub.cons rfl (Sub.cons rfl (Sub.nil _)))))
     exact h
    ·
     replace h := of_f hc13 h
     refine WC.condTe rfl (bne_iff_ne.2 hc13) ?_
     refine WC.seqRegion fun K14 hK14 => ?_
     refine WL.yld (by decide) (Yld.build rfl (bu_26_)) ?_
     refine WL.eff0 (Eff0.storeBAM 104 agg_26 rfl rfl rfl ⟨rfl, rfl⟩ rfl) ?_
     refine WL.yld (by decide) (Yld.assign rfl) ?_
     refine WL.done (hK14 _ _ ?_)
     refine WC.ret (QK.thenR ?_)
     refine QK.nilOwn 115 5 (Lay.sz (BitVec 8)) none ?_
     injection h with h; subst h
     exact Ret.fn [115] (ResIs.cellTmpM (k := 104) rfl agg_26 rfl rfl rfl rfl) rfl (Ext.refl _ _) rfl (by decide) rfl rfl ⟨none, 0, 0, rfl, rfl⟩
   ·
    replace h := of_f hc12 h
    refine WL.yld (by decide) (Yld.loadBM (k := 102) agg_26 rfl rfl rfl) ?_
    refine WL.eff (by decide) (Eff.callS 108 rfl Try.func57 nm_57 rfl rfl (fun w hb hh => w_r03_Valid (Mem.snap w) x00_0 x00_1 A00_2 n00_2 c00_2 _ (RdH.sn (RdH.memM (k := 0) rfl hf00_2) w hb hh) hx7)) ?_
    rintro _ _ ⟨_, ⟨rfl, rfl⟩, rfl⟩
    refine WL.yld (by decide) (Yld.notB rfl) ?_
    refine WL.yld (by decide) (Yld.move rfl) ?_
    refine WL.new (v' := .bool false) (congrArg Value.bool (not_f hc9)) ?_
    refine WL.yldG (by decide) rfl (Yld.loadBM (k := 103) agg_26 rfl rfl rfl) ?_
    refine WL.effG (by decide) rfl (Eff.callS 111 rfl Try.func57 nm_57 rfl rfl (fun w hb hh => w_r03_Valid (Mem.snap w) x01_0 x01_1 A01_2 n01_2 c01_2 _ (RdH.sn (RdH.memM (k := 0) rfl hf01_2) w hb hh) hx10)) ?_
    rintro _ _ ⟨_, ⟨rfl, rfl⟩, rfl⟩
    refine WL.yldG (by decide) rfl (Yld.notB rfl) ?_
    refine WL.yld (by decide) (Yld.pickF rfl rfl) ?_
    refine WL.yld (by decide) (Yld.move rfl) ?_
    refine WL.new (v' := .bool true) (congrArg Value.bool (not_t (Bool.eq_false_iff.2 hc12))) ?_
    refine WL.skip (by decide) rfl rfl ?_
    refine WL.skip (by decide) rfl rfl ?_
    refine WL.skip (by decide) rfl rfl ?_
    refine WL.skip (by decide) rfl rfl ?_
    refine WL.skip (by decide) rfl rfl ?_
    refine WL.yld (by decide) (Yld.pickT rfl rfl) ?_
    refine WL.done (hK6 _ _ ?_)
    refine WC.condT rfl ?_
    refine WC.seqRegion fun K16 hK16 => ?_
    refine WL.yld (by decide) (Yld.build rfl (bu_26_)) ?_
    refine WL.eff0 (Eff0.storeBAM 104 agg_26 rfl rfl rfl ⟨rfl, rfl⟩ rfl) ?_
    refine WL.yld (by decide) (Yld.assign rfl) ?_
    refine WL.done (hK16 _ _ ?_)
    refine WC.ret (QK.thenR ?_)
    refine QK.nilOwn 117 5 (Lay.sz (BitVec 8)) none ?_
    injection h with h; subst h
    exact Ret.fn [117] (ResIs.cellTmpM (k := 104) rfl agg_26 rfl rfl rfl rfl) rfl (Ext.refl _ _) rfl (by decide) rfl rfl ⟨none, 0, 0, rfl, rfl⟩
  ·
   replace h := of_f hc9 h
   refine WL.yld (by decide) (Yld.loadBM (k := 102) agg_26 rfl rfl rfl) ?_
   refine WL.eff (by decide) (Eff.callS 108 rfl Try.func57 nm_57 rfl rfl (fun w hb hh => w_r03_Valid (Mem.snap w) x00_0 x00_1 A00_2 n00_2 c00_2 _ (RdH.sn (RdH.memM (k := 0) rfl hf00_2) w hb hh) hx7)) ?_
   rintro _ _ ⟨_, ⟨rfl, rfl⟩, rfl⟩
   refine WL.yld (by decide) (Yld.notB rfl) ?_
   refine WL.yld (by decide) (Yld.move rfl) ?_
   refine WL.new (v' := .bool true) (congrArg Value.bool (not_t (Bool.eq_false_iff.2 hc9))) ?_
   refine WL.skip (by decide) rfl rfl ?_
   refine WL.skip (by decide) rfl rfl ?_
   refine WL.skip (by decide) rfl rfl ?_
   refine WL.yld (by decide) (Yld.pickT rfl rfl) ?_
   refine WL.yld (by decide) (Yld.move rfl) ?_
   refine WL.skip (by decide) rfl rfl ?_
   refine WL.skip (by decide) rfl rfl ?_
   refine WL.skip (by decide) rfl rfl ?_
   refine WL.skip (by decide) rfl rfl ?_
   refine WL.skip (by decide) rfl rfl ?_
   refine WL.yld (by decide) (Yld.pickT rfl rfl) ?_
   refine WL.done (hK6 _ _ ?_)
   refine WC.condT rfl ?_
   refine WC.seqRegion fun K18 hK18 => ?_
   refine WL.yld (by decide) (Yld.build rfl (bu_26_)) ?_
   refine WL.eff0 (Eff0.storeBAM 104 agg_26 rfl rfl rfl ⟨rfl, rfl⟩ rfl) ?_
   refine WL.yld (by decide) (Yld.assign rfl) ?_
   refine WL.done (hK18 _ _ ?_)
   refine WC.ret (QK.thenR ?_)
   refine QK.nilOwn 119 5 (Lay.sz (BitVec 8)) none ?_
   injection h with h; subst h
   exact Ret.fn [119] (ResIs.cellTmpM (k := 104) rfl agg_26 rfl rfl rfl rfl) rfl (Ext.refl _ _) rfl (by decide) rfl rfl ⟨none, 0, 0, rfl, rfl⟩
 ·
  rintro _ h
  unfold m_r03_Mul_j0 at h
  refine WC.seqRegion fun K20 hK20 => ?_
  refine WL.yld (by decide) (Yld.fieldAddr Try.underlying26 rfl nz_3 rfl rfl) ?_
  refine WL.yld (by decide) (Yld.loadB (k := 102) scal_3 rfl rfl rfl) ?_
  refine WL.yld (by decide) (Yld.fieldAddr Try.underlying26 rfl nz_3 rfl rfl) ?_
  refine WL.yld (by decide) (Yld.loadB (k := 103) scal_3 rfl rfl rfl) ?_
  refine WL.yld (by decide) (Yld.build rfl (bu_26_0_1 x00_0 x01_1)) ?_
  refine WL.eff (by decide) (Eff.alloc 121 rfl zr_26) ?_
  rintro _ _ ⟨g21, rfl, rfl⟩
  refine WL.eff0 (Eff0.storeBAM 121 agg_26 rfl rfl rfl ⟨rfl, rfl⟩ rfl) ?_
  refine WL.done (hK20 _ _ ?_)
  refine WC.seqCut (σ := (Option Addr) × Nat × Nat × (List (BitVec 8))) (fun ⟨A24, n25, c26, x27⟩ => [(4, .pointer (some ⟨g4, 0, none⟩)), (6, .pointer (some ⟨g21, 0, none⟩))]) (fun ⟨A24, n25, c26, x27⟩ => [(0, .mem M0), (104, .blk g4 26 [I64 (0 : Int), I64 (0 : Int), .slice none 0 0]), (121, .blk g21 26 [I64 x00_0, I64 x01_1, .slice A24 n25 c26]), (123, .own 5 (Lay.sz (BitVec 8)) A24 n25 c26 (cel x27))]) (fun ⟨A24, n25, c26, x27⟩ => m_r03_Mul_j1 x00_0 x01_1 x27 = some res) (fun K28 hK28 => ?_) ?_
  ·
   skip
   refine WC.seqRegion fun K29 hK29 => ?_
   refine WL.yld (by decide) (Yld.assign rfl) ?_
   refine WL.done (hK29 _ _ ?_)
   refine WC.block ?_
   refine WC.nilOwn 131 5 (Lay.sz (BitVec 8)) none ?_
   refine WC.loop (σ := Nat × (Option Addr) × Nat × Nat × (List (BitVec 8)) × Int) (fun ⟨q37, A32, n33, c34, x35, x36⟩ => [(2, .pointer (some ⟨g2, 0, none⟩)), (3, .pointer (some ⟨g3, 0, none⟩)), (4, .pointer (some ⟨g4, 0, none⟩)), (6, .pointer (some ⟨g21, 0, none⟩)), (7, I64 x36)]) (fun ⟨q37, A32, n33, c34, x35, x36⟩ => [(0, .mem M0), (102, .blk g2 26 [I64 x00_0, I64 x00_1, .slice A00_2 n00_2 c00_2]), (103, .blk g3 26 [I64 x01_0, I64 x01_1, .slice A01_2 n01_2 c01_2]), (104, .blk g4 26 [I64 (0 : Int), I64 (0 : Int), .slice none 0 0]), (121, .blk g21 26 [I64 x00_0, I64 x01_1, .slice A32 n33 c34]), (131, .own 5 (Lay.sz (BitVec 8)) A32 n33 c34 (cel x35))]) (fun ⟨q37, A32, n33, c34, x35, x36⟩ => m_r03_Mul_l2 x00_0 x00_1 x00_2 x01_1 x01_2 q37 x35 x36 = some res) (fun ⟨q37, A32, n33, c34, x35, x36⟩ => q37) ⟨forever, none, 0, 0, ([] : List (BitVec 8)), (0 : Int)⟩ ?_ (Sub.cons rfl (Sub.cons rfl (Sub.cons rfl (Sub.cons rfl (Sub.cons rfl (Sub.nil _)))))) (Sub.cons rfl (Sub.cons rfl (Sub.cons rfl (Sub.cons rfl (Sub.cons rfl (Sub.cons rfl (Sub.nil _))))))) ?_
   ·
    exact h
   rintro ⟨q37, A32, n33, c34, x35, x36⟩ h K38 hK38
   cases q37 with
   | zero => exact absurd h (by simp [m_r03_Mul_l2])
   | succ q37 =>
    unfold m_r03_Mul_l2 at h
    refine WC.seq fun K39 hK39 => ?_
    refine WC.seqRegion fun K40 hK40 => ?_
    refine WL.yld (by decide) (Yld.move rfl) ?_
    refine WL.yld (by decide) (Yld.fieldAddr Try.underlying26 rfl nz_3 rfl rfl) ?_
    refine WL.yld (by decide) (Yld.loadB (k := 102) scal_3 rfl rfl rfl) ?_
    refine WL.yld (by decide) (Yld.lss rfl rfl) ?_
    refine WL.done (hK40 _ _ ?_)
    by_cases hc41 : x36 < x00_0
    ·
     replace h := of_t hc41 h
     refine WC.condTe rfl (decide_eq_true hc41) ?_
     refine WC.skip ?_
     refine QK.thenN (hK39 _ _ ?_)
     refine WC.seqCut (σ := (Option Addr) × Nat × Nat × (List (BitVec 8))) (fun ⟨A42, n43, c44, x45⟩ => [(2, .pointer (some ⟨g2, 0, none⟩)), (3, .pointer (some ⟨g3, 0, none⟩)), (4, .pointer (some ⟨g4, 0, none⟩)), (6, .pointer (some ⟨g21, 0, none⟩)), (7, I64 x36)]) (fun ⟨A42, n43, c44, x45⟩ => [(0, .mem M0), (102, .blk g2 26 [I64 x00_0, I64 x00_1, .slice A00_2 n00_2 c00_2]), (103, .blk g3 26 [I64 x01_0, I64 x01_1, .slice A01_2 n01_2 c01_2]), (104, .blk g4 26 [I64 (0 : Int), I64 (0 : Int), .slice none 0 0]), (121, .blk g21 26 [I64 x00_0, I64 x01_1, .slice A42 n43 c44]), (131, .own 5 (Lay.sz (BitVec 8)) A42 n43 c44 (cel x45))]) (fun ⟨A42, n43, c44, x45⟩ => m_r03_Mul_j3 x36 (m_r03_Mul_l2 x00_0 x00_1 x00_2 x01_1 x01_2 q37) x45 = some res) (fun K46 hK46 => ?_) ?_
     ·
      skip
      refine WC.block ?_
      refine WC.seqRegion fun K47 hK47 => ?_
      refine WL.yld (by decide) (Yld.assign rfl) ?_
      refine WL.done (hK47 _ _ ?_)
      refine WC.block ?_
      refine WC.loop (σ := Nat × (Option Addr) × Nat × Nat × (List (BitVec 8)) × Int) (fun ⟨q53, A48, n49, c50, x51, x52⟩ => [(2, .pointer (some ⟨g2, 0, none⟩)), (3, .pointer (some ⟨g3, 0, none⟩)), (4, .pointer (some ⟨g4, 0, none⟩)), (6, .pointer (some ⟨g21, 0, none⟩)), (7, I64 x36), (8, I64 x52)]) (fun ⟨q53, A48, n49, c50, x51, x52⟩ => [(0, .mem M0), (102, .blk g2 26 [I64 x00_0, I64 x00_1, .slice A00_2 n00_2 c00_2]), (103, .blk g3 26 [I64 x01_0, I64 x01_1, .slice A01_2 n01_2 c01_2]), (104, .blk g4 26 [I64 (0 : Int), I64 (0 : Int), .slice none 0 0]), (121, .blk g21 26 [I64 x00_0, I64 x01_1, .slice A48 n49 c50]), (131, .own 5 (Lay.sz (BitVec 8)) A48 n49 c50 (cel x51))]) (fun ⟨q53, A48, n49, c50, x51, x52⟩ => m_r03_Mul_l4 x00_1 x00_2 x01_1 x01_2 x36 (m_r03_Mul_l2 x00_0 x00_1 x00_2 x01_1 x01_2 q37) q53 x51 x52 = some res) (fun ⟨q53, A48, n49, c50, x51, x52⟩ => q53) ⟨forever, A32, n33, c34, x35, (0 : Int)⟩ ?_ (Sub.cons rfl (Sub.cons rfl (Sub.cons rfl (Sub.cons rfl (Sub.cons rfl (Sub.cons rfl (Sub.nil _))))))) (Sub.cons rfl (Sub.cons rfl (Sub.cons rfl (Sub.cons rfl (Sub.cons rfl (Sub.cons rfl (Sub.nil _))))))) ?_
      ·
       exact h
      rintro ⟨q53, A48, n49, c50, x51, x52⟩ h K54 hK54
      cases q53 with
      | zero => exact absurd h (by simp [m_r03_Mul_l4])
      | succ q53 =>
       unfold m_r03_Mul_l4 at h
       refine WC.seq fun K55 hK55 => ?_
       refine WC.seqRegion fun K56 hK56 => ?_
       refine WL.yld (by decide) (Yld.move rfl) ?_
       refine WL.yld (by decide) (Yld.fieldAddr Try.underlying26 rfl nz_3 rfl rfl) ?_
       refine WL.yld (by decide) (Yld.loadB (k := 103) scal_3 rfl rfl rfl) ?_
       refine WL.yld (by decide) (Yld.lss rfl rfl) ?_
       refine WL.done (hK56 _ _ ?_)
       by_cases hc57 : x52 < x01_1
       ·
        replace h := of_t hc57 h
        refine WC.condTe rfl (decide_eq_true hc57) ?_
        refine WC.skip ?_
        refine QK.thenN (hK55 _ _ ?_)
        refine WC.seqCut (σ := (Option Addr) × Nat × Nat × (List (BitVec 8))) (fun ⟨A58, n59, c60, x61⟩ => [(2, .pointer (some ⟨g2, 0, none⟩)), (3, .pointer (some ⟨g3, 0, none⟩)), (4, .pointer (some ⟨g4, 0, none⟩)), (6, .pointer (some ⟨g21, 0, none⟩)), (7, I64 x36), (8, I64 x52)]) (fun ⟨A58, n59, c60, x61⟩ => [(0, .mem M0), (102, .blk g2 26 [I64 x00_0, I64 x00_1, .slice A00_2 n00_2 c00_2]), (103, .blk g3 26 [I64 x01_0, I64 x01_1, .slice A01_2 n01_2 c01_2]), (104, .blk g4 26 [I64 (0 : Int), I64 (0 : Int), .slice none 0 0]), (121, .blk g21 26 [I64 x00_0, I64 x01_1, .slice A58 n59 c60]), (131, .own 5 (Lay.sz (BitVec 8)) A58 n59 c60 (cel x61))]) (fun ⟨A58, n59, c60, x61⟩ => m_r03_Mul_j5 x52 (m_r03_Mul_l4 x00_1 x00_2 x01_1 x01_2 x36 (m_r03_Mul_l2 x00_0 x00_1 x00_2 x01_1 x01_2 q37) q53) x61 = some res) (fun K62 hK62 => ?_) ?_
        ·
         skip
         refine WC.block ?_
         refine WC.seqRegion fun K63 hK63 => ?_
         refine WL.yld (by decide) (Yld.assign (v := U8 0#8) rfl) ?_
         refine WL.done (hK63 _ _ ?_)
         refine WC.seqCut (σ := (BitVec 8)) (fun x64 => [(2, .pointer (some ⟨g2, 0, none⟩)), (3, .pointer (some ⟨g3, 0, none⟩)), (4, .pointer (some ⟨g4, 0, none⟩)), (6, .pointer (some ⟨g21, 0, none⟩)), (7, I64 x36), (8, I64 x52), (9, U8 x64)]) (fun x64 => [(0, .mem M0), (102, .blk g2 26 [I64 x00_0, I64 x00_1, .slice A00_2 n00_2 c00_2]), (103, .blk g3 26 [I64 x01_0, I64 x01_1, .slice A01_2 n01_2 c01_2]), (104, .blk g4 26 [I64 (0 : Int), I64 (0 : Int), .slice none 0 0]), (121, .blk g21 26 [I64 x00_0, I64 x01_1, .slice A48 n49 c50]), (131, .own 5 (Lay.sz (BitVec 8)) A48 n49 c50 (cel x51))]) (fun x64 => m_r03_Mul_j6 x51 x52 (m_r03_Mul_l4 x00_1 x00_2 x01_1 x01_2 x36 (m_r03_Mul_l2 x00_0 x00_1 x00_2 x01_1 x01_2 q37) q53) x64 = some res) (fun K65 hK65 => ?_) ?_
         ·
          skip
          refine WC.seqRegion fun K66 hK66 => ?_
          refine WL.yld (by decide) (Yld.assign rfl) ?_
          refine WL.done (hK66 _ _ ?_)
          refine WC.block ?_
          refine WC.loop (σ := Nat × (BitVec 8) × Int) (fun ⟨q69, x67, x68⟩ => [(2, .pointer (some ⟨g2, 0, none⟩)), (3, .pointer (some ⟨g3, 0, none⟩)), (4, .pointer (some ⟨g4, 0, none⟩)), (6, .pointer (some ⟨g21, 0, none⟩)), (7, I64 x36), (8, I64 x52), (9, U8 x67), (10, I64 x68)]) (fun ⟨q69, x67, x68⟩ => [(0, .mem M0), (102, .blk g2 26 [I64 x00_0, I64 x00_1, .slice A00_2 n00_2 c00_2]), (103, .blk g3 26 [I64 x01_0, I64 x01_1, .slice A01_2 n01_2 c01_2]), (104, .blk g4 26 [I64 (0 : Int), I64 (0 : Int), .slice none 0 0]), (121, .blk g21 26 [I64 x00_0, I64 x01_1, .slice A48 n49 c50]), (131, .own 5 (Lay.sz (BitVec 8)) A48 n49 c50 (cel x51))]) (fun ⟨q69, x67, x68⟩ => m_r03_Mul_l7 x00_1 x00_2 x01_1 x01_2 x36 x51 x52 (m_r03_Mul_l4 x00_1 x00_2 x01_1 x01_2 x36 (m_r03_Mul_l2 x00_0 x00_1 x00_2 x01_1 x01_2 q37) q53) q69 x67 x68 = some res) (fun ⟨q69, x67, x68⟩ => q69) ⟨forever, 0#8, (0 : Int)⟩ ?_ (Sub.cons rfl (Sub.cons rfl (Sub.cons rfl (Sub.cons rfl (Sub.cons rfl (Sub.cons rfl (Sub.cons rfl (Sub.cons rfl (Sub.nil _))))))))) (Sub.cons rfl (Sub.cons rfl (Sub.cons rfl (Sub.cons rfl (Sub.cons rfl (Sub.cons rfl (Sub.nil _))))))) ?_
          ·
           exact h
          rintro ⟨q69, x67, x68⟩ h K70 hK70
          cases q69 with
          | zero => exact absurd h (by simp [m_r03_Mul_l7])
          | succ q69 =>
           unfold m_r03_Mul_l7 at h
           refine WC.seq fun K71 hK71 => ?_
           refine WC.seqRegion fun K72 hK72 => ?_
           refine WL.yld (by decide) (Yld.move rfl) ?_
           refine WL.yld (by decide) (Yld.fieldAddr Try.underlying26 rfl nz_3 rfl rfl) ?_
           refine WL.yld (by decide) (Yld.loadB (k := 102) scal_3 rfl rfl rfl) ?_
           refine WL.yld (by decide) (Yld.lss rfl rfl) ?_
           refine WL.done (hK72 _ _ ?_)
           by_cases hc73 : x68 < x00_1
           ·
            replace h := of_t hc73 h
            refine WC.condTe rfl (decide_eq_true hc73) ?_
            refine WC.skip ?_
            refine QK.thenN (hK71 _ _ ?_)
            refine WC.seq fun K74 hK74 => ?_
            refine WC.block ?_
            refine WC.regionD (n := 24) [(0, _), (102, _), (103, _), (104, _), (121, _), (131, _)] rfl mixed (Sub.cons rfl (Sub.cons rfl (Sub.cons rfl (Sub.cons rfl (Sub.cons rfl (Sub.cons rfl (Sub.nil _))))))) fun K75 hK75 => ?_
            obtain ⟨x76, hx76, h⟩ := bnd h
            obtain ⟨x77, hx77, h⟩ := bnd h
            obtain ⟨x78, hx78, h⟩ := bnd h
            obtain ⟨x79, hx79, h⟩ := bnd h
            obtain ⟨x80, hx80, h⟩ := bnd h
            obtain ⟨x81, hx81, h⟩ := bnd h
            obtain ⟨x82, hx82, h⟩ := bnd h
            refine WD.take 0 rfl (by kernel_rfl) (by kernel_rfl) (by kernel_rfl) (by decide) (Yld.move rfl) ?_
            refine WD.take 1 rfl (by kernel_rfl) (by kernel_rfl) (by kernel_rfl) (by decide) (Yld.fieldAddr Try.underlying26 rfl nz_22 rfl rfl) ?_
            refine WD.take 2 rfl (by kernel_rfl) (by kernel_rfl) (by kernel_rfl) (by decide) (Yld.loadB (k := 102) scal_22 rfl rfl rfl) ?_
            refine WD.take 3 rfl (by kernel_rfl) (by kernel_rfl) (by kernel_rfl) (by decide) (Yld.move rfl) ?_
            refine WD.take 4 rfl (by kernel_rfl) (by kernel_rfl) (by kernel_rfl) (by decide) (Yld.fieldAddr Try.underlying26 rfl nz_3 rfl rfl) ?_
            refine WD.take 5 rfl (by kernel_rfl) (by kernel_rfl) (by kernel_rfl) (by decide) (Yld.loadB (k := 102) scal_3 rfl rfl rfl) ?_
            refine WD.take 6 rfl (by kernel_rfl) (by kernel_rfl) (by kernel_rfl) (by decide) (Yld.mulC rfl rfl hx76) ?_
            refine WD.take 7 rfl (by kernel_rfl) (by kernel_rfl) (by kernel_rfl) (by decide) (Yld.move rfl) ?_
            refine WD.take 8 rfl (by kernel_rfl) (by kernel_rfl) (by kernel_rfl) (by decide) (Yld.addC rfl rfl hx77) ?_
            refine WD.take 9 rfl (by kernel_rfl) (by kernel_rfl) (by kernel_rfl) (by decide) (Yld.idxC (xs := x00_2) sty_22 rfl rfl (RdH.memM (k := 0) rfl hf00_2) hx78) ?_
            refine WD.take 10 rfl (by kernel_rfl) (by kernel_rfl) (by kernel_rfl) (by decide) (Yld.loadC0 (xs := x00_2) scal_5 rfl (RdH.memM (k := 0) rfl hf00_2) hx78 rfl) ?_
            refine WD.take 11 rfl (by kernel_rfl) (by kernel_rfl) (by kernel_rfl) (by decide) (Yld.fieldAddr Try.underlying26 rfl nz_22 rfl rfl) ?_
            refine WD.take 12 rfl (by kernel_rfl) (by kernel_rfl) (by kernel_rfl) (by decide) (Yld.loadB (k := 103) scal_22 rfl rfl rfl) ?_
            refine WD.take 13 rfl (by kernel_rfl) (by kernel_rfl) (by kernel_rfl) (by decide) (Yld.move rfl) ?_
            refine WD.take 14 rfl (by kernel_rfl) (by kernel_rfl) (by kernel_rfl) (by decide) (Yld.fieldAddr Try.underlying26 rfl nz_3 rfl rfl) ?_
            refine WD.take 15 rfl (by kernel_rfl) (by kernel_rfl) (by kernel_rfl) (by decide) (Yld.loadB (k := 103) scal_3 rfl rfl rfl) ?_
            refine WD.take 16 rfl (by kernel_rfl) (by kernel_rfl) (by kernel_rfl) (by decide) (Yld.mulC rfl rfl hx79) ?_
            refine WD.take 17 rfl (by kernel_rfl) (by kernel_rfl) (by kernel_rfl) (by decide) (Yld.move rfl) ?_
            refine WD.take 18 rfl (by kernel_rfl) (by kernel_rfl) (by kernel_rfl) (by decide) (Yld.addC rfl rfl hx80) ?_
            refine WD.take 19 rfl (by kernel_rfl) (by kernel_rfl) (by kernel_rfl) (by decide) (Yld.idxC (xs := x01_2) sty_22 rfl rfl (RdH.memM (k := 0) rfl hf01_2) hx81) ?_
            refine WD.take 20 rfl (by kernel_rfl) (by kernel_rfl) (by kernel_rfl) (by decide) (Yld.loadC0 (xs := x01_2) scal_5 rfl (RdH.memM (k := 0) rfl hf01_2) hx81 rfl) ?_
            refine WD.one 21 (by kernel_rfl) ?_
            refine WS.eff rfl (by decide) (Eff.callS 183 rfl Try.func56 nm_56 rfl rfl (fun w hb hh => w_r02_Mul (Mem.snap w) x78 x81 hx82)) ?_
            rintro _ _ ⟨_, ⟨rfl, rfl⟩, rfl⟩
            refine ⟨(Sub.cons rfl (Sub.cons rfl (Sub.cons rfl (Sub.cons rfl (Sub.cons rfl (Sub.cons rfl (Sub.nil _))))))), ?_⟩
            refine WD.take 22 rfl (by kernel_rfl) (by kernel_rfl) (by kernel_rfl) (by decide) (Yld.xor_u8 (a := x67) (b := x82) rfl rfl) ?_
            refine WD.take 23 rfl (by kernel_rfl) (by kernel_rfl) (by kernel_rfl) (by decide) (Yld.assign rfl) ?_
            refine WD.done (by kernel_rfl) (hK75 _ _ ?_)
            refine QK.blockN ?_
            refine QK.thenN (hK74 _ _ ?_)
            refine WC.region fun K84 hK84 => ?_
            obtain ⟨x85, hx85, h⟩ := bnd h
            refine WL.yld (by decide) (Yld.move rfl) ?_
            refine WL.yld (by decide) (Yld.addC rfl rfl hx85) ?_
            refine WL.yld (by decide) (Yld.assign rfl) ?_
            refine WL.done (hK84 _ _ ?_)
            refine QK.thenN ?_
            refine hK70 ⟨q69, x67 ^^^ x82, x85⟩ _ _ ?_ (Nat.lt_succ_self _) (Sub.cons rfl (Sub.cons rfl (Sub.cons rfl (Sub.cons rfl (Sub.cons rfl (Sub.cons rfl (Sub.cons rfl (Sub.cons rfl (Sub.nil _))))))))) (Sub.cons rfl (Sub.cons rfl (Sub.cons rfl (Sub.cons rfl (Sub.cons rfl (Sub.cons rfl (Sub.nil _)))))))
            exact h
           ·
            replace h := of_f hc73 h
            refine WC.condFe rfl (decide_eq_false hc73) ?_
            refine WC.exit (QK.thenE (QK.thenE (QK.blockX ?_)))
            refine QK.thenN ?_
            refine hK65 x67 _ _ ?_ (Sub.cons rfl (Sub.cons rfl (Sub.cons rfl (Sub.cons rfl (Sub.cons rfl (Sub.cons rfl (Sub.cons rfl (Sub.nil _)))))))) (Sub.cons rfl (Sub.cons rfl (Sub.cons rfl (Sub.cons rfl (Sub.cons rfl (Sub.cons rfl (Sub.nil _)))))))
            exact h
         ·
          rintro x64 h
          unfold m_r03_Mul_j6 at h
          refine WC.region fun K86 hK86 => ?_
          obtain ⟨x88, hx88, h⟩ := bnd h
          refine WL.yld (by decide) (Yld.fieldAddr Try.underlying26 rfl nz_22 rfl rfl) ?_
          refine WL.yld (by decide) (Yld.loadB (k := 121) scal_22 rfl rfl rfl) ?_
          refine WL.yld (by decide) (Yld.move rfl) ?_
          refine WL.eff (by decide) (Eff.buildC 187 ([x64] : List (BitVec 8)) sty_22 rfl rfl rfl rfl rfl (by decide)) ?_
          rintro _ _ ⟨g87, rfl, rfl⟩
          refine WL.eff (by decide) (Eff.appendC 131 (xs := x51) (ys := ([x64] : List (BitVec 8))) sty_22 rfl rfl rfl (RdH.own (k := 187) rfl) hx88) ?_
          rintro _ _ ⟨A89, c90, rfl, rfl⟩
          refine WL.yld (by decide) (Yld.fieldAddr Try.underlying26 rfl nz_22 rfl rfl) ?_
          refine WL.eff0 (Eff0.storeB 121 siz_22 rfl rfl rfl rfl (Nat.le_of_ble_eq_true rfl)) ?_
          refine WL.done (hK86 _ _ ?_)
          refine QK.blockN ?_
          refine QK.thenN ?_
          refine hK62 ⟨A89, x88.length, c90, x88⟩ _ _ ?_ (Sub.cons rfl (Sub.cons rfl (Sub.cons rfl (Sub.cons rfl (Sub.cons rfl (Sub.cons rfl (Sub.nil _))))))) (Sub.cons rfl (Sub.cons rfl (Sub.cons rfl (Sub.cons rfl (Sub.cons rfl (Sub.cons rfl (Sub.nil _)))))))
          exact h
        ·
         rintro ⟨A58, n59, c60, x61⟩ h
         unfold m_r03_Mul_j5 at h
         refine WC.region fun K91 hK91 => ?_
         obtain ⟨x92, hx92, h⟩ := bnd h
         refine WL.yld (by decide) (Yld.move rfl) ?_
         refine WL.yld (by decide) (Yld.addC rfl rfl hx92) ?_
         refine WL.yld (by decide) (Yld.assign rfl) ?_
         refine WL.done (hK91 _ _ ?_)
         refine QK.thenN ?_
         refine hK54 ⟨q53, A58, n59, c60, x61, x92⟩ _ _ ?_ (Nat.lt_succ_self _) (Sub.cons rfl (Sub.cons rfl (Sub.cons rfl (Sub.cons rfl (Sub.cons rfl (Sub.cons rfl (Sub.nil _))))))) (Sub.cons rfl (Sub.cons rfl (Sub.cons rfl (Sub.cons rfl (Sub.cons rfl (Sub.cons rfl (Sub.nil _)))))))
         exact h
       ·
        replace h := of_f hc57 h
        refine WC.condFe rfl (decide_eq_false hc57) ?_
        refine WC.exit (QK.thenE (QK.thenE (QK.blockX ?_)))
        refine QK.blockN ?_
        refine QK.thenN ?_
        refine hK46 ⟨A48, n49, c50, x51⟩ _ _ ?_ (Sub.cons rfl (Sub.cons rfl (Sub.cons rfl (Sub.cons rfl (Sub.cons rfl (Sub.nil _)))))) (Sub.cons rfl (Sub.cons rfl (Sub.cons rfl (Sub.cons rfl (Sub.cons rfl (Sub.cons rfl (Sub.nil _)))))))
        exact h
     ·
      rintro ⟨A42, n43, c44, x45⟩ h
      unfold m_r03_Mul_j3 at h
      refine WC.region fun K93 hK93 => ?_
      obtain ⟨x94, hx94, h⟩ := bnd h
      refine WL.yld (by decide) (Yld.move rfl) ?_
      refine WL.yld (by decide) (Yld.addC rfl rfl hx94) ?_
      refine WL.yld (by decide) (Yld.assign rfl) ?_
      refine WL.done (hK93 _ _ ?_)
      refine QK.thenN ?_
      refine hK38 ⟨q37, A42, n43, c44, x45, x94⟩ _ _ ?_ (Nat.lt_succ_self _) (Sub.cons rfl (Sub.cons rfl (Sub.cons rfl (Sub.cons rfl (Sub.cons rfl (Sub.nil _)))))) (Sub.cons rfl (Sub.cons rfl (Sub.cons rfl (Sub.cons rfl (Sub.cons rfl (Sub.cons rfl (Sub.nil _)))))))
      exact h
    ·
     replace h := of_f hc41 h
     refine WC.condFe rfl (decide_eq_false hc41) ?_
     refine WC.exit (QK.thenE (QK.thenE (QK.blockX ?_)))
     refine QK.thenN ?_
     refine KK.move 131 123 rfl rfl ?_
     refine hK28 ⟨A32, n33, c34, x35⟩ _ _ ?_ (Sub.cons rfl (Sub.cons rfl (Sub.nil _))) (Sub.cons rfl (Sub.cons rfl (Sub.cons rfl (Sub.cons rfl (Sub.nil _)))))
     exact h
  ·
   rintro ⟨A24, n25, c26, x27⟩ h
   unfold m_r03_Mul_j1 at h
   refine WC.seqRegion fun K95 hK95 => ?_
   refine WL.yld (by decide) (Yld.loadBM (k := 121) agg_26 rfl rfl rfl) ?_
   refine WL.eff0 (Eff0.storeBAM 104 agg_26 rfl rfl rfl ⟨rfl, rfl⟩ rfl) ?_
   refine WL.yld (by decide) (Yld.assign rfl) ?_
   refine WL.done (hK95 _ _ ?_)
   refine WC.ret ?_
   injection h with h; subst h
   exact Ret.fn [123] (ResIs.cellTmpM (k := 104) rfl agg_26 rfl rfl rfl rfl) rfl (Ext.refl _ _) rfl (by decide) rfl rfl ⟨A24, n25, c26, rfl, rfl⟩

set_option maxRecDepth 10000 in
theorem w_r03_Pick (M0 : Mem) (x00_0 : Int) (x00_1 : Int) (A00_2 : Option Addr) (n00_2 c00_2 : Nat) (x00_2 : List (BitVec 8)) (hf00_2 : SlT M0 A00_2 n00_2 c00_2 x00_2) (A01 : Option Addr) (n01 c01 : Nat) (x01 : List (Int)) (hf01 : SlT M0 A01 n01 c01 x01) {res : Int × Int × (List (BitVec 8)) × Int} (h : m_r03_Pick x00_0 x00_1 x00_2 x01 = some res) :
  Fn Try.prog 31 #[.agg ([I64 x00_0, I64 x00_1, .slice A00_2 n00_2 c00_2] : List Value).toArray, .slice A01 n01 c01] M0 fun r M' es => ∃ (A1 : Option Addr) (n1 c1 : Nat), r = .tuple #[.agg ([I64 res.1, I64 res.2.1, .slice A1 n1 c1] : List Value).toArray, I64 res.2.2.2] ∧ es = [.own 5 (Lay.sz (BitVec 8)) A1 n1 c1 (cel res.2.2.1)] := by
 refine Fn.intro (N := 69) Try.func31 rfl rfl (Nat.le_of_ble_eq_true rfl) fun w0 => ?_
 unfold m_r03_Pick at h
 refine WC.seqRegion fun K1 hK1 => ?_
 refine WL.eff (by decide) (Eff.box 102 (us := [I64 x00_0, I64 x00_1, .slice A00_2 n00_2 c00_2]) rfl rfl rfl) ?_
 rintro _ _ ⟨g2, rfl, rfl⟩
 refine WL.eff (by decide) (Eff.alloc 103 rfl zr_26) ?_
 rintro _ _ ⟨g3, rfl, rfl⟩
 refine WL.yld (by decide) (Yld.assign rfl) ?_
 refine WL.done (hK1 _ _ ?_)
 refine WC.seqCut (σ := Unit) (fun _ => [(1, .slice A01 n01 c01), (2, .pointer (some ⟨g2, 0, none⟩)), (4, .pointer (some ⟨g3, 0, none⟩))]) (fun _ => [(0, .mem M0), (102, .blk g2 26 [I64 x00_0, I64 x00_1, .slice A00_2 n00_2 c00_2]), (103, .blk g3 26 [I64 (0 : Int), I64 (0 : Int), .slice none 0 0])]) (fun _ => m_r03_Pick_j0 x00_0 x00_1 x00_2 x01 = some res) (fun K4 hK4 => ?_) ?_
 ·
  skip
  refine WC.seqRegion fun K5 hK5 => ?_
  obtain ⟨x6, hx6, h⟩ := bnd h
  by_cases hc8 : x6 = true
  ·
   replace h := of_t hc8 h
   obtain ⟨x9, hx9, h⟩ := bnd h
   refine WL.yld (by decide) (Yld.loadBM (k := 102) agg_26 rfl rfl rfl) ?_
   refine WL.eff (by decide) (Eff.callS 107 rfl Try.func57 nm_57 rfl rfl (fun w hb hh => w_r03_Valid (Mem.snap w) x00_0 x00_1 A00_2 n00_2 c00_2 _ (RdH.sn (RdH.memM (k := 0) rfl hf00_2) w hb hh) hx6)) ?_
   rintro _ _ ⟨_, ⟨rfl, rfl⟩, rfl⟩
   refine WL.yld (by decide) (Yld.notB rfl) ?_
   refine WL.yld (by decide) (Yld.move rfl) ?_
   refine WL.new (v' := .bool false) (congrArg Value.bool (not_f hc8)) ?_
   refine WL.yldG (by decide) rfl (Yld.move rfl) ?_
   refine WL.yldG (by decide) rfl (Yld.lenC (xs := x01) und_28 rfl (RdH.memM (k := 0) rfl hf01)) ?_
   refine WL.yldG (by decide) rfl (Yld.fieldAddr Try.underlying26 rfl nz_3 rfl rfl) ?_
   refine WL.yldG (by decide) rfl (Yld.loadB (k := 102) scal_3 rfl rfl rfl) ?_
   refine WL.effG (by decide) rfl (Eff.callS 110 rfl Try.func55 nm_55 rfl rfl (fun w hb hh => w_r03_size (Mem.snap w) (x01.length : Int) x00_1 hx9)) ?_
   rintro _ _ ⟨_, ⟨rfl, rfl⟩, rfl⟩
   refine WL.yldG (by decide) rfl (Yld.notB rfl) ?_
   refine WL.yld (by decide) (Yld.pickF rfl rfl) ?_
   refine WL.done (hK5 _ _ ?_)
   by_cases hc11 : x9 = true
   ·
    replace h := of_t hc11 h
    refine WC.condFe rfl (not_f hc11) ?_
    refine WC.skip ?_
    refine QK.thenN ?_
    refine hK4 () _ _ ?_ (Sub.cons rfl (Sub.cons rfl (Sub.cons rfl (Sub.nil _)))) (Sub.cons rfl (Sub.cons rfl (Sub.cons rfl (Sub.nil _))))
    exact h
   ·
    replace h := of_f hc11 h
    refine WC.condTe rfl (not_t (Bool.eq_false_iff.2 hc11)) ?_
    refine WC.seqRegion fun K12 hK12 => ?_
    refine WL.yld (by decide) (Yld.build rfl (bu_26_)) ?_
    refine WL.eff0 (Eff0.storeBAM 103 agg_26 rfl rfl rfl ⟨rfl, rfl⟩ rfl) ?_
    refine WL.yld (by decide) (Yld.assign rfl) ?_
    refine WL.done (hK12 _ _ ?_)
    refine WC.ret (QK.thenR ?_)
    refine QK.nilOwn 113 5 (Lay.sz (BitVec 8)) none ?_
    injection h with h; subst h
    exact Ret.fn [113] (ResIs.cellTmpM (k := 103) rfl agg_26 rfl rfl rfl rfl) rfl (Ext.refl _ _) rfl (by decide) rfl rfl ⟨none, 0, 0, rfl, rfl⟩
  ·
   replace h := of_f hc8 h
   refine WL.yld (by decide) (Yld.loadBM (k := 102) agg_26 rfl rfl rfl) ?_
   refine WL.eff (by decide) (Eff.callS 107 rfl Try.func57 nm_57 rfl rfl (fun w hb hh => w_r03_Valid (Mem.snap w) x00_0 x00_1 A00_2 n00_2 c00_2 _ (RdH.sn (RdH.memM (k := 0) rfl hf00_2) w hb hh) hx6)) ?_
   rintro _ _ ⟨_, ⟨rfl, rfl⟩, rfl⟩
   refine WL.yld (by decide) (Yld.notB rfl) ?_
   refine WL.yld (by decide) (Yld.move rfl) ?_
   refine WL.new (v' := .bool true) (congrArg Value.bool (not_t (Bool.eq_false_iff.2 hc8))) ?_
   refine WL.skip (by decide) rfl rfl ?_
   refine WL.skip (by decide) rfl rfl ?_
   refine WL.skip (by decide) rfl rfl ?_
   refine WL.skip (by decide) rfl rfl ?_
   refine WL.skip (by decide) rfl rfl ?_
   refine WL.skip (by decide) rfl rfl ?_
   refine WL.yld (by decide) (Yld.pickT rfl rfl) ?_
   refine WL.done (hK5 _ _ ?_)
   refine WC.condT rfl ?_
   refine WC.seqRegion fun K14 hK14 => ?_
   refine WL.yld (by decide) (Yld.build rfl (bu_26_)) ?_
   refine WL.eff0 (Eff0.storeBAM 103 agg_26 rfl rfl rfl ⟨rfl, rfl⟩ rfl) ?_
   refine WL.yld (by decide) (Yld.assign rfl) ?_
   refine WL.done (hK14 _ _ ?_)
   refine WC.ret (QK.thenR ?_)
   refine QK.nilOwn 115 5 (Lay.sz (BitVec 8)) none ?_
   injection h with h; subst h
   exact Ret.fn [115] (ResIs.cellTmpM (k := 103) rfl agg_26 rfl rfl rfl rfl) rfl (Ext.refl _ _) rfl (by decide) rfl rfl ⟨none, 0, 0, rfl, rfl⟩
 ·
  rintro _ h
  unfold m_r03_Pick_j0 at h
  refine WC.seqRegion fun K16 hK16 => ?_
  refine WL.yld (by decide) (Yld.move rfl) ?_
  refine WL.yld (by decide) (Yld.lenC (xs := x01) und_28 rfl (RdH.memM (k := 0) rfl hf01)) ?_
  refine WL.yld (by decide) (Yld.fieldAddr Try.underlying26 rfl nz_3 rfl rfl) ?_
  refine WL.yld (by decide) (Yld.loadB (k := 102) scal_3 rfl rfl rfl) ?_
  refine WL.yld (by decide) (Yld.build rfl (bu_26_0_1 (x01.length : Int) x00_1)) ?_
  refine WL.eff (by decide) (Eff.alloc 117 rfl zr_26) ?_
  rintro _ _ ⟨g17, rfl, rfl⟩
  refine WL.eff0 (Eff0.storeBAM 117 agg_26 rfl rfl rfl ⟨rfl, rfl⟩ rfl) ?_
  refine WL.done (hK16 _ _ ?_)
  refine WC.seqCut (σ := (Option Addr) × Nat × Nat × (List (BitVec 8))) (fun ⟨A20, n21, c22, x23⟩ => [(4, .pointer (some ⟨g3, 0, none⟩)), (6, .pointer (some ⟨g17, 0, none⟩))]) (fun ⟨A20, n21, c22, x23⟩ => [(0, .mem M0), (103, .blk g3 26 [I64 (0 : Int), I64 (0 : Int), .slice none 0 0]), (117, .blk g17 26 [I64 (x01.length : Int), I64 x00_1, .slice A20 n21 c22]), (119, .own 5 (Lay.sz (BitVec 8)) A20 n21 c22 (cel x23))]) (fun ⟨A20, n21, c22, x23⟩ => m_r03_Pick_j1 x00_1 x01 x23 = some res) (fun K24 hK24 => ?_) ?_
  ·
   skip
   refine WC.seqRegion fun K25 hK25 => ?_
   refine WL.yld (by decide) (Yld.assign rfl) ?_
   refine WL.done (hK25 _ _ ?_)
   refine WC.block ?_
   refine WC.nilOwn 127 5 (Lay.sz (BitVec 8)) none ?_
   refine WC.loop (σ := Nat × (Option Addr) × Nat × Nat × (List (BitVec 8)) × Int) (fun ⟨q33, A28, n29, c30, x31, x32⟩ => [(1, .slice A01 n01 c01), (2, .pointer (some ⟨g2, 0, none⟩)), (4, .pointer (some ⟨g3, 0, none⟩)), (6, .pointer (some ⟨g17, 0, none⟩)), (7, I64 x32)]) (fun ⟨q33, A28, n29, c30, x31, x32⟩ => [(0, .mem M0), (102, .blk g2 26 [I64 x00_0, I64 x00_1, .slice A00_2 n00_2 c00_2]), (103, .blk g3 26 [I64 (0 : Int), I64 (0 : Int), .slice none 0 0]), (117, .blk g17 26 [I64 (x01.length : Int), I64 x00_1, .slice A28 n29 c30]), (127, .own 5 (Lay.sz (BitVec 8)) A28 n29 c30 (cel x31))]) (fun ⟨q33, A28, n29, c30, x31, x32⟩ => m_r03_Pick_l2 x00_0 x00_1 x00_2 x01 q33 x31 x32 = some res) (fun ⟨q33, A28, n29, c30, x31, x32⟩ => q33) ⟨forever, none, 0, 0, ([] : List (BitVec 8)), (0 : Int)⟩ ?_ (Sub.cons rfl (Sub.cons rfl (Sub.cons rfl (Sub.cons rfl (Sub.cons rfl (Sub.nil _)))))) (Sub.cons rfl (Sub.cons rfl (Sub.cons rfl (Sub.cons rfl (Sub.cons rfl (Sub.nil _)))))) ?_
   ·
    exact h
   rintro ⟨q33, A28, n29, c30, x31, x32⟩ h K34 hK34
   cases q33 with
   | zero => exact absurd h (by simp [m_r03_Pick_l2])
   | succ q33 =>
    unfold m_r03_Pick_l2 at h
    refine WC.seq fun K35 hK35 => ?_
    refine WC.seqRegion fun K36 hK36 => ?_
    refine WL.yld (by decide) (Yld.move rfl) ?_
    refine WL.yld (by decide) (Yld.move rfl) ?_
    refine WL.yld (by decide) (Yld.lenC (xs := x01) und_28 rfl (RdH.memM (k := 0) rfl hf01)) ?_
    refine WL.yld (by decide) (Yld.lss rfl rfl) ?_
    refine WL.done (hK36 _ _ ?_)
    by_cases hc37 : x32 < (x01.length : Int)
    ·
     replace h := of_t hc37 h
     refine WC.condTe rfl (decide_eq_true hc37) ?_
     refine WC.skip ?_
     refine QK.thenN (hK35 _ _ ?_)
     refine WC.seq fun K38 hK38 => ?_
     refine WC.block ?_
     refine WC.seqCut (σ := Unit) (fun _ => [(1, .slice A01 n01 c01), (2, .pointer (some ⟨g2, 0, none⟩)), (4, .pointer (some ⟨g3, 0, none⟩)), (6, .pointer (some ⟨g17, 0, none⟩)), (7, I64 x32)]) (fun _ => [(0, .mem M0), (102, .blk g2 26 [I64 x00_0, I64 x00_1, .slice A00_2 n00_2 c00_2]), (103, .blk g3 26 [I64 (0 : Int), I64 (0 : Int), .slice none 0 0]), (117, .blk g17 26 [I64 (x01.length : Int), I64 x00_1, .slice A28 n29 c30]), (127, .own 5 (Lay.sz (BitVec 8)) A28 n29 c30 (cel x31))]) (fun _ => m_r03_Pick_j3 x00_1 x00_2 x01 x31 x32 (m_r03_Pick_l2 x00_0 x00_1 x00_2 x01 q33) = some res) (fun K39 hK39 => ?_) ?_
     ·
      skip
      refine WC.seqRegionD (n := 14) [(0, _), (102, _), (103, _), (117, _), (127, _)] rfl mixed (Sub.cons rfl (Sub.cons rfl (Sub.cons rfl (Sub.cons rfl (Sub.cons rfl (Sub.nil _)))))) fun K40 hK40 => ?_
      obtain ⟨x41, hx41, h⟩ := bnd h
      by_cases hc42 : x41 < (0 : Int)
      ·
       replace h := of_t hc42 h
       refine WD.take 0 rfl (by kernel_rfl) (by kernel_rfl) (by kernel_rfl) (by decide) (Yld.move rfl) ?_
       refine WD.take 1 rfl (by kernel_rfl) (by kernel_rfl) (by kernel_rfl) (by decide) (Yld.move rfl) ?_
       refine WD.take 2 rfl (by kernel_rfl) (by kernel_rfl) (by kernel_rfl) (by decide) (Yld.idxC (xs := x01) sty_28 rfl rfl (RdH.memM (k := 0) rfl hf01) hx41) ?_
       refine WD.take 3 rfl (by kernel_rfl) (by kernel_rfl) (by kernel_rfl) (by decide) (Yld.loadC0 (xs := x01) scal_3 rfl (RdH.memM (k := 0) rfl hf01) hx41 rfl) ?_
       refine WD.take 4 rfl (by kernel_rfl) (by kernel_rfl) (by kernel_rfl) (by decide) (Yld.lss rfl rfl) ?_
       refine WD.take 5 rfl (by kernel_rfl) (by kernel_rfl) (by kernel_rfl) (by decide) (Yld.move rfl) ?_
       refine WD.new (v' := .bool true) (congrArg Value.bool (decide_eq_true hc42)) ?_
       refine WD.takeS 6 rfl (by kernel_rfl) (by kernel_rfl) (by kernel_rfl) (by decide) rfl rfl ?_
       refine WD.takeS 7 rfl (by kernel_rfl) (by kernel_rfl) (by kernel_rfl) (by decide) rfl rfl ?_
       refine WD.takeS 8 rfl (by kernel_rfl) (by kernel_rfl) (by kernel_rfl) (by decide) rfl rfl ?_
       refine WD.takeS 9 rfl (by kernel_rfl) (by kernel_rfl) (by kernel_rfl) (by decide) rfl rfl ?_
       refine WD.takeS 10 rfl (by kernel_rfl) (by kernel_rfl) (by kernel_rfl) (by decide) rfl rfl ?_
       refine WD.takeS 11 rfl (by kernel_rfl) (by kernel_rfl) (by kernel_rfl) (by decide) rfl rfl ?_
       refine WD.takeS 12 rfl (by kernel_rfl) (by kernel_rfl) (by kernel_rfl) (by decide) rfl rfl ?_
       refine WD.take 13 rfl (by kernel_rfl) (by kernel_rfl) (by kernel_rfl) (by decide) (Yld.pickT rfl rfl) ?_
       refine WD.done (by kernel_rfl) (hK40 _ _ ?_)
       refine WC.condT rfl ?_
       refine WC.seqRegion fun K43 hK43 => ?_
       refine WL.yld (by decide) (Yld.build rfl (bu_26_)) ?_
       refine WL.eff0 (Eff0.storeBAM 103 agg_26 rfl rfl rfl ⟨rfl, rfl⟩ rfl) ?_
       refine WL.yld (by decide) (Yld.assign rfl) ?_
       refine WL.done (hK43 _ _ ?_)
       refine WC.ret (QK.thenR (QK.blockR (QK.thenR (QK.thenR (QK.blockR (QK.thenR ?_))))))
       refine QK.nilOwn 144 5 (Lay.sz (BitVec 8)) none ?_
       injection h with h; subst h
       exact Ret.fn [144] (ResIs.cellTmpM (k := 103) rfl agg_26 rfl rfl rfl rfl) rfl (Ext.refl _ _) rfl (by decide) rfl rfl ⟨none, 0, 0, rfl, rfl⟩
      ·
       replace h := of_f hc42 h
       obtain ⟨x45, hx45, h⟩ := bnd h
       refine WD.take 0 rfl (by kernel_rfl) (by kernel_rfl) (by kernel_rfl) (by decide) (Yld.move rfl) ?_
       refine WD.take 1 rfl (by kernel_rfl) (by kernel_rfl) (by kernel_rfl) (by decide) (Yld.move rfl) ?_
       refine WD.take 2 rfl (by kernel_rfl) (by kernel_rfl) (by kernel_rfl) (by decide) (Yld.idxC (xs := x01) sty_28 rfl rfl (RdH.memM (k := 0) rfl hf01) hx41) ?_
       refine WD.take 3 rfl (by kernel_rfl) (by kernel_rfl) (by kernel_rfl) (by decide) (Yld.loadC0 (xs := x01) scal_3 rfl (RdH.memM (k := 0) rfl hf01) hx41 rfl) ?_
       refine WD.take 4 rfl (by kernel_rfl) (by kernel_rfl) (by kernel_rfl) (by decide) (Yld.lss rfl rfl) ?_
       refine WD.take 5 rfl (by kernel_rfl) (by kernel_rfl) (by kernel_rfl) (by decide) (Yld.move rfl) ?_
       refine WD.new (v' := .bool false) (congrArg Value.bool (decide_eq_false hc42)) ?_
       refine WD.takeG 6 rfl (by kernel_rfl) (by kernel_rfl) (by kernel_rfl) (by decide) rfl (Yld.move rfl) ?_
       refine WD.takeG 7 rfl (by kernel_rfl) (by kernel_rfl) (by kernel_rfl) (by decide) rfl (Yld.move rfl) ?_
       refine WD.takeG 8 rfl (by kernel_rfl) (by kernel_rfl) (by kernel_rfl) (by decide) rfl (Yld.idxC (xs := x01) sty_28 rfl rfl (RdH.memM (k := 0) rfl hf01) hx45) ?_
       refine WD.takeG 9 rfl (by kernel_rfl) (by kernel_rfl) (by kernel_rfl) (by decide) rfl (Yld.loadC0 (xs := x01) scal_3 rfl (RdH.memM (k := 0) rfl hf01) hx45 rfl) ?_
       refine WD.takeG 10 rfl (by kernel_rfl) (by kernel_rfl) (by kernel_rfl) (by decide) rfl (Yld.fieldAddr Try.underlying26 rfl nz_3 rfl rfl) ?_
       refine WD.takeG 11 rfl (by kernel_rfl) (by kernel_rfl) (by kernel_rfl) (by decide) rfl (Yld.loadB (k := 102) scal_3 rfl rfl rfl) ?_
       refine WD.takeG 12 rfl (by kernel_rfl) (by kernel_rfl) (by kernel_rfl) (by decide) rfl (Yld.geq rfl rfl) ?_
       refine WD.take 13 rfl (by kernel_rfl) (by kernel_rfl) (by kernel_rfl) (by decide) (Yld.pickF rfl rfl) ?_
       refine WD.done (by kernel_rfl) (hK40 _ _ ?_)
       by_cases hc46 : x00_0 ≤ x45
       ·
        replace h := of_t hc46 h
        refine WC.condTe rfl (decide_eq_true hc46) ?_
        refine WC.seqRegion fun K47 hK47 => ?_
        refine WL.yld (by decide) (Yld.build rfl (bu_26_)) ?_
        refine WL.eff0 (Eff0.storeBAM 103 agg_26 rfl rfl rfl ⟨rfl, rfl⟩ rfl) ?_
        refine WL.yld (by decide) (Yld.assign rfl) ?_
        refine WL.done (hK47 _ _ ?_)
        refine WC.ret (QK.thenR (QK.blockR (QK.thenR (QK.thenR (QK.blockR (QK.thenR ?_))))))
        refine QK.nilOwn 148 5 (Lay.sz (BitVec 8)) none ?_
        injection h with h; subst h
        exact Ret.fn [148] (ResIs.cellTmpM (k := 103) rfl agg_26 rfl rfl rfl rfl) rfl (Ext.refl _ _) rfl (by decide) rfl rfl ⟨none, 0, 0, rfl, rfl⟩
       ·
        replace h := of_f hc46 h
        refine WC.condFe rfl (decide_eq_false hc46) ?_
        refine WC.skip ?_
        refine QK.thenN ?_
        refine hK39 () _ _ ?_ (Sub.cons rfl (Sub.cons rfl (Sub.cons rfl (Sub.cons rfl (Sub.cons rfl (Sub.nil _)))))) (Sub.cons rfl (Sub.cons rfl (Sub.cons rfl (Sub.cons rfl (Sub.cons rfl (Sub.nil _))))))
        exact h
     ·
      rintro _ h
      unfold m_r03_Pick_j3 at h
      refine WC.regionD (n := 23) [(102, _), (103, _)] rfl mixed (Sub.cons rfl (Sub.cons rfl (Sub.nil _))) fun K49 hK49 => ?_
      obtain ⟨x50, hx50, h⟩ := bnd h
      obtain ⟨x51, hx51, h⟩ := bnd h
      obtain ⟨x52, hx52, h⟩ := bnd h
      obtain ⟨x53, hx53, h⟩ := bnd h
      obtain ⟨x54, hx54, h⟩ := bnd h
      obtain ⟨x55, hx55, h⟩ := bnd h
      obtain ⟨x56, hx56, h⟩ := bnd h
      refine WD.take 0 rfl (by kernel_rfl) (by kernel_rfl) (by kernel_rfl) (by decide) (Yld.fieldAddr Try.underlying26 rfl nz_22 rfl rfl) ?_
      refine WD.take 2 rfl (by kernel_rfl) (by kernel_rfl) (by kernel_rfl) (by decide) (Yld.fieldAddr Try.underlying26 rfl nz_22 rfl rfl) ?_
      refine WD.take 3 rfl (by kernel_rfl) (by kernel_rfl) (by kernel_rfl) (by decide) (Yld.loadB (k := 102) scal_22 rfl rfl rfl) ?_
      refine WD.take 4 rfl (by kernel_rfl) (by kernel_rfl) (by kernel_rfl) (by decide) (Yld.move rfl) ?_
      refine WD.take 5 rfl (by kernel_rfl) (by kernel_rfl) (by kernel_rfl) (by decide) (Yld.move rfl) ?_
      refine WD.take 8 rfl (by kernel_rfl) (by kernel_rfl) (by kernel_rfl) (by decide) (Yld.fieldAddr Try.underlying26 rfl nz_3 rfl rfl) ?_
      refine WD.take 9 rfl (by kernel_rfl) (by kernel_rfl) (by kernel_rfl) (by decide) (Yld.loadB (k := 102) scal_3 rfl rfl rfl) ?_
      refine WD.take 11 rfl (by kernel_rfl) (by kernel_rfl) (by kernel_rfl) (by decide) (Yld.move rfl) ?_
      refine WD.take 12 rfl (by kernel_rfl) (by kernel_rfl) (by kernel_rfl) (by decide) (Yld.move rfl) ?_
      refine WD.take 16 rfl (by kernel_rfl) (by kernel_rfl) (by kernel_rfl) (by decide) (Yld.fieldAddr Try.underlying26 rfl nz_3 rfl rfl) ?_
      refine WD.take 17 rfl (by kernel_rfl) (by kernel_rfl) (by kernel_rfl) (by decide) (Yld.loadB (k := 102) scal_3 rfl rfl rfl) ?_
      refine WD.three 1 6 13 (by kernel_rfl) ?_ ?_ ?_
      ·
       skip
       refine WS.yld rfl (by decide) (Yld.loadB (k := 117) scal_22 rfl rfl rfl) ?_
       refine WD.two 6 13 (by kernel_rfl) ?_ ?_
       ·
        skip
        refine WS.yld rfl (by decide) (Yld.idxC (xs := x01) sty_28 rfl rfl (RdH.memM (k := 0) rfl hf01) hx50) ?_
        refine WD.two 7 13 (by kernel_rfl) ?_ ?_
        ·
         skip
         refine WS.yld rfl (by decide) (Yld.loadC0 (xs := x01) scal_3 rfl (RdH.memM (k := 0) rfl hf01) hx50 rfl) ?_
         refine WD.take 10 rfl (by kernel_rfl) (by kernel_rfl) (by kernel_rfl) (by decide) (Yld.mulC rfl rfl hx51) ?_
         refine WD.one 13 (by kernel_rfl) ?_
         refine WS.yld rfl (by decide) (Yld.idxC (xs := x01) sty_28 rfl rfl (RdH.memM (k := 0) rfl hf01) hx52) ?_
         refine WD.one 14 (by kernel_rfl) ?_
         refine WS.yld rfl (by decide) (Yld.loadC0 (xs := x01) scal_3 rfl (RdH.memM (k := 0) rfl hf01) hx52 rfl) ?_
         refine WD.take 15 rfl (by kernel_rfl) (by kernel_rfl) (by kernel_rfl) (by decide) (Yld.addC rfl rfl hx53) ?_
         refine WD.take 18 rfl (by kernel_rfl) (by kernel_rfl) (by kernel_rfl) (by decide) (Yld.mulC rfl rfl hx54) ?_
         refine WD.one 19 (by kernel_rfl) ?_
         refine WS.yld rfl (by decide) (Yld.sliceLHC (xs := x00_2) sty_22 rfl rfl rfl (RdH.memM (k := 0) rfl hf00_2) hx55) ?_
         refine WD.one 20 (by kernel_rfl) ?_
         refine WS.eff rfl (by decide) (Eff.appendC 127 (xs := x31) (ys := x55) sty_22 rfl rfl rfl (RdT.slc (RdH.memM (k := 0) rfl hf00_2) hx55) hx56) ?_
         rintro _ _ ⟨A57, c58, rfl, rfl⟩
         refine ⟨(Sub.cons rfl (Sub.cons rfl (Sub.nil _))), ?_⟩
         refine WD.take 21 rfl (by kernel_rfl) (by kernel_rfl) (by kernel_rfl) (by decide) (Yld.fieldAddr Try.underlying26 rfl nz_22 rfl rfl) ?_
         refine WD.one 22 (by kernel_rfl) ?_
         refine WS.eff0 rfl (Eff0.storeB 117 siz_22 rfl rfl rfl rfl (Nat.le_of_ble_eq_true rfl)) (Sub.cons rfl (Sub.cons rfl (Sub.nil _))) ?_
         refine WD.done (by kernel_rfl) (hK49 _ _ ?_)
         refine QK.blockN ?_
         refine QK.thenN (hK38 _ _ ?_)
         refine WC.region fun K59 hK59 => ?_
         obtain ⟨x60, hx60, h⟩ := bnd h
         refine WL.yld (by decide) (Yld.move rfl) ?_
         refine WL.yld (by decide) (Yld.addC rfl rfl hx60) ?_
         refine WL.yld (by decide) (Yld.assign rfl) ?_
         refine WL.done (hK59 _ _ ?_)
         refine QK.thenN ?_
         refine hK34 ⟨q33, A57, x56.length, c58, x56, x60⟩ _ _ ?_ (Nat.lt_succ_self _) (Sub.cons rfl (Sub.cons rfl (Sub.cons rfl (Sub.cons rfl (Sub.cons rfl (Sub.nil _)))))) (Sub.cons rfl (Sub.cons rfl (Sub.cons rfl (Sub.cons rfl (Sub.cons rfl (Sub.nil _))))))
         exact h
        ·
         skip
         refine WS.yld rfl (by decide) (Yld.idxC (xs := x01) sty_28 rfl rfl (RdH.memM (k := 0) rfl hf01) hx52) ?_
         refine WD.two 7 14 (by kernel_rfl) ?_ ?_
         ·
          skip
          refine WS.yld rfl (by decide) (Yld.loadC0 (xs := x01) scal_3 rfl (RdH.memM (k := 0) rfl hf01) hx50 rfl) ?_
          refine WD.take 10 rfl (by kernel_rfl) (by kernel_rfl) (by kernel_rfl) (by decide) (Yld.mulC rfl rfl hx51) ?_
          refine WD.one 14 (by kernel_rfl) ?_
          refine WS.yld rfl (by decide) (Yld.loadC0 (xs := x01) scal_3 rfl (RdH.memM (k := 0) rfl hf01) hx52 rfl) ?_
          refine WD.take 15 rfl (by kernel_rfl) (by kernel_rfl) (by kernel_rfl) (by decide) (Yld.addC rfl rfl hx53) ?_
          refine WD.take 18 rfl (by kernel_rfl) (by kernel_rfl) (by kernel_rfl) (by decide) (Yld.mulC rfl rfl hx54) ?_
          refine WD.one 19 (by kernel_rfl) ?_
          refine WS.yld rfl (by decide) (Yld.sliceLHC (xs := x00_2) sty_22 rfl rfl rfl (RdH.memM (k := 0) rfl hf00_2) hx55) ?_
          refine WD.one 20 (by kernel_rfl) ?_
          refine WS.eff rfl (by decide) (Eff.appendC 127 (xs := x31) (ys := x55) sty_22 rfl rfl rfl (RdT.slc (RdH.memM (k := 0) rfl hf00_2) hx55) hx56) ?_
          rintro _ _ ⟨A57, c58, rfl, rfl⟩
          refine ⟨(Sub.cons rfl (Sub.cons rfl (Sub.nil _))), ?_⟩
          refine WD.take 21 rfl (by kernel_rfl) (by kernel_rfl) (by kernel_rfl) (by decide) (Yld.fieldAddr Try.underlying26 rfl nz_22 rfl rfl) ?_
          refine WD.one 22 (by kernel_rfl) ?_
          refine WS.eff0 rfl (Eff0.storeB 117 siz_22 rfl rfl rfl rfl (Nat.le_of_ble_eq_true rfl)) (Sub.cons rfl (Sub.cons rfl (Sub.nil _))) ?_
          refine WD.done (by kernel_rfl) (hK49 _ _ ?_)
          refine QK.blockN ?_
          refine QK.thenN (hK38 _ _ ?_)
          refine WC.region fun K61 hK61 => ?_
          obtain ⟨x62, hx62, h⟩ := bnd h
          refine WL.yld (by decide) (Yld.move rfl) ?_
          refine WL.yld (by decide) (Yld.addC rfl rfl hx62) ?_
          refine WL.yld (by decide) (Yld.assign rfl) ?_
          refine WL.done (hK61 _ _ ?_)
          refine QK.thenN ?_
          refine hK34 ⟨q33, A57, x56.length, c58, x56, x62⟩ _ _ ?_ (Nat.lt_succ_self _) (Sub.cons rfl (Sub.cons rfl (Sub.cons rfl (Sub.cons rfl (Sub.cons rfl (Sub.nil _)))))) (Sub.cons rfl (Sub.cons rfl (Sub.cons rfl (Sub.cons rfl (Sub.cons rfl (Sub.nil _))))))
          exact h
         ·
          skip
          refine WS.yld rfl (by decide) (Yld.loadC0 (xs := x01) scal_3 rfl (RdH.memM (k := 0) rfl hf01) hx52 rfl) ?_
          refine WD.take 15 rfl (by kernel_rfl) (by kernel_rfl) (by kernel_rfl) (by decide) (Yld.addC rfl rfl hx53) ?_
          refine WD.take 18 rfl (by kernel_rfl) (by kernel_rfl) (by kernel_rfl) (by decide) (Yld.mulC rfl rfl hx54) ?_
          refine WD.one 7 (by kernel_rfl) ?_
          refine WS.yld rfl (by decide) (Yld.loadC0 (xs := x01) scal_3 rfl (RdH.memM (k := 0) rfl hf01) hx50 rfl) ?_
          refine WD.take 10 rfl (by kernel_rfl) (by kernel_rfl) (by kernel_rfl) (by decide) (Yld.mulC rfl rfl hx51) ?_
          refine WD.one 19 (by kernel_rfl) ?_
          refine WS.yld rfl (by decide) (Yld.sliceLHC (xs := x00_2) sty_22 rfl rfl rfl (RdH.memM (k := 0) rfl hf00_2) hx55) ?_
          refine WD.one 20 (by kernel_rfl) ?_
          refine WS.eff rfl (by decide) (Eff.appendC 127 (xs := x31) (ys := x55) sty_22 rfl rfl rfl (RdT.slc (RdH.memM (k := 0) rfl hf00_2) hx55) hx56) ?_
          rintro _ _ ⟨A57, c58, rfl, rfl⟩
          refine ⟨(Sub.cons rfl (Sub.cons rfl (Sub.nil _))), ?_⟩
          refine WD.take 21 rfl (by kernel_rfl) (by kernel_rfl) (by kernel_rfl) (by decide) (Yld.fieldAddr Try.underlying26 rfl nz_22 rfl rfl) ?_
          refine WD.one 22 (by kernel_rfl) ?_
          refine WS.eff0 rfl (Eff0.storeB 117 siz_22 rfl rfl rfl rfl (Nat.le_of_ble_eq_true rfl)) (Sub.cons rfl (Sub.cons rfl (Sub.nil _))) ?_
          refine WD.done (by kernel_rfl) (hK49 _ _ ?_)
          refine QK.blockN ?_
          refine QK.thenN (hK38 _ _ ?_)
          refine WC.region fun K63 hK63 => ?_
          obtain ⟨x64, hx64, h⟩ := bnd h
          refine WL.yld (by decide) (Yld.move rfl) ?_
          refine WL.yld (by decide) (Yld.addC rfl rfl hx64) ?_
          refine WL.yld (by decide) (Yld.assign rfl) ?_
          refine WL.done (hK63 _ _ ?_)
          refine QK.thenN ?_
          refine hK34 ⟨q33, A57, x56.length, c58, x56, x64⟩ _ _ ?_ (Nat.lt_succ_self _) (Sub.cons rfl (Sub.cons rfl (Sub.cons rfl (Sub.cons rfl (Sub.cons rfl (Sub.nil _)))))) (Sub.cons rfl (Sub.cons rfl (Sub.cons rfl (Sub.cons rfl (Sub.cons rfl (Sub.nil _))))))
          exact h
       ·
        skip
        refine WS.yld rfl (by decide) (Yld.idxC (xs := x01) sty_28 rfl rfl (RdH.memM (k := 0) rfl hf01) hx52) ?_
        refine WD.two 6 14 (by kernel_rfl) ?_ ?_
        ·
         skip
         refine WS.yld rfl (by decide) (Yld.idxC (xs := x01) sty_28 rfl rfl (RdH.memM (k := 0) rfl hf01) hx50) ?_
         refine WD.two 7 14 (by kernel_rfl) ?_ ?_
         ·
          skip
          refine WS.yld rfl (by decide) (Yld.loadC0 (xs := x01) scal_3 rfl (RdH.memM (k := 0) rfl hf01) hx50 rfl) ?_
          refine WD.take 10 rfl (by kernel_rfl) (by kernel_rfl) (by kernel_rfl) (by decide) (Yld.mulC rfl rfl hx51) ?_
          refine WD.one 14 (by kernel_rfl) ?_
          refine WS.yld rfl (by decide) (Yld.loadC0 (xs := x01) scal_3 rfl (RdH.memM (k := 0) rfl hf01) hx52 rfl) ?_
          refine WD.take 15 rfl (by kernel_rfl) (by kernel_rfl) (by kernel_rfl) (by decide) (Yld.addC rfl rfl hx53) ?_
          refine WD.take 18 rfl (by kernel_rfl) (by kernel_rfl) (by kernel_rfl) (by decide) (Yld.mulC rfl rfl hx54) ?_
          refine WD.one 19 (by kernel_rfl) ?_
          refine WS.yld rfl (by decide) (Yld.sliceLHC (xs := x00_2) sty_22 rfl rfl rfl (RdH.memM (k := 0) rfl hf00_2) hx55) ?_
          refine WD.one 20 (by kernel_rfl) ?_
          refine WS.eff rfl (by decide) (Eff.appendC 127 (xs := x31) (ys := x55) sty_22 rfl rfl rfl (RdT.slc (RdH.memM (k := 0) rfl hf00_2) hx55) hx56) ?_
          rintro _ _ ⟨A57, c58, rfl, rfl⟩
          refine ⟨(Sub.cons rfl (Sub.cons rfl (Sub.nil _))), ?_⟩
          refine WD.take 21 rfl (by kernel_rfl) (by kernel_rfl) (by kernel_rfl) (by decide) (Yld.fieldAddr Try.underlying26 rfl nz_22 rfl rfl) ?_
          refine WD.one 22 (by kernel_rfl) ?_
          refine WS.eff0 rfl (Eff0.storeB 117 siz_22 rfl rfl rfl rfl (Nat.le_of_ble_eq_true rfl)) (Sub.cons rfl (Sub.cons rfl (Sub.nil _))) ?_
          refine WD.done (by kernel_rfl) (hK49 _ _ ?_)
          refine QK.blockN ?_
          refine QK.thenN (hK38 _ _ ?_)
          refine WC.region fun K65 hK65 => ?_
          obtain ⟨x66, hx66, h⟩ := bnd h
          refine WL.yld (by decide) (Yld.move rfl) ?_
          refine WL.yld (by decide) (Yld.addC rfl rfl hx66) ?_
          refine WL.yld (by decide) (Yld.assign rfl) ?_
          refine WL.done (hK65 _ _ ?_)
          refine QK.thenN ?_
          refine hK34 ⟨q33, A57, x56.length, c58, x56, x66⟩ _ _ ?_ (Nat.lt_succ_self _) (Sub.cons rfl (Sub.cons rfl (Sub.cons rfl (Sub.cons rfl (Sub.cons rfl (Sub.nil _)))))) (Sub.cons rfl (Sub.cons rfl (Sub.cons rfl (Sub.cons rfl (Sub.cons rfl (Sub.nil _))))))
          exact h
         ·
          skip
          refine WS.yld rfl (by decide) (Yld.loadC0 (xs := x01) scal_3 rfl (RdH.memM (k := 0) rfl hf01) hx52 rfl) ?_
          refine WD.take 15 rfl (by kernel_rfl) (by kernel_rfl) (by kernel_rfl) (by decide) (Yld.addC rfl rfl hx53) ?_
          refine WD.take 18 rfl (by kernel_rfl) (by kernel_rfl) (by kernel_rfl) (by decide) (Yld.mulC rfl rfl hx54) ?_
          refine WD.one 7 (by kernel_rfl) ?_
          refine WS.yld rfl (by decide) (Yld.loadC0 (xs := x01) scal_3 rfl (RdH.memM (k := 0) rfl hf01) hx50 rfl) ?_
          refine WD.take 10 rfl (by kernel_rfl) (by kernel_rfl) (by kernel_rfl) (by decide) (Yld.mulC rfl rfl hx51) ?_
          refine WD.one 19 (by kernel_rfl) ?_
          refine WS.yld rfl (by decide) (Yld.sliceLHC (xs := x00_2) sty_22 rfl rfl rfl (RdH.memM (k := 0) rfl hf00_2) hx55) ?_
          refine WD.one 20 (by kernel_rfl) ?_
          refine WS.eff rfl (by decide) (Eff.appendC 127 (xs := x31) (ys := x55) sty_22 rfl rfl rfl (RdT.slc (RdH.memM (k := 0) rfl hf00_2) hx55) hx56) ?_
          rintro _ _ ⟨A57, c58, rfl, rfl⟩
          refine ⟨(Sub.cons rfl (Sub.cons rfl (Sub.nil _))), ?_⟩
          refine WD.take 21 rfl (by kernel_rfl) (by kernel_rfl) (by kernel_rfl) (by decide) (Yld.fieldAddr Try.underlying26 rfl nz_22 rfl rfl) ?_
          refine WD.one 22 (by kernel_rfl) ?_
          refine WS.eff0 rfl (Eff0.storeB 117 siz_22 rfl rfl rfl rfl (Nat.le_of_ble_eq_true rfl)) (Sub.cons rfl (Sub.cons rfl (Sub.nil _))) ?_
          refine WD.done (by kernel_rfl) (hK49 _ _ ?_)
          refine QK.blockN ?_
          refine QK.thenN (hK38 _ _ ?_)
          refine WC.region fun K67 hK67 => ?_
          obtain ⟨x68, hx68, h⟩ := bnd h
          refine WL.yld (by decide) (Yld.move rfl) ?_
          refine WL.yld (by decide) (Yld.addC rfl rfl hx68) ?_
          refine WL.yld (by decide) (Yld.assign rfl) ?_
          refine WL.done (hK67 _ _ ?_)
          refine QK.thenN ?_
          refine hK34 ⟨q33, A57, x56.length, c58, x56, x68⟩ _ _ ?_ (Nat.lt_succ_self _) (Sub.cons rfl (Sub.cons rfl (Sub.cons rfl (Sub.cons rfl (Sub.cons rfl (Sub.nil _)))))) (Sub.cons rfl (Sub.cons rfl (Sub.cons rfl (Sub.cons rfl (Sub.cons rfl (Sub.nil _))))))
          exact h
        ·
         skip
         refine WS.yld rfl (by decide) (Yld.loadC0 (xs := x01) scal_3 rfl (RdH.memM (k := 0) rfl hf01) hx52 rfl) ?_
         refine WD.take 15 rfl (by kernel_rfl) (by kernel_rfl) (by kernel_rfl) (by decide) (Yld.addC rfl rfl hx53) ?_
         refine WD.take 18 rfl (by kernel_rfl) (by kernel_rfl) (by kernel_rfl) (by decide) (Yld.mulC rfl rfl hx54) ?_
         refine WD.one 6 (by kernel_rfl) ?_
         refine WS.yld rfl (by decide) (Yld.idxC (xs := x01) sty_28 rfl rfl (RdH.memM (k := 0) rfl hf01) hx50) ?_
         refine WD.one 7 (by kernel_rfl) ?_
         refine WS.yld rfl (by decide) (Yld.loadC0 (xs := x01) scal_3 rfl (RdH.memM (k := 0) rfl hf01) hx50 rfl) ?_
         refine WD.take 10 rfl (by kernel_rfl) (by kernel_rfl) (by kernel_rfl) (by decide) (Yld.mulC rfl rfl hx51) ?_
         refine WD.one 19 (by kernel_rfl) ?_
         refine WS.yld rfl (by decide) (Yld.sliceLHC (xs := x00_2) sty_22 rfl rfl rfl (RdH.memM (k := 0) rfl hf00_2) hx55) ?_
         refine WD.one 20 (by kernel_rfl) ?_
         refine WS.eff rfl (by decide) (Eff.appendC 127 (xs := x31) (ys := x55) sty_22 rfl rfl rfl (RdT.slc (RdH.memM (k := 0) rfl hf00_2) hx55) hx56) ?_
         rintro _ _ ⟨A57, c58, rfl, rfl⟩
         refine ⟨(Sub.cons rfl (Sub.cons rfl (Sub.nil _))), ?_⟩
         refine WD.take 21 rfl (by kernel_rfl) (by kernel_rfl) (by kernel_rfl) (by decide) (Yld.fieldAddr Try.underlying26 rfl nz_22 rfl rfl) ?_
         refine WD.one 22 (by kernel_rfl) ?_
         refine WS.eff0 rfl (Eff0.storeB 117 siz_22 rfl rfl rfl rfl (Nat.le_of_ble_eq_true rfl)) (Sub.cons rfl (Sub.cons rfl (Sub.nil _))) ?_
         refine WD.done (by kernel_rfl) (hK49 _ _ ?_)
         refine QK.blockN ?_
         refine QK.thenN (hK38 _ _ ?_)
         refine WC.region fun K69 hK69 => ?_
         obtain ⟨x70, hx70, h⟩ := bnd h
         refine WL.yld (by decide) (Yld.move rfl) ?_
         refine WL.yld (by decide) (Yld.addC rfl rfl hx70) ?_
         refine WL.yld (by decide) (Yld.assign rfl) ?_
         refine WL.done (hK69 _ _ ?_)
         refine QK.thenN ?_
         refine hK34 ⟨q33, A57, x56.length, c58, x56, x70⟩ _ _ ?_ (Nat.lt_succ_self _) (Sub.cons rfl (Sub.cons rfl (Sub.cons rfl (Sub.cons rfl (Sub.cons rfl (Sub.nil _)))))) (Sub.cons rfl (Sub.cons rfl (Sub.cons rfl (Sub.cons rfl (Sub.cons rfl (Sub.nil _))))))
         exact h
      ·
       skip
       refine WS.yld rfl (by decide) (Yld.idxC (xs := x01) sty_28 rfl rfl (RdH.memM (k := 0) rfl hf01) hx50) ?_
       refine WD.three 1 7 13 (by kernel_rfl) ?_ ?_ ?_
       ·
        skip
        refine WS.yld rfl (by decide) (Yld.loadB (k := 117) scal_22 rfl rfl rfl) ?_
        refine WD.two 7 13 (by kernel_rfl) ?_ ?_
        ·
         skip
         refine WS.yld rfl (by decide) (Yld.loadC0 (xs := x01) scal_3 rfl (RdH.memM (k := 0) rfl hf01) hx50 rfl) ?_
         refine WD.take 10 rfl (by kernel_rfl) (by kernel_rfl) (by kernel_rfl) (by decide) (Yld.mulC rfl rfl hx51) ?_
         refine WD.one 13 (by kernel_rfl) ?_
         refine WS.yld rfl (by decide) (Yld.idxC (xs := x01) sty_28 rfl rfl (RdH.memM (k := 0) rfl hf01) hx52) ?_
         refine WD.one 14 (by kernel_rfl) ?_
         refine WS.yld rfl (by decide) (Yld.loadC0 (xs := x01) scal_3 rfl (RdH.memM (k := 0) rfl hf01) hx52 rfl) ?_
         refine WD.take 15 rfl (by kernel_rfl) (by kernel_rfl) (by kernel_rfl) (by decide) (Yld.addC rfl rfl hx53) ?_
         refine WD.take 18 rfl (by kernel_rfl) (by kernel_rfl) (by kernel_rfl) (by decide) (Yld.mulC rfl rfl hx54) ?_
         refine WD.one 19 (by kernel_rfl) ?_
         refine WS.yld rfl (by decide) (Yld.sliceLHC (xs := x00_2) sty_22 rfl rfl rfl (RdH.memM (k := 0) rfl hf00_2) hx55) ?_
         refine WD.one 20 (by kernel_rfl) ?_
         refine WS.eff rfl (by decide) (Eff.appendC 127 (xs := x31) (ys := x55) sty_22 rfl rfl rfl (RdT.slc (RdH.memM (k := 0) rfl hf00_2) hx55) hx56) ?_
         rintro _ _ ⟨A57, c58, rfl, rfl⟩
         refine ⟨(Sub.cons rfl (Sub.cons rfl (Sub.nil _))), ?_⟩
         refine WD.take 21 rfl (by kernel_rfl) (by kernel_rfl) (by kernel_rfl) (by decide) (Yld.fieldAddr Try.underlying26 rfl nz_22 rfl rfl) ?_
         refine WD.one 22 (by kernel_rfl) ?_
         refine WS.eff0 rfl (Eff0.storeB 117 siz_22 rfl rfl rfl rfl (Nat.le_of_ble_eq_true rfl)) (Sub.cons rfl (Sub.cons rfl (Sub.nil _))) ?_
         refine WD.done (by kernel_rfl) (hK49 _ _ ?_)
         refine QK.blockN ?_
         refine QK.thenN (hK38 _ _ ?_)
         refine WC.region fun K71 hK71 => ?_
         obtain ⟨x72, hx72, h⟩ := bnd h
         refine WL.yld (by decide) (Yld.move rfl) ?_
         refine WL.yld (by decide) (Yld.addC rfl rfl hx72) ?_
         refine WL.yld (by decide) (Yld.assign rfl) ?_
         refine WL.done (hK71 _ _ ?_)
         refine QK.thenN ?_
         refine hK34 ⟨q33, A57, x56.length, c58, x56, x72⟩ _ _ ?_ (Nat.lt_succ_self _) (Sub.cons rfl (Sub.cons rfl (Sub.cons rfl (Sub.cons rfl (Sub.cons rfl (Sub.nil _)))))) (Sub.cons rfl (Sub.cons rfl (Sub.cons rfl (Sub.cons rfl (Sub.cons rfl (Sub.nil _))))))
         exact h
        ·
         skip
         refine WS.yld rfl (by decide) (Yld.idxC (xs := x01) sty_28 rfl rfl (RdH.memM (k := 0) rfl hf01) hx52) ?_
         refine WD.two 7 14 (by kernel_rfl) ?_ ?_
         ·
          skip
          refine WS.yld rfl (by decide) (Yld.loadC0 (xs := x01) scal_3 rfl (RdH.memM (k := 0) rfl hf01) hx50 rfl) ?_
          refine WD.take 10 rfl (by kernel_rfl) (by kernel_rfl) (by kernel_rfl) (by decide) (Yld.mulC rfl rfl hx51) ?_
          refine WD.one 14 (by kernel_rfl) ?_
          refine WS.yld rfl (by decide) (Yld.loadC0 (xs := x01) scal_3 rfl (RdH.memM (k := 0) rfl hf01) hx52 rfl) ?_
          refine WD.take 15 rfl (by kernel_rfl) (by kernel_rfl) (by kernel_rfl) (by decide) (Yld.addC rfl rfl hx53) ?_
          refine WD.take 18 rfl (by kernel_rfl) (by kernel_rfl) (by kernel_rfl) (by decide) (Yld.mulC rfl rfl hx54) ?_
          refine WD.one 19 (by kernel_rfl) ?_
          refine WS.yld rfl (by decide) (Yld.sliceLHC (xs := x00_2) sty_22 rfl rfl rfl (RdH.memM (k := 0) rfl hf00_2) hx55) ?_
          refine WD.one 20 (by kernel_rfl) ?_
          refine WS.eff rfl (by decide) (Eff.appendC 127 (xs := x31) (ys := x55) sty_22 rfl rfl rfl (RdT.slc (RdH.memM (k := 0) rfl hf00_2) hx55) hx56) ?_
          rintro _ _ ⟨A57, c58, rfl, rfl⟩
          refine ⟨(Sub.cons rfl (Sub.cons rfl (Sub.nil _))), ?_⟩
          refine WD.take 21 rfl (by kernel_rfl) (by kernel_rfl) (by kernel_rfl) (by decide) (Yld.fieldAddr Try.underlying26 rfl nz_22 rfl rfl) ?_
          refine WD.one 22 (by kernel_rfl) ?_
          refine WS.eff0 rfl (Eff0.storeB 117 siz_22 rfl rfl rfl rfl (Nat.le_of_ble_eq_true rfl)) (Sub.cons rfl (Sub.cons rfl (Sub.nil _))) ?_
          refine WD.done (by kernel_rfl) (hK49 _ _ ?_)
          refine QK.blockN ?_
          refine QK.thenN (hK38 _ _ ?_)
          refine WC.region fun K73 hK73 => ?_
          obtain ⟨x74, hx74, h⟩ := bnd h
          refine WL.yld (by decide) (Yld.move rfl) ?_
          refine WL.yld (by decide) (Yld.addC rfl rfl hx74) ?_
          refine WL.yld (by decide) (Yld.assign rfl) ?_
          refine WL.done (hK73 _ _ ?_)
          refine QK.thenN ?_
          refine hK34 ⟨q33, A57, x56.length, c58, x56, x74⟩ _ _ ?_ (Nat.lt_succ_self _) (Sub.cons rfl (Sub.cons rfl (Sub.cons rfl (Sub.cons rfl (Sub.cons rfl (Sub.nil _)))))) (Sub.cons rfl (Sub.cons rfl (Sub.cons rfl (Sub.cons rfl (Sub.cons rfl (Sub.nil _))))))
          exact h
         ·
          skip
          refine WS.yld rfl (by decide) (Yld.loadC0 (xs := x01) scal_3 rfl (RdH.memM (k := 0) rfl hf01) hx52 rfl) ?_
          refine WD.take 15 rfl (by kernel_rfl) (by kernel_rfl) (by kernel_rfl) (by decide) (Yld.addC rfl rfl hx53) ?_
          refine WD.take 18 rfl (by kernel_rfl) (by kernel_rfl) (by kernel_rfl) (by decide) (Yld.mulC rfl rfl hx54) ?_
          refine WD.one 7 (by kernel_rfl) ?_
          refine WS.yld rfl (by decide) (Yld.loadC0 (xs := x01) scal_3 rfl (RdH.memM (k := 0) rfl hf01) hx50 rfl) ?_
          refine WD.take 10 rfl (by kernel_rfl) (by kernel_rfl) (by kernel_rfl) (by decide) (Yld.mulC rfl rfl hx51) ?_
          refine WD.one 19 (by kernel_rfl) ?_
          refine WS.yld rfl (by decide) (Yld.sliceLHC (xs := x00_2) sty_22 rfl rfl rfl (RdH.memM (k := 0) rfl hf00_2) hx55) ?_
          refine WD.one 20 (by kernel_rfl) ?_
          refine WS.eff rfl (by decide) (Eff.appendC 127 (xs := x31) (ys := x55) sty_22 rfl rfl rfl (RdT.slc (RdH.memM (k := 0) rfl hf00_2) hx55) hx56) ?_
          rintro _ _ ⟨A57, c58, rfl, rfl⟩
          refine ⟨(Sub.cons rfl (Sub.cons rfl (Sub.nil _))), ?_⟩
          refine WD.take 21 rfl (by kernel_rfl) (by kernel_rfl) (by kernel_rfl) (by decide) (Yld.fieldAddr Try.underlying26 rfl nz_22 rfl rfl) ?_
          refine WD.one 22 (by kernel_rfl) ?_
          refine WS.eff0 rfl (Eff0.storeB 117 siz_22 rfl rfl rfl rfl (Nat.le_of_ble_eq_true rfl)) (Sub.cons rfl (Sub.cons rfl (Sub.nil _))) ?_
          refine WD.done (by kernel_rfl) (hK49 _ _ ?_)
          refine QK.blockN ?_
          refine QK.thenN (hK38 _ _ ?_)
          refine WC.region fun K75 hK75 => ?_
          obtain ⟨x76, hx76, h⟩ := bnd h
          refine WL.yld (by decide) (Yld.move rfl) ?_
          refine WL.yld (by decide) (Yld.addC rfl rfl hx76) ?_
          refine WL.yld (by decide) (Yld.assign rfl) ?_
          refine WL.done (hK75 _ _ ?_)
          refine QK.thenN ?_
          refine hK34 ⟨q33, A57, x56.length, c58, x56, x76⟩ _ _ ?_ (Nat.lt_succ_self _) (Sub.cons rfl (Sub.cons rfl (Sub.cons rfl (Sub.cons rfl (Sub.cons rfl (Sub.nil _)))))) (Sub.cons rfl (Sub.cons rfl (Sub.cons rfl (Sub.cons rfl (Sub.cons rfl (Sub.nil _))))))
          exact h
       ·
        skip
        refine WS.yld rfl (by decide) (Yld.loadC0 (xs := x01) scal_3 rfl (RdH.memM (k := 0) rfl hf01) hx50 rfl) ?_
        refine WD.take 10 rfl (by kernel_rfl) (by kernel_rfl) (by kernel_rfl) (by decide) (Yld.mulC rfl rfl hx51) ?_
        refine WD.two 1 13 (by kernel_rfl) ?_ ?_
        ·
         skip
         refine WS.yld rfl (by decide) (Yld.loadB (k := 117) scal_22 rfl rfl rfl) ?_
         refine WD.one 13 (by kernel_rfl) ?_
         refine WS.yld rfl (by decide) (Yld.idxC (xs := x01) sty_28 rfl rfl (RdH.memM (k := 0) rfl hf01) hx52) ?_
         refine WD.one 14 (by kernel_rfl) ?_
         refine WS.yld rfl (by decide) (Yld.loadC0 (xs := x01) scal_3 rfl (RdH.memM (k := 0) rfl hf01) hx52 rfl) ?_
         refine WD.take 15 rfl (by kernel_rfl) (by kernel_rfl) (by kernel_rfl) (by decide) (Yld.addC rfl rfl hx53) ?_
         refine WD.take 18 rfl (by kernel_rfl) (by kernel_rfl) (by kernel_rfl) (by decide) (Yld.mulC rfl rfl hx54) ?_
         refine WD.one 19 (by kernel_rfl) ?_
         refine WS.yld rfl (by decide) (Yld.sliceLHC (xs := x00_2) sty_22 rfl rfl rfl (RdH.memM (k := 0) rfl hf00_2) hx55) ?_
         refine WD.one 20 (by kernel_rfl) ?_
         refine WS.eff rfl (by decide) (Eff.appendC 127 (xs := x31) (ys := x55) sty_22 rfl rfl rfl (RdT.slc (RdH.memM (k := 0) rfl hf00_2) hx55) hx56) ?_
         rintro _ _ ⟨A57, c58, rfl, rfl⟩
         refine ⟨(Sub.cons rfl (Sub.cons rfl (Sub.nil _))), ?_⟩
         refine WD.take 21 rfl (by kernel_rfl) (by kernel_rfl) (by kernel_rfl) (by decide) (Yld.fieldAddr Try.underlying26 rfl nz_22 rfl rfl) ?_
         refine WD.one 22 (by kernel_rfl) ?_
         refine WS.eff0 rfl (Eff0.storeB 117 siz_22 rfl rfl rfl rfl (Nat.le_of_ble_eq_true rfl)) (Sub.cons rfl (Sub.cons rfl (Sub.nil _))) ?_
         refine WD.done (by kernel_rfl) (hK49 _ _ ?_)
         refine QK.blockN ?_
         refine QK.thenN (hK38 _ _ ?_)
         refine WC.region fun K77 hK77 => ?_
         obtain ⟨x78, hx78, h⟩ := bnd h
         refine WL.yld (by decide) (Yld.move rfl) ?_
         refine WL.yld (by decide) (Yld.addC rfl rfl hx78) ?_
         refine WL.yld (by decide) (Yld.assign rfl) ?_
         refine WL.done (hK77 _ _ ?_)
         refine QK.thenN ?_
         refine hK34 ⟨q33, A57, x56.length, c58, x56, x78⟩ _ _ ?_ (Nat.lt_succ_self _) (Sub.cons rfl (Sub.cons rfl (Sub.cons rfl (Sub.cons rfl (Sub.cons rfl (Sub.nil _)))))) (Sub.cons rfl (Sub.cons rfl (Sub.cons rfl (Sub.cons rfl (Sub.cons rfl (Sub.nil _))))))
         exact h
        ·
         skip
         refine WS.yld rfl (by decide) (Yld.idxC (xs := x01) sty_28 rfl rfl (RdH.memM (k := 0) rfl hf01) hx52) ?_
         refine WD.two 1 14 (by kernel_rfl) ?_ ?_
         ·
          skip
          refine WS.yld rfl (by decide) (Yld.loadB (k := 117) scal_22 rfl rfl rfl) ?_
          refine WD.one 14 (by kernel_rfl) ?_
          refine WS.yld rfl (by decide) (Yld.loadC0 (xs := x01) scal_3 rfl (RdH.memM (k := 0) rfl hf01) hx52 rfl) ?_
          refine WD.take 15 rfl (by kernel_rfl) (by kernel_rfl) (by kernel_rfl) (by decide) (Yld.addC rfl rfl hx53) ?_
          refine WD.take 18 rfl (by kernel_rfl) (by kernel_rfl) (by kernel_rfl) (by decide) (Yld.mulC rfl rfl hx54) ?_
          refine WD.one 19 (by kernel_rfl) ?_
          refine WS.yld rfl (by decide) (Yld.sliceLHC (xs := x00_2) sty_22 rfl rfl rfl (RdH.memM (k := 0) rfl hf00_2) hx55) ?_
          refine WD.one 20 (by kernel_rfl) ?_
          refine WS.eff rfl (by decide) (Eff.appendC 127 (xs := x31) (ys := x55) sty_22 rfl rfl rfl (RdT.slc (RdH.memM (k := 0) rfl hf00_2) hx55) hx56) ?_
          rintro _ _ ⟨A57, c58, rfl, rfl⟩
          refine ⟨(Sub.cons rfl (Sub.cons rfl (Sub.nil _))), ?_⟩
          refine WD.take 21 rfl (by kernel_rfl) (by kernel_rfl) (by kernel_rfl) (by decide) (Yld.fieldAddr Try.underlying26 rfl nz_22 rfl rfl) ?_
          refine WD.one 22 (by kernel_rfl) ?_
          refine WS.eff0 rfl (Eff0.storeB 117 siz_22 rfl rfl rfl rfl (Nat.le_of_ble_eq_true rfl)) (Sub.cons rfl (Sub.cons rfl (Sub.nil _))) ?_
          refine WD.done (by kernel_rfl) (hK49 _ _ ?_)
          refine QK.blockN ?_
          refine QK.thenN (hK38 _ _ ?_)
          refine WC.region fun K79 hK79 => ?_
          obtain ⟨x80, hx80, h⟩ := bnd h
          refine WL.yld (by decide) (Yld.move rfl) ?_
          refine WL.yld (by decide) (Yld.addC rfl rfl hx80) ?_
          refine WL.yld (by decide) (Yld.assign rfl) ?_
          refine WL.done (hK79 _ _ ?_)
          refine QK.thenN ?_
          refine hK34 ⟨q33, A57, x56.length, c58, x56, x80⟩ _ _ ?_ (Nat.lt_succ_self _) (Sub.cons rfl (Sub.cons rfl (Sub.cons rfl (Sub.cons rfl (Sub.cons rfl (Sub.nil _)))))) (Sub.cons rfl (Sub.cons rfl (Sub.cons rfl (Sub.cons rfl (Sub.cons rfl (Sub.nil _))))))
          exact h
         ·
          skip
          refine WS.yld rfl (by decide) (Yld.loadC0 (xs := x01) scal_3 rfl (RdH.memM (k := 0) rfl hf01) hx52 rfl) ?_
          refine WD.take 15 rfl (by kernel_rfl) (by kernel_rfl) (by kernel_rfl) (by decide) (Yld.addC rfl rfl hx53) ?_
          refine WD.take 18 rfl (by kernel_rfl) (by kernel_rfl) (by kernel_rfl) (by decide) (Yld.mulC rfl rfl hx54) ?_
          refine WD.two 1 19 (by kernel_rfl) ?_ ?_
          ·
           skip
           refine WS.yld rfl (by decide) (Yld.loadB (k := 117) scal_22 rfl rfl rfl) ?_
           refine WD.one 19 (by kernel_rfl) ?_
           refine WS.yld rfl (by decide) (Yld.sliceLHC (xs := x00_2) sty_22 rfl rfl rfl (RdH.memM (k := 0) rfl hf00_2) hx55) ?_
           refine WD.one 20 (by kernel_rfl) ?_
           refine WS.eff rfl (by decide) (Eff.appendC 127 (xs := x31) (ys := x55) sty_22 rfl rfl rfl (RdT.slc (RdH.memM (k := 0) rfl hf00_2) hx55) hx56) ?_
           rintro _ _ ⟨A57, c58, rfl, rfl⟩
           refine ⟨(Sub.cons rfl (Sub.cons rfl (Sub.nil _))), ?_⟩
           refine WD.take 21 rfl (by kernel_rfl) (by kernel_rfl) (by kernel_rfl) (by decide) (Yld.fieldAddr Try.underlying26 rfl nz_22 rfl rfl) ?_
           refine WD.one 22 (by kernel_rfl) ?_
           refine WS.eff0 rfl (Eff0.storeB 117 siz_22 rfl rfl rfl rfl (Nat.le_of_ble_eq_true rfl)) (Sub.cons rfl (Sub.cons rfl (Sub.nil _))) ?_
           refine WD.done (by kernel_rfl) (hK49 _ _ ?_)
           refine QK.blockN ?_
           refine QK.thenN (hK38 _ _ ?_)
           refine WC.region fun K81 hK81 => ?_
           obtain ⟨x82, hx82, h⟩ := bnd h
           refine WL.yld (by decide) (Yld.move rfl) ?_
           refine WL.yld (by decide) (Yld.addC rfl rfl hx82) ?_
           refine WL.yld (by decide) (Yld.assign rfl) ?_
           refine WL.done (hK81 _ _ ?_)
           refine QK.thenN ?_
           refine hK34 ⟨q33, A57, x56.length, c58, x56, x82⟩ _ _ ?_ (Nat.lt_succ_self _) (Sub.cons rfl (Sub.cons rfl (Sub.cons rfl (Sub.cons rfl (Sub.cons rfl (Sub.nil _)))))) (Sub.cons rfl (Sub.cons rfl (Sub.cons rfl (Sub.cons rfl (Sub.cons rfl (Sub.nil _))))))
           exact h
          ·
           skip
           refine WS.yld rfl (by decide) (Yld.sliceLHC (xs := x00_2) sty_22 rfl rfl rfl (RdH.memM (k := 0) rfl hf00_2) hx55) ?_
           refine WD.one 1 (by kernel_rfl) ?_
           refine WS.yld rfl (by decide) (Yld.loadB (k := 117) scal_22 rfl rfl rfl) ?_
           refine WD.one 20 (by kernel_rfl) ?_
           refine WS.eff rfl (by decide) (Eff.appendC 127 (xs := x31) (ys := x55) sty_22 rfl rfl rfl (RdT.slc (RdH.memM (k := 0) rfl hf00_2) hx55) hx56) ?_
           rintro _ _ ⟨A57, c58, rfl, rfl⟩
           refine ⟨(Sub.cons rfl (Sub.cons rfl (Sub.nil _))), ?_⟩
           refine WD.take 21 rfl (by kernel_rfl) (by kernel_rfl) (by kernel_rfl) (by decide) (Yld.fieldAddr Try.underlying26 rfl nz_22 rfl rfl) ?_
           refine WD.one 22 (by kernel_rfl) ?_
           refine WS.eff0 rfl (Eff0.storeB 117 siz_22 rfl rfl rfl rfl (Nat.le_of_ble_eq_true rfl)) (Sub.cons rfl (Sub.cons rfl (Sub.nil _))) ?_
           refine WD.done (by kernel_rfl) (hK49 _ _ ?_)
           refine QK.blockN ?_
           refine QK.thenN (hK38 _ _ ?_)
           refine WC.region fun K83 hK83 => ?_
           obtain ⟨x84, hx84, h⟩ := bnd h
           refine WL.yld (by decide) (Yld.move rfl) ?_
           refine WL.yld (by decide) (Yld.addC rfl rfl hx84) ?_
           refine WL.yld (by decide) (Yld.assign rfl) ?_
           refine WL.done (hK83 _ _ ?_)
           refine QK.thenN ?_
           refine hK34 ⟨q33, A57, x56.length, c58, x56, x84⟩ _ _ ?_ (Nat.lt_succ_self _) (Sub.cons rfl (Sub.cons rfl (Sub.cons rfl (Sub.cons rfl (Sub.cons rfl (Sub.nil _)))))) (Sub.cons rfl (Sub.cons rfl (Sub.cons rfl (Sub.cons rfl (Sub.cons rfl (Sub.nil _))))))
           exact h
       ·
        skip
        refine WS.yld rfl (by decide) (Yld.idxC (xs := x01) sty_28 rfl rfl (RdH.memM (k := 0) rfl hf01) hx52) ?_
        refine WD.three 1 7 14 (by kernel_rfl) ?_ ?_ ?_
        ·
         skip
         refine WS.yld rfl (by decide) (Yld.loadB (k := 117) scal_22 rfl rfl rfl) ?_
         refine WD.two 7 14 (by kernel_rfl) ?_ ?_
         ·
          skip
          refine WS.yld rfl (by decide) (Yld.loadC0 (xs := x01) scal_3 rfl (RdH.memM (k := 0) rfl hf01) hx50 rfl) ?_
          refine WD.take 10 rfl (by kernel_rfl) (by kernel_rfl) (by kernel_rfl) (by decide) (Yld.mulC rfl rfl hx51) ?_
          refine WD.one 14 (by kernel_rfl) ?_
          refine WS.yld rfl (by decide) (Yld.loadC0 (xs := x01) scal_3 rfl (RdH.memM (k := 0) rfl hf01) hx52 rfl) ?_
          refine WD.take 15 rfl (by kernel_rfl) (by kernel_rfl) (by kernel_rfl) (by decide) (Yld.addC rfl rfl hx53) ?_
          refine WD.take 18 rfl (by kernel_rfl) (by kernel_rfl) (by kernel_rfl) (by decide) (Yld.mulC rfl rfl hx54) ?_
          refine WD.one 19 (by kernel_rfl) ?_
          refine WS.yld rfl (by decide) (Yld.sliceLHC (xs := x00_2) sty_22 rfl rfl rfl (RdH.memM (k := 0) rfl hf00_2) hx55) ?_
          refine WD.one 20 (by kernel_rfl) ?_
          refine WS.eff rfl (by decide) (Eff.appendC 127 (xs := x31) (ys := x55) sty_22 rfl rfl rfl (RdT.slc (RdH.memM (k := 0) rfl hf00_2) hx55) hx56) ?_
          rintro _ _ ⟨A57, c58, rfl, rfl⟩
          refine ⟨(Sub.cons rfl (Sub.cons rfl (Sub.nil _))), ?_⟩
          refine WD.take 21 rfl (by kernel_rfl) (by kernel_rfl) (by kernel_rfl) (by decide) (Yld.fieldAddr Try.underlying26 rfl nz_22 rfl rfl) ?_
          refine WD.one 22 (by kernel_rfl) ?_
          refine WS.eff0 rfl (Eff0.storeB 117 siz_22 rfl rfl rfl rfl (Nat.le_of_ble_eq_true rfl)) (Sub.cons rfl (Sub.cons rfl (Sub.nil _))) ?_
          refine WD.done (by kernel_rfl) (hK49 _ _ ?_)
          refine QK.blockN ?_
          refine QK.thenN (hK38 _ _ ?_)
          refine WC.region fun K85 hK85 => ?_
          obtain ⟨x86, hx86, h⟩ := bnd h
          refine WL.yld (by decide) (Yld.move rfl) ?_
          refine WL.yld (by decide) (Yld.addC rfl rfl hx86) ?_
          refine WL.yld (by decide) (Yld.assign rfl) ?_
          refine WL.done (hK85 _ _ ?_)
          refine QK.thenN ?_
          refine hK34 ⟨q33, A57, x56.length, c58, x56, x86⟩ _ _ ?_ (Nat.lt_succ_self _) (Sub.cons rfl (Sub.cons rfl (Sub.cons rfl (Sub.cons rfl (Sub.cons rfl (Sub.nil _)))))) (Sub.cons rfl (Sub.cons rfl (Sub.cons rfl (Sub.cons rfl (Sub.cons rfl (Sub.nil _))))))
          exact h
         ·
          skip
          refine WS.yld rfl (by decide) (Yld.loadC0 (xs := x01) scal_3 rfl (RdH.memM (k := 0) rfl hf01) hx52 rfl) ?_
          refine WD.take 15 rfl (by kernel_rfl) (by kernel_rfl) (by kernel_rfl) (by decide) (Yld.addC rfl rfl hx53) ?_
          refine WD.take 18 rfl (by kernel_rfl) (by kernel_rfl) (by kernel_rfl) (by decide) (Yld.mulC rfl rfl hx54) ?_
          refine WD.one 7 (by kernel_rfl) ?_
          refine WS.yld rfl (by decide) (Yld.loadC0 (xs := x01) scal_3 rfl (RdH.memM (k := 0) rfl hf01) hx50 rfl) ?_
          refine WD.take 10 rfl (by kernel_rfl) (by kernel_rfl) (by kernel_rfl) (by decide) (Yld.mulC rfl rfl hx51) ?_
          refine WD.one 19 (by kernel_rfl) ?_
          refine WS.yld rfl (by decide) (Yld.sliceLHC (xs := x00_2) sty_22 rfl rfl rfl (RdH.memM (k := 0) rfl hf00_2) hx55) ?_
          refine WD.one 20 (by kernel_rfl) ?_
          refine WS.eff rfl (by decide) (Eff.appendC 127 (xs := x31) (ys := x55) sty_22 rfl rfl rfl (RdT.slc (RdH.memM (k := 0) rfl hf00_2) hx55) hx56) ?_
          rintro _ _ ⟨A57, c58, rfl, rfl⟩
          refine ⟨(Sub.cons rfl (Sub.cons rfl (Sub.nil _))), ?_⟩
          refine WD.take 21 rfl (by kernel_rfl) (by kernel_rfl) (by kernel_rfl) (by decide) (Yld.fieldAddr Try.underlying26 rfl nz_22 rfl rfl) ?_
          refine WD.one 22 (by kernel_rfl) ?_
          refine WS.eff0 rfl (Eff0.storeB 117 siz_22 rfl rfl rfl rfl (Nat.le_of_ble_eq_true rfl)) (Sub.cons rfl (Sub.cons rfl (Sub.nil _))) ?_
          refine WD.done (by kernel_rfl) (hK49 _ _ ?_)
          refine QK.blockN ?_
          refine QK.thenN (hK38 _ _ ?_)
          refine WC.region fun K87 hK87 => ?_
          obtain ⟨x88, hx88, h⟩ := bnd h
          refine WL.yld (by decide) (Yld.move rfl) ?_
          refine WL.yld (by decide) (Yld.addC rfl rfl hx88) ?_
          refine WL.yld (by decide) (Yld.assign rfl) ?_
          refine WL.done (hK87 _ _ ?_)
          refine QK.thenN ?_
          refine hK34 ⟨q33, A57, x56.length, c58, x56, x88⟩ _ _ ?_ (Nat.lt_succ_self _) (Sub.cons rfl (Sub.cons rfl (Sub.cons rfl (Sub.cons rfl (Sub.cons rfl (Sub.nil _)))))) (Sub.cons rfl (Sub.cons rfl (Sub.cons rfl (Sub.cons rfl (Sub.cons rfl (Sub.nil _))))))
          exact h
        ·
         skip
         refine WS.yld rfl (by decide) (Yld.loadC0 (xs := x01) scal_3 rfl (RdH.memM (k := 0) rfl hf01) hx50 rfl) ?_
         refine WD.take 10 rfl (by kernel_rfl) (by kernel_rfl) (by kernel_rfl) (by decide) (Yld.mulC rfl rfl hx51) ?_
         refine WD.two 1 14 (by kernel_rfl) ?_ ?_
         ·
          skip
          refine WS.yld rfl (by decide) (Yld.loadB (k := 117) scal_22 rfl rfl rfl) ?_
          refine WD.one 14 (by kernel_rfl) ?_
          refine WS.yld rfl (by decide) (Yld.loadC0 (xs := x01) scal_3 rfl (RdH.memM (k := 0) rfl hf01) hx52 rfl) ?_
          refine WD.take 15 rfl (by kernel_rfl) (by kernel_rfl) (by kernel_rfl) (by decide) (Yld.addC rfl rfl hx53) ?_
          refine WD.take 18 rfl (by kernel_rfl) (by kernel_rfl) (by kernel_rfl) (by decide) (Yld.mulC rfl rfl hx54) ?_
          refine WD.one 19 (by kernel_rfl) ?_
          refine WS.yld rfl (by decide) (Yld.sliceLHC (xs := x00_2) sty_22 rfl rfl rfl (RdH.memM (k := 0) rfl hf00_2) hx55) ?_
          refine WD.one 20 (by kernel_rfl) ?_
          refine WS.eff rfl (by decide) (Eff.appendC 127 (xs := x31) (ys := x55) sty_22 rfl rfl rfl (RdT.slc (RdH.memM (k := 0) rfl hf00_2) hx55) hx56) ?_
          rintro _ _ ⟨A57, c58, rfl, rfl⟩
          refine ⟨(Sub.cons rfl (Sub.cons rfl (Sub.nil _))), ?_⟩
          refine WD.take 21 rfl (by kernel_rfl) (by kernel_rfl) (by kernel_rfl) (by decide) (Yld.fieldAddr Try.underlying26 rfl nz_22 rfl rfl) ?_
          refine WD.one 22 (by kernel_rfl) ?_
          refine WS.eff0 rfl (Eff0.storeB 117 siz_22 rfl rfl rfl rfl (Nat.le_of_ble_eq_true rfl)) (Sub.cons rfl (Sub.cons rfl (Sub.nil _))) ?_
          refine WD.done (by kernel_rfl) (hK49 _ _ ?_)
          refine QK.blockN ?_
          refine QK.thenN (hK38 _ _ ?_)
          refine WC.region fun K89 hK89 => ?_
          obtain ⟨x90, hx90, h⟩ := bnd h
          refine WL.yld (by decide) (Yld.move rfl) ?_
          refine WL.yld (by decide) (Yld.addC rfl rfl hx90) ?_
          refine WL.yld (by decide) (Yld.assign rfl) ?_
          refine WL.done (hK89 _ _ ?_)
          refine QK.thenN ?_
          refine hK34 ⟨q33, A57, x56.length, c58, x56, x90⟩ _ _ ?_ (Nat.lt_succ_self _) (Sub.cons rfl (Sub.cons rfl (Sub.cons rfl (Sub.cons rfl (Sub.cons rfl (Sub.nil _)))))) (Sub.cons rfl (Sub.cons rfl (Sub.cons rfl (Sub.cons rfl (Sub.cons rfl (Sub.nil _))))))
          exact h
         ·
          skip
          refine WS.yld rfl (by decide) (Yld.loadC0 (xs := x01) scal_3 rfl (RdH.memM (k := 0) rfl hf01) hx52 rfl) ?_
          refine WD.take 15 rfl (by kernel_rfl) (by kernel_rfl) (by kernel_rfl) (by decide) (Yld.addC rfl rfl hx53) ?_
          refine WD.take 18 rfl (by kernel_rfl) (by kernel_rfl) (by kernel_rfl) (by decide) (Yld.mulC rfl rfl hx54) ?_
          refine WD.two 1 19 (by kernel_rfl) ?_ ?_
          ·
           skip
           refine WS.yld rfl (by decide) (Yld.loadB (k := 117) scal_22 rfl rfl rfl) ?_
           refine WD.one 19 (by kernel_rfl) ?_
           refine WS.yld rfl (by decide) (Yld.sliceLHC (xs := x00_2) sty_22 rfl rfl rfl (RdH.memM (k := 0) rfl hf00_2) hx55) ?_
           refine WD.one 20 (by kernel_rfl) ?_
           refine WS.eff rfl (by decide) (Eff.appendC 127 (xs := x31) (ys := x55) sty_22 rfl rfl rfl (RdT.slc (RdH.memM (k := 0) rfl hf00_2) hx55) hx56) ?_
           rintro _ _ ⟨A57, c58, rfl, rfl⟩
           refine ⟨(Sub.cons rfl (Sub.cons rfl (Sub.nil _))), ?_⟩
           refine WD.take 21 rfl (by kernel_rfl) (by kernel_rfl) (by kernel_rfl) (by decide) (Yld.fieldAddr Try.underlying26 rfl nz_22 rfl rfl) ?_
           refine WD.one 22 (by kernel_rfl) ?_
           refine WS.eff0 rfl (Eff0.storeB 117 siz_22 rfl rfl rfl rfl (Nat.le_of_ble_eq_true rfl)) (Sub.cons rfl (Sub.cons rfl (Sub.nil _))) ?_
           refine WD.done (by kernel_rfl) (hK49 _ _ ?_)
           refine QK.blockN ?_
           refine QK.thenN (hK38 _ _ ?_)
           refine WC.region fun K91 hK91 => ?_
           obtain ⟨x92, hx92, h⟩ := bnd h
           refine WL.yld (by decide) (Yld.move rfl) ?_
           refine WL.yld (by decide) (Yld.addC rfl rfl hx92) ?_
           refine WL.yld (by decide) (Yld.assign rfl) ?_
           refine WL.done (hK91 _ _ ?_)
           refine QK.thenN ?_
           refine hK34 ⟨q33, A57, x56.length, c58, x56, x92⟩ _ _ ?_ (Nat.lt_succ_self _) (Sub.cons rfl (Sub.cons rfl (Sub.cons rfl (Sub.cons rfl (Sub.cons rfl (Sub.nil _)))))) (Sub.cons rfl (Sub.cons rfl (Sub.cons rfl (Sub.cons rfl (Sub.cons rfl (Sub.nil _))))))
           exact h
          ·
           skip
           refine WS.yld rfl (by decide) (Yld.sliceLHC (xs := x00_2) sty_22 rfl rfl rfl (RdH.memM (k := 0) rfl hf00_2) hx55) ?_
           refine WD.one 1 (by kernel_rfl) ?_
           refine WS.yld rfl (by decide) (Yld.loadB (k := 117) scal_22 rfl rfl rfl) ?_
           refine WD.one 20 (by kernel_rfl) ?_
           refine WS.eff rfl (by decide) (Eff.appendC 127 (xs := x31) (ys := x55) sty_22 rfl rfl rfl (RdT.slc (RdH.memM (k := 0) rfl hf00_2) hx55) hx56) ?_
           rintro _ _ ⟨A57, c58, rfl, rfl⟩
           refine ⟨(Sub.cons rfl (Sub.cons rfl (Sub.nil _))), ?_⟩
           refine WD.take 21 rfl (by kernel_rfl) (by kernel_rfl) (by kernel_rfl) (by decide) (Yld.fieldAddr Try.underlying26 rfl nz_22 rfl rfl) ?_
           refine WD.one 22 (by kernel_rfl) ?_
           refine WS.eff0 rfl (Eff0.storeB 117 siz_22 rfl rfl rfl rfl (Nat.le_of_ble_eq_true rfl)) (Sub.cons rfl (Sub.cons rfl (Sub.nil _))) ?_
           refine WD.done (by kernel_rfl) (hK49 _ _ ?_)
           refine QK.blockN ?_
           refine QK.thenN (hK38 _ _ ?_)
           refine WC.region fun K93 hK93 => ?_
           obtain ⟨x94, hx94, h⟩ := bnd h
           refine WL.yld (by decide) (Yld.move rfl) ?_
           refine WL.yld (by decide) (Yld.addC rfl rfl hx94) ?_
           refine WL.yld (by decide) (Yld.assign rfl) ?_
           refine WL.done (hK93 _ _ ?_)
           refine QK.thenN ?_
           refine hK34 ⟨q33, A57, x56.length, c58, x56, x94⟩ _ _ ?_ (Nat.lt_succ_self _) (Sub.cons rfl (Sub.cons rfl (Sub.cons rfl (Sub.cons rfl (Sub.cons rfl (Sub.nil _)))))) (Sub.cons rfl (Sub.cons rfl (Sub.cons rfl (Sub.cons rfl (Sub.cons rfl (Sub.nil _))))))
           exact h
        ·
         skip
         refine WS.yld rfl (by decide) (Yld.loadC0 (xs := x01) scal_3 rfl (RdH.memM (k := 0) rfl hf01) hx52 rfl) ?_
         refine WD.take 15 rfl (by kernel_rfl) (by kernel_rfl) (by kernel_rfl) (by decide) (Yld.addC rfl rfl hx53) ?_
         refine WD.take 18 rfl (by kernel_rfl) (by kernel_rfl) (by kernel_rfl) (by decide) (Yld.mulC rfl rfl hx54) ?_
         refine WD.two 1 7 (by kernel_rfl) ?_ ?_
         ·
          skip
          refine WS.yld rfl (by decide) (Yld.loadB (k := 117) scal_22 rfl rfl rfl) ?_
          refine WD.one 7 (by kernel_rfl) ?_
          refine WS.yld rfl (by decide) (Yld.loadC0 (xs := x01) scal_3 rfl (RdH.memM (k := 0) rfl hf01) hx50 rfl) ?_
          refine WD.take 10 rfl (by kernel_rfl) (by kernel_rfl) (by kernel_rfl) (by decide) (Yld.mulC rfl rfl hx51) ?_
          refine WD.one 19 (by kernel_rfl) ?_
          refine WS.yld rfl (by decide) (Yld.sliceLHC (xs := x00_2) sty_22 rfl rfl rfl (RdH.memM (k := 0) rfl hf00_2) hx55) ?_
          refine WD.one 20 (by kernel_rfl) ?_
          refine WS.eff rfl (by decide) (Eff.appendC 127 (xs := x31) (ys := x55) sty_22 rfl rfl rfl (RdT.slc (RdH.memM (k := 0) rfl hf00_2) hx55) hx56) ?_
          rintro _ _ ⟨A57, c58, rfl, rfl⟩
          refine ⟨(Sub.cons rfl (Sub.cons rfl (Sub.nil _))), ?_⟩
          refine WD.take 21 rfl (by kernel_rfl) (by kernel_rfl) (by kernel_rfl) (by decide) (Yld.fieldAddr Try.underlying26 rfl nz_22 rfl rfl) ?_
          refine WD.one 22 (by kernel_rfl) ?_
          refine WS.eff0 rfl (Eff0.storeB 117 siz_22 rfl rfl rfl rfl (Nat.le_of_ble_eq_true rfl)) (Sub.cons rfl (Sub.cons rfl (Sub.nil _))) ?_
          refine WD.done (by kernel_rfl) (hK49 _ _ ?_)
          refine QK.blockN ?_
          refine QK.thenN (hK38 _ _ ?_)
          refine WC.region fun K95 hK95 => ?_
          obtain ⟨x96, hx96, h⟩ := bnd h
          refine WL.yld (by decide) (Yld.move rfl) ?_
          refine WL.yld (by decide) (Yld.addC rfl rfl hx96) ?_
          refine WL.yld (by decide) (Yld.assign rfl) ?_
          refine WL.done (hK95 _ _ ?_)
          refine QK.thenN ?_
          refine hK34 ⟨q33, A57, x56.length, c58, x56, x96⟩ _ _ ?_ (Nat.lt_succ_self _) (Sub.cons rfl (Sub.cons rfl (Sub.cons rfl (Sub.cons rfl (Sub.cons rfl (Sub.nil _)))))) (Sub.cons rfl (Sub.cons rfl (Sub.cons rfl (Sub.cons rfl (Sub.cons rfl (Sub.nil _))))))
          exact h
         ·
          skip
          refine WS.yld rfl (by decide) (Yld.loadC0 (xs := x01) scal_3 rfl (RdH.memM (k := 0) rfl hf01) hx50 rfl) ?_
          refine WD.take 10 rfl (by kernel_rfl) (by kernel_rfl) (by kernel_rfl) (by decide) (Yld.mulC rfl rfl hx51) ?_
          refine WD.two 1 19 (by kernel_rfl) ?_ ?_
          ·
           skip
           refine WS.yld rfl (by decide) (Yld.loadB (k := 117) scal_22 rfl rfl rfl) ?_
           refine WD.one 19 (by kernel_rfl) ?_
           refine WS.yld rfl (by decide) (Yld.sliceLHC (xs := x00_2) sty_22 rfl rfl rfl (RdH.memM (k := 0) rfl hf00_2) hx55) ?_
           refine WD.one 20 (by kernel_rfl) ?_
           refine WS.eff rfl (by decide) (Eff.appendC 127 (xs := x31) (ys := x55) sty_22 rfl rfl rfl (RdT.slc (RdH.memM (k := 0) rfl hf00_2) hx55) hx56) ?_
           rintro _ _ ⟨A57, c58, rfl, rfl⟩
           refine ⟨(Sub.cons rfl (Sub.cons rfl (Sub.nil _))), ?_⟩
           refine WD.take 21 rfl (by kernel_rfl) (by kernel_rfl) (by kernel_rfl) (by decide) (Yld.fieldAddr Try.underlying26 rfl nz_22 rfl rfl) ?_
           refine WD.one 22 (by kernel_rfl) ?_
           refine WS.eff0 rfl (Eff0.storeB 117 siz_22 rfl rfl rfl rfl (Nat.le_of_ble_eq_true rfl)) (Sub.cons rfl (Sub.cons rfl (Sub.nil _))) ?_
           refine WD.done (by kernel_rfl) (hK49 _ _ ?_)
           refine QK.blockN ?_
           refine QK.thenN (hK38 _ _ ?_)
           refine WC.region fun K97 hK97 => ?_
           obtain ⟨x98, hx98, h⟩ := bnd h
           refine WL.yld (by decide) (Yld.move rfl) ?_
           refine WL.yld (by decide) (Yld.addC rfl rfl hx98) ?_
           refine WL.yld (by decide) (Yld.assign rfl) ?_
           refine WL.done (hK97 _ _ ?_)
           refine QK.thenN ?_
           refine hK34 ⟨q33, A57, x56.length, c58, x56, x98⟩ _ _ ?_ (Nat.lt_succ_self _) (Sub.cons rfl (Sub.cons rfl (Sub.cons rfl (Sub.cons rfl (Sub.cons rfl (Sub.nil _)))))) (Sub.cons rfl (Sub.cons rfl (Sub.cons rfl (Sub.cons rfl (Sub.cons rfl (Sub.nil _))))))
           exact h
          ·
           skip
           refine WS.yld rfl (by decide) (Yld.sliceLHC (xs := x00_2) sty_22 rfl rfl rfl (RdH.memM (k := 0) rfl hf00_2) hx55) ?_
           refine WD.one 1 (by kernel_rfl) ?_
           refine WS.yld rfl (by decide) (Yld.loadB (k := 117) scal_22 rfl rfl rfl) ?_
           refine WD.one 20 (by kernel_rfl) ?_
           refine WS.eff rfl (by decide) (Eff.appendC 127 (xs := x31) (ys := x55) sty_22 rfl rfl rfl (RdT.slc (RdH.memM (k := 0) rfl hf00_2) hx55) hx56) ?_
           rintro _ _ ⟨A57, c58, rfl, rfl⟩
           refine ⟨(Sub.cons rfl (Sub.cons rfl (Sub.nil _))), ?_⟩
           refine WD.take 21 rfl (by kernel_rfl) (by kernel_rfl) (by kernel_rfl) (by decide) (Yld.fieldAddr Try.underlying26 rfl nz_22 rfl rfl) ?_
           refine WD.one 22 (by kernel_rfl) ?_
           refine WS.eff0 rfl (Eff0.storeB 117 siz_22 rfl rfl rfl rfl (Nat.le_of_ble_eq_true rfl)) (Sub.cons rfl (Sub.cons rfl (Sub.nil _))) ?_
           refine WD.done (by kernel_rfl) (hK49 _ _ ?_)
           refine QK.blockN ?_
           refine QK.thenN (hK38 _ _ ?_)
           refine WC.region fun K99 hK99 => ?_
           obtain ⟨x100, hx100, h⟩ := bnd h
           refine WL.yld (by decide) (Yld.move rfl) ?_
           refine WL.yld (by decide) (Yld.addC rfl rfl hx100) ?_
           refine WL.yld (by decide) (Yld.assign rfl) ?_
           refine WL.done (hK99 _ _ ?_)
           refine QK.thenN ?_
           refine hK34 ⟨q33, A57, x56.length, c58, x56, x100⟩ _ _ ?_ (Nat.lt_succ_self _) (Sub.cons rfl (Sub.cons rfl (Sub.cons rfl (Sub.cons rfl (Sub.cons rfl (Sub.nil _)))))) (Sub.cons rfl (Sub.cons rfl (Sub.cons rfl (Sub.cons rfl (Sub.cons rfl (Sub.nil _))))))
           exact h
      ·
       skip
       refine WS.yld rfl (by decide) (Yld.idxC (xs := x01) sty_28 rfl rfl (RdH.memM (k := 0) rfl hf01) hx52) ?_
       refine WD.three 1 6 14 (by kernel_rfl) ?_ ?_ ?_
       ·
        skip
        refine WS.yld rfl (by decide) (Yld.loadB (k := 117) scal_22 rfl rfl rfl) ?_
        refine WD.two 6 14 (by kernel_rfl) ?_ ?_
        ·
         skip
         refine WS.yld rfl (by decide) (Yld.idxC (xs := x01) sty_28 rfl rfl (RdH.memM (k := 0) rfl hf01) hx50) ?_
         refine WD.two 7 14 (by kernel_rfl) ?_ ?_
         ·
          skip
          refine WS.yld rfl (by decide) (Yld.loadC0 (xs := x01) scal_3 rfl (RdH.memM (k := 0) rfl hf01) hx50 rfl) ?_
          refine WD.take 10 rfl (by kernel_rfl) (by kernel_rfl) (by kernel_rfl) (by decide) (Yld.mulC rfl rfl hx51) ?_
          refine WD.one 14 (by kernel_rfl) ?_
          refine WS.yld rfl (by decide) (Yld.loadC0 (xs := x01) scal_3 rfl (RdH.memM (k := 0) rfl hf01) hx52 rfl) ?_
          refine WD.take 15 rfl (by kernel_rfl) (by kernel_rfl) (by kernel_rfl) (by decide) (Yld.addC rfl rfl hx53) ?_
          refine WD.take 18 rfl (by kernel_rfl) (by kernel_rfl) (by kernel_rfl) (by decide) (Yld.mulC rfl rfl hx54) ?_
          refine WD.one 19 (by kernel_rfl) ?_
          refine WS.yld rfl (by decide) (Yld.sliceLHC (xs := x00_2) sty_22 rfl rfl rfl (RdH.memM (k := 0) rfl hf00_2) hx55) ?_
          refine WD.one 20 (by kernel_rfl) ?_
          refine WS.eff rfl (by decide) (Eff.appendC 127 (xs := x31) (ys := x55) sty_22 rfl rfl rfl (RdT.slc (RdH.memM (k := 0) rfl hf00_2) hx55) hx56) ?_
          rintro _ _ ⟨A57, c58, rfl, rfl⟩
          refine ⟨(Sub.cons rfl (Sub.cons rfl (Sub.nil _))), ?_⟩
          refine WD.take 21 rfl (by kernel_rfl) (by kernel_rfl) (by kernel_rfl) (by decide) (Yld.fieldAddr Try.underlying26 rfl nz_22 rfl rfl) ?_
          refine WD.one 22 (by kernel_rfl) ?_
          refine WS.eff0 rfl (Eff0.storeB 117 siz_22 rfl rfl rfl rfl (Nat.le_of_ble_eq_true rfl)) (Sub.cons rfl (Sub.cons rfl (Sub.nil _))) ?_
          refine WD.done (by kernel_rfl) (hK49 _ _ ?_)
          refine QK.blockN ?_
          refine QK.thenN (hK38 _ _ ?_)
          refine WC.region fun K101 hK101 => ?_
          obtain ⟨x102, hx102, h⟩ := bnd h
          refine WL.yld (by decide) (Yld.move rfl) ?_
          refine WL.yld (by decide) (Yld.addC rfl rfl hx102) ?_
          refine WL.yld (by decide) (Yld.assign rfl) ?_
          refine WL.done (hK101 _ _ ?_)
          refine QK.thenN ?_
          refine hK34 ⟨q33, A57, x56.length, c58, x56, x102⟩ _ _ ?_ (Nat.lt_succ_self _) (Sub.cons rfl (Sub.cons rfl (Sub.cons rfl (Sub.cons rfl (Sub.cons rfl (Sub.nil _)))))) (Sub.cons rfl (Sub.cons rfl (Sub.cons rfl (Sub.cons rfl (Sub.cons rfl (Sub.nil _))))))
          exact h
         ·
          skip
          refine WS.yld rfl (by decide) (Yld.loadC0 (xs := x01) scal_3 rfl (RdH.memM (k := 0) rfl hf01) hx52 rfl) ?_
          refine WD.take 15 rfl (by kernel_rfl) (by kernel_rfl) (by kernel_rfl) (by decide) (Yld.addC rfl rfl hx53) ?_
          refine WD.take 18 rfl (by kernel_rfl) (by kernel_rfl) (by kernel_rfl) (by decide) (Yld.mulC rfl rfl hx54) ?_
          refine WD.one 7 (by kernel_rfl) ?_
          refine WS.yld rfl (by decide) (Yld.loadC0 (xs := x01) scal_3 rfl (RdH.memM (k := 0) rfl hf01) hx50 rfl) ?_
          refine WD.take 10 rfl (by kernel_rfl) (by kernel_rfl) (by kernel_rfl) (by decide) (Yld.mulC rfl rfl hx51) ?_
          refine WD.one 19 (by kernel_rfl) ?_
          refine WS.yld rfl (by decide) (Yld.sliceLHC (xs := x00_2) sty_22 rfl rfl rfl (RdH.memM (k := 0) rfl hf00_2) hx55) ?_
          refine WD.one 20 (by kernel_rfl) ?_
          refine WS.eff rfl (by decide) (Eff.appendC 127 (xs := x31) (ys := x55) sty_22 rfl rfl rfl (RdT.slc (RdH.memM (k := 0) rfl hf00_2) hx55) hx56) ?_
          rintro _ _ ⟨A57, c58, rfl, rfl⟩
          refine ⟨(Sub.cons rfl (Sub.cons rfl (Sub.nil _))), ?_⟩
          refine WD.take 21 rfl (by kernel_rfl) (by kernel_rfl) (by kernel_rfl) (by decide) (Yld.fieldAddr Try.underlying26 rfl nz_22 rfl rfl) ?_
          refine WD.one 22 (by kernel_rfl) ?_
          refine WS.eff0 rfl (Eff0.storeB 117 siz_22 rfl rfl rfl rfl (Nat.le_of_ble_eq_true rfl)) (Sub.cons rfl (Sub.cons rfl (Sub.nil _))) ?_
          refine WD.done (by kernel_rfl) (hK49 _ _ ?_)
          refine QK.blockN ?_
          refine QK.thenN (hK38 _ _ ?_)
          refine WC.region fun K103 hK103 => ?_
          obtain ⟨x104, hx104, h⟩ := bnd h
          refine WL.yld (by decide) (Yld.move rfl) ?_
          refine WL.yld (by decide) (Yld.addC rfl rfl hx104) ?_
          refine WL.yld (by decide) (Yld.assign rfl) ?_
          refine WL.done (hK103 _ _ ?_)
          refine QK.thenN ?_
          refine hK34 ⟨q33, A57, x56.length, c58, x56, x104⟩ _ _ ?_ (Nat.lt_succ_self _) (Sub.cons rfl (Sub.cons rfl (Sub.cons rfl (Sub.cons rfl (Sub.cons rfl (Sub.nil _)))))) (Sub.cons rfl (Sub.cons rfl (Sub.cons rfl (Sub.cons rfl (Sub.cons rfl (Sub.nil _))))))
          exact h
        ·
         skip
         refine WS.yld rfl (by decide) (Yld.loadC0 (xs := x01) scal_3 rfl (RdH.memM (k := 0) rfl hf01) hx52 rfl) ?_
         refine WD.take 15 rfl (by kernel_rfl) (by kernel_rfl) (by kernel_rfl) (by decide) (Yld.addC rfl rfl hx53) ?_
         refine WD.take 18 rfl (by kernel_rfl) (by kernel_rfl) (by kernel_rfl) (by decide) (Yld.mulC rfl rfl hx54) ?_
         refine WD.one 6 (by kernel_rfl) ?_
         refine WS.yld rfl (by decide) (Yld.idxC (xs := x01) sty_28 rfl rfl (RdH.memM (k := 0) rfl hf01) hx50) ?_
         refine WD.one 7 (by kernel_rfl) ?_
         refine WS.yld rfl (by decide) (Yld.loadC0 (xs := x01) scal_3 rfl (RdH.memM (k := 0) rfl hf01) hx50 rfl) ?_
         refine WD.take 10 rfl (by kernel_rfl) (by kernel_rfl) (by kernel_rfl) (by decide) (Yld.mulC rfl rfl hx51) ?_
         refine WD.one 19 (by kernel_rfl) ?_
         refine WS.yld rfl (by decide) (Yld.sliceLHC (xs := x00_2) sty_22 rfl rfl rfl (RdH.memM (k := 0) rfl hf00_2) hx55) ?_
         refine WD.one 20 (by kernel_rfl) ?_
         refine WS.eff rfl (by decide) (Eff.appendC 127 (xs := x31) (ys := x55) sty_22 rfl rfl rfl (RdT.slc (RdH.memM (k := 0) rfl hf00_2) hx55) hx56) ?_
         rintro _ _ ⟨A57, c58, rfl, rfl⟩
         refine ⟨(Sub.cons rfl (Sub.cons rfl (Sub.nil _))), ?_⟩
         refine WD.take 21 rfl (by kernel_rfl) (by kernel_rfl) (by kernel_rfl) (by decide) (Yld.fieldAddr Try.underlying26 rfl nz_22 rfl rfl) ?_
         refine WD.one 22 (by kernel_rfl) ?_
         refine WS.eff0 rfl (Eff0.storeB 117 siz_22 rfl rfl rfl rfl (Nat.le_of_ble_eq_true rfl)) (Sub.cons rfl (Sub.cons rfl (Sub.nil _))) ?_
         refine WD.done (by kernel_rfl) (hK49 _ _ ?_)
         refine QK.blockN ?_
         refine QK.thenN (hK38 _ _ ?_)
         refine WC.region fun K105 hK105 => ?_
         obtain ⟨x106, hx106, h⟩ := bnd h
         refine WL.yld (by decide) (Yld.move rfl) ?_
         refine WL.yld (by decide) (Yld.addC rfl rfl hx106) ?_
         refine WL.yld (by decide) (Yld.assign rfl) ?_
         refine WL.done (hK105 _ _ ?_)
         refine QK.thenN ?_
         refine hK34 ⟨q33, A57, x56.length, c58, x56, x106⟩ _ _ ?_ (Nat.lt_succ_self _) (Sub.cons rfl (Sub.cons rfl (Sub.cons rfl (Sub.cons rfl (Sub.cons rfl (Sub.nil _)))))) (Sub.cons rfl (Sub.cons rfl (Sub.cons rfl (Sub.cons rfl (Sub.cons rfl (Sub.nil _))))))
         exact h
       ·
        skip
        refine WS.yld rfl (by decide) (Yld.idxC (xs := x01) sty_28 rfl rfl (RdH.memM (k := 0) rfl hf01) hx50) ?_
        refine WD.three 1 7 14 (by kernel_rfl) ?_ ?_ ?_
        ·
         skip
         refine WS.yld rfl (by decide) (Yld.loadB (k := 117) scal_22 rfl rfl rfl) ?_
         refine WD.two 7 14 (by kernel_rfl) ?_ ?_
         ·
          skip
          refine WS.yld rfl (by decide) (Yld.loadC0 (xs := x01) scal_3 rfl (RdH.memM (k := 0) rfl hf01) hx50 rfl) ?_
          refine WD.take 10 rfl (by kernel_rfl) (by kernel_rfl) (by kernel_rfl) (by decide) (Yld.mulC rfl rfl hx51) ?_
          refine WD.one 14 (by kernel_rfl) ?_
          refine WS.yld rfl (by decide) (Yld.loadC0 (xs := x01) scal_3 rfl (RdH.memM (k := 0) rfl hf01) hx52 rfl) ?_
          refine WD.take 15 rfl (by kernel_rfl) (by kernel_rfl) (by kernel_rfl) (by decide) (Yld.addC rfl rfl hx53) ?_
          refine WD.take 18 rfl (by kernel_rfl) (by kernel_rfl) (by kernel_rfl) (by decide) (Yld.mulC rfl rfl hx54) ?_
          refine WD.one 19 (by kernel_rfl) ?_
          refine WS.yld rfl (by decide) (Yld.sliceLHC (xs := x00_2) sty_22 rfl rfl rfl (RdH.memM (k := 0) rfl hf00_2) hx55) ?_
          refine WD.one 20 (by kernel_rfl) ?_
          refine WS.eff rfl (by decide) (Eff.appendC 127 (xs := x31) (ys := x55) sty_22 rfl rfl rfl (RdT.slc (RdH.memM (k := 0) rfl hf00_2) hx55) hx56) ?_
          rintro _ _ ⟨A57, c58, rfl, rfl⟩
          refine ⟨(Sub.cons rfl (Sub.cons rfl (Sub.nil _))), ?_⟩
          refine WD.take 21 rfl (by kernel_rfl) (by kernel_rfl) (by kernel_rfl) (by decide) (Yld.fieldAddr Try.underlying26 rfl nz_22 rfl rfl) ?_
          refine WD.one 22 (by kernel_rfl) ?_
          refine WS.eff0 rfl (Eff0.storeB 117 siz_22 rfl rfl rfl rfl (Nat.le_of_ble_eq_true rfl)) (Sub.cons rfl (Sub.cons rfl (Sub.nil _))) ?_
          refine WD.done (by kernel_rfl) (hK49 _ _ ?_)
          refine QK.blockN ?_
          refine QK.thenN (hK38 _ _ ?_)
          refine WC.region fun K107 hK107 => ?_
          obtain ⟨x108, hx108, h⟩ := bnd h
          refine WL.yld (by decide) (Yld.move rfl) ?_
          refine WL.yld (by decide) (Yld.addC rfl rfl hx108) ?_
          refine WL.yld (by decide) (Yld.assign rfl) ?_
          refine WL.done (hK107 _ _ ?_)
          refine QK.thenN ?_
          refine hK34 ⟨q33, A57, x56.length, c58, x56, x108⟩ _ _ ?_ (Nat.lt_succ_self _) (Sub.cons rfl (Sub.cons rfl (Sub.cons rfl (Sub.cons rfl (Sub.cons rfl (Sub.nil _)))))) (Sub.cons rfl (Sub.cons rfl (Sub.cons rfl (Sub.cons rfl (Sub.cons rfl (Sub.nil _))))))
          exact h
         ·
          skip
          refine WS.yld rfl (by decide) (Yld.loadC0 (xs := x01) scal_3 rfl (RdH.memM (k := 0) rfl hf01) hx52 rfl) ?_
          refine WD.take 15 rfl (by kernel_rfl) (by kernel_rfl) (by kernel_rfl) (by decide) (Yld.addC rfl rfl hx53) ?_
          refine WD.take 18 rfl (by kernel_rfl) (by kernel_rfl) (by kernel_rfl) (by decide) (Yld.mulC rfl rfl hx54) ?_
          refine WD.one 7 (by kernel_rfl) ?_
          refine WS.yld rfl (by decide) (Yld.loadC0 (xs := x01) scal_3 rfl (RdH.memM (k := 0) rfl hf01) hx50 rfl) ?_
          refine WD.take 10 rfl (by kernel_rfl) (by kernel_rfl) (by kernel_rfl) (by decide) (Yld.mulC rfl rfl hx51) ?_
          refine WD.one 19 (by kernel_rfl) ?_
          refine WS.yld rfl (by decide) (Yld.sliceLHC (xs := x00_2) sty_22 rfl rfl rfl (RdH.memM (k := 0) rfl hf00_2) hx55) ?_
          refine WD.one 20 (by kernel_rfl) ?_
          refine WS.eff rfl (by decide) (Eff.appendC 127 (xs := x31) (ys := x55) sty_22 rfl rfl rfl (RdT.slc (RdH.memM (k := 0) rfl hf00_2) hx55) hx56) ?_
          rintro _ _ ⟨A57, c58, rfl, rfl⟩
          refine ⟨(Sub.cons rfl (Sub.cons rfl (Sub.nil _))), ?_⟩
          refine WD.take 21 rfl (by kernel_rfl) (by kernel_rfl) (by kernel_rfl) (by decide) (Yld.fieldAddr Try.underlying26 rfl nz_22 rfl rfl) ?_
          refine WD.one 22 (by kernel_rfl) ?_
          refine WS.eff0 rfl (Eff0.storeB 117 siz_22 rfl rfl rfl rfl (Nat.le_of_ble_eq_true rfl)) (Sub.cons rfl (Sub.cons rfl (Sub.nil _))) ?_
          refine WD.done (by kernel_rfl) (hK49 _ _ ?_)
          refine QK.blockN ?_
          refine QK.thenN (hK38 _ _ ?_)
          refine WC.region fun K109 hK109 => ?_
          obtain ⟨x110, hx110, h⟩ := bnd h
          refine WL.yld (by decide) (Yld.move rfl) ?_
          refine WL.yld (by decide) (Yld.addC rfl rfl hx110) ?_
          refine WL.yld (by decide) (Yld.assign rfl) ?_
          refine WL.done (hK109 _ _ ?_)
          refine QK.thenN ?_
          refine hK34 ⟨q33, A57, x56.length, c58, x56, x110⟩ _ _ ?_ (Nat.lt_succ_self _) (Sub.cons rfl (Sub.cons rfl (Sub.cons rfl (Sub.cons rfl (Sub.cons rfl (Sub.nil _)))))) (Sub.cons rfl (Sub.cons rfl (Sub.cons rfl (Sub.cons rfl (Sub.cons rfl (Sub.nil _))))))
          exact h
        ·
         skip
         refine WS.yld rfl (by decide) (Yld.loadC0 (xs := x01) scal_3 rfl (RdH.memM (k := 0) rfl hf01) hx50 rfl) ?_
         refine WD.take 10 rfl (by kernel_rfl) (by kernel_rfl) (by kernel_rfl) (by decide) (Yld.mulC rfl rfl hx51) ?_
         refine WD.two 1 14 (by kernel_rfl) ?_ ?_
         ·
          skip
          refine WS.yld rfl (by decide) (Yld.loadB (k := 117) scal_22 rfl rfl rfl) ?_
          refine WD.one 14 (by kernel_rfl) ?_
          refine WS.yld rfl (by decide) (Yld.loadC0 (xs := x01) scal_3 rfl (RdH.memM (k := 0) rfl hf01) hx52 rfl) ?_
          refine WD.take 15 rfl (by kernel_rfl) (by kernel_rfl) (by kernel_rfl) (by decide) (Yld.addC rfl rfl hx53) ?_
          refine WD.take 18 rfl (by kernel_rfl) (by kernel_rfl) (by kernel_rfl) (by decide) (Yld.mulC rfl rfl hx54) ?_
          refine WD.one 19 (by kernel_rfl) ?_
          refine WS.yld rfl (by decide) (Yld.sliceLHC (xs := x00_2) sty_22 rfl rfl rfl (RdH.memM (k := 0) rfl hf00_2) hx55) ?_
          refine WD.one 20 (by kernel_rfl) ?_
          refine WS.eff rfl (by decide) (Eff.appendC 127 (xs := x31) (ys := x55) sty_22 rfl rfl rfl (RdT.slc (RdH.memM (k := 0) rfl hf00_2) hx55) hx56) ?_
          rintro _ _ ⟨A57, c58, rfl, rfl⟩
          refine ⟨(Sub.cons rfl (Sub.cons rfl (Sub.nil _))), ?_⟩
          refine WD.take 21 rfl (by kernel_rfl) (by kernel_rfl) (by kernel_rfl) (by decide) (Yld.fieldAddr Try.underlying26 rfl nz_22 rfl rfl) ?_
          refine WD.one 22 (by kernel_rfl) ?_
          refine WS.eff0 rfl (Eff0.storeB 117 siz_22 rfl rfl rfl rfl (Nat.le_of_ble_eq_true rfl)) (Sub.cons rfl (Sub.cons rfl (Sub.nil _))) ?_
          refine WD.done (by kernel_rfl) (hK49 _ _ ?_)
          refine QK.blockN ?_
          refine QK.thenN (hK38 _ _ ?_)
          refine WC.region fun K111 hK111 => ?_
          obtain ⟨x112, hx112, h⟩ := bnd h
          refine WL.yld (by decide) (Yld.move rfl) ?_
          refine WL.yld (by decide) (Yld.addC rfl rfl hx112) ?_
          refine WL.yld (by decide) (Yld.assign rfl) ?_
          refine WL.done (hK111 _ _ ?_)
          refine QK.thenN ?_
          refine hK34 ⟨q33, A57, x56.length, c58, x56, x112⟩ _ _ ?_ (Nat.lt_succ_self _) (Sub.cons rfl (Sub.cons rfl (Sub.cons rfl (Sub.cons rfl (Sub.cons rfl (Sub.nil _)))))) (Sub.cons rfl (Sub.cons rfl (Sub.cons rfl (Sub.cons rfl (Sub.cons rfl (Sub.nil _))))))
          exact h
         ·
          skip
          refine WS.yld rfl (by decide) (Yld.loadC0 (xs := x01) scal_3 rfl (RdH.memM (k := 0) rfl hf01) hx52 rfl) ?_
          refine WD.take 15 rfl (by kernel_rfl) (by kernel_rfl) (by kernel_rfl) (by decide) (Yld.addC rfl rfl hx53) ?_
          refine WD.take 18 rfl (by kernel_rfl) (by kernel_rfl) (by kernel_rfl) (by decide) (Yld.mulC rfl rfl hx54) ?_
          refine WD.two 1 19 (by kernel_rfl) ?_ ?_
          ·
           skip
           refine WS.yld rfl (by decide) (Yld.loadB (k := 117) scal_22 rfl rfl rfl) ?_
           refine WD.one 19 (by kernel_rfl) ?_
           refine WS.yld rfl (by decide) (Yld.sliceLHC (xs := x00_2) sty_22 rfl rfl rfl (RdH.memM (k := 0) rfl hf00_2) hx55) ?_
           refine WD.one 20 (by kernel_rfl) ?_
           refine WS.eff rfl (by decide) (Eff.appendC 127 (xs := x31) (ys := x55) sty_22 rfl rfl rfl (RdT.slc (RdH.memM (k := 0) rfl hf00_2) hx55) hx56) ?_
           rintro _ _ ⟨A57, c58, rfl, rfl⟩
           refine ⟨(Sub.cons rfl (Sub.cons rfl (Sub.nil _))), ?_⟩
           refine WD.take 21 rfl (by kernel_rfl) (by kernel_rfl) (by kernel_rfl) (by decide) (Yld.fieldAddr Try.underlying26 rfl nz_22 rfl rfl) ?_
           refine WD.one 22 (by kernel_rfl) ?_
           refine WS.eff0 rfl (Eff0.storeB 117 siz_22 rfl rfl rfl rfl (Nat.le_of_ble_eq_true rfl)) (Sub.cons rfl (Sub.cons rfl (Sub.nil _))) ?_
           refine WD.done (by kernel_rfl) (hK49 _ _ ?_)
           refine QK.blockN ?_
           refine QK.thenN (hK38 _ _ ?_)
           refine WC.region fun K113 hK113 => ?_
           obtain ⟨x114, hx114, h⟩ := bnd h
           refine WL.yld (by decide) (Yld.move rfl) ?_
           refine WL.yld (by decide) (Yld.addC rfl rfl hx114) ?_
           refine WL.yld (by decide) (Yld.assign rfl) ?_
           refine WL.done (hK113 _ _ ?_)
           refine QK.thenN ?_
           refine hK34 ⟨q33, A57, x56.length, c58, x56, x114⟩ _ _ ?_ (Nat.lt_succ_self _) (Sub.cons rfl (Sub.cons rfl (Sub.cons rfl (Sub.cons rfl (Sub.cons rfl (Sub.nil _)))))) (Sub.cons rfl (Sub.cons rfl (Sub.cons rfl (Sub.cons rfl (Sub.cons rfl (Sub.nil _))))))
           exact h
          ·
           skip
           refine WS.yld rfl (by decide) (Yld.sliceLHC (xs := x00_2) sty_22 rfl rfl rfl (RdH.memM (k := 0) rfl hf00_2) hx55) ?_
           refine WD.one 1 (by kernel_rfl) ?_
           refine WS.yld rfl (by decide) (Yld.loadB (k := 117) scal_22 rfl rfl rfl) ?_
           refine WD.one 20 (by kernel_rfl) ?_
           refine WS.eff rfl (by decide) (Eff.appendC 127 (xs := x31) (ys := x55) sty_22 rfl rfl rfl (RdT.slc (RdH.memM (k := 0) rfl hf00_2) hx55) hx56) ?_
           rintro _ _ ⟨A57, c58, rfl, rfl⟩
           refine ⟨(Sub.cons rfl (Sub.cons rfl (Sub.nil _))), ?_⟩
           refine WD.take 21 rfl (by kernel_rfl) (by kernel_rfl) (by kernel_rfl) (by decide) (Yld.fieldAddr Try.underlying26 rfl nz_22 rfl rfl) ?_
           refine WD.one 22 (by kernel_rfl) ?_
           refine WS.eff0 rfl (Eff0.storeB 117 siz_22 rfl rfl rfl rfl (Nat.le_of_ble_eq_true rfl)) (Sub.cons rfl (Sub.cons rfl (Sub.nil _))) ?_
           refine WD.done (by kernel_rfl) (hK49 _ _ ?_)
           refine QK.blockN ?_
           refine QK.thenN (hK38 _ _ ?_)
           refine WC.region fun K115 hK115 => ?_
           obtain ⟨x116, hx116, h⟩ := bnd h
           refine WL.yld (by decide) (Yld.move rfl) ?_
           refine WL.yld (by decide) (Yld.addC rfl rfl hx116) ?_
           refine WL.yld (by decide) (Yld.assign rfl) ?_
           refine WL.done (hK115 _ _ ?_)
           refine QK.thenN ?_
           refine hK34 ⟨q33, A57, x56.length, c58, x56, x116⟩ _ _ ?_ (Nat.lt_succ_self _) (Sub.cons rfl (Sub.cons rfl (Sub.cons rfl (Sub.cons rfl (Sub.cons rfl (Sub.nil _)))))) (Sub.cons rfl (Sub.cons rfl (Sub.cons rfl (Sub.cons rfl (Sub.cons rfl (Sub.nil _))))))
           exact h
        ·
         skip
         refine WS.yld rfl (by decide) (Yld.loadC0 (xs := x01) scal_3 rfl (RdH.memM (k := 0) rfl hf01) hx52 rfl) ?_
         refine WD.take 15 rfl (by kernel_rfl) (by kernel_rfl) (by kernel_rfl) (by decide) (Yld.addC rfl rfl hx53) ?_
         refine WD.take 18 rfl (by kernel_rfl) (by kernel_rfl) (by kernel_rfl) (by decide) (Yld.mulC rfl rfl hx54) ?_
         refine WD.two 1 7 (by kernel_rfl) ?_ ?_
         ·
          skip
          refine WS.yld rfl (by decide) (Yld.loadB (k := 117) scal_22 rfl rfl rfl) ?_
          refine WD.one 7 (by kernel_rfl) ?_
          refine WS.yld rfl (by decide) (Yld.loadC0 (xs := x01) scal_3 rfl (RdH.memM (k := 0) rfl hf01) hx50 rfl) ?_
          refine WD.take 10 rfl (by kernel_rfl) (by kernel_rfl) (by kernel_rfl) (by decide) (Yld.mulC rfl rfl hx51) ?_
          refine WD.one 19 (by kernel_rfl) ?_
          refine WS.yld rfl (by decide) (Yld.sliceLHC (xs := x00_2) sty_22 rfl rfl rfl (RdH.memM (k := 0) rfl hf00_2) hx55) ?_
          refine WD.one 20 (by kernel_rfl) ?_
          refine WS.eff rfl (by decide) (Eff.appendC 127 (xs := x31) (ys := x55) sty_22 rfl rfl rfl (RdT.slc (RdH.memM (k := 0) rfl hf00_2) hx55) hx56) ?_
          rintro _ _ ⟨A57, c58, rfl, rfl⟩
          refine ⟨(Sub.cons rfl (Sub.cons rfl (Sub.nil _))), ?_⟩
          refine WD.take 21 rfl (by kernel_rfl) (by kernel_rfl) (by kernel_rfl) (by decide) (Yld.fieldAddr Try.underlying26 rfl nz_22 rfl rfl) ?_
          refine WD.one 22 (by kernel_rfl) ?_
          refine WS.eff0 rfl (Eff0.storeB 117 siz_22 rfl rfl rfl rfl (Nat.le_of_ble_eq_true rfl)) (Sub.cons rfl (Sub.cons rfl (Sub.nil _))) ?_
          refine WD.done (by kernel_rfl) (hK49 _ _ ?_)
          refine QK.blockN ?_
          refine QK.thenN (hK38 _ _ ?_)
          refine WC.region fun K117 hK117 => ?_
          obtain ⟨x118, hx118, h⟩ := bnd h
          refine WL.yld (by decide) (Yld.move rfl) ?_
          refine WL.yld (by decide) (Yld.addC rfl rfl hx118) ?_
          refine WL.yld (by decide) (Yld.assign rfl) ?_
          refine WL.done (hK117 _ _ ?_)
          refine QK.thenN ?_
          refine hK34 ⟨q33, A57, x56.length, c58, x56, x118⟩ _ _ ?_ (Nat.lt_succ_self _) (Sub.cons rfl (Sub.cons rfl (Sub.cons rfl (Sub.cons rfl (Sub.cons rfl (Sub.nil _)))))) (Sub.cons rfl (Sub.cons rfl (Sub.cons rfl (Sub.cons rfl (Sub.cons rfl (Sub.nil _))))))
          exact h
         ·
          skip
          refine WS.yld rfl (by decide) (Yld.loadC0 (xs := x01) scal_3 rfl (RdH.memM (k := 0) rfl hf01) hx50 rfl) ?_
          refine WD.take 10 rfl (by kernel_rfl) (by kernel_rfl) (by kernel_rfl) (by decide) (Yld.mulC rfl rfl hx51) ?_
          refine WD.two 1 19 (by kernel_rfl) ?_ ?_
          ·
           skip
           refine WS.yld rfl (by decide) (Yld.loadB (k := 117) scal_22 rfl rfl rfl) ?_
           refine WD.one 19 (by kernel_rfl) ?_
           refine WS.yld rfl (by decide) (Yld.sliceLHC (xs := x00_2) sty_22 rfl rfl rfl (RdH.memM (k := 0) rfl hf00_2) hx55) ?_
           refine WD.one 20 (by kernel_rfl) ?_
           refine WS.eff rfl (by decide) (Eff.appendC 127 (xs := x31) (ys := x55) sty_22 rfl rfl rfl (RdT.slc (RdH.memM (k := 0) rfl hf00_2) hx55) hx56) ?_
           rintro _ _ ⟨A57, c58, rfl, rfl⟩
           refine ⟨(Sub.cons rfl (Sub.cons rfl (Sub.nil _))), ?_⟩
           refine WD.take 21 rfl (by kernel_rfl) (by kernel_rfl) (by kernel_rfl) (by decide) (Yld.fieldAddr Try.underlying26 rfl nz_22 rfl rfl) ?_
           refine WD.one 22 (by kernel_rfl) ?_
           refine WS.eff0 rfl (Eff0.storeB 117 siz_22 rfl rfl rfl rfl (Nat.le_of_ble_eq_true rfl)) (Sub.cons rfl (Sub.cons rfl (Sub.nil _))) ?_
           refine WD.done (by kernel_rfl) (hK49 _ _ ?_)
           refine QK.blockN ?_
           refine QK.thenN (hK38 _ _ ?_)
           refine WC.region fun K119 hK119 => ?_
           obtain ⟨x120, hx120, h⟩ := bnd h
           refine WL.yld (by decide) (Yld.move rfl) ?_
           refine WL.yld (by decide) (Yld.addC rfl rfl hx120) ?_
           refine WL.yld (by decide) (Yld.assign rfl) ?_
           refine WL.done (hK119 _ _ ?_)
           refine QK.thenN ?_
           refine hK34 ⟨q33, A57, x56.length, c58, x56, x120⟩ _ _ ?_ (Nat.lt_succ_self _) (Sub.cons rfl (Sub.cons rfl (Sub.cons rfl (Sub.cons rfl (Sub.cons rfl (Sub.nil _)))))) (Sub.cons rfl (Sub.cons rfl (Sub.cons rfl (Sub.cons rfl (Sub.cons rfl (Sub.nil _))))))
           exact h
          ·
           skip
           refine WS.yld rfl (by decide) (Yld.sliceLHC (xs := x00_2) sty_22 rfl rfl rfl (RdH.memM (k := 0) rfl hf00_2) hx55) ?_
           refine WD.one 1 (by kernel_rfl) ?_
           refine WS.yld rfl (by decide) (Yld.loadB (k := 117) scal_22 rfl rfl rfl) ?_
           refine WD.one 20 (by kernel_rfl) ?_
           refine WS.eff rfl (by decide) (Eff.appendC 127 (xs := x31) (ys := x55) sty_22 rfl rfl rfl (RdT.slc (RdH.memM (k := 0) rfl hf00_2) hx55) hx56) ?_
           rintro _ _ ⟨A57, c58, rfl, rfl⟩
           refine ⟨(Sub.cons rfl (Sub.cons rfl (Sub.nil _))), ?_⟩
           refine WD.take 21 rfl (by kernel_rfl) (by kernel_rfl) (by kernel_rfl) (by decide) (Yld.fieldAddr Try.underlying26 rfl nz_22 rfl rfl) ?_
           refine WD.one 22 (by kernel_rfl) ?_
           refine WS.eff0 rfl (Eff0.storeB 117 siz_22 rfl rfl rfl rfl (Nat.le_of_ble_eq_true rfl)) (Sub.cons rfl (Sub.cons rfl (Sub.nil _))) ?_
           refine WD.done (by kernel_rfl) (hK49 _ _ ?_)
           refine QK.blockN ?_
           refine QK.thenN (hK38 _ _ ?_)
           refine WC.region fun K121 hK121 => ?_
           obtain ⟨x122, hx122, h⟩ := bnd h
           refine WL.yld (by decide) (Yld.move rfl) ?_
           refine WL.yld (by decide) (Yld.addC rfl rfl hx122) ?_
           refine WL.yld (by decide) (Yld.assign rfl) ?_
           refine WL.done (hK121 _ _ ?_)
           refine QK.thenN ?_
           refine hK34 ⟨q33, A57, x56.length, c58, x56, x122⟩ _ _ ?_ (Nat.lt_succ_self _) (Sub.cons rfl (Sub.cons rfl (Sub.cons rfl (Sub.cons rfl (Sub.cons rfl (Sub.nil _)))))) (Sub.cons rfl (Sub.cons rfl (Sub.cons rfl (Sub.cons rfl (Sub.cons rfl (Sub.nil _))))))
           exact h
       ·
        skip
        refine WS.yld rfl (by decide) (Yld.loadC0 (xs := x01) scal_3 rfl (RdH.memM (k := 0) rfl hf01) hx52 rfl) ?_
        refine WD.take 15 rfl (by kernel_rfl) (by kernel_rfl) (by kernel_rfl) (by decide) (Yld.addC rfl rfl hx53) ?_
        refine WD.take 18 rfl (by kernel_rfl) (by kernel_rfl) (by kernel_rfl) (by decide) (Yld.mulC rfl rfl hx54) ?_
        refine WD.two 1 6 (by kernel_rfl) ?_ ?_
        ·
         skip
         refine WS.yld rfl (by decide) (Yld.loadB (k := 117) scal_22 rfl rfl rfl) ?_
         refine WD.one 6 (by kernel_rfl) ?_
         refine WS.yld rfl (by decide) (Yld.idxC (xs := x01) sty_28 rfl rfl (RdH.memM (k := 0) rfl hf01) hx50) ?_
         refine WD.one 7 (by kernel_rfl) ?_
         refine WS.yld rfl (by decide) (Yld.loadC0 (xs := x01) scal_3 rfl (RdH.memM (k := 0) rfl hf01) hx50 rfl) ?_
         refine WD.take 10 rfl (by kernel_rfl) (by kernel_rfl) (by kernel_rfl) (by decide) (Yld.mulC rfl rfl hx51) ?_
         refine WD.one 19 (by kernel_rfl) ?_
         refine WS.yld rfl (by decide) (Yld.sliceLHC (xs := x00_2) sty_22 rfl rfl rfl (RdH.memM (k := 0) rfl hf00_2) hx55) ?_
         refine WD.one 20 (by kernel_rfl) ?_
         refine WS.eff rfl (by decide) (Eff.appendC 127 (xs := x31) (ys := x55) sty_22 rfl rfl rfl (RdT.slc (RdH.memM (k := 0) rfl hf00_2) hx55) hx56) ?_
         rintro _ _ ⟨A57, c58, rfl, rfl⟩
         refine ⟨(Sub.cons rfl (Sub.cons rfl (Sub.nil _))), ?_⟩
         refine WD.take 21 rfl (by kernel_rfl) (by kernel_rfl) (by kernel_rfl) (by decide) (Yld.fieldAddr Try.underlying26 rfl nz_22 rfl rfl) ?_
         refine WD.one 22 (by kernel_rfl) ?_
         refine WS.eff0 rfl (Eff0.storeB 117 siz_22 rfl rfl rfl rfl (Nat.le_of_ble_eq_true rfl)) (Sub.cons rfl (Sub.cons rfl (Sub.nil _))) ?_
         refine WD.done (by kernel_rfl) (hK49 _ _ ?_)
         refine QK.blockN ?_
         refine QK.thenN (hK38 _ _ ?_)
         refine WC.region fun K123 hK123 => ?_
         obtain ⟨x124, hx124, h⟩ := bnd h
         refine WL.yld (by decide) (Yld.move rfl) ?_
         refine WL.yld (by decide) (Yld.addC rfl rfl hx124) ?_
         refine WL.yld (by decide) (Yld.assign rfl) ?_
         refine WL.done (hK123 _ _ ?_)
         refine QK.thenN ?_
         refine hK34 ⟨q33, A57, x56.length, c58, x56, x124⟩ _ _ ?_ (Nat.lt_succ_self _) (Sub.cons rfl (Sub.cons rfl (Sub.cons rfl (Sub.cons rfl (Sub.cons rfl (Sub.nil _)))))) (Sub.cons rfl (Sub.cons rfl (Sub.cons rfl (Sub.cons rfl (Sub.cons rfl (Sub.nil _))))))
         exact h
        ·
         skip
         refine WS.yld rfl (by decide) (Yld.idxC (xs := x01) sty_28 rfl rfl (RdH.memM (k := 0) rfl hf01) hx50) ?_
         refine WD.two 1 7 (by kernel_rfl) ?_ ?_
         ·
          skip
          refine WS.yld rfl (by decide) (Yld.loadB (k := 117) scal_22 rfl rfl rfl) ?_
          refine WD.one 7 (by kernel_rfl) ?_
          refine WS.yld rfl (by decide) (Yld.loadC0 (xs := x01) scal_3 rfl (RdH.memM (k := 0) rfl hf01) hx50 rfl) ?_
          refine WD.take 10 rfl (by kernel_rfl) (by kernel_rfl) (by kernel_rfl) (by decide) (Yld.mulC rfl rfl hx51) ?_
          refine WD.one 19 (by kernel_rfl) ?_
          refine WS.yld rfl (by decide) (Yld.sliceLHC (xs := x00_2) sty_22 rfl rfl rfl (RdH.memM (k := 0) rfl hf00_2) hx55) ?_
          refine WD.one 20 (by kernel_rfl) ?_
          refine WS.eff rfl (by decide) (Eff.appendC 127 (xs := x31) (ys := x55) sty_22 rfl rfl rfl (RdT.slc (RdH.memM (k := 0) rfl hf00_2) hx55) hx56) ?_
          rintro _ _ ⟨A57, c58, rfl, rfl⟩
          refine ⟨(Sub.cons rfl (Sub.cons rfl (Sub.nil _))), ?_⟩
          refine WD.take 21 rfl (by kernel_rfl) (by kernel_rfl) (by kernel_rfl) (by decide) (Yld.fieldAddr Try.underlying26 rfl nz_22 rfl rfl) ?_
          refine WD.one 22 (by kernel_rfl) ?_
          refine WS.eff0 rfl (Eff0.storeB 117 siz_22 rfl rfl rfl rfl (Nat.le_of_ble_eq_true rfl)) (Sub.cons rfl (Sub.cons rfl (Sub.nil _))) ?_
          refine WD.done (by kernel_rfl) (hK49 _ _ ?_)
          refine QK.blockN ?_
          refine QK.thenN (hK38 _ _ ?_)
          refine WC.region fun K125 hK125 => ?_
          obtain ⟨x126, hx126, h⟩ := bnd h
          refine WL.yld (by decide) (Yld.move rfl) ?_
          refine WL.yld (by decide) (Yld.addC rfl rfl hx126) ?_
          refine WL.yld (by decide) (Yld.assign rfl) ?_
          refine WL.done (hK125 _ _ ?_)
          refine QK.thenN ?_
          refine hK34 ⟨q33, A57, x56.length, c58, x56, x126⟩ _ _ ?_ (Nat.lt_succ_self _) (Sub.cons rfl (Sub.cons rfl (Sub.cons rfl (Sub.cons rfl (Sub.cons rfl (Sub.nil _)))))) (Sub.cons rfl (Sub.cons rfl (Sub.cons rfl (Sub.cons rfl (Sub.cons rfl (Sub.nil _))))))
          exact h
         ·
          skip
          refine WS.yld rfl (by decide) (Yld.loadC0 (xs := x01) scal_3 rfl (RdH.memM (k := 0) rfl hf01) hx50 rfl) ?_
          refine WD.take 10 rfl (by kernel_rfl) (by kernel_rfl) (by kernel_rfl) (by decide) (Yld.mulC rfl rfl hx51) ?_
          refine WD.two 1 19 (by kernel_rfl) ?_ ?_
          ·
           skip
           refine WS.yld rfl (by decide) (Yld.loadB (k := 117) scal_22 rfl rfl rfl) ?_
           refine WD.one 19 (by kernel_rfl) ?_
           refine WS.yld rfl (by decide) (Yld.sliceLHC (xs := x00_2) sty_22 rfl rfl rfl (RdH.memM (k := 0) rfl hf00_2) hx55) ?_
           refine WD.one 20 (by kernel_rfl) ?_
           refine WS.eff rfl (by decide) (Eff.appendC 127 (xs := x31) (ys := x55) sty_22 rfl rfl rfl (RdT.slc (RdH.memM (k := 0) rfl hf00_2) hx55) hx56) ?_
           rintro _ _ ⟨A57, c58, rfl, rfl⟩
           refine ⟨(Sub.cons rfl (Sub.cons rfl (Sub.nil _))), ?_⟩
           refine WD.take 21 rfl (by kernel_rfl) (by kernel_rfl) (by kernel_rfl) (by decide) (Yld.fieldAddr Try.underlying26 rfl nz_22 rfl rfl) ?_
           refine WD.one 22 (by kernel_rfl) ?_
           refine WS.eff0 rfl (Eff0.storeB 117 siz_22 rfl rfl rfl rfl (Nat.le_of_ble_eq_true rfl)) (Sub.cons rfl (Sub.cons rfl (Sub.nil _))) ?_
           refine WD.done (by kernel_rfl) (hK49 _ _ ?_)
           refine QK.blockN ?_
           refine QK.thenN (hK38 _ _ ?_)
           refine WC.region fun K127 hK127 => ?_
           obtain ⟨x128, hx128, h⟩ := bnd h
           refine WL.yld (by decide) (Yld.move rfl) ?_
           refine WL.yld (by decide) (Yld.addC rfl rfl hx128) ?_
           refine WL.yld (by decide) (Yld.assign rfl) ?_
           refine WL.done (hK127 _ _ ?_)
           refine QK.thenN ?_
           refine hK34 ⟨q33, A57, x56.length, c58, x56, x128⟩ _ _ ?_ (Nat.lt_succ_self _) (Sub.cons rfl (Sub.cons rfl (Sub.cons rfl (Sub.cons rfl (Sub.cons rfl (Sub.nil _)))))) (Sub.cons rfl (Sub.cons rfl (Sub.cons rfl (Sub.cons rfl (Sub.cons rfl (Sub.nil _))))))
           exact h
          ·
           skip
           refine WS.yld rfl (by decide) (Yld.sliceLHC (xs := x00_2) sty_22 rfl rfl rfl (RdH.memM (k := 0) rfl hf00_2) hx55) ?_
           refine WD.one 1 (by kernel_rfl) ?_
           refine WS.yld rfl (by decide) (Yld.loadB (k := 117) scal_22 rfl rfl rfl) ?_
           refine WD.one 20 (by kernel_rfl) ?_
           refine WS.eff rfl (by decide) (Eff.appendC 127 (xs := x31) (ys := x55) sty_22 rfl rfl rfl (RdT.slc (RdH.memM (k := 0) rfl hf00_2) hx55) hx56) ?_
           rintro _ _ ⟨A57, c58, rfl, rfl⟩
           refine ⟨(Sub.cons rfl (Sub.cons rfl (Sub.nil _))), ?_⟩
           refine WD.take 21 rfl (by kernel_rfl) (by kernel_rfl) (by kernel_rfl) (by decide) (Yld.fieldAddr Try.underlying26 rfl nz_22 rfl rfl) ?_
           refine WD.one 22 (by kernel_rfl) ?_
           refine WS.eff0 rfl (Eff0.storeB 117 siz_22 rfl rfl rfl rfl (Nat.le_of_ble_eq_true rfl)) (Sub.cons rfl (Sub.cons rfl (Sub.nil _))) ?_
           refine WD.done (by kernel_rfl) (hK49 _ _ ?_)
           refine QK.blockN ?_
           refine QK.thenN (hK38 _ _ ?_)
           refine WC.region fun K129 hK129 => ?_
           obtain ⟨x130, hx130, h⟩ := bnd h
           refine WL.yld (by decide) (Yld.move rfl) ?_
           refine WL.yld (by decide) (Yld.addC rfl rfl hx130) ?_
           refine WL.yld (by decide) (Yld.assign rfl) ?_
           refine WL.done (hK129 _ _ ?_)
           refine QK.thenN ?_
           refine hK34 ⟨q33, A57, x56.length, c58, x56, x130⟩ _ _ ?_ (Nat.lt_succ_self _) (Sub.cons rfl (Sub.cons rfl (Sub.cons rfl (Sub.cons rfl (Sub.cons rfl (Sub.nil _)))))) (Sub.cons rfl (Sub.cons rfl (Sub.cons rfl (Sub.cons rfl (Sub.cons rfl (Sub.nil _))))))
           exact h
    ·
     replace h := of_f hc37 h
     refine WC.condFe rfl (decide_eq_false hc37) ?_
     refine WC.exit (QK.thenE (QK.thenE (QK.blockX ?_)))
     refine QK.thenN ?_
     refine KK.move 127 119 rfl rfl ?_
     refine hK24 ⟨A28, n29, c30, x31⟩ _ _ ?_ (Sub.cons rfl (Sub.cons rfl (Sub.nil _))) (Sub.cons rfl (Sub.cons rfl (Sub.cons rfl (Sub.cons rfl (Sub.nil _)))))
     exact h
  ·
   rintro ⟨A20, n21, c22, x23⟩ h
   unfold m_r03_Pick_j1 at h
   refine WC.seqRegion fun K131 hK131 => ?_
   refine WL.yld (by decide) (Yld.loadBM (k := 117) agg_26 rfl rfl rfl) ?_
   refine WL.eff0 (Eff0.storeBAM 103 agg_26 rfl rfl rfl ⟨rfl, rfl⟩ rfl) ?_
   refine WL.yld (by decide) (Yld.assign rfl) ?_
   refine WL.done (hK131 _ _ ?_)
   refine WC.ret ?_
   injection h with h; subst h
   exact Ret.fn [119] (ResIs.cellTmpM (k := 103) rfl agg_26 rfl rfl rfl rfl) rfl (Ext.refl _ _) rfl (by decide) rfl rfl ⟨A20, n21, c22, rfl, rfl⟩

set_option maxRecDepth 10000 in
theorem w_r03_add (A : Option Addr) (n c : Nat) (x0c : List (BitVec 8)) (x01 : Int) (x02 : Int) (x03 : Int) (x04 : BitVec 8) {res : List (BitVec 8)} (h : m_r03_add x0c x01 x02 x03 x04 = some res) :
  Mut Try.prog 59 #[.slice A n c, I64 x01, I64 x02, I64 x03, U8 x04] 5 (Lay.sz (BitVec 8)) A n c (cel x0c) fun r ds => r = .tuple #[] ∧ ds = cel res := by
 refine Mut.intro (N := 36) Try.func59 rfl rfl (Nat.le_of_ble_eq_true rfl) fun w0 e0 => ?_
 unfold m_r03_add at h
 refine WC.seqRegion fun K1 hK1 => ?_
 refine WL.yld (by decide) (Yld.assign rfl) ?_
 refine WL.done (hK1 _ _ ?_)
 refine WC.block ?_
 refine WC.loop (σ := Nat × (List (BitVec 8)) × Int × Int × (BitVec 8) × Int) (fun ⟨q7, x2, x3, x4, x5, x6⟩ => [(0, .slice A n c), (1, I64 x01), (2, I64 x3), (3, I64 x4), (4, U8 x5), (10, I64 x6)]) (fun ⟨q7, x2, x3, x4, x5, x6⟩ => [(1, e0), (2, .own 5 (Lay.sz (BitVec 8)) A n c (cel x2))]) (fun ⟨q7, x2, x3, x4, x5, x6⟩ => m_r03_add_l0 x01 q7 x2 x3 x4 x5 x6 = some res) (fun ⟨q7, x2, x3, x4, x5, x6⟩ => q7) ⟨forever, x0c, x02, x03, x04, (0 : Int)⟩ ?_ (Sub.cons rfl (Sub.cons rfl (Sub.cons rfl (Sub.cons rfl (Sub.cons rfl (Sub.cons rfl (Sub.nil _))))))) (Sub.cons rfl (Sub.cons rfl (Sub.nil _))) ?_
 ·
  exact h
 rintro ⟨q7, x2, x3, x4, x5, x6⟩ h K8 hK8
 cases q7 with
 | zero => exact absurd h (by simp [m_r03_add_l0])
 | succ q7 =>
  unfold m_r03_add_l0 at h
  refine WC.seq fun K9 hK9 => ?_
  refine WC.seqRegion fun K10 hK10 => ?_
  refine WL.yld (by decide) (Yld.move rfl) ?_
  refine WL.yld (by decide) (Yld.move rfl) ?_
  refine WL.yld (by decide) (Yld.lss rfl rfl) ?_
  refine WL.done (hK10 _ _ ?_)
  by_cases hc11 : x6 < x01
  ·
   replace h := of_t hc11 h
   refine WC.condTe rfl (decide_eq_true hc11) ?_
   refine WC.skip ?_
   refine QK.thenN (hK9 _ _ ?_)
   refine WC.seq fun K12 hK12 => ?_
   refine WC.block ?_
   refine WC.regionD (n := 21) [(1, _)] rfl mixed (Sub.cons rfl (Sub.nil _)) fun K13 hK13 => ?_
   obtain ⟨x14, hx14, h⟩ := bnd h
   obtain ⟨x15, hx15, h⟩ := bnd h
   obtain ⟨x16, hx16, h⟩ := bnd h
   obtain ⟨x17, hx17, h⟩ := bnd h
   obtain ⟨x18, hx18, h⟩ := bnd h
   obtain ⟨x19, hx19, h⟩ := bnd h
   obtain ⟨x20, hx20, h⟩ := bnd h
   obtain ⟨x22, hx22, h⟩ := bnd h
   obtain ⟨x23, hx23, h⟩ := bnd h
   refine WD.take 0 rfl (by kernel_rfl) (by kernel_rfl) (by kernel_rfl) (by decide) (Yld.move rfl) ?_
   refine WD.take 1 rfl (by kernel_rfl) (by kernel_rfl) (by kernel_rfl) (by decide) (Yld.move rfl) ?_
   refine WD.take 2 rfl (by kernel_rfl) (by kernel_rfl) (by kernel_rfl) (by decide) (Yld.move rfl) ?_
   refine WD.take 3 rfl (by kernel_rfl) (by kernel_rfl) (by kernel_rfl) (by decide) (Yld.mulC rfl rfl hx14) ?_
   refine WD.take 4 rfl (by kernel_rfl) (by kernel_rfl) (by kernel_rfl) (by decide) (Yld.move rfl) ?_
   refine WD.take 5 rfl (by kernel_rfl) (by kernel_rfl) (by kernel_rfl) (by decide) (Yld.addC rfl rfl hx15) ?_
   refine WD.take 8 rfl (by kernel_rfl) (by kernel_rfl) (by kernel_rfl) (by decide) (Yld.move rfl) ?_
   refine WD.take 9 rfl (by kernel_rfl) (by kernel_rfl) (by kernel_rfl) (by decide) (Yld.move rfl) ?_
   refine WD.take 10 rfl (by kernel_rfl) (by kernel_rfl) (by kernel_rfl) (by decide) (Yld.move rfl) ?_
   refine WD.take 11 rfl (by kernel_rfl) (by kernel_rfl) (by kernel_rfl) (by decide) (Yld.move rfl) ?_
   refine WD.take 12 rfl (by kernel_rfl) (by kernel_rfl) (by kernel_rfl) (by decide) (Yld.mulC rfl rfl hx17) ?_
   refine WD.take 13 rfl (by kernel_rfl) (by kernel_rfl) (by kernel_rfl) (by decide) (Yld.move rfl) ?_
   refine WD.take 14 rfl (by kernel_rfl) (by kernel_rfl) (by kernel_rfl) (by decide) (Yld.addC rfl rfl hx18) ?_
   refine WD.two 6 15 (by kernel_rfl) ?_ ?_
   ·
    skip
    refine WS.yld rfl (by decide) (Yld.idxC (xs := x2) sty_22 rfl rfl (RdH.own (k := 2) rfl) hx16) ?_
    refine WD.two 7 15 (by kernel_rfl) ?_ ?_
    ·
     skip
     refine WS.yld rfl (by decide) (Yld.loadC0 (xs := x2) scal_5 rfl (RdH.own (k := 2) rfl) hx16 rfl) ?_
     refine WD.one 15 (by kernel_rfl) ?_
     refine WS.yld rfl (by decide) (Yld.idxC (xs := x2) sty_22 rfl rfl (RdH.own (k := 2) rfl) hx19) ?_
     refine WD.one 16 (by kernel_rfl) ?_
     refine WS.yld rfl (by decide) (Yld.loadC0 (xs := x2) scal_5 rfl (RdH.own (k := 2) rfl) hx19 rfl) ?_
     refine WD.one 17 (by kernel_rfl) ?_
     refine WS.eff rfl (by decide) (Eff.callS 121 rfl Try.func56 nm_56 rfl rfl (fun w hb hh => w_r02_Mul (Mem.snap w) x5 x19 hx20)) ?_
     rintro _ _ ⟨_, ⟨rfl, rfl⟩, rfl⟩
     refine ⟨(Sub.cons rfl (Sub.nil _)), ?_⟩
     refine WD.take 18 rfl (by kernel_rfl) (by kernel_rfl) (by kernel_rfl) (by decide) (Yld.xor_u8 (a := x16) (b := x20) rfl rfl) ?_
     refine WD.one 19 (by kernel_rfl) ?_
     refine WS.yld rfl (by decide) (Yld.idxC (xs := x2) sty_22 rfl rfl (RdH.own (k := 2) rfl) hx22) ?_
     refine WD.one 20 (by kernel_rfl) ?_
     refine WS.eff0 rfl (Eff0.storeC1 2 (xs := x2) (a' := x16 ^^^ x20) siz_5 rfl rfl rfl rfl rfl rfl hx23) (Sub.cons rfl (Sub.nil _)) ?_
     refine WD.done (by kernel_rfl) (hK13 _ _ ?_)
     refine QK.blockN ?_
     refine QK.thenN (hK12 _ _ ?_)
     refine WC.region fun K24 hK24 => ?_
     obtain ⟨x25, hx25, h⟩ := bnd h
     refine WL.yld (by decide) (Yld.move rfl) ?_
     refine WL.yld (by decide) (Yld.addC rfl rfl hx25) ?_
     refine WL.yld (by decide) (Yld.assign rfl) ?_
     refine WL.done (hK24 _ _ ?_)
     refine QK.thenN ?_
     refine hK8 ⟨q7, x23, x3, x4, x5, x25⟩ _ _ ?_ (Nat.lt_succ_self _) (Sub.cons rfl (Sub.cons rfl (Sub.cons rfl (Sub.cons rfl (Sub.cons rfl (Sub.cons rfl (Sub.nil _))))))) (Sub.cons rfl (Sub.cons rfl (Sub.nil _)))
     exact h
    ·
     skip
     refine WS.yld rfl (by decide) (Yld.idxC (xs := x2) sty_22 rfl rfl (RdH.own (k := 2) rfl) hx19) ?_
     refine WD.two 7 16 (by kernel_rfl) ?_ ?_
     ·
      skip
      refine WS.yld rfl (by decide) (Yld.loadC0 (xs := x2) scal_5 rfl (RdH.own (k := 2) rfl) hx16 rfl) ?_
      refine WD.one 16 (by kernel_rfl) ?_
      refine WS.yld rfl (by decide) (Yld.loadC0 (xs := x2) scal_5 rfl (RdH.own (k := 2) rfl) hx19 rfl) ?_
      refine WD.one 17 (by kernel_rfl) ?_
      refine WS.eff rfl (by decide) (Eff.callS 121 rfl Try.func56 nm_56 rfl rfl (fun w hb hh => w_r02_Mul (Mem.snap w) x5 x19 hx20)) ?_
      rintro _ _ ⟨_, ⟨rfl, rfl⟩, rfl⟩
      refine ⟨(Sub.cons rfl (Sub.nil _)), ?_⟩
      refine WD.take 18 rfl (by kernel_rfl) (by kernel_rfl) (by kernel_rfl) (by decide) (Yld.xor_u8 (a := x16) (b := x20) rfl rfl) ?_
      refine WD.one 19 (by kernel_rfl) ?_
      refine WS.yld rfl (by decide) (Yld.idxC (xs := x2) sty_22 rfl rfl (RdH.own (k := 2) rfl) hx22) ?_
      refine WD.one 20 (by kernel_rfl) ?_
      refine WS.eff0 rfl (Eff0.storeC1 2 (xs := x2) (a' := x16 ^^^ x20) siz_5 rfl rfl rfl rfl rfl rfl hx23) (Sub.cons rfl (Sub.nil _)) ?_
      refine WD.done (by kernel_rfl) (hK13 _ _ ?_)
      refine QK.blockN ?_
      refine QK.thenN (hK12 _ _ ?_)
      refine WC.region fun K26 hK26 => ?_
      obtain ⟨x27, hx27, h⟩ := bnd h
      refine WL.yld (by decide) (Yld.move rfl) ?_
      refine WL.yld (by decide) (Yld.addC rfl rfl hx27) ?_
      refine WL.yld (by decide) (Yld.assign rfl) ?_
      refine WL.done (hK26 _ _ ?_)
      refine QK.thenN ?_
      refine hK8 ⟨q7, x23, x3, x4, x5, x27⟩ _ _ ?_ (Nat.lt_succ_self _) (Sub.cons rfl (Sub.cons rfl (Sub.cons rfl (Sub.cons rfl (Sub.cons rfl (Sub.cons rfl (Sub.nil _))))))) (Sub.cons rfl (Sub.cons rfl (Sub.nil _)))
      exact h
     ·
      skip
      refine WS.yld rfl (by decide) (Yld.loadC0 (xs := x2) scal_5 rfl (RdH.own (k := 2) rfl) hx19 rfl) ?_
      refine WD.two 7 17 (by kernel_rfl) ?_ ?_
      ·
       skip
       refine WS.yld rfl (by decide) (Yld.loadC0 (xs := x2) scal_5 rfl (RdH.own (k := 2) rfl) hx16 rfl) ?_
       refine WD.one 17 (by kernel_rfl) ?_
       refine WS.eff rfl (by decide) (Eff.callS 121 rfl Try.func56 nm_56 rfl rfl (fun w hb hh => w_r02_Mul (Mem.snap w) x5 x19 hx20)) ?_
       rintro _ _ ⟨_, ⟨rfl, rfl⟩, rfl⟩
       refine ⟨(Sub.cons rfl (Sub.nil _)), ?_⟩
       refine WD.take 18 rfl (by kernel_rfl) (by kernel_rfl) (by kernel_rfl) (by decide) (Yld.xor_u8 (a := x16) (b := x20) rfl rfl) ?_
       refine WD.one 19 (by kernel_rfl) ?_
       refine WS.yld rfl (by decide) (Yld.idxC (xs := x2) sty_22 rfl rfl (RdH.own (k := 2) rfl) hx22) ?_
       refine WD.one 20 (by kernel_rfl) ?_
       refine WS.eff0 rfl (Eff0.storeC1 2 (xs := x2) (a' := x16 ^^^ x20) siz_5 rfl rfl rfl rfl rfl rfl hx23) (Sub.cons rfl (Sub.nil _)) ?_
       refine WD.done (by kernel_rfl) (hK13 _ _ ?_)
       refine QK.blockN ?_
       refine QK.thenN (hK12 _ _ ?_)
       refine WC.region fun K28 hK28 => ?_
       obtain ⟨x29, hx29, h⟩ := bnd h
       refine WL.yld (by decide) (Yld.move rfl) ?_
       refine WL.yld (by decide) (Yld.addC rfl rfl hx29) ?_
       refine WL.yld (by decide) (Yld.assign rfl) ?_
       refine WL.done (hK28 _ _ ?_)
       refine QK.thenN ?_
       refine hK8 ⟨q7, x23, x3, x4, x5, x29⟩ _ _ ?_ (Nat.lt_succ_self _) (Sub.cons rfl (Sub.cons rfl (Sub.cons rfl (Sub.cons rfl (Sub.cons rfl (Sub.cons rfl (Sub.nil _))))))) (Sub.cons rfl (Sub.cons rfl (Sub.nil _)))
       exact h
      ·
       skip
       refine WS.eff rfl (by decide) (Eff.callS 121 rfl Try.func56 nm_56 rfl rfl (fun w hb hh => w_r02_Mul (Mem.snap w) x5 x19 hx20)) ?_
       rintro _ _ ⟨_, ⟨rfl, rfl⟩, rfl⟩
       refine ⟨(Sub.cons rfl (Sub.nil _)), ?_⟩
       refine WD.one 7 (by kernel_rfl) ?_
       refine WS.yld rfl (by decide) (Yld.loadC0 (xs := x2) scal_5 rfl (RdH.own (k := 2) rfl) hx16 rfl) ?_
       refine WD.take 18 rfl (by kernel_rfl) (by kernel_rfl) (by kernel_rfl) (by decide) (Yld.xor_u8 (a := x16) (b := x20) rfl rfl) ?_
       refine WD.one 19 (by kernel_rfl) ?_
       refine WS.yld rfl (by decide) (Yld.idxC (xs := x2) sty_22 rfl rfl (RdH.own (k := 2) rfl) hx22) ?_
       refine WD.one 20 (by kernel_rfl) ?_
       refine WS.eff0 rfl (Eff0.storeC1 2 (xs := x2) (a' := x16 ^^^ x20) siz_5 rfl rfl rfl rfl rfl rfl hx23) (Sub.cons rfl (Sub.nil _)) ?_
       refine WD.done (by kernel_rfl) (hK13 _ _ ?_)
       refine QK.blockN ?_
       refine QK.thenN (hK12 _ _ ?_)
       refine WC.region fun K30 hK30 => ?_
       obtain ⟨x31, hx31, h⟩ := bnd h
       refine WL.yld (by decide) (Yld.move rfl) ?_
       refine WL.yld (by decide) (Yld.addC rfl rfl hx31) ?_
       refine WL.yld (by decide) (Yld.assign rfl) ?_
       refine WL.done (hK30 _ _ ?_)
       refine QK.thenN ?_
       refine hK8 ⟨q7, x23, x3, x4, x5, x31⟩ _ _ ?_ (Nat.lt_succ_self _) (Sub.cons rfl (Sub.cons rfl (Sub.cons rfl (Sub.cons rfl (Sub.cons rfl (Sub.cons rfl (Sub.nil _))))))) (Sub.cons rfl (Sub.cons rfl (Sub.nil _)))
       exact h
   ·
    skip
    refine WS.yld rfl (by decide) (Yld.idxC (xs := x2) sty_22 rfl rfl (RdH.own (k := 2) rfl) hx19) ?_
    refine WD.two 6 16 (by kernel_rfl) ?_ ?_
    ·
     skip
     refine WS.yld rfl (by decide) (Yld.idxC (xs := x2) sty_22 rfl rfl (RdH.own (k := 2) rfl) hx16) ?_
     refine WD.two 7 16 (by kernel_rfl) ?_ ?_
     ·
      skip
      refine WS.yld rfl (by decide) (Yld.loadC0 (xs := x2) scal_5 rfl (RdH.own (k := 2) rfl) hx16 rfl) ?_
      refine WD.one 16 (by kernel_rfl) ?_
      refine WS.yld rfl (by decide) (Yld.loadC0 (xs := x2) scal_5 rfl (RdH.own (k := 2) rfl) hx19 rfl) ?_
      refine WD.one 17 (by kernel_rfl) ?_
      refine WS.eff rfl (by decide) (Eff.callS 121 rfl Try.func56 nm_56 rfl rfl (fun w hb hh => w_r02_Mul (Mem.snap w) x5 x19 hx20)) ?_
      rintro _ _ ⟨_, ⟨rfl, rfl⟩, rfl⟩
      refine ⟨(Sub.cons rfl (Sub.nil _)), ?_⟩
      refine WD.take 18 rfl (by kernel_rfl) (by kernel_rfl) (by kernel_rfl) (by decide) (Yld.xor_u8 (a := x16) (b := x20) rfl rfl) ?_
      refine WD.one 19 (by kernel_rfl) ?_
      refine WS.yld rfl (by decide) (Yld.idxC (xs := x2) sty_22 rfl rfl (RdH.own (k := 2) rfl) hx22) ?_
      refine WD.one 20 (by kernel_rfl) ?_
      refine WS.eff0 rfl (Eff0.storeC1 2 (xs := x2) (a' := x16 ^^^ x20) siz_5 rfl rfl rfl rfl rfl rfl hx23) (Sub.cons rfl (Sub.nil _)) ?_
      refine WD.done (by kernel_rfl) (hK13 _ _ ?_)
      refine QK.blockN ?_
      refine QK.thenN (hK12 _ _ ?_)
      refine WC.region fun K32 hK32 => ?_
      obtain ⟨x33, hx33, h⟩ := bnd h
      refine WL.yld (by decide) (Yld.move rfl) ?_
      refine WL.yld (by decide) (Yld.addC rfl rfl hx33) ?_
      refine WL.yld (by decide) (Yld.assign rfl) ?_
      refine WL.done (hK32 _ _ ?_)
      refine QK.thenN ?_
      refine hK8 ⟨q7, x23, x3, x4, x5, x33⟩ _ _ ?_ (Nat.lt_succ_self _) (Sub.cons rfl (Sub.cons rfl (Sub.cons rfl (Sub.cons rfl (Sub.cons rfl (Sub.cons rfl (Sub.nil _))))))) (Sub.cons rfl (Sub.cons rfl (Sub.nil _)))
      exact h
     ·
      skip
      refine WS.yld rfl (by decide) (Yld.loadC0 (xs := x2) scal_5 rfl (RdH.own (k := 2) rfl) hx19 rfl) ?_
      refine WD.two 7 17 (by kernel_rfl) ?_ ?_
      ·
       skip
       refine WS.yld rfl (by decide) (Yld.loadC0 (xs := x2) scal_5 rfl (RdH.own (k := 2) rfl) hx16 rfl) ?_
       refine WD.one 17 (by kernel_rfl) ?_
       refine WS.eff rfl (by decide) (Eff.callS 121 rfl Try.func56 nm_56 rfl rfl (fun w hb hh => w_r02_Mul (Mem.snap w) x5 x19 hx20)) ?_
       rintro _ _ ⟨_, ⟨rfl, rfl⟩, rfl⟩
       refine ⟨(Sub.cons rfl (Sub.nil _)), ?_⟩
       refine WD.take 18 rfl (by kernel_rfl) (by kernel_rfl) (by kernel_rfl) (by decide) (Yld.xor_u8 (a := x16) (b := x20) rfl rfl) ?_
       refine WD.one 19 (by kernel_rfl) ?_
       refine WS.yld rfl (by decide) (Yld.idxC (xs := x2) sty_22 rfl rfl (RdH.own (k := 2) rfl) hx22) ?_
       refine WD.one 20 (by kernel_rfl) ?_
       refine WS.eff0 rfl (Eff0.storeC1 2 (xs := x2) (a' := x16 ^^^ x20) siz_5 rfl rfl rfl rfl rfl rfl hx23) (Sub.cons rfl (Sub.nil _)) ?_
       refine WD.done (by kernel_rfl) (hK13 _ _ ?_)
       refine QK.blockN ?_
       refine QK.thenN (hK12 _ _ ?_)
       refine WC.region fun K34 hK34 => ?_
       obtain ⟨x35, hx35, h⟩ := bnd h
       refine WL.yld (by decide) (Yld.move rfl) ?_
       refine WL.yld (by decide) (Yld.addC rfl rfl hx35) ?_
       refine WL.yld (by decide) (Yld.assign rfl) ?_
       refine WL.done (hK34 _ _ ?_)
       refine QK.thenN ?_
       refine hK8 ⟨q7, x23, x3, x4, x5, x35⟩ _ _ ?_ (Nat.lt_succ_self _) (Sub.cons rfl (Sub.cons rfl (Sub.cons rfl (Sub.cons rfl (Sub.cons rfl (Sub.cons rfl (Sub.nil _))))))) (Sub.cons rfl (Sub.cons rfl (Sub.nil _)))
       exact h
      ·
       skip
       refine WS.eff rfl (by decide) (Eff.callS 121 rfl Try.func56 nm_56 rfl rfl (fun w hb hh => w_r02_Mul (Mem.snap w) x5 x19 hx20)) ?_
       rintro _ _ ⟨_, ⟨rfl, rfl⟩, rfl⟩
       refine ⟨(Sub.cons rfl (Sub.nil _)), ?_⟩
       refine WD.one 7 (by kernel_rfl) ?_
       refine WS.yld rfl (by decide) (Yld.loadC0 (xs := x2) scal_5 rfl (RdH.own (k := 2) rfl) hx16 rfl) ?_
       refine WD.take 18 rfl (by kernel_rfl) (by kernel_rfl) (by kernel_rfl) (by decide) (Yld.xor_u8 (a := x16) (b := x20) rfl rfl) ?_
       refine WD.one 19 (by kernel_rfl) ?_
       refine WS.yld rfl (by decide) (Yld.idxC (xs := x2) sty_22 rfl rfl (RdH.own (k := 2) rfl) hx22) ?_
       refine WD.one 20 (by kernel_rfl) ?_
       refine WS.eff0 rfl (Eff0.storeC1 2 (xs := x2) (a' := x16 ^^^ x20) siz_5 rfl rfl rfl rfl rfl rfl hx23) (Sub.cons rfl (Sub.nil _)) ?_
       refine WD.done (by kernel_rfl) (hK13 _ _ ?_)
       refine QK.blockN ?_
       refine QK.thenN (hK12 _ _ ?_)
       refine WC.region fun K36 hK36 => ?_
       obtain ⟨x37, hx37, h⟩ := bnd h
       refine WL.yld (by decide) (Yld.move rfl) ?_
       refine WL.yld (by decide) (Yld.addC rfl rfl hx37) ?_
       refine WL.yld (by decide) (Yld.assign rfl) ?_
       refine WL.done (hK36 _ _ ?_)
       refine QK.thenN ?_
       refine hK8 ⟨q7, x23, x3, x4, x5, x37⟩ _ _ ?_ (Nat.lt_succ_self _) (Sub.cons rfl (Sub.cons rfl (Sub.cons rfl (Sub.cons rfl (Sub.cons rfl (Sub.cons rfl (Sub.nil _))))))) (Sub.cons rfl (Sub.cons rfl (Sub.nil _)))
       exact h
    ·
     skip
     refine WS.yld rfl (by decide) (Yld.loadC0 (xs := x2) scal_5 rfl (RdH.own (k := 2) rfl) hx19 rfl) ?_
     refine WD.two 6 17 (by kernel_rfl) ?_ ?_
     ·
      skip
      refine WS.yld rfl (by decide) (Yld.idxC (xs := x2) sty_22 rfl rfl (RdH.own (k := 2) rfl) hx16) ?_
      refine WD.two 7 17 (by kernel_rfl) ?_ ?_
      ·
       skip
       refine WS.yld rfl (by decide) (Yld.loadC0 (xs := x2) scal_5 rfl (RdH.own (k := 2) rfl) hx16 rfl) ?_
       refine WD.one 17 (by kernel_rfl) ?_
       refine WS.eff rfl (by decide) (Eff.callS 121 rfl Try.func56 nm_56 rfl rfl (fun w hb hh => w_r02_Mul (Mem.snap w) x5 x19 hx20)) ?_
       rintro _ _ ⟨_, ⟨rfl, rfl⟩, rfl⟩
       refine ⟨(Sub.cons rfl (Sub.nil _)), ?_⟩
       refine WD.take 18 rfl (by kernel_rfl) (by kernel_rfl) (by kernel_rfl) (by decide) (Yld.xor_u8 (a := x16) (b := x20) rfl rfl) ?_
       refine WD.one 19 (by kernel_rfl) ?_
       refine WS.yld rfl (by decide) (Yld.idxC (xs := x2) sty_22 rfl rfl (RdH.own (k := 2) rfl) hx22) ?_
       refine WD.one 20 (by kernel_rfl) ?_
       refine WS.eff0 rfl (Eff0.storeC1 2 (xs := x2) (a' := x16 ^^^ x20) siz_5 rfl rfl rfl rfl rfl rfl hx23) (Sub.cons rfl (Sub.nil _)) ?_
       refine WD.done (by kernel_rfl) (hK13 _ _ ?_)
       refine QK.blockN ?_
       refine QK.thenN (hK12 _ _ ?_)
       refine WC.region fun K38 hK38 => ?_
       obtain ⟨x39, hx39, h⟩ := bnd h
       refine WL.yld (by decide) (Yld.move rfl) ?_
       refine WL.yld (by decide) (Yld.addC rfl rfl hx39) ?_
       refine WL.yld (by decide) (Yld.assign rfl) ?_
       refine WL.done (hK38 _ _ ?_)
       refine QK.thenN ?_
       refine hK8 ⟨q7, x23, x3, x4, x5, x39⟩ _ _ ?_ (Nat.lt_succ_self _) (Sub.cons rfl (Sub.cons rfl (Sub.cons rfl (Sub.cons rfl (Sub.cons rfl (Sub.cons rfl (Sub.nil _))))))) (Sub.cons rfl (Sub.cons rfl (Sub.nil _)))
       exact h
      ·
       skip
       refine WS.eff rfl (by decide) (Eff.callS 121 rfl Try.func56 nm_56 rfl rfl (fun w hb hh => w_r02_Mul (Mem.snap w) x5 x19 hx20)) ?_
       rintro _ _ ⟨_, ⟨rfl, rfl⟩, rfl⟩
       refine ⟨(Sub.cons rfl (Sub.nil _)), ?_⟩
       refine WD.one 7 (by kernel_rfl) ?_
       refine WS.yld rfl (by decide) (Yld.loadC0 (xs := x2) scal_5 rfl (RdH.own (k := 2) rfl) hx16 rfl) ?_
       refine WD.take 18 rfl (by kernel_rfl) (by kernel_rfl) (by kernel_rfl) (by decide) (Yld.xor_u8 (a := x16) (b := x20) rfl rfl) ?_
       refine WD.one 19 (by kernel_rfl) ?_
       refine WS.yld rfl (by decide) (Yld.idxC (xs := x2) sty_22 rfl rfl (RdH.own (k := 2) rfl) hx22) ?_
       refine WD.one 20 (by kernel_rfl) ?_
       refine WS.eff0 rfl (Eff0.storeC1 2 (xs := x2) (a' := x16 ^^^ x20) siz_5 rfl rfl rfl rfl rfl rfl hx23) (Sub.cons rfl (Sub.nil _)) ?_
       refine WD.done (by kernel_rfl) (hK13 _ _ ?_)
       refine QK.blockN ?_
       refine QK.thenN (hK12 _ _ ?_)
       refine WC.region fun K40 hK40 => ?_
       obtain ⟨x41, hx41, h⟩ := bnd h
       refine WL.yld (by decide) (Yld.move rfl) ?_
       refine WL.yld (by decide) (Yld.addC rfl rfl hx41) ?_
       refine WL.yld (by decide) (Yld.assign rfl) ?_
       refine WL.done (hK40 _ _ ?_)
       refine QK.thenN ?_
       refine hK8 ⟨q7, x23, x3, x4, x5, x41⟩ _ _ ?_ (Nat.lt_succ_self _) (Sub.cons rfl (Sub.cons rfl (Sub.cons rfl (Sub.cons rfl (Sub.cons rfl (Sub.cons rfl (Sub.nil _))))))) (Sub.cons rfl (Sub.cons rfl (Sub.nil _)))
       exact h
     ·
      skip
      refine WS.eff rfl (by decide) (Eff.callS 121 rfl Try.func56 nm_56 rfl rfl (fun w hb hh => w_r02_Mul (Mem.snap w) x5 x19 hx20)) ?_
      rintro _ _ ⟨_, ⟨rfl, rfl⟩, rfl⟩
      refine ⟨(Sub.cons rfl (Sub.nil _)), ?_⟩
      refine WD.one 6 (by kernel_rfl) ?_
      refine WS.yld rfl (by decide) (Yld.idxC (xs := x2) sty_22 rfl rfl (RdH.own (k := 2) rfl) hx16) ?_
      refine WD.one 7 (by kernel_rfl) ?_
      refine WS.yld rfl (by decide) (Yld.loadC0 (xs := x2) scal_5 rfl (RdH.own (k := 2) rfl) hx16 rfl) ?_
      refine WD.take 18 rfl (by kernel_rfl) (by kernel_rfl) (by kernel_rfl) (by decide) (Yld.xor_u8 (a := x16) (b := x20) rfl rfl) ?_
      refine WD.one 19 (by kernel_rfl) ?_
      refine WS.yld rfl (by decide) (Yld.idxC (xs := x2) sty_22 rfl rfl (RdH.own (k := 2) rfl) hx22) ?_
      refine WD.one 20 (by kernel_rfl) ?_
      refine WS.eff0 rfl (Eff0.storeC1 2 (xs := x2) (a' := x16 ^^^ x20) siz_5 rfl rfl rfl rfl rfl rfl hx23) (Sub.cons rfl (Sub.nil _)) ?_
      refine WD.done (by kernel_rfl) (hK13 _ _ ?_)
      refine QK.blockN ?_
      refine QK.thenN (hK12 _ _ ?_)
      refine WC.region fun K42 hK42 => ?_
      obtain ⟨x43, hx43, h⟩ := bnd h
      refine WL.yld (by decide) (Yld.move rfl) ?_
      refine WL.yld (by decide) (Yld.addC rfl rfl hx43) ?_
      refine WL.yld (by decide) (Yld.assign rfl) ?_
      refine WL.done (hK42 _ _ ?_)
      refine QK.thenN ?_
      refine hK8 ⟨q7, x23, x3, x4, x5, x43⟩ _ _ ?_ (Nat.lt_succ_self _) (Sub.cons rfl (Sub.cons rfl (Sub.cons rfl (Sub.cons rfl (Sub.cons rfl (Sub.cons rfl (Sub.nil _))))))) (Sub.cons rfl (Sub.cons rfl (Sub.nil _)))
      exact h
  ·
   replace h := of_f hc11 h
   refine WC.condFe rfl (decide_eq_false hc11) ?_
   refine WC.exit (QK.thenE (QK.thenE (QK.blockX ?_)))
   injection h with h; subst h
   exact Ret.mut (ResIs.zero rfl) (Sub.cons rfl (Sub.cons rfl (Sub.nil _))) ⟨rfl, rfl⟩

set_option maxRecDepth 10000 in
theorem w_r03_Invert (M0 : Mem) (x00_0 : Int) (x00_1 : Int) (A00_2 : Option Addr) (n00_2 c00_2 : Nat) (x00_2 : List (BitVec 8)) (hf00_2 : SlT M0 A00_2 n00_2 c00_2 x00_2) {res : Int × Int × (List (BitVec 8)) × Int} (h : m_r03_Invert x00_0 x00_1 x00_2 = some res) :
  Fn Try.prog 32 #[.agg ([I64 x00_0, I64 x00_1, .slice A00_2 n00_2 c00_2] : List Value).toArray] M0 fun r M' es => ∃ (A1 : Option Addr) (n1 c1 : Nat), r = .tuple #[.agg ([I64 res.1, I64 res.2.1, .slice A1 n1 c1] : List Value).toArray, I64 res.2.2.2] ∧ es = [.own 5 (Lay.sz (BitVec 8)) A1 n1 c1 (cel res.2.2.1)] := by
 refine Fn.intro (N := 144) Try.func32 rfl rfl (Nat.le_of_ble_eq_true rfl) fun w0 => ?_
 unfold m_r03_Invert at h
 refine WC.seqRegion fun K1 hK1 => ?_
 refine WL.eff (by decide) (Eff.box 102 (us := [I64 x00_0, I64 x00_1, .slice A00_2 n00_2 c00_2]) rfl rfl rfl) ?_
 rintro _ _ ⟨g2, rfl, rfl⟩
 refine WL.eff (by decide) (Eff.alloc 103 rfl zr_26) ?_
 rintro _ _ ⟨g3, rfl, rfl⟩
 refine WL.yld (by decide) (Yld.assign rfl) ?_
 refine WL.done (hK1 _ _ ?_)
 refine WC.seqCut (σ := Unit) (fun _ => [(1, .pointer (some ⟨g2, 0, none⟩)), (2, .pointer (some ⟨g3, 0, none⟩))]) (fun _ => [(0, .mem M0), (102, .blk g2 26 [I64 x00_0, I64 x00_1, .slice A00_2 n00_2 c00_2]), (103, .blk g3 26 [I64 (0 : Int), I64 (0 : Int), .slice none 0 0])]) (fun _ => m_r03_Invert_j0 x00_0 x00_2 = some res) (fun K4 hK4 => ?_) ?_
 ·
  skip
  refine WC.seqRegion fun K5 hK5 => ?_
  obtain ⟨x6, hx6, h⟩ := bnd h
  by_cases hc8 : x6 = true
  ·
   replace h := of_t hc8 h
   refine WL.yld (by decide) (Yld.loadBM (k := 102) agg_26 rfl rfl rfl) ?_
   refine WL.eff (by decide) (Eff.callS 107 rfl Try.func57 nm_57 rfl rfl (fun w hb hh => w_r03_Valid (Mem.snap w) x00_0 x00_1 A00_2 n00_2 c00_2 _ (RdH.sn (RdH.memM (k := 0) rfl hf00_2) w hb hh) hx6)) ?_
   rintro _ _ ⟨_, ⟨rfl, rfl⟩, rfl⟩
   refine WL.yld (by decide) (Yld.notB rfl) ?_
   refine WL.yld (by decide) (Yld.move rfl) ?_
   refine WL.new (v' := .bool false) (congrArg Value.bool (not_f hc8)) ?_
   refine WL.yldG (by decide) rfl (Yld.fieldAddr Try.underlying26 rfl nz_3 rfl rfl) ?_
   refine WL.yldG (by decide) rfl (Yld.loadB (k := 102) scal_3 rfl rfl rfl) ?_
   refine WL.yldG (by decide) rfl (Yld.fieldAddr Try.underlying26 rfl nz_3 rfl rfl) ?_
   refine WL.yldG (by decide) rfl (Yld.loadB (k := 102) scal_3 rfl rfl rfl) ?_
   refine WL.yldG (by decide) rfl (Yld.neqI rfl rfl) ?_
   refine WL.yld (by decide) (Yld.pickF rfl rfl) ?_
   refine WL.done (hK5 _ _ ?_)
   by_cases hc9 : x00_0 = x00_1
   ·
    replace h := of_t hc9 h
    refine WC.condFe rfl (bne_eq_false_iff_eq.2 hc9) ?_
    refine WC.skip ?_
    refine QK.thenN ?_
    refine hK4 () _ _ ?_ (Sub.cons rfl (Sub.cons rfl (Sub.nil _))) (Sub.cons rfl (Sub.cons rfl (Sub.cons rfl (Sub.nil _))))
    exact h
   ·
    replace h := of_f hc9 h
    refine WC.condTe rfl (bne_iff_ne.2 hc9) ?_
    refine WC.seqRegion fun K10 hK10 => ?_
    refine WL.yld (by decide) (Yld.build rfl (bu_26_)) ?_
    refine WL.eff0 (Eff0.storeBAM 103 agg_26 rfl rfl rfl ⟨rfl, rfl⟩ rfl) ?_
    refine WL.yld (by decide) (Yld.assign rfl) ?_
    refine WL.done (hK10 _ _ ?_)
    refine WC.ret (QK.thenR ?_)
    refine QK.nilOwn 111 5 (Lay.sz (BitVec 8)) none ?_
    injection h with h; subst h
    exact Ret.fn [111] (ResIs.cellTmpM (k := 103) rfl agg_26 rfl rfl rfl rfl) rfl (Ext.refl _ _) rfl (by decide) rfl rfl ⟨none, 0, 0, rfl, rfl⟩
  ·
   replace h := of_f hc8 h
   refine WL.yld (by decide) (Yld.loadBM (k := 102) agg_26 rfl rfl rfl) ?_
   refine WL.eff (by decide) (Eff.callS 107 rfl Try.func57 nm_57 rfl rfl (fun w hb hh => w_r03_Valid (Mem.snap w) x00_0 x00_1 A00_2 n00_2 c00_2 _ (RdH.sn (RdH.memM (k := 0) rfl hf00_2) w hb hh) hx6)) ?_
   rintro _ _ ⟨_, ⟨rfl, rfl⟩, rfl⟩
   refine WL.yld (by decide) (Yld.notB rfl) ?_
   refine WL.yld (by decide) (Yld.move rfl) ?_
   refine WL.new (v' := .bool true) (congrArg Value.bool (not_t (Bool.eq_false_iff.2 hc8))) ?_
   refine WL.skip (by decide) rfl rfl ?_
   refine WL.skip (by decide) rfl rfl ?_
   refine WL.skip (by decide) rfl rfl ?_
   refine WL.skip (by decide) rfl rfl ?_
   refine WL.skip (by decide) rfl rfl ?_
   refine WL.yld (by decide) (Yld.pickT rfl rfl) ?_
   refine WL.done (hK5 _ _ ?_)
   refine WC.condT rfl ?_
   refine WC.seqRegion fun K12 hK12 => ?_
   refine WL.yld (by decide) (Yld.build rfl (bu_26_)) ?_
   refine WL.eff0 (Eff0.storeBAM 103 agg_26 rfl rfl rfl ⟨rfl, rfl⟩ rfl) ?_
   refine WL.yld (by decide) (Yld.assign rfl) ?_
   refine WL.done (hK12 _ _ ?_)
   refine WC.ret (QK.thenR ?_)
   refine QK.nilOwn 113 5 (Lay.sz (BitVec 8)) none ?_
   injection h with h; subst h
   exact Ret.fn [113] (ResIs.cellTmpM (k := 103) rfl agg_26 rfl rfl rfl rfl) rfl (Ext.refl _ _) rfl (by decide) rfl rfl ⟨none, 0, 0, rfl, rfl⟩
 ·
  rintro _ h
  unfold m_r03_Invert_j0 at h
  refine WC.seqRegion fun K14 hK14 => ?_
  refine WL.yld (by decide) (Yld.fieldAddr Try.underlying26 rfl nz_3 rfl rfl) ?_
  refine WL.yld (by decide) (Yld.loadB (k := 102) scal_3 rfl rfl rfl) ?_
  refine WL.yld (by decide) (Yld.assign rfl) ?_
  refine WL.done (hK14 _ _ ?_)
  refine WC.seqRegion fun K15 hK15 => ?_
  obtain ⟨x17, hx17, h⟩ := bnd h
  refine WL.eff (by decide) (Eff.buildC 116 ([] : List (BitVec 8)) sty_22 rfl rfl rfl rfl rfl (by decide)) ?_
  rintro _ _ ⟨g16, rfl, rfl⟩
  refine WL.yld (by decide) (Yld.fieldAddr Try.underlying26 rfl nz_22 rfl rfl) ?_
  refine WL.yld (by decide) (Yld.loadB (k := 102) scal_22 rfl rfl rfl) ?_
  refine WL.eff (by decide) (Eff.appendC 116 (xs := ([] : List (BitVec 8))) (ys := x00_2) sty_22 rfl rfl rfl (RdH.memM (k := 0) rfl hf00_2) hx17) ?_
  rintro _ _ ⟨A18, c19, rfl, rfl⟩
  refine WL.yld (by decide) (Yld.assign rfl) ?_
  refine WL.done (hK15 _ _ ?_)
  refine WC.seqRegion fun K20 hK20 => ?_
  obtain ⟨x21, hx21, h⟩ := bnd h
  refine WL.yld (by decide) (Yld.move rfl) ?_
  refine WL.eff (by decide) (Eff.callS 125 rfl Try.func58 nm_58 rfl rfl (fun w hb hh => w_r03_Identity (Mem.snap w) x00_0 hx21)) ?_
  rintro _ _ ⟨_, ⟨A26, n27, c28, rfl, rfl⟩, rfl⟩
  refine WL.yld (by decide) (Yld.move rfl) ?_
  refine WL.yld (by decide) (Yld.extract rfl rfl) ?_
  refine WL.yld (by decide) (Yld.extract rfl rfl) ?_
  refine WL.eff (by decide) (Eff.alloc 129 rfl zr_26) ?_
  rintro _ _ ⟨g29, rfl, rfl⟩
  refine WL.eff0 (Eff0.storeBAM 129 agg_26 rfl rfl rfl ⟨rfl, rfl⟩ rfl) ?_
  refine WL.yld (by decide) (Yld.assign rfl) ?_
  refine WL.done (hK20 _ _ ?_)
  refine WC.seqCut (σ := (List (BitVec 8))) (fun x30 => [(2, .pointer (some ⟨g3, 0, none⟩)), (6, .pointer (some ⟨g29, 0, none⟩))]) (fun x30 => [(0, .mem M0), (103, .blk g3 26 [I64 (0 : Int), I64 (0 : Int), .slice none 0 0]), (125, .own 5 (Lay.sz (BitVec 8)) A26 n27 c28 (cel x30)), (129, .blk g29 26 [I64 x21.1, I64 x21.2.1, .slice A26 n27 c28])]) (fun x30 => m_r03_Invert_j1 x21 x30 = some res) (fun K31 hK31 => ?_) ?_
  ·
   skip
   refine WC.seqRegion fun K32 hK32 => ?_
   refine WL.yld (by decide) (Yld.assign rfl) ?_
   refine WL.done (hK32 _ _ ?_)
   refine WC.block ?_
   refine WC.loop (σ := Nat × (List (BitVec 8)) × (List (BitVec 8)) × Int) (fun ⟨q36, x33, x34, x35⟩ => [(2, .pointer (some ⟨g3, 0, none⟩)), (4, I64 x00_0), (5, .slice A18 x17.length c19), (6, .pointer (some ⟨g29, 0, none⟩)), (8, I64 x35)]) (fun ⟨q36, x33, x34, x35⟩ => [(0, .mem M0), (103, .blk g3 26 [I64 (0 : Int), I64 (0 : Int), .slice none 0 0]), (116, .own 5 (Lay.sz (BitVec 8)) A18 x17.length c19 (cel x33)), (125, .own 5 (Lay.sz (BitVec 8)) A26 n27 c28 (cel x34)), (129, .blk g29 26 [I64 x21.1, I64 x21.2.1, .slice A26 n27 c28])]) (fun ⟨q36, x33, x34, x35⟩ => m_r03_Invert_l2 x00_0 x21 q36 x33 x34 x35 = some res) (fun ⟨q36, x33, x34, x35⟩ => q36) ⟨forever, x17, x21.2.2.1, (0 : Int)⟩ ?_ (Sub.cons rfl (Sub.cons rfl (Sub.cons rfl (Sub.cons rfl (Sub.cons rfl (Sub.nil _)))))) (Sub.cons rfl (Sub.cons rfl (Sub.cons rfl (Sub.cons rfl (Sub.cons rfl (Sub.nil _)))))) ?_
   ·
    exact h
   rintro ⟨q36, x33, x34, x35⟩ h K37 hK37
   cases q36 with
   | zero => exact absurd h (by simp [m_r03_Invert_l2])
   | succ q36 =>
    unfold m_r03_Invert_l2 at h
    refine WC.seq fun K38 hK38 => ?_
    refine WC.seqRegion fun K39 hK39 => ?_
    refine WL.yld (by decide) (Yld.move rfl) ?_
    refine WL.yld (by decide) (Yld.move rfl) ?_
    refine WL.yld (by decide) (Yld.lss rfl rfl) ?_
    refine WL.done (hK39 _ _ ?_)
    by_cases hc40 : x35 < x00_0
    ·
     replace h := of_t hc40 h
     refine WC.condTe rfl (decide_eq_true hc40) ?_
     refine WC.skip ?_
     refine QK.thenN (hK38 _ _ ?_)
     refine WC.seqCut (σ := (List (BitVec 8)) × (List (BitVec 8))) (fun ⟨x41, x42⟩ => [(2, .pointer (some ⟨g3, 0, none⟩)), (4, I64 x00_0), (5, .slice A18 x17.length c19), (6, .pointer (some ⟨g29, 0, none⟩)), (8, I64 x35)]) (fun ⟨x41, x42⟩ => [(0, .mem M0), (103, .blk g3 26 [I64 (0 : Int), I64 (0 : Int), .slice none 0 0]), (116, .own 5 (Lay.sz (BitVec 8)) A18 x17.length c19 (cel x41)), (125, .own 5 (Lay.sz (BitVec 8)) A26 n27 c28 (cel x42)), (129, .blk g29 26 [I64 x21.1, I64 x21.2.1, .slice A26 n27 c28])]) (fun ⟨x41, x42⟩ => m_r03_Invert_j3 x35 (m_r03_Invert_l2 x00_0 x21 q36) x41 x42 = some res) (fun K43 hK43 => ?_) ?_
     ·
      skip
      refine WC.block ?_
      refine WC.seqCut (σ := (List (BitVec 8)) × (List (BitVec 8))) (fun ⟨x44, x45⟩ => [(2, .pointer (some ⟨g3, 0, none⟩)), (4, I64 x00_0), (5, .slice A18 x17.length c19), (6, .pointer (some ⟨g29, 0, none⟩)), (8, I64 x35)]) (fun ⟨x44, x45⟩ => [(0, .mem M0), (103, .blk g3 26 [I64 (0 : Int), I64 (0 : Int), .slice none 0 0]), (116, .own 5 (Lay.sz (BitVec 8)) A18 x17.length c19 (cel x44)), (125, .own 5 (Lay.sz (BitVec 8)) A26 n27 c28 (cel x45)), (129, .blk g29 26 [I64 x21.1, I64 x21.2.1, .slice A26 n27 c28])]) (fun ⟨x44, x45⟩ => m_r03_Invert_j4 x00_0 x35 (m_r03_Invert_l2 x00_0 x21 q36) x44 x45 = some res) (fun K46 hK46 => ?_) ?_
      ·
       skip
       refine WC.seqRegion fun K47 hK47 => ?_
       obtain ⟨x48, hx48, h⟩ := bnd h
       obtain ⟨x49, hx49, h⟩ := bnd h
       obtain ⟨x50, hx50, h⟩ := bnd h
       refine WL.yld (by decide) (Yld.move rfl) ?_
       refine WL.yld (by decide) (Yld.move rfl) ?_
       refine WL.yld (by decide) (Yld.move rfl) ?_
       refine WL.yld (by decide) (Yld.mulC rfl rfl hx48) ?_
       refine WL.yld (by decide) (Yld.move rfl) ?_
       refine WL.yld (by decide) (Yld.addC rfl rfl hx49) ?_
       refine WL.yld (by decide) (Yld.idxC (xs := x33) sty_22 rfl rfl (RdH.own (k := 116) rfl) hx50) ?_
       refine WL.yld (by decide) (Yld.loadC0 (xs := x33) scal_5 rfl (RdH.own (k := 116) rfl) hx50 rfl) ?_
       refine WL.yld (by decide) (Yld.eql_u8 (a := x50) (b := 0#8) rfl rfl) ?_
       refine WL.done (hK47 _ _ ?_)
       by_cases hc51 : x50 = 0#8
       ·
        replace h := of_t hc51 h
        refine WC.condTe rfl (beq_iff_eq.2 hc51) ?_
        refine WC.seqRegion fun K52 hK52 => ?_
        obtain ⟨x53, hx53, h⟩ := bnd h
        refine WL.yld (by decide) (Yld.move rfl) ?_
        refine WL.yld (by decide) (Yld.addC rfl rfl hx53) ?_
        refine WL.yld (by decide) (Yld.assign rfl) ?_
        refine WL.done (hK52 _ _ ?_)
        refine WC.seqCut (σ := Int) (fun x54 => [(2, .pointer (some ⟨g3, 0, none⟩)), (4, I64 x00_0), (5, .slice A18 x17.length c19), (6, .pointer (some ⟨g29, 0, none⟩)), (8, I64 x35), (9, I64 x54)]) (fun x54 => [(0, .mem M0), (103, .blk g3 26 [I64 (0 : Int), I64 (0 : Int), .slice none 0 0]), (116, .own 5 (Lay.sz (BitVec 8)) A18 x17.length c19 (cel x33)), (125, .own 5 (Lay.sz (BitVec 8)) A26 n27 c28 (cel x34)), (129, .blk g29 26 [I64 x21.1, I64 x21.2.1, .slice A26 n27 c28])]) (fun x54 => m_r03_Invert_j5 x00_0 x33 x34 x35 (m_r03_Invert_l2 x00_0 x21 q36) x54 = some res) (fun K55 hK55 => ?_) ?_
        ·
         skip
         refine WC.block ?_
         refine WC.loop (σ := Nat × Int) (fun ⟨q57, x56⟩ => [(2, .pointer (some ⟨g3, 0, none⟩)), (4, I64 x00_0), (5, .slice A18 x17.length c19), (6, .pointer (some ⟨g29, 0, none⟩)), (8, I64 x35), (9, I64 x56)]) (fun ⟨q57, x56⟩ => [(0, .mem M0), (103, .blk g3 26 [I64 (0 : Int), I64 (0 : Int), .slice none 0 0]), (116, .own 5 (Lay.sz (BitVec 8)) A18 x17.length c19 (cel x33)), (125, .own 5 (Lay.sz (BitVec 8)) A26 n27 c28 (cel x34)), (129, .blk g29 26 [I64 x21.1, I64 x21.2.1, .slice A26 n27 c28])]) (fun ⟨q57, x56⟩ => m_r03_Invert_l6 x00_0 x33 x34 x35 (m_r03_Invert_l2 x00_0 x21 q36) q57 x56 = some res) (fun ⟨q57, x56⟩ => q57) ⟨forever, x53⟩ ?_ (Sub.cons rfl (Sub.cons rfl (Sub.cons rfl (Sub.cons rfl (Sub.cons rfl (Sub.cons rfl (Sub.nil _))))))) (Sub.cons rfl (Sub.cons rfl (Sub.cons rfl (Sub.cons rfl (Sub.cons rfl (Sub.nil _)))))) ?_
         ·
          exact h
         rintro ⟨q57, x56⟩ h K58 hK58
         cases q57 with
         | zero => exact absurd h (by simp [m_r03_Invert_l6])
         | succ q57 =>
          unfold m_r03_Invert_l6 at h
          refine WC.seq fun K59 hK59 => ?_
          refine WC.seqRegion fun K60 hK60 => ?_
          by_cases hc61 : x56 < x00_0
          ·
           replace h := of_t hc61 h
           obtain ⟨x62, hx62, h⟩ := bnd h
           obtain ⟨x63, hx63, h⟩ := bnd h
           obtain ⟨x64, hx64, h⟩ := bnd h
           refine WL.yld (by decide) (Yld.move rfl) ?_
           refine WL.yld (by decide) (Yld.move rfl) ?_
           refine WL.yld (by decide) (Yld.lss rfl rfl) ?_
           refine WL.yld (by decide) (Yld.move rfl) ?_
           refine WL.new (v' := .bool true) (congrArg Value.bool (decide_eq_true hc61)) ?_
           refine WL.yldG (by decide) rfl (Yld.move rfl) ?_
           refine WL.yldG (by decide) rfl (Yld.move rfl) ?_
           refine WL.yldG (by decide) rfl (Yld.move rfl) ?_
           refine WL.yldG (by decide) rfl (Yld.mulC rfl rfl hx62) ?_
           refine WL.yldG (by decide) rfl (Yld.move rfl) ?_
           refine WL.yldG (by decide) rfl (Yld.addC rfl rfl hx63) ?_
           refine WL.yldG (by decide) rfl (Yld.idxC (xs := x33) sty_22 rfl rfl (RdH.own (k := 116) rfl) hx64) ?_
           refine WL.yldG (by decide) rfl (Yld.loadC0 (xs := x33) scal_5 rfl (RdH.own (k := 116) rfl) hx64 rfl) ?_
           refine WL.yldG (by decide) rfl (Yld.eql_u8 (a := x64) (b := 0#8) rfl rfl) ?_
           refine WL.yld (by decide) (Yld.pickT rfl rfl) ?_
           refine WL.done (hK60 _ _ ?_)
           by_cases hc65 : x64 = 0#8
           ·
            replace h := of_t hc65 h
            refine WC.condTe rfl (beq_iff_eq.2 hc65) ?_
            refine WC.skip ?_
            refine QK.thenN (hK59 _ _ ?_)
            refine WC.block ?_
            refine WC.region fun K66 hK66 => ?_
            obtain ⟨x67, hx67, h⟩ := bnd h
            refine WL.yld (by decide) (Yld.move rfl) ?_
            refine WL.yld (by decide) (Yld.addC rfl rfl hx67) ?_
            refine WL.yld (by decide) (Yld.assign rfl) ?_
            refine WL.done (hK66 _ _ ?_)
            refine QK.blockN ?_
            refine QK.thenN ?_
            refine hK58 ⟨q57, x67⟩ _ _ ?_ (Nat.lt_succ_self _) (Sub.cons rfl (Sub.cons rfl (Sub.cons rfl (Sub.cons rfl (Sub.cons rfl (Sub.cons rfl (Sub.nil _))))))) (Sub.cons rfl (Sub.cons rfl (Sub.cons rfl (Sub.cons rfl (Sub.cons rfl (Sub.nil _))))))
            exact h
           ·
            replace h := of_f hc65 h
            refine WC.condFe rfl (beq_eq_false_iff_ne.2 hc65) ?_
            refine WC.exit (QK.thenE (QK.thenE (QK.blockX ?_)))
            refine QK.thenN ?_
            refine hK55 x56 _ _ ?_ (Sub.cons rfl (Sub.cons rfl (Sub.cons rfl (Sub.cons rfl (Sub.cons rfl (Sub.cons rfl (Sub.nil _))))))) (Sub.cons rfl (Sub.cons rfl (Sub.cons rfl (Sub.cons rfl (Sub.cons rfl (Sub.nil _))))))
            exact h
          ·
           replace h := of_f hc61 h
           refine WL.yld (by decide) (Yld.move rfl) ?_
           refine WL.yld (by decide) (Yld.move rfl) ?_
           refine WL.yld (by decide) (Yld.lss rfl rfl) ?_
           refine WL.yld (by decide) (Yld.move rfl) ?_
           refine WL.new (v' := .bool false) (congrArg Value.bool (decide_eq_false hc61)) ?_
           refine WL.skip (by decide) rfl rfl ?_
           refine WL.skip (by decide) rfl rfl ?_
           refine WL.skip (by decide) rfl rfl ?_
           refine WL.skip (by decide) rfl rfl ?_
           refine WL.skip (by decide) rfl rfl ?_
           refine WL.skip (by decide) rfl rfl ?_
           refine WL.skip (by decide) rfl rfl ?_
           refine WL.skip (by decide) rfl rfl ?_
           refine WL.skip (by decide) rfl rfl ?_
           refine WL.yld (by decide) (Yld.pickF rfl rfl) ?_
           refine WL.done (hK60 _ _ ?_)
           refine WC.condF rfl ?_
           refine WC.exit (QK.thenE (QK.thenE (QK.blockX ?_)))
           refine QK.thenN ?_
           refine hK55 x56 _ _ ?_ (Sub.cons rfl (Sub.cons rfl (Sub.cons rfl (Sub.cons rfl (Sub.cons rfl (Sub.cons rfl (Sub.nil _))))))) (Sub.cons rfl (Sub.cons rfl (Sub.cons rfl (Sub.cons rfl (Sub.cons rfl (Sub.nil _))))))
           exact h
        ·
         rintro x54 h
         unfold m_r03_Invert_j5 at h
         refine WC.seq fun K68 hK68 => ?_
         refine WC.seqRegion fun K69 hK69 => ?_
         refine WL.yld (by decide) (Yld.move rfl) ?_
         refine WL.yld (by decide) (Yld.move rfl) ?_
         refine WL.yld (by decide) (Yld.eqlI rfl rfl) ?_
         refine WL.done (hK69 _ _ ?_)
         by_cases hc70 : x54 = x00_0
         ·
          replace h := of_t hc70 h
          refine WC.condTe rfl (beq_iff_eq.2 hc70) ?_
          refine WC.seqRegion fun K71 hK71 => ?_
          refine WL.yld (by decide) (Yld.build rfl (bu_26_)) ?_
          refine WL.eff0 (Eff0.storeBAM 103 agg_26 rfl rfl rfl ⟨rfl, rfl⟩ rfl) ?_
          refine WL.yld (by decide) (Yld.assign rfl) ?_
          refine WL.done (hK71 _ _ ?_)
          refine WC.ret (QK.thenR (QK.thenR (QK.blockR (QK.thenR (QK.thenR (QK.blockR (QK.thenR ?_)))))))
          refine QK.nilOwn 172 5 (Lay.sz (BitVec 8)) none ?_
          injection h with h; subst h
          exact Ret.fn [172] (ResIs.cellTmpM (k := 103) rfl agg_26 rfl rfl rfl rfl) rfl (Ext.refl _ _) rfl (by decide) rfl rfl ⟨none, 0, 0, rfl, rfl⟩
         ·
          replace h := of_f hc70 h
          refine WC.condFe rfl (beq_eq_false_iff_ne.2 hc70) ?_
          refine WC.skip ?_
          refine QK.thenN (hK68 _ _ ?_)
          refine WC.seqRegion fun K73 hK73 => ?_
          obtain ⟨x74, hx74, h⟩ := bnd h
          refine WL.yld (by decide) (Yld.move rfl) ?_
          refine WL.yld (by decide) (Yld.move rfl) ?_
          refine WL.yld (by decide) (Yld.move rfl) ?_
          refine WL.yld (by decide) (Yld.move rfl) ?_
          refine WL.eff (by decide) (Eff.callMut 116 rfl Try.func59 nm_59 rfl rfl rfl (w_r03_add A18 x17.length c19 x33 x00_0 x35 x54 1#8 hx74)) ?_
          rintro _ _ ⟨_, ⟨rfl, rfl⟩, rfl⟩
          refine WL.done (hK73 _ _ ?_)
          refine WC.region fun K75 hK75 => ?_
          obtain ⟨x76, hx76, h⟩ := bnd h
          refine WL.yld (by decide) (Yld.fieldAddr Try.underlying26 rfl nz_22 rfl rfl) ?_
          refine WL.yld (by decide) (Yld.loadB (k := 129) scal_22 rfl rfl rfl) ?_
          refine WL.yld (by decide) (Yld.move rfl) ?_
          refine WL.yld (by decide) (Yld.move rfl) ?_
          refine WL.yld (by decide) (Yld.move rfl) ?_
          refine WL.eff (by decide) (Eff.callMut 125 rfl Try.func59 nm_59 rfl rfl rfl (w_r03_add A26 n27 c28 x34 x00_0 x35 x54 1#8 hx76)) ?_
          rintro _ _ ⟨_, ⟨rfl, rfl⟩, rfl⟩
          refine WL.done (hK75 _ _ ?_)
          refine QK.thenN ?_
          refine hK46 ⟨x74, x76⟩ _ _ ?_ (Sub.cons rfl (Sub.cons rfl (Sub.cons rfl (Sub.cons rfl (Sub.cons rfl (Sub.nil _)))))) (Sub.cons rfl (Sub.cons rfl (Sub.cons rfl (Sub.cons rfl (Sub.cons rfl (Sub.nil _))))))
          exact h
       ·
        replace h := of_f hc51 h
        refine WC.condFe rfl (beq_eq_false_iff_ne.2 hc51) ?_
        refine WC.skip ?_
        refine QK.thenN ?_
        refine hK46 ⟨x33, x34⟩ _ _ ?_ (Sub.cons rfl (Sub.cons rfl (Sub.cons rfl (Sub.cons rfl (Sub.cons rfl (Sub.nil _)))))) (Sub.cons rfl (Sub.cons rfl (Sub.cons rfl (Sub.cons rfl (Sub.cons rfl (Sub.nil _))))))
        exact h
      ·
       rintro ⟨x44, x45⟩ h
       unfold m_r03_Invert_j4 at h
       refine WC.seqRegion fun K77 hK77 => ?_
       obtain ⟨x78, hx78, h⟩ := bnd h
       obtain ⟨x79, hx79, h⟩ := bnd h
       obtain ⟨x80, hx80, h⟩ := bnd h
       obtain ⟨x81, hx81, h⟩ := bnd h
       refine WL.yld (by decide) (Yld.move rfl) ?_
       refine WL.yld (by decide) (Yld.move rfl) ?_
       refine WL.yld (by decide) (Yld.move rfl) ?_
       refine WL.yld (by decide) (Yld.mulC rfl rfl hx78) ?_
       refine WL.yld (by decide) (Yld.move rfl) ?_
       refine WL.yld (by decide) (Yld.addC rfl rfl hx79) ?_
       refine WL.yld (by decide) (Yld.idxC (xs := x44) sty_22 rfl rfl (RdH.own (k := 116) rfl) hx80) ?_
       refine WL.yld (by decide) (Yld.loadC0 (xs := x44) scal_5 rfl (RdH.own (k := 116) rfl) hx80 rfl) ?_
       refine WL.eff (by decide) (Eff.callS 182 rfl Try.func60 nm_60 rfl rfl (fun w hb hh => w_r02_Inv (Mem.snap w) x80 hx81)) ?_
       rintro _ _ ⟨_, ⟨rfl, rfl⟩, rfl⟩
       refine WL.yld (by decide) (Yld.move rfl) ?_
       refine WL.yld (by decide) (Yld.extract rfl rfl) ?_
       refine WL.yld (by decide) (Yld.extract rfl rfl) ?_
       refine WL.yld (by decide) (Yld.assign rfl) ?_
       refine WL.yld (by decide) (Yld.assign rfl) ?_
       refine WL.done (hK77 _ _ ?_)
       refine WC.seqRegion fun K83 hK83 => ?_
       obtain ⟨x84, hx84, h⟩ := bnd h
       refine WL.yld (by decide) (Yld.fieldAddr Try.underlying26 rfl nz_22 rfl rfl) ?_
       refine WL.yld (by decide) (Yld.loadB (k := 129) scal_22 rfl rfl rfl) ?_
       refine WL.yld (by decide) (Yld.move rfl) ?_
       refine WL.yld (by decide) (Yld.move rfl) ?_
       refine WL.yld (by decide) (Yld.move rfl) ?_
       refine WL.yld (by decide) (Yld.move rfl) ?_
       refine WL.yld (by decide) (Yld.xor_u8 (a := x81.1) (b := 1#8) rfl rfl) ?_
       refine WL.eff (by decide) (Eff.callMut 125 rfl Try.func59 nm_59 rfl rfl rfl (w_r03_add A26 n27 c28 x45 x00_0 x35 x35 (x81.1 ^^^ 1#8) hx84)) ?_
       rintro _ _ ⟨_, ⟨rfl, rfl⟩, rfl⟩
       refine WL.done (hK83 _ _ ?_)
       refine WC.seqRegion fun K85 hK85 => ?_
       obtain ⟨x86, hx86, h⟩ := bnd h
       refine WL.yld (by decide) (Yld.move rfl) ?_
       refine WL.yld (by decide) (Yld.move rfl) ?_
       refine WL.yld (by decide) (Yld.move rfl) ?_
       refine WL.yld (by decide) (Yld.move rfl) ?_
       refine WL.yld (by decide) (Yld.move rfl) ?_
       refine WL.yld (by decide) (Yld.xor_u8 (a := x81.1) (b := 1#8) rfl rfl) ?_
       refine WL.eff (by decide) (Eff.callMut 116 rfl Try.func59 nm_59 rfl rfl rfl (w_r03_add A18 x17.length c19 x44 x00_0 x35 x35 (x81.1 ^^^ 1#8) hx86)) ?_
       rintro _ _ ⟨_, ⟨rfl, rfl⟩, rfl⟩
       refine WL.done (hK85 _ _ ?_)
       refine WC.seqRegion fun K87 hK87 => ?_
       refine WL.yld (by decide) (Yld.assign rfl) ?_
       refine WL.done (hK87 _ _ ?_)
       refine WC.block ?_
       refine WC.loop (σ := Nat × (List (BitVec 8)) × (List (BitVec 8)) × Int) (fun ⟨q91, x88, x89, x90⟩ => [(2, .pointer (some ⟨g3, 0, none⟩)), (4, I64 x00_0), (5, .slice A18 x17.length c19), (6, .pointer (some ⟨g29, 0, none⟩)), (8, I64 x35), (12, I64 x90)]) (fun ⟨q91, x88, x89, x90⟩ => [(0, .mem M0), (103, .blk g3 26 [I64 (0 : Int), I64 (0 : Int), .slice none 0 0]), (116, .own 5 (Lay.sz (BitVec 8)) A18 x17.length c19 (cel x88)), (125, .own 5 (Lay.sz (BitVec 8)) A26 n27 c28 (cel x89)), (129, .blk g29 26 [I64 x21.1, I64 x21.2.1, .slice A26 n27 c28])]) (fun ⟨q91, x88, x89, x90⟩ => m_r03_Invert_l7 x00_0 x35 (m_r03_Invert_l2 x00_0 x21 q36) q91 x88 x89 x90 = some res) (fun ⟨q91, x88, x89, x90⟩ => q91) ⟨forever, x86, x84, (0 : Int)⟩ ?_ (Sub.cons rfl (Sub.cons rfl (Sub.cons rfl (Sub.cons rfl (Sub.cons rfl (Sub.cons rfl (Sub.nil _))))))) (Sub.cons rfl (Sub.cons rfl (Sub.cons rfl (Sub.cons rfl (Sub.cons rfl (Sub.nil _)))))) ?_
       ·
        exact h
       rintro ⟨q91, x88, x89, x90⟩ h K92 hK92
       cases q91 with
       | zero => exact absurd h (by simp [m_r03_Invert_l7])
       | succ q91 =>
        unfold m_r03_Invert_l7 at h
        refine WC.seq fun K93 hK93 => ?_
        refine WC.seqRegion fun K94 hK94 => ?_
        refine WL.yld (by decide) (Yld.move rfl) ?_
        refine WL.yld (by decide) (Yld.move rfl) ?_
        refine WL.yld (by decide) (Yld.lss rfl rfl) ?_
        refine WL.done (hK94 _ _ ?_)
        by_cases hc95 : x90 < x00_0
        ·
         replace h := of_t hc95 h
         refine WC.condTe rfl (decide_eq_true hc95) ?_
         refine WC.skip ?_
         refine QK.thenN (hK93 _ _ ?_)
         refine WC.seq fun K96 hK96 => ?_
         refine WC.block ?_
         refine WC.seqRegion fun K97 hK97 => ?_
         obtain ⟨x98, hx98, h⟩ := bnd h
         obtain ⟨x99, hx99, h⟩ := bnd h
         obtain ⟨x100, hx100, h⟩ := bnd h
         refine WL.yld (by decide) (Yld.move rfl) ?_
         refine WL.yld (by decide) (Yld.move rfl) ?_
         refine WL.yld (by decide) (Yld.move rfl) ?_
         refine WL.yld (by decide) (Yld.mulC rfl rfl hx98) ?_
         refine WL.yld (by decide) (Yld.move rfl) ?_
         refine WL.yld (by decide) (Yld.addC rfl rfl hx99) ?_
         refine WL.yld (by decide) (Yld.idxC (xs := x88) sty_22 rfl rfl (RdH.own (k := 116) rfl) hx100) ?_
         refine WL.yld (by decide) (Yld.loadC0 (xs := x88) scal_5 rfl (RdH.own (k := 116) rfl) hx100 rfl) ?_
         refine WL.yld (by decide) (Yld.assign rfl) ?_
         refine WL.done (hK97 _ _ ?_)
         refine WC.seqRegion fun K101 hK101 => ?_
         by_cases hc102 : x90 = x35
         ·
          replace h := of_t hc102 h
          refine WL.yld (by decide) (Yld.move rfl) ?_
          refine WL.yld (by decide) (Yld.move rfl) ?_
          refine WL.yld (by decide) (Yld.neqI rfl rfl) ?_
          refine WL.yld (by decide) (Yld.move rfl) ?_
          refine WL.new (v' := .bool false) (congrArg Value.bool (bne_eq_false_iff_eq.2 hc102)) ?_
          refine WL.skip (by decide) rfl rfl ?_
          refine WL.skip (by decide) rfl rfl ?_
          refine WL.yld (by decide) (Yld.pickF rfl rfl) ?_
          refine WL.done (hK101 _ _ ?_)
          refine WC.condF rfl ?_
          refine WC.skip ?_
          refine QK.blockN ?_
          refine QK.thenN (hK96 _ _ ?_)
          refine WC.region fun K103 hK103 => ?_
          obtain ⟨x104, hx104, h⟩ := bnd h
          refine WL.yld (by decide) (Yld.move rfl) ?_
          refine WL.yld (by decide) (Yld.addC rfl rfl hx104) ?_
          refine WL.yld (by decide) (Yld.assign rfl) ?_
          refine WL.done (hK103 _ _ ?_)
          refine QK.thenN ?_
          refine hK92 ⟨q91, x88, x89, x104⟩ _ _ ?_ (Nat.lt_succ_self _) (Sub.cons rfl (Sub.cons rfl (Sub.cons rfl (Sub.cons rfl (Sub.cons rfl (Sub.cons rfl (Sub.nil _))))))) (Sub.cons rfl (Sub.cons rfl (Sub.cons rfl (Sub.cons rfl (Sub.cons rfl (Sub.nil _))))))
          exact h
         ·
          replace h := of_f hc102 h
          refine WL.yld (by decide) (Yld.move rfl) ?_
          refine WL.yld (by decide) (Yld.move rfl) ?_
          refine WL.yld (by decide) (Yld.neqI rfl rfl) ?_
          refine WL.yld (by decide) (Yld.move rfl) ?_
          refine WL.new (v' := .bool true) (congrArg Value.bool (bne_iff_ne.2 hc102)) ?_
          refine WL.yldG (by decide) rfl (Yld.move rfl) ?_
          refine WL.yldG (by decide) rfl (Yld.neq_u8 (a := x100) (b := 0#8) rfl rfl) ?_
          refine WL.yld (by decide) (Yld.pickT rfl rfl) ?_
          refine WL.done (hK101 _ _ ?_)
          by_cases hc105 : x100 = 0#8
          ·
           replace h := of_t hc105 h
           refine WC.condFe rfl (bne_eq_false_iff_eq.2 hc105) ?_
           refine WC.skip ?_
           refine QK.blockN ?_
           refine QK.thenN (hK96 _ _ ?_)
           refine WC.region fun K106 hK106 => ?_
           obtain ⟨x107, hx107, h⟩ := bnd h
           refine WL.yld (by decide) (Yld.move rfl) ?_
           refine WL.yld (by decide) (Yld.addC rfl rfl hx107) ?_
           refine WL.yld (by decide) (Yld.assign rfl) ?_
           refine WL.done (hK106 _ _ ?_)
           refine QK.thenN ?_
           refine hK92 ⟨q91, x88, x89, x107⟩ _ _ ?_ (Nat.lt_succ_self _) (Sub.cons rfl (Sub.cons rfl (Sub.cons rfl (Sub.cons rfl (Sub.cons rfl (Sub.cons rfl (Sub.nil _))))))) (Sub.cons rfl (Sub.cons rfl (Sub.cons rfl (Sub.cons rfl (Sub.cons rfl (Sub.nil _))))))
           exact h
          ·
           replace h := of_f hc105 h
           refine WC.condTe rfl (bne_iff_ne.2 hc105) ?_
           refine WC.seqRegion fun K108 hK108 => ?_
           obtain ⟨x109, hx109, h⟩ := bnd h
           refine WL.yld (by decide) (Yld.fieldAddr Try.underlying26 rfl nz_22 rfl rfl) ?_
           refine WL.yld (by decide) (Yld.loadB (k := 129) scal_22 rfl rfl rfl) ?_
           refine WL.yld (by decide) (Yld.move rfl) ?_
           refine WL.yld (by decide) (Yld.move rfl) ?_
           refine WL.yld (by decide) (Yld.move rfl) ?_
           refine WL.yld (by decide) (Yld.move rfl) ?_
           refine WL.eff (by decide) (Eff.callMut 125 rfl Try.func59 nm_59 rfl rfl rfl (w_r03_add A26 n27 c28 x89 x00_0 x90 x35 x100 hx109)) ?_
           rintro _ _ ⟨_, ⟨rfl, rfl⟩, rfl⟩
           refine WL.done (hK108 _ _ ?_)
           refine WC.region fun K110 hK110 => ?_
           obtain ⟨x111, hx111, h⟩ := bnd h
           refine WL.yld (by decide) (Yld.move rfl) ?_
           refine WL.yld (by decide) (Yld.move rfl) ?_
           refine WL.yld (by decide) (Yld.move rfl) ?_
           refine WL.yld (by decide) (Yld.move rfl) ?_
           refine WL.yld (by decide) (Yld.move rfl) ?_
           refine WL.eff (by decide) (Eff.callMut 116 rfl Try.func59 nm_59 rfl rfl rfl (w_r03_add A18 x17.length c19 x88 x00_0 x90 x35 x100 hx111)) ?_
           rintro _ _ ⟨_, ⟨rfl, rfl⟩, rfl⟩
           refine WL.done (hK110 _ _ ?_)
           refine QK.blockN ?_
           refine QK.thenN (hK96 _ _ ?_)
           refine WC.region fun K112 hK112 => ?_
           obtain ⟨x113, hx113, h⟩ := bnd h
           refine WL.yld (by decide) (Yld.move rfl) ?_
           refine WL.yld (by decide) (Yld.addC rfl rfl hx113) ?_
           refine WL.yld (by decide) (Yld.assign rfl) ?_
           refine WL.done (hK112 _ _ ?_)
           refine QK.thenN ?_
           refine hK92 ⟨q91, x111, x109, x113⟩ _ _ ?_ (Nat.lt_succ_self _) (Sub.cons rfl (Sub.cons rfl (Sub.cons rfl (Sub.cons rfl (Sub.cons rfl (Sub.cons rfl (Sub.nil _))))))) (Sub.cons rfl (Sub.cons rfl (Sub.cons rfl (Sub.cons rfl (Sub.cons rfl (Sub.nil _))))))
           exact h
        ·
         replace h := of_f hc95 h
         refine WC.condFe rfl (decide_eq_false hc95) ?_
         refine WC.exit (QK.thenE (QK.thenE (QK.blockX ?_)))
         refine QK.blockN ?_
         refine QK.thenN ?_
         refine hK43 ⟨x88, x89⟩ _ _ ?_ (Sub.cons rfl (Sub.cons rfl (Sub.cons rfl (Sub.cons rfl (Sub.cons rfl (Sub.nil _)))))) (Sub.cons rfl (Sub.cons rfl (Sub.cons rfl (Sub.cons rfl (Sub.cons rfl (Sub.nil _))))))
         exact h
     ·
      rintro ⟨x41, x42⟩ h
      unfold m_r03_Invert_j3 at h
      refine WC.region fun K114 hK114 => ?_
      obtain ⟨x115, hx115, h⟩ := bnd h
      refine WL.yld (by decide) (Yld.move rfl) ?_
      refine WL.yld (by decide) (Yld.addC rfl rfl hx115) ?_
      refine WL.yld (by decide) (Yld.assign rfl) ?_
      refine WL.done (hK114 _ _ ?_)
      refine QK.thenN ?_
      refine hK37 ⟨q36, x41, x42, x115⟩ _ _ ?_ (Nat.lt_succ_self _) (Sub.cons rfl (Sub.cons rfl (Sub.cons rfl (Sub.cons rfl (Sub.cons rfl (Sub.nil _)))))) (Sub.cons rfl (Sub.cons rfl (Sub.cons rfl (Sub.cons rfl (Sub.cons rfl (Sub.nil _))))))
      exact h
    ·
     replace h := of_f hc40 h
     refine WC.condFe rfl (decide_eq_false hc40) ?_
     refine WC.exit (QK.thenE (QK.thenE (QK.blockX ?_)))
     refine QK.thenN ?_
     refine hK31 x34 _ _ ?_ (Sub.cons rfl (Sub.cons rfl (Sub.nil _))) (Sub.cons rfl (Sub.cons rfl (Sub.cons rfl (Sub.cons rfl (Sub.nil _)))))
     exact h
  ·
   rintro x30 h
   unfold m_r03_Invert_j1 at h
   refine WC.seqRegion fun K116 hK116 => ?_
   refine WL.yld (by decide) (Yld.loadBM (k := 129) agg_26 rfl rfl rfl) ?_
   refine WL.eff0 (Eff0.storeBAM 103 agg_26 rfl rfl rfl ⟨rfl, rfl⟩ rfl) ?_
   refine WL.yld (by decide) (Yld.assign rfl) ?_
   refine WL.done (hK116 _ _ ?_)
   refine WC.ret ?_
   injection h with h; subst h
   exact Ret.fn [125] (ResIs.cellTmpM (k := 103) rfl agg_26 rfl rfl rfl rfl) rfl (Ext.refl _ _) rfl (by decide) rfl rfl ⟨A26, n27, c28, rfl, rfl⟩

set_option maxRecDepth 10000 in
theorem w_r03_Apply (M0 : Mem) (x00_0 : Int) (x00_1 : Int) (A00_2 : Option Addr) (n00_2 c00_2 : Nat) (x00_2 : List (BitVec 8)) (hf00_2 : SlT M0 A00_2 n00_2 c00_2 x00_2) (A01 : Option Addr) (n01 c01 : Nat) (rs01 : List Hdr) (x01 : List (List (BitVec 8))) (hf01 : SlT M0 A01 n01 c01 rs01) (hq01 : Rels ((RelB (α := BitVec 8)) M0) rs01 x01) {res : (List (List (BitVec 8))) × Int} (h : m_r03_Apply x00_0 x00_1 x00_2 x01 = some res) :
  Fn Try.prog 47 #[.agg ([I64 x00_0, I64 x00_1, .slice A00_2 n00_2 c00_2] : List Value).toArray, .slice A01 n01 c01] M0 fun r M' es => ∃ (A1 : Option Addr) (n1 c1 : Nat), ∃ rs1 : List Hdr, r = .tuple #[.slice A1 n1 c1, I64 res.2] ∧ es = [.own 22 (Lay.sz Hdr) A1 n1 c1 (cel rs1)] ∧ Rels ((RelB (α := BitVec 8)) M') rs1 res.1 := by
 refine Fn.intro (N := 78) Try.func47 rfl rfl (Nat.le_of_ble_eq_true rfl) fun w0 => ?_
 unfold m_r03_Apply at h
 refine WC.seqRegion fun K1 hK1 => ?_
 refine WL.eff (by decide) (Eff.box 102 (us := [I64 x00_0, I64 x00_1, .slice A00_2 n00_2 c00_2]) rfl rfl rfl) ?_
 rintro _ _ ⟨g2, rfl, rfl⟩
 refine WL.yld (by decide) (Yld.assign rfl) ?_
 refine WL.yld (by decide) (Yld.assign rfl) ?_
 refine WL.done (hK1 _ _ ?_)
 refine WC.seqCut (σ := Unit) (fun _ => [(1, .slice A01 n01 c01), (2, .pointer (some ⟨g2, 0, none⟩))]) (fun _ => [(0, .mem M0), (102, .blk g2 26 [I64 x00_0, I64 x00_1, .slice A00_2 n00_2 c00_2])]) (fun _ => m_r03_Apply_j0 x00_0 x00_1 x00_2 x01 = some res) (fun K3 hK3 => ?_) ?_
 ·
  skip
  refine WC.seqRegion fun K4 hK4 => ?_
  obtain ⟨x5, hx5, h⟩ := bnd h
  by_cases hc7 : x5 = true
  ·
   replace h := of_t hc7 h
   refine WL.yld (by decide) (Yld.loadBM (k := 102) agg_26 rfl rfl rfl) ?_
   refine WL.eff (by decide) (Eff.callS 106 rfl Try.func57 nm_57 rfl rfl (fun w hb hh => w_r03_Valid (Mem.snap w) x00_0 x00_1 A00_2 n00_2 c00_2 _ (RdH.sn (RdH.memM (k := 0) rfl hf00_2) w hb hh) hx5)) ?_
   rintro _ _ ⟨_, ⟨rfl, rfl⟩, rfl⟩
   refine WL.yld (by decide) (Yld.notB rfl) ?_
   refine WL.yld (by decide) (Yld.move rfl) ?_
   refine WL.new (v' := .bool false) (congrArg Value.bool (not_f hc7)) ?_
   refine WL.yldG (by decide) rfl (Yld.move rfl) ?_
   refine WL.yldG (by decide) rfl (Yld.lenD (rs := rs01) (xs := x01) (Rels.len hq01) und_35 rfl (RdH.memM (k := 0) rfl hf01)) ?_
   refine WL.yldG (by decide) rfl (Yld.fieldAddr Try.underlying26 rfl nz_3 rfl rfl) ?_
   refine WL.yldG (by decide) rfl (Yld.loadB (k := 102) scal_3 rfl rfl rfl) ?_
   refine WL.yldG (by decide) rfl (Yld.neqI rfl rfl) ?_
   refine WL.yld (by decide) (Yld.pickF rfl rfl) ?_
   refine WL.done (hK4 _ _ ?_)
   by_cases hc8 : (x01.length : Int) = x00_1
   ·
    replace h := of_t hc8 h
    refine WC.condFe rfl (bne_eq_false_iff_eq.2 hc8) ?_
    refine WC.skip ?_
    refine QK.thenN ?_
    refine hK3 () _ _ ?_ (Sub.cons rfl (Sub.cons rfl (Sub.nil _))) (Sub.cons rfl (Sub.cons rfl (Sub.nil _)))
    exact h
   ·
    replace h := of_f hc8 h
    refine WC.condTe rfl (bne_iff_ne.2 hc8) ?_
    refine WC.seqRegion fun K9 hK9 => ?_
    refine WL.yld (by decide) (Yld.assign rfl) ?_
    refine WL.yld (by decide) (Yld.assign rfl) ?_
    refine WL.done (hK9 _ _ ?_)
    refine WC.ret (QK.thenR ?_)
    refine QK.nilOwn 110 22 (Lay.sz Hdr) none ?_
    injection h with h; subst h
    exact Ret.fn [110] (ResIs.two rfl rfl rfl) rfl (Ext.refl _ _) rfl (by decide) rfl rfl ⟨none, 0, 0, ([] : List Hdr), rfl, rfl, (Rels.nil (R := (RelB (α := BitVec 8)) M0))⟩
  ·
   replace h := of_f hc7 h
   refine WL.yld (by decide) (Yld.loadBM (k := 102) agg_26 rfl rfl rfl) ?_
   refine WL.eff (by decide) (Eff.callS 106 rfl Try.func57 nm_57 rfl rfl (fun w hb hh => w_r03_Valid (Mem.snap w) x00_0 x00_1 A00_2 n00_2 c00_2 _ (RdH.sn (RdH.memM (k := 0) rfl hf00_2) w hb hh) hx5)) ?_
   rintro _ _ ⟨_, ⟨rfl, rfl⟩, rfl⟩
   refine WL.yld (by decide) (Yld.notB rfl) ?_
   refine WL.yld (by decide) (Yld.move rfl) ?_
   refine WL.new (v' := .bool true) (congrArg Value.bool (not_t (Bool.eq_false_iff.2 hc7))) ?_
   refine WL.skip (by decide) rfl rfl ?_
   refine WL.skip (by decide) rfl rfl ?_
   refine WL.skip (by decide) rfl rfl ?_
   refine WL.skip (by decide) rfl rfl ?_
   refine WL.skip (by decide) rfl rfl ?_
   refine WL.yld (by decide) (Yld.pickT rfl rfl) ?_
   refine WL.done (hK4 _ _ ?_)
   refine WC.condT rfl ?_
   refine WC.seqRegion fun K11 hK11 => ?_
   refine WL.yld (by decide) (Yld.assign rfl) ?_
   refine WL.yld (by decide) (Yld.assign rfl) ?_
   refine WL.done (hK11 _ _ ?_)
   refine WC.ret (QK.thenR ?_)
   refine QK.nilOwn 112 22 (Lay.sz Hdr) none ?_
   injection h with h; subst h
   exact Ret.fn [112] (ResIs.two rfl rfl rfl) rfl (Ext.refl _ _) rfl (by decide) rfl rfl ⟨none, 0, 0, ([] : List Hdr), rfl, rfl, (Rels.nil (R := (RelB (α := BitVec 8)) M0))⟩
 ·
  rintro _ h
  unfold m_r03_Apply_j0 at h
  refine WC.seqCut (σ := Unit) (fun _ => [(1, .slice A01 n01 c01), (2, .pointer (some ⟨g2, 0, none⟩))]) (fun _ => [(0, .mem M0), (102, .blk g2 26 [I64 x00_0, I64 x00_1, .slice A00_2 n00_2 c00_2])]) (fun _ => m_r03_Apply_j1 x00_0 x00_1 x00_2 x01 = some res) (fun K13 hK13 => ?_) ?_
  ·
   skip
   refine WC.seqRegion fun K14 hK14 => ?_
   refine WL.yld (by decide) (Yld.assign rfl) ?_
   refine WL.done (hK14 _ _ ?_)
   refine WC.block ?_
   refine WC.loop (σ := Nat × Int) (fun ⟨q16, x15⟩ => [(1, .slice A01 n01 c01), (2, .pointer (some ⟨g2, 0, none⟩)), (6, I64 x15)]) (fun ⟨q16, x15⟩ => [(0, .mem M0), (102, .blk g2 26 [I64 x00_0, I64 x00_1, .slice A00_2 n00_2 c00_2])]) (fun ⟨q16, x15⟩ => m_r03_Apply_l2 x00_0 x00_1 x00_2 x01 q16 x15 = some res) (fun ⟨q16, x15⟩ => q16) ⟨forever, (0 : Int)⟩ ?_ (Sub.cons rfl (Sub.cons rfl (Sub.cons rfl (Sub.nil _)))) (Sub.cons rfl (Sub.cons rfl (Sub.nil _))) ?_
   ·
    exact h
   rintro ⟨q16, x15⟩ h K17 hK17
   cases q16 with
   | zero => exact absurd h (by simp [m_r03_Apply_l2])
   | succ q16 =>
    unfold m_r03_Apply_l2 at h
    refine WC.seq fun K18 hK18 => ?_
    refine WC.seqRegion fun K19 hK19 => ?_
    refine WL.yld (by decide) (Yld.move rfl) ?_
    refine WL.yld (by decide) (Yld.move rfl) ?_
    refine WL.yld (by decide) (Yld.lenD (rs := rs01) (xs := x01) (Rels.len hq01) und_35 rfl (RdH.memM (k := 0) rfl hf01)) ?_
    refine WL.yld (by decide) (Yld.lss rfl rfl) ?_
    refine WL.done (hK19 _ _ ?_)
    by_cases hc20 : x15 < (x01.length : Int)
    ·
     replace h := of_t hc20 h
     refine WC.condTe rfl (decide_eq_true hc20) ?_
     refine WC.skip ?_
     refine QK.thenN (hK18 _ _ ?_)
     refine WC.seq fun K21 hK21 => ?_
     refine WC.block ?_
     refine WC.seqRegionD (n := 10) [(0, _), (102, _)] rfl mixed (Sub.cons rfl (Sub.cons rfl (Sub.nil _))) fun K22 hK22 => ?_
     obtain ⟨x23, hx23, h⟩ := bnd h
     obtain ⟨x27, hx27, h⟩ := bnd h
     refine WD.take 0 rfl (by kernel_rfl) (by kernel_rfl) (by kernel_rfl) (by decide) (Yld.move rfl) ?_
     refine WD.take 1 rfl (by kernel_rfl) (by kernel_rfl) (by kernel_rfl) (by decide) (Yld.move rfl) ?_
     obtain ⟨r_24, hr25, hq26⟩ := Rels.idx hq01 hx23
     refine WD.take 2 rfl (by kernel_rfl) (by kernel_rfl) (by kernel_rfl) (by decide) (Yld.idxC (xs := rs01) sty_35 rfl rfl (RdH.memM (k := 0) rfl hf01) hr25) ?_
     refine WD.take 3 rfl (by kernel_rfl) (by kernel_rfl) (by kernel_rfl) (by decide) (Yld.loadC0 (xs := rs01) scal_22 rfl (RdH.memM (k := 0) rfl hf01) hr25 rfl) ?_
     refine WD.take 4 rfl (by kernel_rfl) (by kernel_rfl) (by kernel_rfl) (by decide) (Yld.lenC (xs := x23) und_22 rfl (RdH.memM (k := 0) rfl hq26)) ?_
     refine WD.take 5 rfl (by kernel_rfl) (by kernel_rfl) (by kernel_rfl) (by decide) (Yld.move rfl) ?_
     obtain ⟨r_28, hr29, hq30⟩ := Rels.idx hq01 hx27
     refine WD.take 6 rfl (by kernel_rfl) (by kernel_rfl) (by kernel_rfl) (by decide) (Yld.idxC (xs := rs01) sty_35 rfl rfl (RdH.memM (k := 0) rfl hf01) hr29) ?_
     refine WD.take 7 rfl (by kernel_rfl) (by kernel_rfl) (by kernel_rfl) (by decide) (Yld.loadC0 (xs := rs01) scal_22 rfl (RdH.memM (k := 0) rfl hf01) hr29 rfl) ?_
     refine WD.take 8 rfl (by kernel_rfl) (by kernel_rfl) (by kernel_rfl) (by decide) (Yld.lenC (xs := x27) und_22 rfl (RdH.memM (k := 0) rfl hq30)) ?_
     refine WD.take 9 rfl (by kernel_rfl) (by kernel_rfl) (by kernel_rfl) (by decide) (Yld.neqI rfl rfl) ?_
     refine WD.done (by kernel_rfl) (hK22 _ _ ?_)
     by_cases hc31 : (x23.length : Int) = (x27.length : Int)
     ·
      replace h := of_t hc31 h
      refine WC.condFe rfl (bne_eq_false_iff_eq.2 hc31) ?_
      refine WC.skip ?_
      refine QK.blockN ?_
      refine QK.thenN (hK21 _ _ ?_)
      refine WC.region fun K32 hK32 => ?_
      obtain ⟨x33, hx33, h⟩ := bnd h
      refine WL.yld (by decide) (Yld.move rfl) ?_
      refine WL.yld (by decide) (Yld.addC rfl rfl hx33) ?_
      refine WL.yld (by decide) (Yld.assign rfl) ?_
      refine WL.done (hK32 _ _ ?_)
      refine QK.thenN ?_
      refine hK17 ⟨q16, x33⟩ _ _ ?_ (Nat.lt_succ_self _) (Sub.cons rfl (Sub.cons rfl (Sub.cons rfl (Sub.nil _)))) (Sub.cons rfl (Sub.cons rfl (Sub.nil _)))
      exact h
     ·
      replace h := of_f hc31 h
      refine WC.condTe rfl (bne_iff_ne.2 hc31) ?_
      refine WC.seqRegion fun K34 hK34 => ?_
      refine WL.yld (by decide) (Yld.assign rfl) ?_
      refine WL.yld (by decide) (Yld.assign rfl) ?_
      refine WL.done (hK34 _ _ ?_)
      refine WC.ret (QK.blockR (QK.thenR (QK.thenR (QK.blockR (QK.thenR ?_)))))
      refine QK.nilOwn 135 22 (Lay.sz Hdr) none ?_
      injection h with h; subst h
      exact Ret.fn [135] (ResIs.two rfl rfl rfl) rfl (Ext.refl _ _) rfl (by decide) rfl rfl ⟨none, 0, 0, ([] : List Hdr), rfl, rfl, (Rels.nil (R := (RelB (α := BitVec 8)) M0))⟩
    ·
     replace h := of_f hc20 h
     refine WC.condFe rfl (decide_eq_false hc20) ?_
     refine WC.exit (QK.thenE (QK.thenE (QK.blockX ?_)))
     refine QK.thenN ?_
     refine hK13 () _ _ ?_ (Sub.cons rfl (Sub.cons rfl (Sub.nil _))) (Sub.cons rfl (Sub.cons rfl (Sub.nil _)))
     exact h
  ·
   rintro _ h
   unfold m_r03_Apply_j1 at h
   refine WC.seqRegion fun K36 hK36 => ?_
   refine WL.yld (by decide) (Yld.assign rfl) ?_
   refine WL.done (hK36 _ _ ?_)
   refine WC.seqCut (σ := Mem × (Option Addr) × Nat × Nat × (List (List (BitVec 8))) × (List Hdr)) (fun ⟨M37, A40, n41, c42, x43, rs44⟩ => [(7, .slice A40 n41 c42)]) (fun ⟨M37, A40, n41, c42, x43, rs44⟩ => [(0, .mem M37), (139, .own 22 (Lay.sz Hdr) A40 n41 c42 (cel rs44))]) (fun ⟨M37, A40, n41, c42, x43, rs44⟩ => m_r03_Apply_j3 x43 = some res ∧ Ext w0.heap.size M0 M37 ∧ Rels ((RelB (α := BitVec 8)) M37) rs44 x43) (fun K46 hK46 => ?_) ?_
   ·
    skip
    refine WC.seqRegion fun K47 hK47 => ?_
    refine WL.yld (by decide) (Yld.assign rfl) ?_
    refine WL.done (hK47 _ _ ?_)
    refine WC.block ?_
    refine WC.nilOwn 150 22 (Lay.sz Hdr) none ?_
    refine WC.loop (σ := Nat × Mem × (Option Addr) × Nat × Nat × (List (List (BitVec 8))) × (List Hdr) × Int) (fun ⟨q58, M48, A51, n52, c53, x54, rs55, x57⟩ => [(1, .slice A01 n01 c01), (2, .pointer (some ⟨g2, 0, none⟩)), (7, .slice A51 n52 c53), (8, I64 x57)]) (fun ⟨q58, M48, A51, n52, c53, x54, rs55, x57⟩ => [(0, .mem M48), (102, .blk g2 26 [I64 x00_0, I64 x00_1, .slice A00_2 n00_2 c00_2]), (150, .own 22 (Lay.sz Hdr) A51 n52 c53 (cel rs55))]) (fun ⟨q58, M48, A51, n52, c53, x54, rs55, x57⟩ => m_r03_Apply_l4 x00_0 x00_1 x00_2 x01 q58 x54 x57 = some res ∧ Ext w0.heap.size M0 M48 ∧ Rels ((RelB (α := BitVec 8)) M48) rs55 x54) (fun ⟨q58, M48, A51, n52, c53, x54, rs55, x57⟩ => q58) ⟨forever, M0, none, 0, 0, ([] : List (List (BitVec 8))), ([] : List Hdr), (0 : Int)⟩ ?_ (Sub.cons rfl (Sub.cons rfl (Sub.cons rfl (Sub.cons rfl (Sub.nil _))))) (Sub.cons rfl (Sub.cons rfl (Sub.cons rfl (Sub.nil _)))) ?_
    ·
     exact ⟨h, (Ext.refl _ _), (Rels.nil (R := (RelB (α := BitVec 8)) M0))⟩
    rintro ⟨q58, M48, A51, n52, c53, x54, rs55, x57⟩ ⟨h, hm_M48, hq56⟩ K59 hK59
    cases q58 with
    | zero => exact absurd h (by simp [m_r03_Apply_l4])
    | succ q58 =>
     unfold m_r03_Apply_l4 at h
     refine WC.seq fun K60 hK60 => ?_
     refine WC.seqRegion fun K61 hK61 => ?_
     refine WL.yld (by decide) (Yld.move rfl) ?_
     refine WL.yld (by decide) (Yld.fieldAddr Try.underlying26 rfl nz_3 rfl rfl) ?_
     refine WL.yld (by decide) (Yld.loadB (k := 102) scal_3 rfl rfl rfl) ?_
     refine WL.yld (by decide) (Yld.lss rfl rfl) ?_
     refine WL.done (hK61 _ _ ?_)
     by_cases hc62 : x57 < x00_0
     ·
      replace h := of_t hc62 h
      refine WC.condTe rfl (decide_eq_true hc62) ?_
      refine WC.skip ?_
      refine QK.thenN (hK60 _ _ ?_)
      refine WC.seqCut (σ := Mem × (Option Addr) × Nat × Nat × (List (List (BitVec 8))) × (List Hdr)) (fun ⟨M63, A64, n65, c66, x67, rs68⟩ => [(1, .slice A01 n01 c01), (2, .pointer (some ⟨g2, 0, none⟩)), (7, .slice A64 n65 c66), (8, I64 x57)]) (fun ⟨M63, A64, n65, c66, x67, rs68⟩ => [(0, .mem M63), (102, .blk g2 26 [I64 x00_0, I64 x00_1, .slice A00_2 n00_2 c00_2]), (150, .own 22 (Lay.sz Hdr) A64 n65 c66 (cel rs68))]) (fun ⟨M63, A64, n65, c66, x67, rs68⟩ => m_r03_Apply_j5 x57 (m_r03_Apply_l4 x00_0 x00_1 x00_2 x01 q58) x67 = some res ∧ Ext w0.heap.size M48 M63 ∧ Rels ((RelB (α := BitVec 8)) M63) rs68 x67) (fun K70 hK70 => ?_) ?_
      ·
       skip
       refine WC.block ?_
       refine WC.seqRegion fun K71 hK71 => ?_
       obtain ⟨x72, hx72, h⟩ := bnd h
       obtain ⟨x77, hx77, h⟩ := bnd h
       refine WL.yld (by decide) (Yld.move rfl) ?_
       obtain ⟨r_73, hr74, hq75⟩ := Rels.idx (Rels.lift hq01 hm_M48) hx72
       refine WL.yld (by decide) (Yld.idxC (xs := rs01) sty_35 rfl rfl (RdH.memM (k := 0) rfl (SlRc.lift hf01 hm_M48)) hr74) ?_
       refine WL.yld (by decide) (Yld.loadC0 (xs := rs01) scal_22 rfl (RdH.memM (k := 0) rfl (SlRc.lift hf01 hm_M48)) hr74 rfl) ?_
       refine WL.yld (by decide) (Yld.lenC (xs := x72) und_22 rfl (RdH.memM (k := 0) rfl hq75)) ?_
       refine WL.eff (by decide) (Eff.makeC 176 0#8 sty_22 rfl rfl rfl rfl rfl rfl hx77) ?_
       rintro _ _ ⟨g76, rfl, rfl⟩
       refine WL.yld (by decide) (Yld.assign rfl) ?_
       refine WL.done (hK71 _ _ ?_)
       refine WC.seqCut (σ := (Option Addr) × Nat × Nat × (List (BitVec 8))) (fun ⟨A80, n81, c82, x83⟩ => [(1, .slice A01 n01 c01), (2, .pointer (some ⟨g2, 0, none⟩)), (7, .slice A51 n52 c53), (8, I64 x57), (9, .slice A80 n81 c82)]) (fun ⟨A80, n81, c82, x83⟩ => [(0, .mem M48), (102, .blk g2 26 [I64 x00_0, I64 x00_1, .slice A00_2 n00_2 c00_2]), (150, .own 22 (Lay.sz Hdr) A51 n52 c53 (cel rs55)), (179, .own 5 (Lay.sz (BitVec 8)) A80 n81 c82 (cel x83))]) (fun ⟨A80, n81, c82, x83⟩ => m_r03_Apply_j6 x54 x57 (m_r03_Apply_l4 x00_0 x00_1 x00_2 x01 q58) x83 = some res) (fun K84 hK84 => ?_) ?_
       ·
        skip
        refine WC.seqRegion fun K85 hK85 => ?_
        refine WL.yld (by decide) (Yld.assign rfl) ?_
        refine WL.done (hK85 _ _ ?_)
        refine WC.block ?_
        refine WC.move 176 187 rfl rfl ?_
        refine WC.loop (σ := Nat × (Option Addr) × Nat × Nat × (List (BitVec 8)) × Int) (fun ⟨q93, A88, n89, c90, x91, x92⟩ => [(1, .slice A01 n01 c01), (2, .pointer (some ⟨g2, 0, none⟩)), (7, .slice A51 n52 c53), (8, I64 x57), (9, .slice A88 n89 c90), (10, I64 x92)]) (fun ⟨q93, A88, n89, c90, x91, x92⟩ => [(0, .mem M48), (102, .blk g2 26 [I64 x00_0, I64 x00_1, .slice A00_2 n00_2 c00_2]), (150, .own 22 (Lay.sz Hdr) A51 n52 c53 (cel rs55)), (187, .own 5 (Lay.sz (BitVec 8)) A88 n89 c90 (cel x91))]) (fun ⟨q93, A88, n89, c90, x91, x92⟩ => m_r03_Apply_l7 x00_1 x00_2 x01 x54 x57 (m_r03_Apply_l4 x00_0 x00_1 x00_2 x01 q58) q93 x91 x92 = some res) (fun ⟨q93, A88, n89, c90, x91, x92⟩ => q93) ⟨forever, (some ⟨g76, 0, none⟩), x77.length, x77.length, x77, (0 : Int)⟩ ?_ (Sub.cons rfl (Sub.cons rfl (Sub.cons rfl (Sub.cons rfl (Sub.cons rfl (Sub.cons rfl (Sub.nil _))))))) (Sub.cons rfl (Sub.cons rfl (Sub.cons rfl (Sub.cons rfl (Sub.nil _))))) ?_
        ·
         exact h
        rintro ⟨q93, A88, n89, c90, x91, x92⟩ h K94 hK94
        cases q93 with
        | zero => exact absurd h (by simp [m_r03_Apply_l7])
        | succ q93 =>
         unfold m_r03_Apply_l7 at h
         refine WC.seq fun K95 hK95 => ?_
         refine WC.seqRegion fun K96 hK96 => ?_
         refine WL.yld (by decide) (Yld.move rfl) ?_
         refine WL.yld (by decide) (Yld.fieldAddr Try.underlying26 rfl nz_3 rfl rfl) ?_
         refine WL.yld (by decide) (Yld.loadB (k := 102) scal_3 rfl rfl rfl) ?_
         refine WL.yld (by decide) (Yld.lss rfl rfl) ?_
         refine WL.done (hK96 _ _ ?_)
         by_cases hc97 : x92 < x00_1
         ·
          replace h := of_t hc97 h
          refine WC.condTe rfl (decide_eq_true hc97) ?_
          refine WC.skip ?_
          refine QK.thenN (hK95 _ _ ?_)
          refine WC.seq fun K98 hK98 => ?_
          refine WC.block ?_
          refine WC.regionD (n := 20) [(0, _), (102, _), (150, _), (187, _)] rfl mixed (Sub.cons rfl (Sub.cons rfl (Sub.cons rfl (Sub.cons rfl (Sub.nil _))))) fun K99 hK99 => ?_
          obtain ⟨x100, hx100, h⟩ := bnd h
          obtain ⟨x104, hx104, h⟩ := bnd h
          obtain ⟨x105, hx105, h⟩ := bnd h
          obtain ⟨x106, hx106, h⟩ := bnd h
          obtain ⟨x107, hx107, h⟩ := bnd h
          refine WD.take 0 rfl (by kernel_rfl) (by kernel_rfl) (by kernel_rfl) (by decide) (Yld.move rfl) ?_
          refine WD.take 1 rfl (by kernel_rfl) (by kernel_rfl) (by kernel_rfl) (by decide) (Yld.move rfl) ?_
          refine WD.take 2 rfl (by kernel_rfl) (by kernel_rfl) (by kernel_rfl) (by decide) (Yld.move rfl) ?_
          obtain ⟨r_101, hr102, hq103⟩ := Rels.idx (Rels.lift hq01 hm_M48) hx100
          refine WD.take 3 rfl (by kernel_rfl) (by kernel_rfl) (by kernel_rfl) (by decide) (Yld.idxC (xs := rs01) sty_35 rfl rfl (RdH.memM (k := 0) rfl (SlRc.lift hf01 hm_M48)) hr102) ?_
          refine WD.take 4 rfl (by kernel_rfl) (by kernel_rfl) (by kernel_rfl) (by decide) (Yld.loadC0 (xs := rs01) scal_22 rfl (RdH.memM (k := 0) rfl (SlRc.lift hf01 hm_M48)) hr102 rfl) ?_
          refine WD.take 5 rfl (by kernel_rfl) (by kernel_rfl) (by kernel_rfl) (by decide) (Yld.fieldAddr Try.underlying26 rfl nz_22 rfl rfl) ?_
          refine WD.take 6 rfl (by kernel_rfl) (by kernel_rfl) (by kernel_rfl) (by decide) (Yld.loadB (k := 102) scal_22 rfl rfl rfl) ?_
          refine WD.take 7 rfl (by kernel_rfl) (by kernel_rfl) (by kernel_rfl) (by decide) (Yld.move rfl) ?_
          refine WD.take 8 rfl (by kernel_rfl) (by kernel_rfl) (by kernel_rfl) (by decide) (Yld.fieldAddr Try.underlying26 rfl nz_3 rfl rfl) ?_
          refine WD.take 9 rfl (by kernel_rfl) (by kernel_rfl) (by kernel_rfl) (by decide) (Yld.loadB (k := 102) scal_3 rfl rfl rfl) ?_
          refine WD.take 10 rfl (by kernel_rfl) (by kernel_rfl) (by kernel_rfl) (by decide) (Yld.mulC rfl rfl hx104) ?_
          refine WD.take 11 rfl (by kernel_rfl) (by kernel_rfl) (by kernel_rfl) (by decide) (Yld.move rfl) ?_
          refine WD.take 12 rfl (by kernel_rfl) (by kernel_rfl) (by kernel_rfl) (by decide) (Yld.addC rfl rfl hx105) ?_
          refine WD.take 13 rfl (by kernel_rfl) (by kernel_rfl) (by kernel_rfl) (by decide) (Yld.idxC (xs := x00_2) sty_22 rfl rfl (RdH.memM (k := 0) rfl (SlRc.lift hf00_2 hm_M48)) hx106) ?_
          refine WD.take 14 rfl (by kernel_rfl) (by kernel_rfl) (by kernel_rfl) (by decide) (Yld.loadC0 (xs := x00_2) scal_5 rfl (RdH.memM (k := 0) rfl (SlRc.lift hf00_2 hm_M48)) hx106 rfl) ?_
          refine WD.one 15 (by kernel_rfl) ?_
          refine WS.eff rfl (by decide) (Eff.callS 211 rfl Try.func62 nm_62 rfl rfl (fun w hb hh => w_r02_MulAdd (Mem.snap w) A88 n89 c90 _ (RdH.sn (RdH.own (k := 187) rfl) w hb hh) r_101.A r_101.n r_101.c _ (RdH.sn (RdH.memM (k := 0) rfl hq103) w hb hh) x106 hx107)) ?_
          rintro _ _ ⟨_, ⟨A112, n113, c114, rfl, rfl⟩, rfl⟩
          refine ⟨(Sub.cons rfl (Sub.cons rfl (Sub.cons rfl (Sub.cons rfl (Sub.nil _))))), ?_⟩
          refine WD.take 16 rfl (by kernel_rfl) (by kernel_rfl) (by kernel_rfl) (by decide) (Yld.move rfl) ?_
          refine WD.take 17 rfl (by kernel_rfl) (by kernel_rfl) (by kernel_rfl) (by decide) (Yld.extract rfl rfl) ?_
          refine WD.take 18 rfl (by kernel_rfl) (by kernel_rfl) (by kernel_rfl) (by decide) (Yld.extract rfl rfl) ?_
          refine WD.take 19 rfl (by kernel_rfl) (by kernel_rfl) (by kernel_rfl) (by decide) (Yld.assign rfl) ?_
          refine WD.done (by kernel_rfl) (hK99 _ _ ?_)
          refine QK.blockN ?_
          refine QK.thenN (hK98 _ _ ?_)
          refine WC.region fun K115 hK115 => ?_
          obtain ⟨x116, hx116, h⟩ := bnd h
          refine WL.yld (by decide) (Yld.move rfl) ?_
          refine WL.yld (by decide) (Yld.addC rfl rfl hx116) ?_
          refine WL.yld (by decide) (Yld.assign rfl) ?_
          refine WL.done (hK115 _ _ ?_)
          refine QK.thenN ?_
          refine KK.move 211 187 rfl rfl ?_
          refine hK94 ⟨q93, A112, n113, c114, x107.1, x116⟩ _ _ ?_ (Nat.lt_succ_self _) (Sub.cons rfl (Sub.cons rfl (Sub.cons rfl (Sub.cons rfl (Sub.cons rfl (Sub.cons rfl (Sub.nil _))))))) (Sub.cons rfl (Sub.cons rfl (Sub.cons rfl (Sub.cons rfl (Sub.nil _)))))
          exact h
         ·
          replace h := of_f hc97 h
          refine WC.condFe rfl (decide_eq_false hc97) ?_
          refine WC.exit (QK.thenE (QK.thenE (QK.blockX ?_)))
          refine QK.thenN ?_
          refine KK.move 187 179 rfl rfl ?_
          refine hK84 ⟨A88, n89, c90, x91⟩ _ _ ?_ (Sub.cons rfl (Sub.cons rfl (Sub.cons rfl (Sub.cons rfl (Sub.cons rfl (Sub.nil _)))))) (Sub.cons rfl (Sub.cons rfl (Sub.cons rfl (Sub.cons rfl (Sub.nil _)))))
          exact h
       ·
        rintro ⟨A80, n81, c82, x83⟩ h
        unfold m_r03_Apply_j6 at h
        refine WC.region fun K117 hK117 => ?_
        obtain ⟨x122, hx122, h⟩ := bnd h
        refine WL.yld (by decide) (Yld.move rfl) ?_
        refine WL.yld (by decide) (Yld.move rfl) ?_
        refine WL.freeze 179 rfl rfl rfl fun M119 hm_M119 hf120 => ?_
        have hq121 : Rels ((RelB (α := BitVec 8)) M119) ([(⟨A80, n81, c82⟩ : Hdr)] : List Hdr) ([x83] : List (List (BitVec 8))) := (Rels.cons hf120 Rels.nil)
        refine WL.eff (by decide) (Eff.buildC 218 ([(⟨A80, n81, c82⟩ : Hdr)] : List Hdr) sty_35 rfl rfl rfl rfl rfl (by decide)) ?_
        rintro _ _ ⟨g118, rfl, rfl⟩
        obtain ⟨hu125, hq126⟩ := Rels.apd (Rels.lift hq56 hm_M119) hq121 hx122
        refine WL.eff (by decide) (Eff.appendC 150 (xs := rs55) (ys := ([(⟨A80, n81, c82⟩ : Hdr)] : List Hdr)) sty_35 rfl rfl rfl (RdH.own (k := 218) rfl) hu125) ?_
        rintro _ _ ⟨A123, c124, rfl, rfl⟩
        refine WL.yld (by decide) (Yld.assign rfl) ?_
        refine WL.done (hK117 _ _ ?_)
        refine QK.blockN ?_
        refine QK.thenN ?_
        refine hK70 ⟨M119, A123, (rs55 ++ ([(⟨A80, n81, c82⟩ : Hdr)] : List Hdr)).length, c124, x122, (rs55 ++ ([(⟨A80, n81, c82⟩ : Hdr)] : List Hdr))⟩ _ _ ?_ (Sub.cons rfl (Sub.cons rfl (Sub.cons rfl (Sub.cons rfl (Sub.nil _))))) (Sub.cons rfl (Sub.cons rfl (Sub.cons rfl (Sub.nil _))))
        exact ⟨h, hm_M119, hq126⟩
      ·
       rintro ⟨M63, A64, n65, c66, x67, rs68⟩ ⟨h, hm_M63, hq69⟩
       unfold m_r03_Apply_j5 at h
       refine WC.region fun K127 hK127 => ?_
       obtain ⟨x128, hx128, h⟩ := bnd h
       refine WL.yld (by decide) (Yld.move rfl) ?_
       refine WL.yld (by decide) (Yld.addC rfl rfl hx128) ?_
       refine WL.yld (by decide) (Yld.assign rfl) ?_
       refine WL.done (hK127 _ _ ?_)
       refine QK.thenN ?_
       refine hK59 ⟨q58, M63, A64, n65, c66, x67, rs68, x128⟩ _ _ ?_ (Nat.lt_succ_self _) (Sub.cons rfl (Sub.cons rfl (Sub.cons rfl (Sub.cons rfl (Sub.nil _))))) (Sub.cons rfl (Sub.cons rfl (Sub.cons rfl (Sub.nil _))))
       exact ⟨h, (Ext.trans hm_M48 hm_M63), hq69⟩
     ·
      replace h := of_f hc62 h
      refine WC.condFe rfl (decide_eq_false hc62) ?_
      refine WC.exit (QK.thenE (QK.thenE (QK.blockX ?_)))
      refine QK.thenN ?_
      refine KK.move 150 139 rfl rfl ?_
      refine hK46 ⟨M48, A51, n52, c53, x54, rs55⟩ _ _ ?_ (Sub.cons rfl (Sub.nil _)) (Sub.cons rfl (Sub.cons rfl (Sub.nil _)))
      exact ⟨h, hm_M48, hq56⟩
   ·
    rintro ⟨M37, A40, n41, c42, x43, rs44⟩ ⟨h, hm_M37, hq45⟩
    unfold m_r03_Apply_j3 at h
    refine WC.seqRegion fun K129 hK129 => ?_
    refine WL.yld (by decide) (Yld.move rfl) ?_
    refine WL.yld (by decide) (Yld.assign rfl) ?_
    refine WL.yld (by decide) (Yld.assign rfl) ?_
    refine WL.done (hK129 _ _ ?_)
    refine WC.ret ?_
    injection h with h; subst h
    exact Ret.fn [139] (ResIs.two rfl rfl rfl) rfl hm_M37 rfl (by decide) rfl rfl ⟨A40, n41, c42, rs44, rfl, rfl, hq45⟩

set_option maxRecDepth 10000 in
theorem w_r03_SameRows (M0 : Mem) (A00 : Option Addr) (n00 c00 : Nat) (rs00 : List Hdr) (x00 : List (List (BitVec 8))) (hf00 : SlT M0 A00 n00 c00 rs00) (hq00 : Rels ((RelB (α := BitVec 8)) M0) rs00 x00) (A01 : Option Addr) (n01 c01 : Nat) (rs01 : List Hdr) (x01 : List (List (BitVec 8))) (hf01 : SlT M0 A01 n01 c01 rs01) (hq01 : Rels ((RelB (α := BitVec 8)) M0) rs01 x01) {res : Bool} (h : m_r03_SameRows x00 x01 = some res) :
  Fn Try.prog 21 #[.slice A00 n00 c00, .slice A01 n01 c01] M0 fun r M' es => r = .bool res ∧ es = [] := by
 refine Fn.intro (N := 28) Try.func21 rfl rfl (Nat.le_of_ble_eq_true rfl) fun w0 => ?_
 unfold m_r03_SameRows at h
 refine WC.seqRegion fun K1 hK1 => ?_
 refine WL.yld (by decide) (Yld.assign rfl) ?_
 refine WL.done (hK1 _ _ ?_)
 refine WC.seq fun K2 hK2 => ?_
 refine WC.seqRegion fun K3 hK3 => ?_
 refine WL.yld (by decide) (Yld.move rfl) ?_
 refine WL.yld (by decide) (Yld.lenD (rs := rs00) (xs := x00) (Rels.len hq00) und_35 rfl (RdH.memM (k := 0) rfl hf00)) ?_
 refine WL.yld (by decide) (Yld.move rfl) ?_
 refine WL.yld (by decide) (Yld.lenD (rs := rs01) (xs := x01) (Rels.len hq01) und_35 rfl (RdH.memM (k := 0) rfl hf01)) ?_
 refine WL.yld (by decide) (Yld.neqI rfl rfl) ?_
 refine WL.done (hK3 _ _ ?_)
 by_cases hc4 : (x00.length : Int) = (x01.length : Int)
 ·
  replace h := of_t hc4 h
  refine WC.condFe rfl (bne_eq_false_iff_eq.2 hc4) ?_
  refine WC.skip ?_
  refine QK.thenN (hK2 _ _ ?_)
  refine WC.seqCut (σ := Unit) (fun _ => []) (fun _ => [(0, .mem M0)]) (fun _ => m_r03_SameRows_j0 = some res) (fun K5 hK5 => ?_) ?_
  ·
   skip
   refine WC.seqRegion fun K6 hK6 => ?_
   refine WL.yld (by decide) (Yld.assign rfl) ?_
   refine WL.done (hK6 _ _ ?_)
   refine WC.block ?_
   refine WC.loop (σ := Nat × Int) (fun ⟨q8, x7⟩ => [(0, .slice A00 n00 c00), (1, .slice A01 n01 c01), (5, I64 x7)]) (fun ⟨q8, x7⟩ => [(0, .mem M0)]) (fun ⟨q8, x7⟩ => m_r03_SameRows_l1 x00 x01 q8 x7 = some res) (fun ⟨q8, x7⟩ => q8) ⟨forever, (0 : Int)⟩ ?_ (Sub.cons rfl (Sub.cons rfl (Sub.cons rfl (Sub.nil _)))) (Sub.cons rfl (Sub.nil _)) ?_
   ·
    exact h
   rintro ⟨q8, x7⟩ h K9 hK9
   cases q8 with
   | zero => exact absurd h (by simp [m_r03_SameRows_l1])
   | succ q8 =>
    unfold m_r03_SameRows_l1 at h
    refine WC.seq fun K10 hK10 => ?_
    refine WC.seqRegion fun K11 hK11 => ?_
    refine WL.yld (by decide) (Yld.move rfl) ?_
    refine WL.yld (by decide) (Yld.move rfl) ?_
    refine WL.yld (by decide) (Yld.lenD (rs := rs00) (xs := x00) (Rels.len hq00) und_35 rfl (RdH.memM (k := 0) rfl hf00)) ?_
    refine WL.yld (by decide) (Yld.lss rfl rfl) ?_
    refine WL.done (hK11 _ _ ?_)
    by_cases hc12 : x7 < (x00.length : Int)
    ·
     replace h := of_t hc12 h
     refine WC.condTe rfl (decide_eq_true hc12) ?_
     refine WC.skip ?_
     refine QK.thenN (hK10 _ _ ?_)
     refine WC.seq fun K13 hK13 => ?_
     refine WC.block ?_
     refine WC.seqRegionD (n := 11) [(0, _)] rfl mixed (Sub.cons rfl (Sub.nil _)) fun K14 hK14 => ?_
     obtain ⟨x15, hx15, h⟩ := bnd h
     obtain ⟨x19, hx19, h⟩ := bnd h
     refine WD.take 0 rfl (by kernel_rfl) (by kernel_rfl) (by kernel_rfl) (by decide) (Yld.move rfl) ?_
     refine WD.take 1 rfl (by kernel_rfl) (by kernel_rfl) (by kernel_rfl) (by decide) (Yld.move rfl) ?_
     obtain ⟨r_16, hr17, hq18⟩ := Rels.idx hq00 hx15
     refine WD.take 2 rfl (by kernel_rfl) (by kernel_rfl) (by kernel_rfl) (by decide) (Yld.idxC (xs := rs00) sty_35 rfl rfl (RdH.memM (k := 0) rfl hf00) hr17) ?_
     refine WD.take 3 rfl (by kernel_rfl) (by kernel_rfl) (by kernel_rfl) (by decide) (Yld.loadC0 (xs := rs00) scal_22 rfl (RdH.memM (k := 0) rfl hf00) hr17 rfl) ?_
     refine WD.take 4 rfl (by kernel_rfl) (by kernel_rfl) (by kernel_rfl) (by decide) (Yld.b2sC (xs := x15) und_22 und_5 und_9 rfl (RdH.memM (k := 0) rfl hq18)) ?_
     refine WD.take 5 rfl (by kernel_rfl) (by kernel_rfl) (by kernel_rfl) (by decide) (Yld.move rfl) ?_
     refine WD.take 6 rfl (by kernel_rfl) (by kernel_rfl) (by kernel_rfl) (by decide) (Yld.move rfl) ?_
     obtain ⟨r_20, hr21, hq22⟩ := Rels.idx hq01 hx19
     refine WD.take 7 rfl (by kernel_rfl) (by kernel_rfl) (by kernel_rfl) (by decide) (Yld.idxC (xs := rs01) sty_35 rfl rfl (RdH.memM (k := 0) rfl hf01) hr21) ?_
     refine WD.take 8 rfl (by kernel_rfl) (by kernel_rfl) (by kernel_rfl) (by decide) (Yld.loadC0 (xs := rs01) scal_22 rfl (RdH.memM (k := 0) rfl hf01) hr21 rfl) ?_
     refine WD.take 9 rfl (by kernel_rfl) (by kernel_rfl) (by kernel_rfl) (by decide) (Yld.b2sC (xs := x19) und_22 und_5 und_9 rfl (RdH.memM (k := 0) rfl hq22)) ?_
     refine WD.take 10 rfl (by kernel_rfl) (by kernel_rfl) (by kernel_rfl) (by decide) (Yld.neqStr (a := x15) (b := x19) rfl rfl) ?_
     refine WD.done (by kernel_rfl) (hK14 _ _ ?_)
     by_cases hc23 : x15 = x19
     ·
      replace h := of_t hc23 h
      refine WC.condFe rfl (neq_of_eq hc23) ?_
      refine WC.skip ?_
      refine QK.blockN ?_
      refine QK.thenN (hK13 _ _ ?_)
      refine WC.region fun K24 hK24 => ?_
      obtain ⟨x25, hx25, h⟩ := bnd h
      refine WL.yld (by decide) (Yld.move rfl) ?_
      refine WL.yld (by decide) (Yld.addC rfl rfl hx25) ?_
      refine WL.yld (by decide) (Yld.assign rfl) ?_
      refine WL.done (hK24 _ _ ?_)
      refine QK.thenN ?_
      refine hK9 ⟨q8, x25⟩ _ _ ?_ (Nat.lt_succ_self _) (Sub.cons rfl (Sub.cons rfl (Sub.cons rfl (Sub.nil _)))) (Sub.cons rfl (Sub.nil _))
      exact h
     ·
      replace h := of_f hc23 h
      refine WC.condTe rfl (neq_of_ne hc23) ?_
      refine WC.seqRegion fun K26 hK26 => ?_
      refine WL.yld (by decide) (Yld.assign rfl) ?_
      refine WL.done (hK26 _ _ ?_)
      refine WC.ret (QK.blockR (QK.thenR (QK.thenR (QK.blockR (QK.thenR ?_)))))
      injection h with h; subst h
      exact Ret.fn [] (ResIs.one rfl rfl) rfl (Ext.refl _ _) rfl (by decide) rfl rfl ⟨rfl, rfl⟩
    ·
     replace h := of_f hc12 h
     refine WC.condFe rfl (decide_eq_false hc12) ?_
     refine WC.exit (QK.thenE (QK.thenE (QK.blockX ?_)))
     refine QK.thenN ?_
     refine hK5 () _ _ ?_ (Sub.nil _) (Sub.cons rfl (Sub.nil _))
     exact h
  ·
   rintro _ h
   unfold m_r03_SameRows_j0 at h
   refine WC.seqRegion fun K27 hK27 => ?_
   refine WL.yld (by decide) (Yld.assign rfl) ?_
   refine WL.done (hK27 _ _ ?_)
   refine WC.ret ?_
   injection h with h; subst h
   exact Ret.fn [] (ResIs.one rfl rfl) rfl (Ext.refl _ _) rfl (by decide) rfl rfl ⟨rfl, rfl⟩
 ·
  replace h := of_f hc4 h
  refine WC.condTe rfl (bne_iff_ne.2 hc4) ?_
  refine WC.seqRegion fun K28 hK28 => ?_
  refine WL.yld (by decide) (Yld.assign rfl) ?_
  refine WL.done (hK28 _ _ ?_)
  refine WC.ret (QK.thenR ?_)
  injection h with h; subst h
  exact Ret.fn [] (ResIs.one rfl rfl) rfl (Ext.refl _ _) rfl (by decide) rfl rfl ⟨rfl, rfl⟩

end Go.Proofs.Ytnbcphofimicdaa
