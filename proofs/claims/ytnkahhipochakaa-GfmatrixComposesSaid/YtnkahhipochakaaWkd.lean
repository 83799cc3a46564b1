/-
  Walks (d): what a function's model gives, the function returns. Printed by a program of ours (vcm.py) from the function's operations. Conditions: as each theorem says.
-/
import Derived.Test.YtnkahhipochakaaWkc
import Derived.Test.YtnkahhipochakaaMdd
namespace Go.Proofs.Ytnkahhipochakaa
open Go Go.RowKit
set_option linter.unusedVariables false

theorem nm_16 : (Try.f16.name == "runtime.NumGoroutine") = false := by kernel_rfl
theorem nm_22 : (Try.f22.name == "runtime.NumGoroutine") = false := by kernel_rfl
theorem nm_26 : (Try.f26.name == "runtime.NumGoroutine") = false := by kernel_rfl

set_option maxRecDepth 10000 in
theorem w_law03_given (M0 : Mem) (x00_0 : Int) (x00_1 : Int) (A00_2 : Option Addr) (n00_2 c00_2 : Nat) (x00_2 : List (BitVec 8)) (hf00_2 : SlT M0 A00_2 n00_2 c00_2 x00_2) {res : Int × Int × (List (BitVec 8))} (h : m_law03_given x00_0 x00_1 x00_2 = some res) :
    Fn Try.prog 19 #[.agg ([I64 x00_0, I64 x00_1, .slice A00_2 n00_2 c00_2] : List Value).toArray] M0 fun r M' es => ∃ (A1 : Option Addr) (n1 c1 : Nat), r = .agg ([I64 res.1, I64 res.2.1, .slice A1 n1 c1] : List Value).toArray ∧ es = [] ∧ SlT M' A1 n1 c1 res.2.2 := by
  refine Fn.intro (N := 10) Try.func19 rfl rfl (Nat.le_of_ble_eq_true rfl) fun w0 => ?_
  unfold m_law03_given at h
  refine WC.seqRegion fun K1 hK1 => ?_
  refine WL.eff (by decide) (Eff.box 102 (us := [I64 x00_0, I64 x00_1, .slice A00_2 n00_2 c00_2]) rfl rfl rfl) ?_
  rintro _ _ ⟨g2, rfl, rfl⟩
  refine WL.eff (by decide) (Eff.alloc 103 rfl zr_27) ?_
  rintro _ _ ⟨g3, rfl, rfl⟩
  refine WL.done (hK1 _ _ ?_)
  refine WC.seqRegion fun K4 hK4 => ?_
  refine WL.yld (by decide) (Yld.fieldAddr Try.underlying24 rfl nz_3 rfl rfl) ?_
  refine WL.yld (by decide) (Yld.loadB (k := 102) scal_3 rfl rfl rfl) ?_
  refine WL.yld (by decide) (Yld.fieldAddr Try.underlying24 rfl nz_3 rfl rfl) ?_
  refine WL.yld (by decide) (Yld.loadB (k := 102) scal_3 rfl rfl rfl) ?_
  refine WL.yld (by decide) (Yld.fieldAddr Try.underlying24 rfl nz_22 rfl rfl) ?_
  refine WL.yld (by decide) (Yld.loadB (k := 102) scal_22 rfl rfl rfl) ?_
  refine WL.yld (by decide) (Yld.build rfl (bu_27_0_1_2 x00_0 x00_1 A00_2 n00_2 c00_2)) ?_
  refine WL.eff0 (Eff0.storeBAM 103 agg_27 rfl rfl rfl ⟨rfl, rfl⟩ rfl) ?_
  refine WL.done (hK4 _ _ ?_)
  refine WC.ret ?_
  injection h with h; subst h
  exact Ret.fn [] (ResIs.cellM (k := 103) rfl agg_27 rfl rfl rfl) rfl (Ext.refl _ _) rfl (by decide) rfl rfl ⟨A00_2, n00_2, c00_2, rfl, rfl, hf00_2⟩

set_option maxRecDepth 10000 in
theorem w_law03_same (M0 : Mem) (x00_0 : Int) (x00_1 : Int) (A00_2 : Option Addr) (n00_2 c00_2 : Nat) (x00_2 : List (BitVec 8)) (hf00_2 : SlT M0 A00_2 n00_2 c00_2 x00_2) (x01_0 : Int) (x01_1 : Int) (A01_2 : Option Addr) (n01_2 c01_2 : Nat) (x01_2 : List (BitVec 8)) (hf01_2 : SlT M0 A01_2 n01_2 c01_2 x01_2) {res : Bool} (h : m_law03_same x00_0 x00_1 x00_2 x01_0 x01_1 x01_2 = some res) :
    Fn Try.prog 21 #[.agg ([I64 x00_0, I64 x00_1, .slice A00_2 n00_2 c00_2] : List Value).toArray, .agg ([I64 x01_0, I64 x01_1, .slice A01_2 n01_2 c01_2] : List Value).toArray] M0 fun r M' es => r = .bool res ∧ es = [] := by
  refine Fn.intro (N := 26) Try.func21 rfl rfl (Nat.le_of_ble_eq_true rfl) fun w0 => ?_
  unfold m_law03_same at h
  refine WC.seqRegion fun K1 hK1 => ?_
  refine WL.eff (by decide) (Eff.box 102 (us := [I64 x00_0, I64 x00_1, .slice A00_2 n00_2 c00_2]) rfl rfl rfl) ?_
  rintro _ _ ⟨g2, rfl, rfl⟩
  refine WL.eff (by decide) (Eff.box 103 (us := [I64 x01_0, I64 x01_1, .slice A01_2 n01_2 c01_2]) rfl rfl rfl) ?_
  rintro _ _ ⟨g3, rfl, rfl⟩
  refine WL.yld (by decide) (Yld.assign rfl) ?_
  refine WL.done (hK1 _ _ ?_)
  refine WC.seqRegion fun K4 hK4 => ?_
  by_cases hc5 : x00_0 = x01_0
  · replace h := of_t hc5 h
    by_cases hc6 : x00_1 = x01_1
    · replace h := of_t hc6 h
      refine WL.yld (by decide) (Yld.fieldAddr Try.underlying27 rfl nz_3 rfl rfl) ?_
      refine WL.yld (by decide) (Yld.loadB (k := 102) scal_3 rfl rfl rfl) ?_
      refine WL.yld (by decide) (Yld.fieldAddr Try.underlying24 rfl nz_3 rfl rfl) ?_
      refine WL.yld (by decide) (Yld.loadB (k := 103) scal_3 rfl rfl rfl) ?_
      refine WL.yld (by decide) (Yld.eqlI rfl rfl) ?_
      refine WL.yld (by decide) (Yld.move rfl) ?_
      refine WL.new (v' := .bool true) (congrArg Value.bool (beq_iff_eq.2 hc5)) ?_
      refine WL.yldG (by decide) rfl (Yld.fieldAddr Try.underlying27 rfl nz_3 rfl rfl) ?_
      refine WL.yldG (by decide) rfl (Yld.loadB (k := 102) scal_3 rfl rfl rfl) ?_
      refine WL.yldG (by decide) rfl (Yld.fieldAddr Try.underlying24 rfl nz_3 rfl rfl) ?_
      refine WL.yldG (by decide) rfl (Yld.loadB (k := 103) scal_3 rfl rfl rfl) ?_
      refine WL.yldG (by decide) rfl (Yld.eqlI rfl rfl) ?_
      refine WL.yld (by decide) (Yld.pickT rfl rfl) ?_
      refine WL.yld (by decide) (Yld.move rfl) ?_
      refine WL.new (v' := .bool true) (congrArg Value.bool (beq_iff_eq.2 hc6)) ?_
      refine WL.yldG (by decide) rfl (Yld.fieldAddr Try.underlying27 rfl nz_22 rfl rfl) ?_
      refine WL.yldG (by decide) rfl (Yld.loadB (k := 102) scal_22 rfl rfl rfl) ?_
      refine WL.yldG (by decide) rfl (Yld.b2sC (xs := x00_2) und_22 und_5 und_9 rfl (RdH.memM (k := 0) rfl hf00_2)) ?_
      refine WL.yldG (by decide) rfl (Yld.fieldAddr Try.underlying24 rfl nz_22 rfl rfl) ?_
      refine WL.yldG (by decide) rfl (Yld.loadB (k := 103) scal_22 rfl rfl rfl) ?_
      refine WL.yldG (by decide) rfl (Yld.b2sC (xs := x01_2) und_22 und_5 und_9 rfl (RdH.memM (k := 0) rfl hf01_2)) ?_
      refine WL.yldG (by decide) rfl (Yld.eqlStr (a := x00_2) (b := x01_2) rfl rfl) ?_
      refine WL.yld (by decide) (Yld.pickT rfl rfl) ?_
      refine WL.yld (by decide) (Yld.assign rfl) ?_
      refine WL.done (hK4 _ _ ?_)
      refine WC.ret ?_
      injection h with h; subst h
      exact Ret.fn [] (ResIs.one rfl rfl) rfl (Ext.refl _ _) rfl (by decide) rfl rfl ⟨rfl, rfl⟩
    · replace h := of_f hc6 h
      refine WL.yld (by decide) (Yld.fieldAddr Try.underlying27 rfl nz_3 rfl rfl) ?_
      refine WL.yld (by decide) (Yld.loadB (k := 102) scal_3 rfl rfl rfl) ?_
      refine WL.yld (by decide) (Yld.fieldAddr Try.underlying24 rfl nz_3 rfl rfl) ?_
      refine WL.yld (by decide) (Yld.loadB (k := 103) scal_3 rfl rfl rfl) ?_
      refine WL.yld (by decide) (Yld.eqlI rfl rfl) ?_
      refine WL.yld (by decide) (Yld.move rfl) ?_
      refine WL.new (v' := .bool true) (congrArg Value.bool (beq_iff_eq.2 hc5)) ?_
      refine WL.yldG (by decide) rfl (Yld.fieldAddr Try.underlying27 rfl nz_3 rfl rfl) ?_
      refine WL.yldG (by decide) rfl (Yld.loadB (k := 102) scal_3 rfl rfl rfl) ?_
      refine WL.yldG (by decide) rfl (Yld.fieldAddr Try.underlying24 rfl nz_3 rfl rfl) ?_
      refine WL.yldG (by decide) rfl (Yld.loadB (k := 103) scal_3 rfl rfl rfl) ?_
      refine WL.yldG (by decide) rfl (Yld.eqlI rfl rfl) ?_
      refine WL.yld (by decide) (Yld.pickT rfl rfl) ?_
      refine WL.yld (by decide) (Yld.move rfl) ?_
      refine WL.new (v' := .bool false) (congrArg Value.bool (beq_eq_false_iff_ne.2 hc6)) ?_
      refine WL.skip (by decide) rfl rfl ?_
      refine WL.skip (by decide) rfl rfl ?_
      refine WL.skip (by decide) rfl rfl ?_
      refine WL.skip (by decide) rfl rfl ?_
      refine WL.skip (by decide) rfl rfl ?_
      refine WL.skip (by decide) rfl rfl ?_
      refine WL.skip (by decide) rfl rfl ?_
      refine WL.yld (by decide) (Yld.pickF rfl rfl) ?_
      refine WL.yld (by decide) (Yld.assign rfl) ?_
      refine WL.done (hK4 _ _ ?_)
      refine WC.ret ?_
      injection h with h; subst h
      exact Ret.fn [] (ResIs.one rfl rfl) rfl (Ext.refl _ _) rfl (by decide) rfl rfl ⟨rfl, rfl⟩
  · replace h := of_f hc5 h
    refine WL.yld (by decide) (Yld.fieldAddr Try.underlying27 rfl nz_3 rfl rfl) ?_
    refine WL.yld (by decide) (Yld.loadB (k := 102) scal_3 rfl rfl rfl) ?_
    refine WL.yld (by decide) (Yld.fieldAddr Try.underlying24 rfl nz_3 rfl rfl) ?_
    refine WL.yld (by decide) (Yld.loadB (k := 103) scal_3 rfl rfl rfl) ?_
    refine WL.yld (by decide) (Yld.eqlI rfl rfl) ?_
    refine WL.yld (by decide) (Yld.move rfl) ?_
    refine WL.new (v' := .bool false) (congrArg Value.bool (beq_eq_false_iff_ne.2 hc5)) ?_
    refine WL.skip (by decide) rfl rfl ?_
    refine WL.skip (by decide) rfl rfl ?_
    refine WL.skip (by decide) rfl rfl ?_
    refine WL.skip (by decide) rfl rfl ?_
    refine WL.skip (by decide) rfl rfl ?_
    refine WL.yld (by decide) (Yld.pickF rfl rfl) ?_
    refine WL.yld (by decide) (Yld.move rfl) ?_
    refine WL.skip (by decide) rfl rfl ?_
    refine WL.skip (by decide) rfl rfl ?_
    refine WL.skip (by decide) rfl rfl ?_
    refine WL.skip (by decide) rfl rfl ?_
    refine WL.skip (by decide) rfl rfl ?_
    refine WL.skip (by decide) rfl rfl ?_
    refine WL.skip (by decide) rfl rfl ?_
    refine WL.yld (by decide) (Yld.pickF rfl rfl) ?_
    refine WL.yld (by decide) (Yld.assign rfl) ?_
    refine WL.done (hK4 _ _ ?_)
    refine WC.ret ?_
    injection h with h; subst h
    exact Ret.fn [] (ResIs.one rfl rfl) rfl (Ext.refl _ _) rfl (by decide) rfl rfl ⟨rfl, rfl⟩

set_option maxRecDepth 10000 in
theorem w_law03_equal (M0 : Mem) (x00_0 : Int) (x00_1 : Int) (A00_2 : Option Addr) (n00_2 c00_2 : Nat) (x00_2 : List (BitVec 8)) (hf00_2 : SlT M0 A00_2 n00_2 c00_2 x00_2) (x01_0 : Int) (x01_1 : Int) (A01_2 : Option Addr) (n01_2 c01_2 : Nat) (x01_2 : List (BitVec 8)) (hf01_2 : SlT M0 A01_2 n01_2 c01_2 x01_2) {res : Bool} (h : m_law03_equal x00_0 x00_1 x00_2 x01_0 x01_1 x01_2 = some res) :
    Fn Try.prog 31 #[.agg ([I64 x00_0, I64 x00_1, .slice A00_2 n00_2 c00_2] : List Value).toArray, .agg ([I64 x01_0, I64 x01_1, .slice A01_2 n01_2 c01_2] : List Value).toArray] M0 fun r M' es => r = .bool res ∧ es = [] := by
  refine Fn.intro (N := 26) Try.func31 rfl rfl (Nat.le_of_ble_eq_true rfl) fun w0 => ?_
  unfold m_law03_equal at h
  refine WC.seqRegion fun K1 hK1 => ?_
  refine WL.eff (by decide) (Eff.box 102 (us := [I64 x00_0, I64 x00_1, .slice A00_2 n00_2 c00_2]) rfl rfl rfl) ?_
  rintro _ _ ⟨g2, rfl, rfl⟩
  refine WL.eff (by decide) (Eff.box 103 (us := [I64 x01_0, I64 x01_1, .slice A01_2 n01_2 c01_2]) rfl rfl rfl) ?_
  rintro _ _ ⟨g3, rfl, rfl⟩
  refine WL.yld (by decide) (Yld.assign rfl) ?_
  refine WL.done (hK1 _ _ ?_)
  refine WC.seqRegion fun K4 hK4 => ?_
  by_cases hc5 : x00_0 = x01_0
  · replace h := of_t hc5 h
    by_cases hc6 : x00_1 = x01_1
    · replace h := of_t hc6 h
      refine WL.yld (by decide) (Yld.fieldAddr Try.underlying27 rfl nz_3 rfl rfl) ?_
      refine WL.yld (by decide) (Yld.loadB (k := 102) scal_3 rfl rfl rfl) ?_
      refine WL.yld (by decide) (Yld.fieldAddr Try.underlying27 rfl nz_3 rfl rfl) ?_
      refine WL.yld (by decide) (Yld.loadB (k := 103) scal_3 rfl rfl rfl) ?_
      refine WL.yld (by decide) (Yld.eqlI rfl rfl) ?_
      refine WL.yld (by decide) (Yld.move rfl) ?_
      refine WL.new (v' := .bool true) (congrArg Value.bool (beq_iff_eq.2 hc5)) ?_
      refine WL.yldG (by decide) rfl (Yld.fieldAddr Try.underlying27 rfl nz_3 rfl rfl) ?_
      refine WL.yldG (by decide) rfl (Yld.loadB (k := 102) scal_3 rfl rfl rfl) ?_
      refine WL.yldG (by decide) rfl (Yld.fieldAddr Try.underlying27 rfl nz_3 rfl rfl) ?_
      refine WL.yldG (by decide) rfl (Yld.loadB (k := 103) scal_3 rfl rfl rfl) ?_
      refine WL.yldG (by decide) rfl (Yld.eqlI rfl rfl) ?_
      refine WL.yld (by decide) (Yld.pickT rfl rfl) ?_
      refine WL.yld (by decide) (Yld.move rfl) ?_
      refine WL.new (v' := .bool true) (congrArg Value.bool (beq_iff_eq.2 hc6)) ?_
      refine WL.yldG (by decide) rfl (Yld.fieldAddr Try.underlying27 rfl nz_22 rfl rfl) ?_
      refine WL.yldG (by decide) rfl (Yld.loadB (k := 102) scal_22 rfl rfl rfl) ?_
      refine WL.yldG (by decide) rfl (Yld.b2sC (xs := x00_2) und_22 und_5 und_9 rfl (RdH.memM (k := 0) rfl hf00_2)) ?_
      refine WL.yldG (by decide) rfl (Yld.fieldAddr Try.underlying27 rfl nz_22 rfl rfl) ?_
      refine WL.yldG (by decide) rfl (Yld.loadB (k := 103) scal_22 rfl rfl rfl) ?_
      refine WL.yldG (by decide) rfl (Yld.b2sC (xs := x01_2) und_22 und_5 und_9 rfl (RdH.memM (k := 0) rfl hf01_2)) ?_
      refine WL.yldG (by decide) rfl (Yld.eqlStr (a := x00_2) (b := x01_2) rfl rfl) ?_
      refine WL.yld (by decide) (Yld.pickT rfl rfl) ?_
      refine WL.yld (by decide) (Yld.assign rfl) ?_
      refine WL.done (hK4 _ _ ?_)
      refine WC.ret ?_
      injection h with h; subst h
      exact Ret.fn [] (ResIs.one rfl rfl) rfl (Ext.refl _ _) rfl (by decide) rfl rfl ⟨rfl, rfl⟩
    · replace h := of_f hc6 h
      refine WL.yld (by decide) (Yld.fieldAddr Try.underlying27 rfl nz_3 rfl rfl) ?_
      refine WL.yld (by decide) (Yld.loadB (k := 102) scal_3 rfl rfl rfl) ?_
      refine WL.yld (by decide) (Yld.fieldAddr Try.underlying27 rfl nz_3 rfl rfl) ?_
      refine WL.yld (by decide) (Yld.loadB (k := 103) scal_3 rfl rfl rfl) ?_
      refine WL.yld (by decide) (Yld.eqlI rfl rfl) ?_
      refine WL.yld (by decide) (Yld.move rfl) ?_
      refine WL.new (v' := .bool true) (congrArg Value.bool (beq_iff_eq.2 hc5)) ?_
      refine WL.yldG (by decide) rfl (Yld.fieldAddr Try.underlying27 rfl nz_3 rfl rfl) ?_
      refine WL.yldG (by decide) rfl (Yld.loadB (k := 102) scal_3 rfl rfl rfl) ?_
      refine WL.yldG (by decide) rfl (Yld.fieldAddr Try.underlying27 rfl nz_3 rfl rfl) ?_
      refine WL.yldG (by decide) rfl (Yld.loadB (k := 103) scal_3 rfl rfl rfl) ?_
      refine WL.yldG (by decide) rfl (Yld.eqlI rfl rfl) ?_
      refine WL.yld (by decide) (Yld.pickT rfl rfl) ?_
      refine WL.yld (by decide) (Yld.move rfl) ?_
      refine WL.new (v' := .bool false) (congrArg Value.bool (beq_eq_false_iff_ne.2 hc6)) ?_
      refine WL.skip (by decide) rfl rfl ?_
      refine WL.skip (by decide) rfl rfl ?_
      refine WL.skip (by decide) rfl rfl ?_
      refine WL.skip (by decide) rfl rfl ?_
      refine WL.skip (by decide) rfl rfl ?_
      refine WL.skip (by decide) rfl rfl ?_
      refine WL.skip (by decide) rfl rfl ?_
      refine WL.yld (by decide) (Yld.pickF rfl rfl) ?_
      refine WL.yld (by decide) (Yld.assign rfl) ?_
      refine WL.done (hK4 _ _ ?_)
      refine WC.ret ?_
      injection h with h; subst h
      exact Ret.fn [] (ResIs.one rfl rfl) rfl (Ext.refl _ _) rfl (by decide) rfl rfl ⟨rfl, rfl⟩
  · replace h := of_f hc5 h
    refine WL.yld (by decide) (Yld.fieldAddr Try.underlying27 rfl nz_3 rfl rfl) ?_
    refine WL.yld (by decide) (Yld.loadB (k := 102) scal_3 rfl rfl rfl) ?_
    refine WL.yld (by decide) (Yld.fieldAddr Try.underlying27 rfl nz_3 rfl rfl) ?_
    refine WL.yld (by decide) (Yld.loadB (k := 103) scal_3 rfl rfl rfl) ?_
    refine WL.yld (by decide) (Yld.eqlI rfl rfl) ?_
    refine WL.yld (by decide) (Yld.move rfl) ?_
    refine WL.new (v' := .bool false) (congrArg Value.bool (beq_eq_false_iff_ne.2 hc5)) ?_
    refine WL.skip (by decide) rfl rfl ?_
    refine WL.skip (by decide) rfl rfl ?_
    refine WL.skip (by decide) rfl rfl ?_
    refine WL.skip (by decide) rfl rfl ?_
    refine WL.skip (by decide) rfl rfl ?_
    refine WL.yld (by decide) (Yld.pickF rfl rfl) ?_
    refine WL.yld (by decide) (Yld.move rfl) ?_
    refine WL.skip (by decide) rfl rfl ?_
    refine WL.skip (by decide) rfl rfl ?_
    refine WL.skip (by decide) rfl rfl ?_
    refine WL.skip (by decide) rfl rfl ?_
    refine WL.skip (by decide) rfl rfl ?_
    refine WL.skip (by decide) rfl rfl ?_
    refine WL.skip (by decide) rfl rfl ?_
    refine WL.yld (by decide) (Yld.pickF rfl rfl) ?_
    refine WL.yld (by decide) (Yld.assign rfl) ?_
    refine WL.done (hK4 _ _ ?_)
    refine WC.ret ?_
    injection h with h; subst h
    exact Ret.fn [] (ResIs.one rfl rfl) rfl (Ext.refl _ _) rfl (by decide) rfl rfl ⟨rfl, rfl⟩

set_option maxRecDepth 10000 in
theorem w_law03_made (M0 : Mem) (x00 : Int) (x01 : Int) (A02 : Option Addr) (n02 c02 : Nat) (x02 : List (BitVec 8)) (hf02 : SlT M0 A02 n02 c02 x02) {res : Int × Int × (List (BitVec 8))} (h : m_law03_made x00 x01 x02 = some res) :
    Fn Try.prog 24 #[I64 x00, I64 x01, .slice A02 n02 c02] M0 fun r M' es => ∃ (A1 : Option Addr) (n1 c1 : Nat), r = .agg ([I64 res.1, I64 res.2.1, .slice A1 n1 c1] : List Value).toArray ∧ es = [.own 5 (Lay.sz (BitVec 8)) A1 n1 c1 (cel res.2.2)] := by
  refine Fn.intro (N := 43) Try.func24 rfl rfl (Nat.le_of_ble_eq_true rfl) fun w0 => ?_
  unfold m_law03_made at h
  refine WC.seqRegion fun K1 hK1 => ?_
  refine WL.eff (by decide) (Eff.alloc 102 rfl zr_27) ?_
  rintro _ _ ⟨g2, rfl, rfl⟩
  refine WL.done (hK1 _ _ ?_)
  refine WC.seqRegion fun K3 hK3 => ?_
  obtain ⟨x4, hx4, h⟩ := bnd h
  obtain ⟨x5, hx5, h⟩ := bnd h
  obtain ⟨x6, hx6, h⟩ := bnd h
  obtain ⟨x7, hx7, h⟩ := bnd h
  refine WL.yld (by decide) (Yld.move rfl) ?_
  refine WL.yld (by decide) (Yld.andC rfl rfl) ?_
  refine WL.yld (by decide) (Yld.remC rfl rfl hx4) ?_
  refine WL.yld (by decide) (Yld.addC rfl rfl hx5) ?_
  refine WL.yld (by decide) (Yld.move rfl) ?_
  refine WL.yld (by decide) (Yld.andC rfl rfl) ?_
  refine WL.yld (by decide) (Yld.remC rfl rfl hx6) ?_
  refine WL.yld (by decide) (Yld.addC rfl rfl hx7) ?_
  refine WL.yld (by decide) (Yld.build rfl (bu_27_0_1 x5 x7)) ?_
  refine WL.eff (by decide) (Eff.alloc 108 rfl zr_27) ?_
  rintro _ _ ⟨g8, rfl, rfl⟩
  refine WL.eff0 (Eff0.storeBAM 108 agg_27 rfl rfl rfl ⟨rfl, rfl⟩ rfl) ?_
  refine WL.done (hK3 _ _ ?_)
  refine WC.seqCut (σ := (Option Addr) × Nat × Nat × (List (BitVec 8))) (fun ⟨A11, n12, c13, x14⟩ => [(6, .pointer (some ⟨g2, 0, none⟩)), (7, .pointer (some ⟨g8, 0, none⟩))]) (fun ⟨A11, n12, c13, x14⟩ => [(0, .mem M0), (102, .blk g2 27 [I64 (0 : Int), I64 (0 : Int), .slice none 0 0]), (108, .blk g8 27 [I64 x5, I64 x7, .slice A11 n12 c13]), (110, .own 5 (Lay.sz (BitVec 8)) A11 n12 c13 (cel x14))]) (fun ⟨A11, n12, c13, x14⟩ => m_law03_made_j0 x5 x7 x14 = some res) (fun K15 hK15 => ?_) ?_
  · skip
    refine WC.seqRegion fun K16 hK16 => ?_
    refine WL.yld (by decide) (Yld.assign rfl) ?_
    refine WL.done (hK16 _ _ ?_)
    refine WC.block ?_
    refine WC.nilOwn 118 5 (Lay.sz (BitVec 8)) none ?_
    refine WC.loop (σ := Nat × (Option Addr) × Nat × Nat × (List (BitVec 8)) × Int) (fun ⟨q24, A19, n20, c21, x22, x23⟩ => [(2, .slice A02 n02 c02), (6, .pointer (some ⟨g2, 0, none⟩)), (7, .pointer (some ⟨g8, 0, none⟩)), (8, I64 x23)]) (fun ⟨q24, A19, n20, c21, x22, x23⟩ => [(0, .mem M0), (102, .blk g2 27 [I64 (0 : Int), I64 (0 : Int), .slice none 0 0]), (108, .blk g8 27 [I64 x5, I64 x7, .slice A19 n20 c21]), (118, .own 5 (Lay.sz (BitVec 8)) A19 n20 c21 (cel x22))]) (fun ⟨q24, A19, n20, c21, x22, x23⟩ => m_law03_made_l1 x02 x5 x7 q24 x22 x23 = some res) (fun ⟨q24, A19, n20, c21, x22, x23⟩ => q24) ⟨forever, none, 0, 0, ([] : List (BitVec 8)), (0 : Int)⟩ ?_ (Sub.cons rfl (Sub.cons rfl (Sub.cons rfl (Sub.cons rfl (Sub.nil _))))) (Sub.cons rfl (Sub.cons rfl (Sub.cons rfl (Sub.cons rfl (Sub.nil _))))) ?_
    · exact h
    rintro ⟨q24, A19, n20, c21, x22, x23⟩ h K25 hK25
    cases q24 with
    | zero => exact absurd h (by simp [m_law03_made_l1])
    | succ q24 =>
      unfold m_law03_made_l1 at h
      refine WC.seq fun K26 hK26 => ?_
      refine WC.seqRegion fun K27 hK27 => ?_
      obtain ⟨x28, hx28, h⟩ := bnd h
      refine WL.yld (by decide) (Yld.move rfl) ?_
      refine WL.yld (by decide) (Yld.fieldAddr Try.underlying27 rfl nz_3 rfl rfl) ?_
      refine WL.yld (by decide) (Yld.loadB (k := 108) scal_3 rfl rfl rfl) ?_
      refine WL.yld (by decide) (Yld.fieldAddr Try.underlying27 rfl nz_3 rfl rfl) ?_
      refine WL.yld (by decide) (Yld.loadB (k := 108) scal_3 rfl rfl rfl) ?_
      refine WL.yld (by decide) (Yld.mulC rfl rfl hx28) ?_
      refine WL.yld (by decide) (Yld.lss rfl rfl) ?_
      refine WL.done (hK27 _ _ ?_)
      by_cases hc29 : x23 < x28
      · replace h := of_t hc29 h
        refine WC.condTe rfl (decide_eq_true hc29) ?_
        refine WC.skip ?_
        refine QK.thenN (hK26 _ _ ?_)
        refine WC.seq fun K30 hK30 => ?_
        refine WC.block ?_
        refine WC.seqRegion fun K31 hK31 => ?_
        refine WL.yld (by decide) (Yld.assign (v := U8 0#8) rfl) ?_
        refine WL.done (hK31 _ _ ?_)
        refine WC.seq fun K32 hK32 => ?_
        refine WC.seqRegion fun K33 hK33 => ?_
        refine WL.yld (by decide) (Yld.move rfl) ?_
        refine WL.yld (by decide) (Yld.move rfl) ?_
        refine WL.yld (by decide) (Yld.lenC (xs := x02) und_22 rfl (RdH.memM (k := 0) rfl hf02)) ?_
        refine WL.yld (by decide) (Yld.lss rfl rfl) ?_
        refine WL.done (hK33 _ _ ?_)
        by_cases hc34 : x23 < (x02.length : Int)
        · replace h := of_t hc34 h
          refine WC.condTe rfl (decide_eq_true hc34) ?_
          refine WC.region fun K35 hK35 => ?_
          obtain ⟨x36, hx36, h⟩ := bnd h
          refine WL.yld (by decide) (Yld.move rfl) ?_
          refine WL.yld (by decide) (Yld.move rfl) ?_
          refine WL.yld (by decide) (Yld.idxC (xs := x02) sty_22 rfl rfl (RdH.memM (k := 0) rfl hf02) hx36) ?_
          refine WL.yld (by decide) (Yld.loadC0 (xs := x02) scal_5 rfl (RdH.memM (k := 0) rfl hf02) hx36 rfl) ?_
          refine WL.yld (by decide) (Yld.assign rfl) ?_
          refine WL.done (hK35 _ _ ?_)
          refine QK.thenN (hK32 _ _ ?_)
          refine WC.region fun K37 hK37 => ?_
          obtain ⟨x39, hx39, h⟩ := bnd h
          refine WL.yld (by decide) (Yld.fieldAddr Try.underlying27 rfl nz_22 rfl rfl) ?_
          refine WL.yld (by decide) (Yld.loadB (k := 108) scal_22 rfl rfl rfl) ?_
          refine WL.yld (by decide) (Yld.move rfl) ?_
          refine WL.eff (by decide) (Eff.buildC 138 ([x36] : List (BitVec 8)) sty_22 rfl rfl rfl rfl rfl (by decide)) ?_
          rintro _ _ ⟨g38, rfl, rfl⟩
          refine WL.eff (by decide) (Eff.appendC 118 (xs := x22) (ys := ([x36] : List (BitVec 8))) sty_22 rfl rfl rfl (RdH.own (k := 138) rfl) hx39) ?_
          rintro _ _ ⟨A40, c41, rfl, rfl⟩
          refine WL.yld (by decide) (Yld.fieldAddr Try.underlying27 rfl nz_22 rfl rfl) ?_
          refine WL.eff0 (Eff0.storeB 108 siz_22 rfl rfl rfl rfl (Nat.le_of_ble_eq_true rfl)) ?_
          refine WL.done (hK37 _ _ ?_)
          refine QK.blockN ?_
          refine QK.thenN (hK30 _ _ ?_)
          refine WC.region fun K42 hK42 => ?_
          obtain ⟨x43, hx43, h⟩ := bnd h
          refine WL.yld (by decide) (Yld.move rfl) ?_
          refine WL.yld (by decide) (Yld.addC rfl rfl hx43) ?_
          refine WL.yld (by decide) (Yld.assign rfl) ?_
          refine WL.done (hK42 _ _ ?_)
          refine QK.thenN ?_
          refine hK25 ⟨q24, A40, x39.length, c41, x39, x43⟩ _ _ ?_ (Nat.lt_succ_self _) (Sub.cons rfl (Sub.cons rfl (Sub.cons rfl (Sub.cons rfl (Sub.nil _))))) (Sub.cons rfl (Sub.cons rfl (Sub.cons rfl (Sub.cons rfl (Sub.nil _)))))
          exact h
        · replace h := of_f hc34 h
          refine WC.condFe rfl (decide_eq_false hc34) ?_
          refine WC.skip ?_
          refine QK.thenN (hK32 _ _ ?_)
          refine WC.region fun K44 hK44 => ?_
          obtain ⟨x46, hx46, h⟩ := bnd h
          refine WL.yld (by decide) (Yld.fieldAddr Try.underlying27 rfl nz_22 rfl rfl) ?_
          refine WL.yld (by decide) (Yld.loadB (k := 108) scal_22 rfl rfl rfl) ?_
          refine WL.yld (by decide) (Yld.move rfl) ?_
          refine WL.eff (by decide) (Eff.buildC 145 ([0#8] : List (BitVec 8)) sty_22 rfl rfl rfl rfl rfl (by decide)) ?_
          rintro _ _ ⟨g45, rfl, rfl⟩
          refine WL.eff (by decide) (Eff.appendC 118 (xs := x22) (ys := ([0#8] : List (BitVec 8))) sty_22 rfl rfl rfl (RdH.own (k := 145) rfl) hx46) ?_
          rintro _ _ ⟨A47, c48, rfl, rfl⟩
          refine WL.yld (by decide) (Yld.fieldAddr Try.underlying27 rfl nz_22 rfl rfl) ?_
          refine WL.eff0 (Eff0.storeB 108 siz_22 rfl rfl rfl rfl (Nat.le_of_ble_eq_true rfl)) ?_
          refine WL.done (hK44 _ _ ?_)
          refine QK.blockN ?_
          refine QK.thenN (hK30 _ _ ?_)
          refine WC.region fun K49 hK49 => ?_
          obtain ⟨x50, hx50, h⟩ := bnd h
          refine WL.yld (by decide) (Yld.move rfl) ?_
          refine WL.yld (by decide) (Yld.addC rfl rfl hx50) ?_
          refine WL.yld (by decide) (Yld.assign rfl) ?_
          refine WL.done (hK49 _ _ ?_)
          refine QK.thenN ?_
          refine hK25 ⟨q24, A47, x46.length, c48, x46, x50⟩ _ _ ?_ (Nat.lt_succ_self _) (Sub.cons rfl (Sub.cons rfl (Sub.cons rfl (Sub.cons rfl (Sub.nil _))))) (Sub.cons rfl (Sub.cons rfl (Sub.cons rfl (Sub.cons rfl (Sub.nil _)))))
          exact h
      · replace h := of_f hc29 h
        refine WC.condFe rfl (decide_eq_false hc29) ?_
        refine WC.exit (QK.thenE (QK.thenE (QK.blockX ?_)))
        refine QK.thenN ?_
        refine KK.move 118 110 rfl rfl ?_
        refine hK15 ⟨A19, n20, c21, x22⟩ _ _ ?_ (Sub.cons rfl (Sub.cons rfl (Sub.nil _))) (Sub.cons rfl (Sub.cons rfl (Sub.cons rfl (Sub.cons rfl (Sub.nil _)))))
        exact h
  · rintro ⟨A11, n12, c13, x14⟩ h
    unfold m_law03_made_j0 at h
    refine WC.seqRegion fun K51 hK51 => ?_
    refine WL.yld (by decide) (Yld.loadBM (k := 108) agg_27 rfl rfl rfl) ?_
    refine WL.eff0 (Eff0.storeBAM 102 agg_27 rfl rfl rfl ⟨rfl, rfl⟩ rfl) ?_
    refine WL.done (hK51 _ _ ?_)
    refine WC.ret ?_
    injection h with h; subst h
    exact Ret.fn [110] (ResIs.cellM (k := 102) rfl agg_27 rfl rfl rfl) rfl (Ext.refl _ _) rfl (by decide) rfl rfl ⟨A11, n12, c13, rfl, rfl⟩

set_option maxRecDepth 10000 in
theorem w_law03_awake (M0 : Mem)  {res : Bool} (h : m_law03_awake = some res) :
    Fn Try.prog 13 #[] M0 fun r M' es => r = .bool res ∧ es = [] := by
  refine Fn.intro (N := 57) Try.func13 rfl rfl (Nat.le_of_ble_eq_true rfl) fun w0 => ?_
  unfold m_law03_awake at h
  refine WC.seqRegion fun K1 hK1 => ?_
  refine WL.yld (by decide) (Yld.assign rfl) ?_
  refine WL.done (hK1 _ _ ?_)
  refine WC.seqRegion fun K2 hK2 => ?_
  obtain ⟨x3, hx3, h⟩ := bnd h
  refine WL.eff (by decide) (Eff.callS 107 rfl Try.func16 nm_16 rfl rfl (fun w hb hh => w_gfmatrix_Vandermonde (Mem.snap w) (3 : Int) (2 : Int) hx3)) ?_
  rintro _ _ ⟨_, ⟨A8, n9, c10, rfl, rfl⟩, rfl⟩
  refine WL.yld (by decide) (Yld.move rfl) ?_
  refine WL.yld (by decide) (Yld.extract rfl rfl) ?_
  refine WL.yld (by decide) (Yld.extract rfl rfl) ?_
  refine WL.eff (by decide) (Eff.alloc 111 rfl zr_27) ?_
  rintro _ _ ⟨g11, rfl, rfl⟩
  refine WL.eff0 (Eff0.storeBAM 111 agg_27 rfl rfl rfl ⟨rfl, rfl⟩ rfl) ?_
  refine WL.yld (by decide) (Yld.assign rfl) ?_
  refine WL.done (hK2 _ _ ?_)
  refine WC.seqRegion fun K12 hK12 => ?_
  obtain ⟨x14, hx14, h⟩ := bnd h
  refine WL.eff (by decide) (Eff.buildC 113 ([1#8, 1#8, 1#8, 1#8] : List (BitVec 8)) sty_22 rfl rfl rfl rfl rfl (by decide)) ?_
  rintro _ _ ⟨g13, rfl, rfl⟩
  refine WL.yld (by decide) (Yld.build rfl (bu_27_0_1_2 (2 : Int) (2 : Int) (some ⟨g13, 0, none⟩) (([1#8, 1#8, 1#8, 1#8] : List (BitVec 8)).length) (([1#8, 1#8, 1#8, 1#8] : List (BitVec 8)).length))) ?_
  refine WL.eff (by decide) (Eff.callS 118 rfl Try.func22 nm_22 rfl rfl (fun w hb hh => w_gfmatrix_Invert (Mem.snap w) (2 : Int) (2 : Int) (some ⟨g13, 0, none⟩) (([1#8, 1#8, 1#8, 1#8] : List (BitVec 8)).length) (([1#8, 1#8, 1#8, 1#8] : List (BitVec 8)).length) _ (RdH.sn (RdH.own (k := 113) rfl) w hb hh) hx14)) ?_
  rintro _ _ ⟨_, ⟨A19, n20, c21, rfl, rfl⟩, rfl⟩
  refine WL.yld (by decide) (Yld.move rfl) ?_
  refine WL.yld (by decide) (Yld.extract rfl rfl) ?_
  refine WL.yld (by decide) (Yld.extract rfl rfl) ?_
  refine WL.eff (by decide) (Eff.alloc 122 rfl zr_27) ?_
  rintro _ _ ⟨g22, rfl, rfl⟩
  refine WL.eff0 (Eff0.storeBAM 122 agg_27 rfl rfl rfl ⟨rfl, rfl⟩ rfl) ?_
  refine WL.yld (by decide) (Yld.assign rfl) ?_
  refine WL.done (hK12 _ _ ?_)
  refine WC.seqRegion fun K23 hK23 => ?_
  obtain ⟨x30, hx30, h⟩ := bnd h
  refine WL.eff (by decide) (Eff.buildC 124 ([2#8] : List (BitVec 8)) sty_22 rfl rfl rfl rfl rfl (by decide)) ?_
  rintro _ _ ⟨g24, rfl, rfl⟩
  refine WL.yld (by decide) (Yld.build rfl (bu_27_0_1_2 (1 : Int) (1 : Int) (some ⟨g24, 0, none⟩) (([2#8] : List (BitVec 8)).length) (([2#8] : List (BitVec 8)).length))) ?_
  refine WL.eff (by decide) (Eff.buildC 125 ([1#8, 128#8] : List (BitVec 8)) sty_22 rfl rfl rfl rfl rfl (by decide)) ?_
  rintro _ _ ⟨g25, rfl, rfl⟩
  refine WL.freeze 125 rfl rfl rfl fun M27 hm_M27 hf28 => ?_
  have hq29 : Rels ((RelB (α := BitVec 8)) M27) ([(⟨(some ⟨g25, 0, none⟩), ([1#8, 128#8] : List (BitVec 8)).length, ([1#8, 128#8] : List (BitVec 8)).length⟩ : Hdr)] : List Hdr) ([([1#8, 128#8] : List (BitVec 8))] : List (List (BitVec 8))) := (Rels.cons hf28 Rels.nil)
  refine WL.eff (by decide) (Eff.buildC 126 ([(⟨(some ⟨g25, 0, none⟩), ([1#8, 128#8] : List (BitVec 8)).length, ([1#8, 128#8] : List (BitVec 8)).length⟩ : Hdr)] : List Hdr) sty_44 rfl rfl rfl rfl rfl (by decide)) ?_
  rintro _ _ ⟨g26, rfl, rfl⟩
  refine WL.freeze 124 rfl rfl rfl fun M42 hm_M42 hf43 => ?_
  refine WL.freeze 126 rfl rfl rfl fun M44 hm_M44 hf45 => ?_
  refine WL.eff (by decide) (Eff.callM 136 rfl Try.func26 nm_26 rfl rfl rfl (w_gfmatrix_Apply _ (1 : Int) (1 : Int) (some ⟨g24, 0, none⟩) (([2#8] : List (BitVec 8)).length) (([2#8] : List (BitVec 8)).length) _ (SlRc.lift hf43 hm_M44) (some ⟨g26, 0, none⟩) (([(⟨(some ⟨g25, 0, none⟩), ([1#8, 128#8] : List (BitVec 8)).length, ([1#8, 128#8] : List (BitVec 8)).length⟩ : Hdr)] : List Hdr).length) (([(⟨(some ⟨g25, 0, none⟩), ([1#8, 128#8] : List (BitVec 8)).length, ([1#8, 128#8] : List (BitVec 8)).length⟩ : Hdr)] : List Hdr).length) ([(⟨(some ⟨g25, 0, none⟩), ([1#8, 128#8] : List (BitVec 8)).length, ([1#8, 128#8] : List (BitVec 8)).length⟩ : Hdr)] : List Hdr) _ hf45 (Rels.lift (Rels.lift hq29 hm_M42) hm_M44) hx30)) ?_
  rintro _ _ ⟨M46, _, ⟨A47, n48, c49, rs50, rfl, rfl, hq51⟩, hm_M46, rfl⟩
  refine WL.yld (by decide) (Yld.move rfl) ?_
  refine WL.yld (by decide) (Yld.extract rfl rfl) ?_
  refine WL.yld (by decide) (Yld.extract rfl rfl) ?_
  refine WL.yld (by decide) (Yld.assign rfl) ?_
  refine WL.yld (by decide) (Yld.assign rfl) ?_
  refine WL.done (hK23 _ _ ?_)
  refine WC.seqRegionD (n := 33) [(0, _), (107, _), (111, _), (113, _), (118, _), (122, _), (136, _)] rfl mixed (Sub.cons rfl (Sub.cons rfl (Sub.cons rfl (Sub.cons rfl (Sub.cons rfl (Sub.cons rfl (Sub.cons rfl (Sub.nil _)))))))) fun K52 hK52 => ?_
  by_cases hc53 : x3.2.2.2 = (0 : Int)
  · replace h := of_t hc53 h
    by_cases hc55 : x3.2.2.1 = ([1#8, 0#8, 1#8, 1#8, 1#8, 2#8] : List (BitVec 8))
    · replace h := of_t hc55 h
      by_cases hc56 : x14.2.2.2 = (14 : Int)
      · replace h := of_t hc56 h
        by_cases hc57 : x30.2 = (0 : Int)
        · replace h := of_t hc57 h
          by_cases hc58 : (x30.1.length : Int) = (1 : Int)
          · replace h := of_t hc58 h
            obtain ⟨x59, hx59, h⟩ := bnd h
            refine WD.take 0 rfl (by kernel_rfl) (by kernel_rfl) (by kernel_rfl) (by decide) (Yld.move rfl) ?_
            refine WD.take 1 rfl (by kernel_rfl) (by kernel_rfl) (by kernel_rfl) (by decide) (Yld.eqlI rfl rfl) ?_
            refine WD.take 2 rfl (by kernel_rfl) (by kernel_rfl) (by kernel_rfl) (by decide) (Yld.move rfl) ?_
            refine WD.new (v' := .bool true) (congrArg Value.bool (beq_iff_eq.2 hc53)) ?_
            refine WD.takeG 3 rfl (by kernel_rfl) (by kernel_rfl) (by kernel_rfl) (by decide) rfl (Yld.fieldAddr Try.underlying27 rfl nz_22 rfl rfl) ?_
            refine WD.takeG 4 rfl (by kernel_rfl) (by kernel_rfl) (by kernel_rfl) (by decide) rfl (Yld.loadB (k := 111) scal_22 rfl rfl rfl) ?_
            refine WD.takeG 5 rfl (by kernel_rfl) (by kernel_rfl) (by kernel_rfl) (by decide) rfl (Yld.b2sC (xs := x3.2.2.1) und_22 und_5 und_9 rfl (RdH.own (k := 107) rfl)) ?_
            refine WD.one 6 (by kernel_rfl) ?_
            refine WS.effG rfl (by decide) rfl (Eff.buildC 154 ([1#8, 0#8, 1#8, 1#8, 1#8, 2#8] : List (BitVec 8)) sty_22 rfl rfl rfl rfl rfl (by decide)) ?_
            rintro _ _ ⟨g54, rfl, rfl⟩
            refine ⟨(Sub.cons rfl (Sub.cons rfl (Sub.cons rfl (Sub.cons rfl (Sub.cons rfl (Sub.cons rfl (Sub.cons rfl (Sub.nil _)))))))), ?_⟩
            refine WD.one 7 (by kernel_rfl) ?_
            refine WS.yldG rfl (by decide) rfl (Yld.b2sC (xs := ([1#8, 0#8, 1#8, 1#8, 1#8, 2#8] : List (BitVec 8))) und_22 und_5 und_9 rfl (RdH.own (k := 154) rfl)) ?_
            refine WD.takeG 8 rfl (by kernel_rfl) (by kernel_rfl) (by kernel_rfl) (by decide) rfl (Yld.eqlStr (a := x3.2.2.1) (b := ([1#8, 0#8, 1#8, 1#8, 1#8, 2#8] : List (BitVec 8))) rfl rfl) ?_
            refine WD.take 9 rfl (by kernel_rfl) (by kernel_rfl) (by kernel_rfl) (by decide) (Yld.pickT rfl rfl) ?_
            refine WD.take 10 rfl (by kernel_rfl) (by kernel_rfl) (by kernel_rfl) (by decide) (Yld.move rfl) ?_
            refine WD.new (v' := .bool true) (congrArg Value.bool (beq_iff_eq.2 hc55)) ?_
            refine WD.takeG 11 rfl (by kernel_rfl) (by kernel_rfl) (by kernel_rfl) (by decide) rfl (Yld.move rfl) ?_
            refine WD.takeG 12 rfl (by kernel_rfl) (by kernel_rfl) (by kernel_rfl) (by decide) rfl (Yld.eqlI rfl rfl) ?_
            refine WD.take 13 rfl (by kernel_rfl) (by kernel_rfl) (by kernel_rfl) (by decide) (Yld.pickT rfl rfl) ?_
            refine WD.take 14 rfl (by kernel_rfl) (by kernel_rfl) (by kernel_rfl) (by decide) (Yld.move rfl) ?_
            refine WD.new (v' := .bool true) (congrArg Value.bool (beq_iff_eq.2 hc56)) ?_
            refine WD.takeG 15 rfl (by kernel_rfl) (by kernel_rfl) (by kernel_rfl) (by decide) rfl (Yld.move rfl) ?_
            refine WD.takeG 16 rfl (by kernel_rfl) (by kernel_rfl) (by kernel_rfl) (by decide) rfl (Yld.eqlI rfl rfl) ?_
            refine WD.take 17 rfl (by kernel_rfl) (by kernel_rfl) (by kernel_rfl) (by decide) (Yld.pickT rfl rfl) ?_
            refine WD.take 18 rfl (by kernel_rfl) (by kernel_rfl) (by kernel_rfl) (by decide) (Yld.move rfl) ?_
            refine WD.new (v' := .bool true) (congrArg Value.bool (beq_iff_eq.2 hc57)) ?_
            refine WD.takeG 19 rfl (by kernel_rfl) (by kernel_rfl) (by kernel_rfl) (by decide) rfl (Yld.move rfl) ?_
            refine WD.takeG 20 rfl (by kernel_rfl) (by kernel_rfl) (by kernel_rfl) (by decide) rfl (Yld.lenD (rs := rs50) (xs := x30.1) (Rels.len hq51) und_44 rfl (RdH.own (k := 136) rfl)) ?_
            refine WD.takeG 21 rfl (by kernel_rfl) (by kernel_rfl) (by kernel_rfl) (by decide) rfl (Yld.eqlI rfl rfl) ?_
            refine WD.take 22 rfl (by kernel_rfl) (by kernel_rfl) (by kernel_rfl) (by decide) (Yld.pickT rfl rfl) ?_
            refine WD.take 23 rfl (by kernel_rfl) (by kernel_rfl) (by kernel_rfl) (by decide) (Yld.move rfl) ?_
            refine WD.new (v' := .bool true) (congrArg Value.bool (beq_iff_eq.2 hc58)) ?_
            refine WD.takeG 24 rfl (by kernel_rfl) (by kernel_rfl) (by kernel_rfl) (by decide) rfl (Yld.move rfl) ?_
            obtain ⟨r_60, hr61, hq62⟩ := Rels.idx hq51 hx59
            refine WD.takeG 25 rfl (by kernel_rfl) (by kernel_rfl) (by kernel_rfl) (by decide) rfl (Yld.idxC (xs := rs50) sty_44 rfl rfl (RdH.own (k := 136) rfl) hr61) ?_
            refine WD.takeG 26 rfl (by kernel_rfl) (by kernel_rfl) (by kernel_rfl) (by decide) rfl (Yld.loadC0 (xs := rs50) scal_22 rfl (RdH.own (k := 136) rfl) hr61 rfl) ?_
            refine WD.takeG 27 rfl (by kernel_rfl) (by kernel_rfl) (by kernel_rfl) (by decide) rfl (Yld.b2sC (xs := x59) und_22 und_5 und_9 rfl (RdH.memM (k := 0) rfl hq62)) ?_
            refine WD.one 28 (by kernel_rfl) ?_
            refine WS.effG rfl (by decide) rfl (Eff.buildC 163 ([2#8, 29#8] : List (BitVec 8)) sty_22 rfl rfl rfl rfl rfl (by decide)) ?_
            rintro _ _ ⟨g63, rfl, rfl⟩
            refine ⟨(Sub.cons rfl (Sub.cons rfl (Sub.cons rfl (Sub.cons rfl (Sub.cons rfl (Sub.cons rfl (Sub.cons rfl (Sub.nil _)))))))), ?_⟩
            refine WD.one 29 (by kernel_rfl) ?_
            refine WS.yldG rfl (by decide) rfl (Yld.b2sC (xs := ([2#8, 29#8] : List (BitVec 8))) und_22 und_5 und_9 rfl (RdH.own (k := 163) rfl)) ?_
            refine WD.takeG 30 rfl (by kernel_rfl) (by kernel_rfl) (by kernel_rfl) (by decide) rfl (Yld.eqlStr (a := x59) (b := ([2#8, 29#8] : List (BitVec 8))) rfl rfl) ?_
            refine WD.take 31 rfl (by kernel_rfl) (by kernel_rfl) (by kernel_rfl) (by decide) (Yld.pickT rfl rfl) ?_
            refine WD.take 32 rfl (by kernel_rfl) (by kernel_rfl) (by kernel_rfl) (by decide) (Yld.assign rfl) ?_
            refine WD.done (by kernel_rfl) (hK52 _ _ ?_)
            refine WC.ret ?_
            injection h with h; subst h
            exact Ret.fn [] (ResIs.one rfl rfl) rfl (Ext.trans (Ext.trans (Ext.trans hm_M27 hm_M42) hm_M44) hm_M46) rfl (by decide) rfl rfl ⟨rfl, rfl⟩
          · replace h := of_f hc58 h
            refine WD.take 0 rfl (by kernel_rfl) (by kernel_rfl) (by kernel_rfl) (by decide) (Yld.move rfl) ?_
            refine WD.take 1 rfl (by kernel_rfl) (by kernel_rfl) (by kernel_rfl) (by decide) (Yld.eqlI rfl rfl) ?_
            refine WD.take 2 rfl (by kernel_rfl) (by kernel_rfl) (by kernel_rfl) (by decide) (Yld.move rfl) ?_
            refine WD.new (v' := .bool true) (congrArg Value.bool (beq_iff_eq.2 hc53)) ?_
            refine WD.takeG 3 rfl (by kernel_rfl) (by kernel_rfl) (by kernel_rfl) (by decide) rfl (Yld.fieldAddr Try.underlying27 rfl nz_22 rfl rfl) ?_
            refine WD.takeG 4 rfl (by kernel_rfl) (by kernel_rfl) (by kernel_rfl) (by decide) rfl (Yld.loadB (k := 111) scal_22 rfl rfl rfl) ?_
            refine WD.takeG 5 rfl (by kernel_rfl) (by kernel_rfl) (by kernel_rfl) (by decide) rfl (Yld.b2sC (xs := x3.2.2.1) und_22 und_5 und_9 rfl (RdH.own (k := 107) rfl)) ?_
            refine WD.one 6 (by kernel_rfl) ?_
            refine WS.effG rfl (by decide) rfl (Eff.buildC 154 ([1#8, 0#8, 1#8, 1#8, 1#8, 2#8] : List (BitVec 8)) sty_22 rfl rfl rfl rfl rfl (by decide)) ?_
            rintro _ _ ⟨g54, rfl, rfl⟩
            refine ⟨(Sub.cons rfl (Sub.cons rfl (Sub.cons rfl (Sub.cons rfl (Sub.cons rfl (Sub.cons rfl (Sub.cons rfl (Sub.nil _)))))))), ?_⟩
            refine WD.one 7 (by kernel_rfl) ?_
            refine WS.yldG rfl (by decide) rfl (Yld.b2sC (xs := ([1#8, 0#8, 1#8, 1#8, 1#8, 2#8] : List (BitVec 8))) und_22 und_5 und_9 rfl (RdH.own (k := 154) rfl)) ?_
            refine WD.takeG 8 rfl (by kernel_rfl) (by kernel_rfl) (by kernel_rfl) (by decide) rfl (Yld.eqlStr (a := x3.2.2.1) (b := ([1#8, 0#8, 1#8, 1#8, 1#8, 2#8] : List (BitVec 8))) rfl rfl) ?_
            refine WD.take 9 rfl (by kernel_rfl) (by kernel_rfl) (by kernel_rfl) (by decide) (Yld.pickT rfl rfl) ?_
            refine WD.take 10 rfl (by kernel_rfl) (by kernel_rfl) (by kernel_rfl) (by decide) (Yld.move rfl) ?_
            refine WD.new (v' := .bool true) (congrArg Value.bool (beq_iff_eq.2 hc55)) ?_
            refine WD.takeG 11 rfl (by kernel_rfl) (by kernel_rfl) (by kernel_rfl) (by decide) rfl (Yld.move rfl) ?_
            refine WD.takeG 12 rfl (by kernel_rfl) (by kernel_rfl) (by kernel_rfl) (by decide) rfl (Yld.eqlI rfl rfl) ?_
            refine WD.take 13 rfl (by kernel_rfl) (by kernel_rfl) (by kernel_rfl) (by decide) (Yld.pickT rfl rfl) ?_
            refine WD.take 14 rfl (by kernel_rfl) (by kernel_rfl) (by kernel_rfl) (by decide) (Yld.move rfl) ?_
            refine WD.new (v' := .bool true) (congrArg Value.bool (beq_iff_eq.2 hc56)) ?_
            refine WD.takeG 15 rfl (by kernel_rfl) (by kernel_rfl) (by kernel_rfl) (by decide) rfl (Yld.move rfl) ?_
            refine WD.takeG 16 rfl (by kernel_rfl) (by kernel_rfl) (by kernel_rfl) (by decide) rfl (Yld.eqlI rfl rfl) ?_
            refine WD.take 17 rfl (by kernel_rfl) (by kernel_rfl) (by kernel_rfl) (by decide) (Yld.pickT rfl rfl) ?_
            refine WD.take 18 rfl (by kernel_rfl) (by kernel_rfl) (by kernel_rfl) (by decide) (Yld.move rfl) ?_
            refine WD.new (v' := .bool true) (congrArg Value.bool (beq_iff_eq.2 hc57)) ?_
            refine WD.takeG 19 rfl (by kernel_rfl) (by kernel_rfl) (by kernel_rfl) (by decide) rfl (Yld.move rfl) ?_
            refine WD.takeG 20 rfl (by kernel_rfl) (by kernel_rfl) (by kernel_rfl) (by decide) rfl (Yld.lenD (rs := rs50) (xs := x30.1) (Rels.len hq51) und_44 rfl (RdH.own (k := 136) rfl)) ?_
            refine WD.takeG 21 rfl (by kernel_rfl) (by kernel_rfl) (by kernel_rfl) (by decide) rfl (Yld.eqlI rfl rfl) ?_
            refine WD.take 22 rfl (by kernel_rfl) (by kernel_rfl) (by kernel_rfl) (by decide) (Yld.pickT rfl rfl) ?_
            refine WD.take 23 rfl (by kernel_rfl) (by kernel_rfl) (by kernel_rfl) (by decide) (Yld.move rfl) ?_
            refine WD.new (v' := .bool false) (congrArg Value.bool (beq_eq_false_iff_ne.2 hc58)) ?_
            refine WD.takeS 24 rfl (by kernel_rfl) (by kernel_rfl) (by kernel_rfl) (by decide) rfl rfl ?_
            refine WD.takeS 25 rfl (by kernel_rfl) (by kernel_rfl) (by kernel_rfl) (by decide) rfl rfl ?_
            refine WD.takeS 26 rfl (by kernel_rfl) (by kernel_rfl) (by kernel_rfl) (by decide) rfl rfl ?_
            refine WD.takeS 27 rfl (by kernel_rfl) (by kernel_rfl) (by kernel_rfl) (by decide) rfl rfl ?_
            refine WD.takeS 28 rfl (by kernel_rfl) (by kernel_rfl) (by kernel_rfl) (by decide) rfl rfl ?_
            refine WD.takeS 29 rfl (by kernel_rfl) (by kernel_rfl) (by kernel_rfl) (by decide) rfl rfl ?_
            refine WD.takeS 30 rfl (by kernel_rfl) (by kernel_rfl) (by kernel_rfl) (by decide) rfl rfl ?_
            refine WD.take 31 rfl (by kernel_rfl) (by kernel_rfl) (by kernel_rfl) (by decide) (Yld.pickF rfl rfl) ?_
            refine WD.take 32 rfl (by kernel_rfl) (by kernel_rfl) (by kernel_rfl) (by decide) (Yld.assign rfl) ?_
            refine WD.done (by kernel_rfl) (hK52 _ _ ?_)
            refine WC.ret ?_
            injection h with h; subst h
            exact Ret.fn [] (ResIs.one rfl rfl) rfl (Ext.trans (Ext.trans (Ext.trans hm_M27 hm_M42) hm_M44) hm_M46) rfl (by decide) rfl rfl ⟨rfl, rfl⟩
        · replace h := of_f hc57 h
          refine WD.take 0 rfl (by kernel_rfl) (by kernel_rfl) (by kernel_rfl) (by decide) (Yld.move rfl) ?_
          refine WD.take 1 rfl (by kernel_rfl) (by kernel_rfl) (by kernel_rfl) (by decide) (Yld.eqlI rfl rfl) ?_
          refine WD.take 2 rfl (by kernel_rfl) (by kernel_rfl) (by kernel_rfl) (by decide) (Yld.move rfl) ?_
          refine WD.new (v' := .bool true) (congrArg Value.bool (beq_iff_eq.2 hc53)) ?_
          refine WD.takeG 3 rfl (by kernel_rfl) (by kernel_rfl) (by kernel_rfl) (by decide) rfl (Yld.fieldAddr Try.underlying27 rfl nz_22 rfl rfl) ?_
          refine WD.takeG 4 rfl (by kernel_rfl) (by kernel_rfl) (by kernel_rfl) (by decide) rfl (Yld.loadB (k := 111) scal_22 rfl rfl rfl) ?_
          refine WD.takeG 5 rfl (by kernel_rfl) (by kernel_rfl) (by kernel_rfl) (by decide) rfl (Yld.b2sC (xs := x3.2.2.1) und_22 und_5 und_9 rfl (RdH.own (k := 107) rfl)) ?_
          refine WD.one 6 (by kernel_rfl) ?_
          refine WS.effG rfl (by decide) rfl (Eff.buildC 154 ([1#8, 0#8, 1#8, 1#8, 1#8, 2#8] : List (BitVec 8)) sty_22 rfl rfl rfl rfl rfl (by decide)) ?_
          rintro _ _ ⟨g54, rfl, rfl⟩
          refine ⟨(Sub.cons rfl (Sub.cons rfl (Sub.cons rfl (Sub.cons rfl (Sub.cons rfl (Sub.cons rfl (Sub.cons rfl (Sub.nil _)))))))), ?_⟩
          refine WD.one 7 (by kernel_rfl) ?_
          refine WS.yldG rfl (by decide) rfl (Yld.b2sC (xs := ([1#8, 0#8, 1#8, 1#8, 1#8, 2#8] : List (BitVec 8))) und_22 und_5 und_9 rfl (RdH.own (k := 154) rfl)) ?_
          refine WD.takeG 8 rfl (by kernel_rfl) (by kernel_rfl) (by kernel_rfl) (by decide) rfl (Yld.eqlStr (a := x3.2.2.1) (b := ([1#8, 0#8, 1#8, 1#8, 1#8, 2#8] : List (BitVec 8))) rfl rfl) ?_
          refine WD.take 9 rfl (by kernel_rfl) (by kernel_rfl) (by kernel_rfl) (by decide) (Yld.pickT rfl rfl) ?_
          refine WD.take 10 rfl (by kernel_rfl) (by kernel_rfl) (by kernel_rfl) (by decide) (Yld.move rfl) ?_
          refine WD.new (v' := .bool true) (congrArg Value.bool (beq_iff_eq.2 hc55)) ?_
          refine WD.takeG 11 rfl (by kernel_rfl) (by kernel_rfl) (by kernel_rfl) (by decide) rfl (Yld.move rfl) ?_
          refine WD.takeG 12 rfl (by kernel_rfl) (by kernel_rfl) (by kernel_rfl) (by decide) rfl (Yld.eqlI rfl rfl) ?_
          refine WD.take 13 rfl (by kernel_rfl) (by kernel_rfl) (by kernel_rfl) (by decide) (Yld.pickT rfl rfl) ?_
          refine WD.take 14 rfl (by kernel_rfl) (by kernel_rfl) (by kernel_rfl) (by decide) (Yld.move rfl) ?_
          refine WD.new (v' := .bool true) (congrArg Value.bool (beq_iff_eq.2 hc56)) ?_
          refine WD.takeG 15 rfl (by kernel_rfl) (by kernel_rfl) (by kernel_rfl) (by decide) rfl (Yld.move rfl) ?_
          refine WD.takeG 16 rfl (by kernel_rfl) (by kernel_rfl) (by kernel_rfl) (by decide) rfl (Yld.eqlI rfl rfl) ?_
          refine WD.take 17 rfl (by kernel_rfl) (by kernel_rfl) (by kernel_rfl) (by decide) (Yld.pickT rfl rfl) ?_
          refine WD.take 18 rfl (by kernel_rfl) (by kernel_rfl) (by kernel_rfl) (by decide) (Yld.move rfl) ?_
          refine WD.new (v' := .bool false) (congrArg Value.bool (beq_eq_false_iff_ne.2 hc57)) ?_
          refine WD.takeS 19 rfl (by kernel_rfl) (by kernel_rfl) (by kernel_rfl) (by decide) rfl rfl ?_
          refine WD.takeS 20 rfl (by kernel_rfl) (by kernel_rfl) (by kernel_rfl) (by decide) rfl rfl ?_
          refine WD.takeS 21 rfl (by kernel_rfl) (by kernel_rfl) (by kernel_rfl) (by decide) rfl rfl ?_
          refine WD.take 22 rfl (by kernel_rfl) (by kernel_rfl) (by kernel_rfl) (by decide) (Yld.pickF rfl rfl) ?_
          refine WD.take 23 rfl (by kernel_rfl) (by kernel_rfl) (by kernel_rfl) (by decide) (Yld.move rfl) ?_
          refine WD.takeS 24 rfl (by kernel_rfl) (by kernel_rfl) (by kernel_rfl) (by decide) rfl rfl ?_
          refine WD.takeS 25 rfl (by kernel_rfl) (by kernel_rfl) (by kernel_rfl) (by decide) rfl rfl ?_
          refine WD.takeS 26 rfl (by kernel_rfl) (by kernel_rfl) (by kernel_rfl) (by decide) rfl rfl ?_
          refine WD.takeS 27 rfl (by kernel_rfl) (by kernel_rfl) (by kernel_rfl) (by decide) rfl rfl ?_
          refine WD.takeS 28 rfl (by kernel_rfl) (by kernel_rfl) (by kernel_rfl) (by decide) rfl rfl ?_
          refine WD.takeS 29 rfl (by kernel_rfl) (by kernel_rfl) (by kernel_rfl) (by decide) rfl rfl ?_
          refine WD.takeS 30 rfl (by kernel_rfl) (by kernel_rfl) (by kernel_rfl) (by decide) rfl rfl ?_
          refine WD.take 31 rfl (by kernel_rfl) (by kernel_rfl) (by kernel_rfl) (by decide) (Yld.pickF rfl rfl) ?_
          refine WD.take 32 rfl (by kernel_rfl) (by kernel_rfl) (by kernel_rfl) (by decide) (Yld.assign rfl) ?_
          refine WD.done (by kernel_rfl) (hK52 _ _ ?_)
          refine WC.ret ?_
          injection h with h; subst h
          exact Ret.fn [] (ResIs.one rfl rfl) rfl (Ext.trans (Ext.trans (Ext.trans hm_M27 hm_M42) hm_M44) hm_M46) rfl (by decide) rfl rfl ⟨rfl, rfl⟩
      · replace h := of_f hc56 h
        refine WD.take 0 rfl (by kernel_rfl) (by kernel_rfl) (by kernel_rfl) (by decide) (Yld.move rfl) ?_
        refine WD.take 1 rfl (by kernel_rfl) (by kernel_rfl) (by kernel_rfl) (by decide) (Yld.eqlI rfl rfl) ?_
        refine WD.take 2 rfl (by kernel_rfl) (by kernel_rfl) (by kernel_rfl) (by decide) (Yld.move rfl) ?_
        refine WD.new (v' := .bool true) (congrArg Value.bool (beq_iff_eq.2 hc53)) ?_
        refine WD.takeG 3 rfl (by kernel_rfl) (by kernel_rfl) (by kernel_rfl) (by decide) rfl (Yld.fieldAddr Try.underlying27 rfl nz_22 rfl rfl) ?_
        refine WD.takeG 4 rfl (by kernel_rfl) (by kernel_rfl) (by kernel_rfl) (by decide) rfl (Yld.loadB (k := 111) scal_22 rfl rfl rfl) ?_
        refine WD.takeG 5 rfl (by kernel_rfl) (by kernel_rfl) (by kernel_rfl) (by decide) rfl (Yld.b2sC (xs := x3.2.2.1) und_22 und_5 und_9 rfl (RdH.own (k := 107) rfl)) ?_
        refine WD.one 6 (by kernel_rfl) ?_
        refine WS.effG rfl (by decide) rfl (Eff.buildC 154 ([1#8, 0#8, 1#8, 1#8, 1#8, 2#8] : List (BitVec 8)) sty_22 rfl rfl rfl rfl rfl (by decide)) ?_
        rintro _ _ ⟨g54, rfl, rfl⟩
        refine ⟨(Sub.cons rfl (Sub.cons rfl (Sub.cons rfl (Sub.cons rfl (Sub.cons rfl (Sub.cons rfl (Sub.cons rfl (Sub.nil _)))))))), ?_⟩
        refine WD.one 7 (by kernel_rfl) ?_
        refine WS.yldG rfl (by decide) rfl (Yld.b2sC (xs := ([1#8, 0#8, 1#8, 1#8, 1#8, 2#8] : List (BitVec 8))) und_22 und_5 und_9 rfl (RdH.own (k := 154) rfl)) ?_
        refine WD.takeG 8 rfl (by kernel_rfl) (by kernel_rfl) (by kernel_rfl) (by decide) rfl (Yld.eqlStr (a := x3.2.2.1) (b := ([1#8, 0#8, 1#8, 1#8, 1#8, 2#8] : List (BitVec 8))) rfl rfl) ?_
        refine WD.take 9 rfl (by kernel_rfl) (by kernel_rfl) (by kernel_rfl) (by decide) (Yld.pickT rfl rfl) ?_
        refine WD.take 10 rfl (by kernel_rfl) (by kernel_rfl) (by kernel_rfl) (by decide) (Yld.move rfl) ?_
        refine WD.new (v' := .bool true) (congrArg Value.bool (beq_iff_eq.2 hc55)) ?_
        refine WD.takeG 11 rfl (by kernel_rfl) (by kernel_rfl) (by kernel_rfl) (by decide) rfl (Yld.move rfl) ?_
        refine WD.takeG 12 rfl (by kernel_rfl) (by kernel_rfl) (by kernel_rfl) (by decide) rfl (Yld.eqlI rfl rfl) ?_
        refine WD.take 13 rfl (by kernel_rfl) (by kernel_rfl) (by kernel_rfl) (by decide) (Yld.pickT rfl rfl) ?_
        refine WD.take 14 rfl (by kernel_rfl) (by kernel_rfl) (by kernel_rfl) (by decide) (Yld.move rfl) ?_
        refine WD.new (v' := .bool false) (congrArg Value.bool (beq_eq_false_iff_ne.2 hc56)) ?_
        refine WD.takeS 15 rfl (by kernel_rfl) (by kernel_rfl) (by kernel_rfl) (by decide) rfl rfl ?_
        refine WD.takeS 16 rfl (by kernel_rfl) (by kernel_rfl) (by kernel_rfl) (by decide) rfl rfl ?_
        refine WD.take 17 rfl (by kernel_rfl) (by kernel_rfl) (by kernel_rfl) (by decide) (Yld.pickF rfl rfl) ?_
        refine WD.take 18 rfl (by kernel_rfl) (by kernel_rfl) (by kernel_rfl) (by decide) (Yld.move rfl) ?_
        refine WD.takeS 19 rfl (by kernel_rfl) (by kernel_rfl) (by kernel_rfl) (by decide) rfl rfl ?_
        refine WD.takeS 20 rfl (by kernel_rfl) (by kernel_rfl) (by kernel_rfl) (by decide) rfl rfl ?_
        refine WD.takeS 21 rfl (by kernel_rfl) (by kernel_rfl) (by kernel_rfl) (by decide) rfl rfl ?_
        refine WD.take 22 rfl (by kernel_rfl) (by kernel_rfl) (by kernel_rfl) (by decide) (Yld.pickF rfl rfl) ?_
        refine WD.take 23 rfl (by kernel_rfl) (by kernel_rfl) (by kernel_rfl) (by decide) (Yld.move rfl) ?_
        refine WD.takeS 24 rfl (by kernel_rfl) (by kernel_rfl) (by kernel_rfl) (by decide) rfl rfl ?_
        refine WD.takeS 25 rfl (by kernel_rfl) (by kernel_rfl) (by kernel_rfl) (by decide) rfl rfl ?_
        refine WD.takeS 26 rfl (by kernel_rfl) (by kernel_rfl) (by kernel_rfl) (by decide) rfl rfl ?_
        refine WD.takeS 27 rfl (by kernel_rfl) (by kernel_rfl) (by kernel_rfl) (by decide) rfl rfl ?_
        refine WD.takeS 28 rfl (by kernel_rfl) (by kernel_rfl) (by kernel_rfl) (by decide) rfl rfl ?_
        refine WD.takeS 29 rfl (by kernel_rfl) (by kernel_rfl) (by kernel_rfl) (by decide) rfl rfl ?_
        refine WD.takeS 30 rfl (by kernel_rfl) (by kernel_rfl) (by kernel_rfl) (by decide) rfl rfl ?_
        refine WD.take 31 rfl (by kernel_rfl) (by kernel_rfl) (by kernel_rfl) (by decide) (Yld.pickF rfl rfl) ?_
        refine WD.take 32 rfl (by kernel_rfl) (by kernel_rfl) (by kernel_rfl) (by decide) (Yld.assign rfl) ?_
        refine WD.done (by kernel_rfl) (hK52 _ _ ?_)
        refine WC.ret ?_
        injection h with h; subst h
        exact Ret.fn [] (ResIs.one rfl rfl) rfl (Ext.trans (Ext.trans (Ext.trans hm_M27 hm_M42) hm_M44) hm_M46) rfl (by decide) rfl rfl ⟨rfl, rfl⟩
    · replace h := of_f hc55 h
      refine WD.take 0 rfl (by kernel_rfl) (by kernel_rfl) (by kernel_rfl) (by decide) (Yld.move rfl) ?_
      refine WD.take 1 rfl (by kernel_rfl) (by kernel_rfl) (by kernel_rfl) (by decide) (Yld.eqlI rfl rfl) ?_
      refine WD.take 2 rfl (by kernel_rfl) (by kernel_rfl) (by kernel_rfl) (by decide) (Yld.move rfl) ?_
      refine WD.new (v' := .bool true) (congrArg Value.bool (beq_iff_eq.2 hc53)) ?_
      refine WD.takeG 3 rfl (by kernel_rfl) (by kernel_rfl) (by kernel_rfl) (by decide) rfl (Yld.fieldAddr Try.underlying27 rfl nz_22 rfl rfl) ?_
      refine WD.takeG 4 rfl (by kernel_rfl) (by kernel_rfl) (by kernel_rfl) (by decide) rfl (Yld.loadB (k := 111) scal_22 rfl rfl rfl) ?_
      refine WD.takeG 5 rfl (by kernel_rfl) (by kernel_rfl) (by kernel_rfl) (by decide) rfl (Yld.b2sC (xs := x3.2.2.1) und_22 und_5 und_9 rfl (RdH.own (k := 107) rfl)) ?_
      refine WD.one 6 (by kernel_rfl) ?_
      refine WS.effG rfl (by decide) rfl (Eff.buildC 154 ([1#8, 0#8, 1#8, 1#8, 1#8, 2#8] : List (BitVec 8)) sty_22 rfl rfl rfl rfl rfl (by decide)) ?_
      rintro _ _ ⟨g54, rfl, rfl⟩
      refine ⟨(Sub.cons rfl (Sub.cons rfl (Sub.cons rfl (Sub.cons rfl (Sub.cons rfl (Sub.cons rfl (Sub.cons rfl (Sub.nil _)))))))), ?_⟩
      refine WD.one 7 (by kernel_rfl) ?_
      refine WS.yldG rfl (by decide) rfl (Yld.b2sC (xs := ([1#8, 0#8, 1#8, 1#8, 1#8, 2#8] : List (BitVec 8))) und_22 und_5 und_9 rfl (RdH.own (k := 154) rfl)) ?_
      refine WD.takeG 8 rfl (by kernel_rfl) (by kernel_rfl) (by kernel_rfl) (by decide) rfl (Yld.eqlStr (a := x3.2.2.1) (b := ([1#8, 0#8, 1#8, 1#8, 1#8, 2#8] : List (BitVec 8))) rfl rfl) ?_
      refine WD.take 9 rfl (by kernel_rfl) (by kernel_rfl) (by kernel_rfl) (by decide) (Yld.pickT rfl rfl) ?_
      refine WD.take 10 rfl (by kernel_rfl) (by kernel_rfl) (by kernel_rfl) (by decide) (Yld.move rfl) ?_
      refine WD.new (v' := .bool false) (congrArg Value.bool (beq_eq_false_iff_ne.2 hc55)) ?_
      refine WD.takeS 11 rfl (by kernel_rfl) (by kernel_rfl) (by kernel_rfl) (by decide) rfl rfl ?_
      refine WD.takeS 12 rfl (by kernel_rfl) (by kernel_rfl) (by kernel_rfl) (by decide) rfl rfl ?_
      refine WD.take 13 rfl (by kernel_rfl) (by kernel_rfl) (by kernel_rfl) (by decide) (Yld.pickF rfl rfl) ?_
      refine WD.take 14 rfl (by kernel_rfl) (by kernel_rfl) (by kernel_rfl) (by decide) (Yld.move rfl) ?_
      refine WD.takeS 15 rfl (by kernel_rfl) (by kernel_rfl) (by kernel_rfl) (by decide) rfl rfl ?_
      refine WD.takeS 16 rfl (by kernel_rfl) (by kernel_rfl) (by kernel_rfl) (by decide) rfl rfl ?_
      refine WD.take 17 rfl (by kernel_rfl) (by kernel_rfl) (by kernel_rfl) (by decide) (Yld.pickF rfl rfl) ?_
      refine WD.take 18 rfl (by kernel_rfl) (by kernel_rfl) (by kernel_rfl) (by decide) (Yld.move rfl) ?_
      refine WD.takeS 19 rfl (by kernel_rfl) (by kernel_rfl) (by kernel_rfl) (by decide) rfl rfl ?_
      refine WD.takeS 20 rfl (by kernel_rfl) (by kernel_rfl) (by kernel_rfl) (by decide) rfl rfl ?_
      refine WD.takeS 21 rfl (by kernel_rfl) (by kernel_rfl) (by kernel_rfl) (by decide) rfl rfl ?_
      refine WD.take 22 rfl (by kernel_rfl) (by kernel_rfl) (by kernel_rfl) (by decide) (Yld.pickF rfl rfl) ?_
      refine WD.take 23 rfl (by kernel_rfl) (by kernel_rfl) (by kernel_rfl) (by decide) (Yld.move rfl) ?_
      refine WD.takeS 24 rfl (by kernel_rfl) (by kernel_rfl) (by kernel_rfl) (by decide) rfl rfl ?_
      refine WD.takeS 25 rfl (by kernel_rfl) (by kernel_rfl) (by kernel_rfl) (by decide) rfl rfl ?_
      refine WD.takeS 26 rfl (by kernel_rfl) (by kernel_rfl) (by kernel_rfl) (by decide) rfl rfl ?_
      refine WD.takeS 27 rfl (by kernel_rfl) (by kernel_rfl) (by kernel_rfl) (by decide) rfl rfl ?_
      refine WD.takeS 28 rfl (by kernel_rfl) (by kernel_rfl) (by kernel_rfl) (by decide) rfl rfl ?_
      refine WD.takeS 29 rfl (by kernel_rfl) (by kernel_rfl) (by kernel_rfl) (by decide) rfl rfl ?_
      refine WD.takeS 30 rfl (by kernel_rfl) (by kernel_rfl) (by kernel_rfl) (by decide) rfl rfl ?_
      refine WD.take 31 rfl (by kernel_rfl) (by kernel_rfl) (by kernel_rfl) (by decide) (Yld.pickF rfl rfl) ?_
      refine WD.take 32 rfl (by kernel_rfl) (by kernel_rfl) (by kernel_rfl) (by decide) (Yld.assign rfl) ?_
      refine WD.done (by kernel_rfl) (hK52 _ _ ?_)
      refine WC.ret ?_
      injection h with h; subst h
      exact Ret.fn [] (ResIs.one rfl rfl) rfl (Ext.trans (Ext.trans (Ext.trans hm_M27 hm_M42) hm_M44) hm_M46) rfl (by decide) rfl rfl ⟨rfl, rfl⟩
  · replace h := of_f hc53 h
    refine WD.take 0 rfl (by kernel_rfl) (by kernel_rfl) (by kernel_rfl) (by decide) (Yld.move rfl) ?_
    refine WD.take 1 rfl (by kernel_rfl) (by kernel_rfl) (by kernel_rfl) (by decide) (Yld.eqlI rfl rfl) ?_
    refine WD.take 2 rfl (by kernel_rfl) (by kernel_rfl) (by kernel_rfl) (by decide) (Yld.move rfl) ?_
    refine WD.new (v' := .bool false) (congrArg Value.bool (beq_eq_false_iff_ne.2 hc53)) ?_
    refine WD.takeS 3 rfl (by kernel_rfl) (by kernel_rfl) (by kernel_rfl) (by decide) rfl rfl ?_
    refine WD.takeS 4 rfl (by kernel_rfl) (by kernel_rfl) (by kernel_rfl) (by decide) rfl rfl ?_
    refine WD.takeS 5 rfl (by kernel_rfl) (by kernel_rfl) (by kernel_rfl) (by decide) rfl rfl ?_
    refine WD.takeS 6 rfl (by kernel_rfl) (by kernel_rfl) (by kernel_rfl) (by decide) rfl rfl ?_
    refine WD.takeS 7 rfl (by kernel_rfl) (by kernel_rfl) (by kernel_rfl) (by decide) rfl rfl ?_
    refine WD.takeS 8 rfl (by kernel_rfl) (by kernel_rfl) (by kernel_rfl) (by decide) rfl rfl ?_
    refine WD.take 9 rfl (by kernel_rfl) (by kernel_rfl) (by kernel_rfl) (by decide) (Yld.pickF rfl rfl) ?_
    refine WD.take 10 rfl (by kernel_rfl) (by kernel_rfl) (by kernel_rfl) (by decide) (Yld.move rfl) ?_
    refine WD.takeS 11 rfl (by kernel_rfl) (by kernel_rfl) (by kernel_rfl) (by decide) rfl rfl ?_
    refine WD.takeS 12 rfl (by kernel_rfl) (by kernel_rfl) (by kernel_rfl) (by decide) rfl rfl ?_
    refine WD.take 13 rfl (by kernel_rfl) (by kernel_rfl) (by kernel_rfl) (by decide) (Yld.pickF rfl rfl) ?_
    refine WD.take 14 rfl (by kernel_rfl) (by kernel_rfl) (by kernel_rfl) (by decide) (Yld.move rfl) ?_
    refine WD.takeS 15 rfl (by kernel_rfl) (by kernel_rfl) (by kernel_rfl) (by decide) rfl rfl ?_
    refine WD.takeS 16 rfl (by kernel_rfl) (by kernel_rfl) (by kernel_rfl) (by decide) rfl rfl ?_
    refine WD.take 17 rfl (by kernel_rfl) (by kernel_rfl) (by kernel_rfl) (by decide) (Yld.pickF rfl rfl) ?_
    refine WD.take 18 rfl (by kernel_rfl) (by kernel_rfl) (by kernel_rfl) (by decide) (Yld.move rfl) ?_
    refine WD.takeS 19 rfl (by kernel_rfl) (by kernel_rfl) (by kernel_rfl) (by decide) rfl rfl ?_
    refine WD.takeS 20 rfl (by kernel_rfl) (by kernel_rfl) (by kernel_rfl) (by decide) rfl rfl ?_
    refine WD.takeS 21 rfl (by kernel_rfl) (by kernel_rfl) (by kernel_rfl) (by decide) rfl rfl ?_
    refine WD.take 22 rfl (by kernel_rfl) (by kernel_rfl) (by kernel_rfl) (by decide) (Yld.pickF rfl rfl) ?_
    refine WD.take 23 rfl (by kernel_rfl) (by kernel_rfl) (by kernel_rfl) (by decide) (Yld.move rfl) ?_
    refine WD.takeS 24 rfl (by kernel_rfl) (by kernel_rfl) (by kernel_rfl) (by decide) rfl rfl ?_
    refine WD.takeS 25 rfl (by kernel_rfl) (by kernel_rfl) (by kernel_rfl) (by decide) rfl rfl ?_
    refine WD.takeS 26 rfl (by kernel_rfl) (by kernel_rfl) (by kernel_rfl) (by decide) rfl rfl ?_
    refine WD.takeS 27 rfl (by kernel_rfl) (by kernel_rfl) (by kernel_rfl) (by decide) rfl rfl ?_
    refine WD.takeS 28 rfl (by kernel_rfl) (by kernel_rfl) (by kernel_rfl) (by decide) rfl rfl ?_
    refine WD.takeS 29 rfl (by kernel_rfl) (by kernel_rfl) (by kernel_rfl) (by decide) rfl rfl ?_
    refine WD.takeS 30 rfl (by kernel_rfl) (by kernel_rfl) (by kernel_rfl) (by decide) rfl rfl ?_
    refine WD.take 31 rfl (by kernel_rfl) (by kernel_rfl) (by kernel_rfl) (by decide) (Yld.pickF rfl rfl) ?_
    refine WD.take 32 rfl (by kernel_rfl) (by kernel_rfl) (by kernel_rfl) (by decide) (Yld.assign rfl) ?_
    refine WD.done (by kernel_rfl) (hK52 _ _ ?_)
    refine WC.ret ?_
    injection h with h; subst h
    exact Ret.fn [] (ResIs.one rfl rfl) rfl (Ext.trans (Ext.trans (Ext.trans hm_M27 hm_M42) hm_M44) hm_M46) rfl (by decide) rfl rfl ⟨rfl, rfl⟩

set_option maxRecDepth 10000 in
theorem w_law03_heavy (M0 : Mem) (x00_0 : Int) (x00_1 : Int) (A00_2 : Option Addr) (n00_2 c00_2 : Nat) (x00_2 : List (BitVec 8)) (hf00_2 : SlT M0 A00_2 n00_2 c00_2 x00_2) {res : Bool} (h : m_law03_heavy x00_0 x00_1 x00_2 = some res) :
    Fn Try.prog 12 #[.agg ([I64 x00_0, I64 x00_1, .slice A00_2 n00_2 c00_2] : List Value).toArray] M0 fun r M' es => r = .bool res ∧ es = [] := by
  refine Fn.intro (N := 7) Try.func12 rfl rfl (Nat.le_of_ble_eq_true rfl) fun w0 => ?_
  unfold m_law03_heavy at h
  refine WC.seqRegion fun K1 hK1 => ?_
  refine WL.eff (by decide) (Eff.box 102 (us := [I64 x00_0, I64 x00_1, .slice A00_2 n00_2 c00_2]) rfl rfl rfl) ?_
  rintro _ _ ⟨g2, rfl, rfl⟩
  refine WL.yld (by decide) (Yld.assign rfl) ?_
  refine WL.done (hK1 _ _ ?_)
  refine WC.seqRegion fun K3 hK3 => ?_
  refine WL.yld (by decide) (Yld.fieldAddr Try.underlying24 rfl nz_22 rfl rfl) ?_
  refine WL.yld (by decide) (Yld.loadB (k := 102) scal_22 rfl rfl rfl) ?_
  refine WL.yld (by decide) (Yld.lenC (xs := x00_2) und_22 rfl (RdH.memM (k := 0) rfl hf00_2)) ?_
  refine WL.yld (by decide) (Yld.gtr rfl rfl) ?_
  refine WL.yld (by decide) (Yld.assign rfl) ?_
  refine WL.done (hK3 _ _ ?_)
  refine WC.ret ?_
  injection h with h; subst h
  exact Ret.fn [] (ResIs.one rfl rfl) rfl (Ext.refl _ _) rfl (by decide) rfl rfl ⟨rfl, rfl⟩

end Go.Proofs.Ytnkahhipochakaa
