/-
 Walks (b): what a function's model gives, the function returns. Printed by a program of ours (vcm.py) from the function's operations. Conditions: as each theorem says.
-/
import Derived.Test.YtnbcphofimicdaaWka
import Derived.Test.YtnbcphofimicdaaMdb
namespace Go.Proofs.Ytnbcphofimicdaa
open Go Go.RowKit
set_option linter.unusedVariables false

theorem und_28 : Try.prog.underlying 28 = some (.slice 3) := by kernel_rfl
theorem und_35 : Try.prog.underlying 35 = some (.slice 22) := by kernel_rfl
theorem agg_24 : Agg Try.prog 24 3 := ⟨⟨_, Try.underlying24, rfl⟩, by kernel_rfl⟩
theorem bu_24_ : Try.prog.built 24 [] = some ([I64 (0 : Int), I64 (0 : Int), .slice none 0 0] : List Value).toArray := by kernel_rfl
theorem bu_24_0_1 : ∀ (a0 : Int) (a1 : Int), Try.prog.built 24 [(0, I64 a0), (1, I64 a1)] = some ([I64 a0, I64 a1, .slice none 0 0] : List Value).toArray := fun a0 a1 => by kernel_rfl
theorem bu_24_0_1_2 : ∀ (a0 : Int) (a1 : Int) (a2 : Option Addr) (n2 c2 : Nat), Try.prog.built 24 [(0, I64 a0), (1, I64 a1), (2, .slice a2 n2 c2)] = some ([I64 a0, I64 a1, .slice a2 n2 c2] : List Value).toArray := fun a0 a1 a2 n2 c2 => by kernel_rfl
theorem nm_34 : (Try.f34.name == "runtime.NumGoroutine") = false := by kernel_rfl
theorem nm_35 : (Try.f35.name == "runtime.NumGoroutine") = false := by kernel_rfl
theorem nm_36 : (Try.f36.name == "runtime.NumGoroutine") = false := by kernel_rfl
theorem nm_37 : (Try.f37.name == "runtime.NumGoroutine") = false := by kernel_rfl
theorem nm_38 : (Try.f38.name == "runtime.NumGoroutine") = false := by kernel_rfl
theorem nm_39 : (Try.f39.name == "runtime.NumGoroutine") = false := by kernel_rfl
theorem nm_40 : (Try.f40.name == "runtime.NumGoroutine") = false := by kernel_rfl
theorem nm_41 : (Try.f41.name == "runtime.NumGoroutine") = false := by kernel_rfl
theorem nm_42 : (Try.f42.name == "runtime.NumGoroutine") = false := by kernel_rfl
theorem nm_43 : (Try.f43.name == "runtime.NumGoroutine") = false := by kernel_rfl
theorem nm_52 : (Try.f52.name == "runtime.NumGoroutine") = false := by kernel_rfl
theorem nm_53 : (Try.f53.name == "runtime.NumGoroutine") = false := by kernel_rfl
theorem nm_54 : (Try.f54.name == "runtime.NumGoroutine") = false := by kernel_rfl
theorem nm_63 : (Try.f63.name == "runtime.NumGoroutine") = false := by kernel_rfl
theorem nz_22 : (Try.prog.info? 22).map (fun i => decide (i.size = 0)) = some false := by kernel_rfl
theorem nz_3 : (Try.prog.info? 3).map (fun i => decide (i.size = 0)) = some false := by kernel_rfl
theorem scal_22 : scal Try.prog 22 = true := by kernel_rfl
theorem siz_22 : (Try.prog.info? 22).map (·.size) = some 1 := by kernel_rfl
theorem sty_28 : STy Try.prog 28 3 (I64 0) 1 8 := STy.of und_28 (by kernel_rfl) rfl
theorem sty_35 : STy Try.prog 35 22 (.slice none 0 0) 1 24 := STy.of und_35 (by kernel_rfl) rfl
theorem zr_24 : (Try.prog.info? 24).map (fun i => i.zero.map (·.cells)) = some (some ([I64 (0 : Int), I64 (0 : Int), .slice none 0 0] : List Value).toArray) := by kernel_rfl

set_option maxRecDepth 10000 in
theorem w_gfmatrix_mayHave (M0 : Mem) (x00 : Int) {res : Bool} (h : m_gfmatrix_mayHave x00 = some res) :
  Fn Try.prog 35 #[I64 x00] M0 fun r M' es => r = .bool res ∧ es = [] := by
 refine Fn.intro (N := 9) Try.func35 rfl rfl (Nat.le_of_ble_eq_true rfl) fun w0 => ?_
 unfold m_gfmatrix_mayHave at h
 refine WC.seqRegion fun K1 hK1 => ?_
 refine WL.yld (by decide) (Yld.assign rfl) ?_
 refine WL.done (hK1 _ _ ?_)
 refine WC.seqRegion fun K2 hK2 => ?_
 by_cases hc3 : (1 : Int) ≤ x00
 ·
  replace h := of_t hc3 h
  refine WL.yld (by decide) (Yld.move rfl) ?_
  refine WL.yld (by decide) (Yld.geq rfl rfl) ?_
  refine WL.yld (by decide) (Yld.move rfl) ?_
  refine WL.new (v' := .bool true) (congrArg Value.bool (decide_eq_true hc3)) ?_
  refine WL.yldG (by decide) rfl (Yld.move rfl) ?_
  refine WL.yldG (by decide) rfl (Yld.leq rfl rfl) ?_
  refine WL.yld (by decide) (Yld.pickT rfl rfl) ?_
  refine WL.yld (by decide) (Yld.assign rfl) ?_
  refine WL.done (hK2 _ _ ?_)
  refine WC.ret ?_
  injection h with h; subst h
  exact Ret.fn [] (ResIs.one rfl rfl) rfl (Ext.refl _ _) rfl (by decide) rfl rfl ⟨rfl, rfl⟩
 ·
  replace h := of_f hc3 h
  refine WL.yld (by decide) (Yld.move rfl) ?_
  refine WL.yld (by decide) (Yld.geq rfl rfl) ?_
  refine WL.yld (by decide) (Yld.move rfl) ?_
  refine WL.new (v' := .bool false) (congrArg Value.bool (decide_eq_false hc3)) ?_
  refine WL.skip (by decide) rfl rfl ?_
  refine WL.skip (by decide) rfl rfl ?_
  refine WL.yld (by decide) (Yld.pickF rfl rfl) ?_
  refine WL.yld (by decide) (Yld.assign rfl) ?_
  refine WL.done (hK2 _ _ ?_)
  refine WC.ret ?_
  injection h with h; subst h
  exact Ret.fn [] (ResIs.one rfl rfl) rfl (Ext.refl _ _) rfl (by decide) rfl rfl ⟨rfl, rfl⟩

set_option maxRecDepth 10000 in
theorem w_gfmatrix_Valid (M0 : Mem) (x00_0 : Int) (x00_1 : Int) (A00_2 : Option Addr) (n00_2 c00_2 : Nat) (x00_2 : List (BitVec 8)) (hf00_2 : SlT M0 A00_2 n00_2 c00_2 x00_2) {res : Bool} (h : m_gfmatrix_Valid x00_0 x00_1 x00_2 = some res) :
  Fn Try.prog 34 #[.agg ([I64 x00_0, I64 x00_1, .slice A00_2 n00_2 c00_2] : List Value).toArray] M0 fun r M' es => r = .bool res ∧ es = [] := by
 refine Fn.intro (N := 22) Try.func34 rfl rfl (Nat.le_of_ble_eq_true rfl) fun w0 => ?_
 unfold m_gfmatrix_Valid at h
 refine WC.seqRegion fun K1 hK1 => ?_
 refine WL.eff (by decide) (Eff.box 102 (us := [I64 x00_0, I64 x00_1, .slice A00_2 n00_2 c00_2]) rfl rfl rfl) ?_
 rintro _ _ ⟨g2, rfl, rfl⟩
 refine WL.yld (by decide) (Yld.assign rfl) ?_
 refine WL.done (hK1 _ _ ?_)
 refine WC.seqRegion fun K3 hK3 => ?_
 obtain ⟨x4, hx4, h⟩ := bnd h
 by_cases hc6 : x4 = true
 ·
  replace h := of_t hc6 h
  obtain ⟨x7, hx7, h⟩ := bnd h
  by_cases hc9 : x7 = true
  ·
   replace h := of_t hc9 h
   obtain ⟨x10, hx10, h⟩ := bnd h
   refine WL.yld (by decide) (Yld.fieldAddr Try.underlying24 rfl nz_3 rfl rfl) ?_
   refine WL.yld (by decide) (Yld.loadB (k := 102) scal_3 rfl rfl rfl) ?_
   refine WL.eff (by decide) (Eff.callS 105 rfl Try.func35 nm_35 rfl rfl (fun w hb hh => w_gfmatrix_mayHave (Mem.snap w) x00_0 hx4)) ?_
   rintro _ _ ⟨_, ⟨rfl, rfl⟩, rfl⟩
   refine WL.yld (by decide) (Yld.move rfl) ?_
   refine WL.new (v' := .bool true) (congrArg Value.bool hc6) ?_
   refine WL.yldG (by decide) rfl (Yld.fieldAddr Try.underlying24 rfl nz_3 rfl rfl) ?_
   refine WL.yldG (by decide) rfl (Yld.loadB (k := 102) scal_3 rfl rfl rfl) ?_
   refine WL.effG (by decide) rfl (Eff.callS 108 rfl Try.func35 nm_35 rfl rfl (fun w hb hh => w_gfmatrix_mayHave (Mem.snap w) x00_1 hx7)) ?_
   rintro _ _ ⟨_, ⟨rfl, rfl⟩, rfl⟩
   refine WL.yld (by decide) (Yld.pickT rfl rfl) ?_
   refine WL.yld (by decide) (Yld.move rfl) ?_
   refine WL.new (v' := .bool true) (congrArg Value.bool hc9) ?_
   refine WL.yldG (by decide) rfl (Yld.fieldAddr Try.underlying24 rfl nz_22 rfl rfl) ?_
   refine WL.yldG (by decide) rfl (Yld.loadB (k := 102) scal_22 rfl rfl rfl) ?_
   refine WL.yldG (by decide) rfl (Yld.lenC (xs := x00_2) und_22 rfl (RdH.memM (k := 0) rfl hf00_2)) ?_
   refine WL.yldG (by decide) rfl (Yld.fieldAddr Try.underlying24 rfl nz_3 rfl rfl) ?_
   refine WL.yldG (by decide) rfl (Yld.loadB (k := 102) scal_3 rfl rfl rfl) ?_
   refine WL.yldG (by decide) rfl (Yld.fieldAddr Try.underlying24 rfl nz_3 rfl rfl) ?_
   refine WL.yldG (by decide) rfl (Yld.loadB (k := 102) scal_3 rfl rfl rfl) ?_
   refine WL.yldG (by decide) rfl (Yld.mulC rfl rfl hx10) ?_
   refine WL.yldG (by decide) rfl (Yld.eqlI rfl rfl) ?_
   refine WL.yld (by decide) (Yld.pickT rfl rfl) ?_
   refine WL.yld (by decide) (Yld.assign rfl) ?_
   refine WL.done (hK3 _ _ ?_)
   refine WC.ret ?_
   injection h with h; subst h
   exact Ret.fn [] (ResIs.one rfl rfl) rfl (Ext.refl _ _) rfl (by decide) rfl rfl ⟨rfl, rfl⟩
  ·
   replace h := of_f hc9 h
   refine WL.yld (by decide) (Yld.fieldAddr Try.underlying24 rfl nz_3 rfl rfl) ?_
   refine WL.yld (by decide) (Yld.loadB (k := 102) scal_3 rfl rfl rfl) ?_
   refine WL.eff (by decide) (Eff.callS 105 rfl Try.func35 nm_35 rfl rfl (fun w hb hh => w_gfmatrix_mayHave (Mem.snap w) x00_0 hx4)) ?_
   rintro _ _ ⟨_, ⟨rfl, rfl⟩, rfl⟩
   refine WL.yld (by decide) (Yld.move rfl) ?_
   refine WL.new (v' := .bool true) (congrArg Value.bool hc6) ?_
   refine WL.yldG (by decide) rfl (Yld.fieldAddr Try.underlying24 rfl nz_3 rfl rfl) ?_
   refine WL.yldG (by decide) rfl (Yld.loadB (k := 102) scal_3 rfl rfl rfl) ?_
   refine WL.effG (by decide) rfl (Eff.callS 108 rfl Try.func35 nm_35 rfl rfl (fun w hb hh => w_gfmatrix_mayHave (Mem.snap w) x00_1 hx7)) ?_
   rintro _ _ ⟨_, ⟨rfl, rfl⟩, rfl⟩
   refine WL.yld (by decide) (Yld.pickT rfl rfl) ?_
   refine WL.yld (by decide) (Yld.move rfl) ?_
   refine WL.new (v' := .bool false) (congrArg Value.bool (Bool.eq_false_iff.2 hc9)) ?_
   refine WL.skip (by decide) rfl rfl ?_
   refine WL.skip (by decide) rfl rfl ?_
   refine WL.skip (by decide) rfl rfl ?_
   refine WL.skip (by decide) rfl rfl ?_
   refine WL.skip (by decide) rfl rfl ?_
   refine WL.skip (by decide) rfl rfl ?_
   refine WL.skip (by decide) rfl rfl ?_
   refine WL.skip (by decide) rfl rfl ?_
   refine WL.skip (by decide) rfl rfl ?_
   refine WL.yld (by decide) (Yld.pickF rfl rfl) ?_
   refine WL.yld (by decide) (Yld.assign rfl) ?_
   refine WL.done (hK3 _ _ ?_)
   refine WC.ret ?_
   injection h with h; subst h
   exact Ret.fn [] (ResIs.one rfl rfl) rfl (Ext.refl _ _) rfl (by decide) rfl rfl ⟨rfl, rfl⟩
 ·
  replace h := of_f hc6 h
  refine WL.yld (by decide) (Yld.fieldAddr Try.underlying24 rfl nz_3 rfl rfl) ?_
  refine WL.yld (by decide) (Yld.loadB (k := 102) scal_3 rfl rfl rfl) ?_
  refine WL.eff (by decide) (Eff.callS 105 rfl Try.func35 nm_35 rfl rfl (fun w hb hh => w_gfmatrix_mayHave (Mem.snap w) x00_0 hx4)) ?_
  rintro _ _ ⟨_, ⟨rfl, rfl⟩, rfl⟩
  refine WL.yld (by decide) (Yld.move rfl) ?_
  refine WL.new (v' := .bool false) (congrArg Value.bool (Bool.eq_false_iff.2 hc6)) ?_
  refine WL.skip (by decide) rfl rfl ?_
  refine WL.skip (by decide) rfl rfl ?_
  refine WL.skip (by decide) rfl rfl ?_
  refine WL.yld (by decide) (Yld.pickF rfl rfl) ?_
  refine WL.yld (by decide) (Yld.move rfl) ?_
  refine WL.skip (by decide) rfl rfl ?_
  refine WL.skip (by decide) rfl rfl ?_
  refine WL.skip (by decide) rfl rfl ?_
  refine WL.skip (by decide) rfl rfl ?_
  refine WL.skip (by decide) rfl rfl ?_
  refine WL.skip (by decide) rfl rfl ?_
  refine WL.skip (by decide) rfl rfl ?_
  refine WL.skip (by decide) rfl rfl ?_
  refine WL.skip (by decide) rfl rfl ?_
  refine WL.yld (by decide) (Yld.pickF rfl rfl) ?_
  refine WL.yld (by decide) (Yld.assign rfl) ?_
  refine WL.done (hK3 _ _ ?_)
  refine WC.ret ?_
  injection h with h; subst h
  exact Ret.fn [] (ResIs.one rfl rfl) rfl (Ext.refl _ _) rfl (by decide) rfl rfl ⟨rfl, rfl⟩

set_option maxRecDepth 10000 in
theorem w_gfmatrix_empty (M0 : Mem) (x00 : Int) (x01 : Int) {res : Int × Int × (List (BitVec 8))} (h : m_gfmatrix_empty x00 x01 = some res) :
  Fn Try.prog 52 #[I64 x00, I64 x01] M0 fun r M' es => ∃ (A1 : Option Addr) (n1 c1 : Nat), r = .agg ([I64 res.1, I64 res.2.1, .slice A1 n1 c1] : List Value).toArray ∧ es = [.own 5 (Lay.sz (BitVec 8)) A1 n1 c1 (cel res.2.2)] := by
 refine Fn.intro (N := 12) Try.func52 rfl rfl (Nat.le_of_ble_eq_true rfl) fun w0 => ?_
 unfold m_gfmatrix_empty at h
 refine WC.seqRegion fun K1 hK1 => ?_
 refine WL.eff (by decide) (Eff.alloc 102 rfl zr_24) ?_
 rintro _ _ ⟨g2, rfl, rfl⟩
 refine WL.done (hK1 _ _ ?_)
 refine WC.seqRegion fun K3 hK3 => ?_
 obtain ⟨x4, hx4, h⟩ := bnd h
 obtain ⟨x6, hx6, h⟩ := bnd h
 refine WL.yld (by decide) (Yld.move rfl) ?_
 refine WL.yld (by decide) (Yld.move rfl) ?_
 refine WL.yld (by decide) (Yld.move rfl) ?_
 refine WL.yld (by decide) (Yld.move rfl) ?_
 refine WL.yld (by decide) (Yld.mulC rfl rfl hx4) ?_
 refine WL.eff (by decide) (Eff.makeC 105 0#8 sty_22 rfl rfl rfl rfl rfl rfl hx6) ?_
 rintro _ _ ⟨g5, rfl, rfl⟩
 refine WL.yld (by decide) (Yld.build rfl (bu_24_0_1_2 x00 x01 (some ⟨g5, 0, none⟩) x6.length x6.length)) ?_
 refine WL.eff0 (Eff0.storeBAM 102 agg_24 rfl rfl rfl ⟨rfl, rfl⟩ rfl) ?_
 refine WL.done (hK3 _ _ ?_)
 refine WC.ret ?_
 injection h with h; subst h
 exact Ret.fn [105] (ResIs.cellM (k := 102) rfl agg_24 rfl rfl (rfl)) rfl (Ext.refl _ _) rfl (by decide) rfl rfl ⟨(some ⟨g5, 0, none⟩), x6.length, x6.length, rfl, rfl⟩

set_option maxRecDepth 10000 in
theorem w_gfmatrix_Matrix_row (M0 : Mem) (x00_0 : Int) (x00_1 : Int) (A00_2 : Option Addr) (n00_2 c00_2 : Nat) (x01 : Int) {res : Int × Int} (hb : 0 ≤ res.1 ∧ res.1 ≤ res.2 ∧ res.2 ≤ c00_2) (h : m_gfmatrix_Matrix_row x00_0 x00_1 x01 = some res) :
  Fn Try.prog 36 #[.agg ([I64 x00_0, I64 x00_1, .slice A00_2 n00_2 c00_2] : List Value).toArray, I64 x01] M0 fun r M' es => r = .slice (subA A00_2 c00_2 (res.1).toNat 1) ((res.2).toNat - (res.1).toNat) (c00_2 - (res.1).toNat) ∧ es = [] := by
 refine Fn.intro (N := 17) Try.func36 rfl rfl (Nat.le_of_ble_eq_true rfl) fun w0 => ?_
 unfold m_gfmatrix_Matrix_row at h
 refine WC.seqRegion fun K1 hK1 => ?_
 refine WL.eff (by decide) (Eff.box 102 (us := [I64 x00_0, I64 x00_1, .slice A00_2 n00_2 c00_2]) rfl rfl rfl) ?_
 rintro _ _ ⟨g2, rfl, rfl⟩
 refine WL.yld (by decide) (Yld.assign rfl) ?_
 refine WL.done (hK1 _ _ ?_)
 refine WC.seqRegion fun K3 hK3 => ?_
 obtain ⟨x4, hx4, h⟩ := bnd h
 obtain ⟨x5, hx5, h⟩ := bnd h
 obtain ⟨x6, hx6, h⟩ := bnd h
 refine WL.yld (by decide) (Yld.fieldAddr Try.underlying24 rfl nz_22 rfl rfl) ?_
 refine WL.yld (by decide) (Yld.loadB (k := 102) scal_22 rfl rfl rfl) ?_
 refine WL.yld (by decide) (Yld.move rfl) ?_
 refine WL.yld (by decide) (Yld.fieldAddr Try.underlying24 rfl nz_3 rfl rfl) ?_
 refine WL.yld (by decide) (Yld.loadB (k := 102) scal_3 rfl rfl rfl) ?_
 refine WL.yld (by decide) (Yld.mulC rfl rfl hx4) ?_
 refine WL.yld (by decide) (Yld.move rfl) ?_
 refine WL.yld (by decide) (Yld.addC rfl rfl hx5) ?_
 refine WL.yld (by decide) (Yld.fieldAddr Try.underlying24 rfl nz_3 rfl rfl) ?_
 refine WL.yld (by decide) (Yld.loadB (k := 102) scal_3 rfl rfl rfl) ?_
 refine WL.yld (by decide) (Yld.mulC rfl rfl hx6) ?_
 have hres := Option.some.inj h
 subst hres
 refine WL.yld (by decide) (Yld.sliceLH sty_22 rfl rfl rfl hb) ?_
 refine WL.yld (by decide) (Yld.assign rfl) ?_
 refine WL.done (hK3 _ _ ?_)
 refine WC.ret ?_
 exact Ret.fn [] (ResIs.one rfl rfl) rfl (Ext.refl _ _) rfl (by decide) rfl rfl ⟨rfl, rfl⟩

set_option maxRecDepth 10000 in
theorem w_gfmatrix_Matrix_at (M0 : Mem) (x00_0 : Int) (x00_1 : Int) (A00_2 : Option Addr) (n00_2 c00_2 : Nat) (x00_2 : List (BitVec 8)) (hf00_2 : SlT M0 A00_2 n00_2 c00_2 x00_2) (x01 : Int) (x02 : Int) {res : (BitVec 8)} (h : m_gfmatrix_Matrix_at x00_0 x00_1 x00_2 x01 x02 = some res) :
  Fn Try.prog 40 #[.agg ([I64 x00_0, I64 x00_1, .slice A00_2 n00_2 c00_2] : List Value).toArray, I64 x01, I64 x02] M0 fun r M' es => r = U8 res ∧ es = [] := by
 refine Fn.intro (N := 17) Try.func40 rfl rfl (Nat.le_of_ble_eq_true rfl) fun w0 => ?_
 unfold m_gfmatrix_Matrix_at at h
 refine WC.seqRegion fun K1 hK1 => ?_
 refine WL.eff (by decide) (Eff.box 102 (us := [I64 x00_0, I64 x00_1, .slice A00_2 n00_2 c00_2]) rfl rfl rfl) ?_
 rintro _ _ ⟨g2, rfl, rfl⟩
 refine WL.yld (by decide) (Yld.assign (v := U8 0#8) rfl) ?_
 refine WL.done (hK1 _ _ ?_)
 refine WC.seqRegion fun K3 hK3 => ?_
 obtain ⟨x4, hx4, h⟩ := bnd h
 obtain ⟨x5, hx5, h⟩ := bnd h
 obtain ⟨x6, hx6, h⟩ := bnd h
 refine WL.yld (by decide) (Yld.fieldAddr Try.underlying24 rfl nz_22 rfl rfl) ?_
 refine WL.yld (by decide) (Yld.loadB (k := 102) scal_22 rfl rfl rfl) ?_
 refine WL.yld (by decide) (Yld.move rfl) ?_
 refine WL.yld (by decide) (Yld.fieldAddr Try.underlying24 rfl nz_3 rfl rfl) ?_
 refine WL.yld (by decide) (Yld.loadB (k := 102) scal_3 rfl rfl rfl) ?_
 refine WL.yld (by decide) (Yld.mulC rfl rfl hx4) ?_
 refine WL.yld (by decide) (Yld.move rfl) ?_
 refine WL.yld (by decide) (Yld.addC rfl rfl hx5) ?_
 refine WL.yld (by decide) (Yld.idxC (xs := x00_2) sty_22 rfl rfl (RdH.memM (k := 0) rfl hf00_2) hx6) ?_
 refine WL.yld (by decide) (Yld.loadC0 (xs := x00_2) scal_5 rfl (RdH.memM (k := 0) rfl hf00_2) hx6 rfl) ?_
 refine WL.yld (by decide) (Yld.assign rfl) ?_
 refine WL.done (hK3 _ _ ?_)
 refine WC.ret ?_
 injection h with h; subst h
 exact Ret.fn [] (ResIs.one rfl rfl) rfl (Ext.refl _ _) rfl (by decide) rfl rfl ⟨rfl, rfl⟩

set_option maxRecDepth 10000 in
theorem w_gfmatrix_Identity (M0 : Mem) (x00 : Int) {res : Int × Int × (List (BitVec 8)) × Int} (h : m_gfmatrix_Identity x00 = some res) :
  Fn Try.prog 38 #[I64 x00] M0 fun r M' es => ∃ (A1 : Option Addr) (n1 c1 : Nat), r = .tuple #[.agg ([I64 res.1, I64 res.2.1, .slice A1 n1 c1] : List Value).toArray, I64 res.2.2.2] ∧ es = [.own 5 (Lay.sz (BitVec 8)) A1 n1 c1 (cel res.2.2.1)] := by
 refine Fn.intro (N := 24) Try.func38 rfl rfl (Nat.le_of_ble_eq_true rfl) fun w0 => ?_
 unfold m_gfmatrix_Identity at h
 refine WC.seqRegion fun K1 hK1 => ?_
 refine WL.eff (by decide) (Eff.alloc 102 rfl zr_24) ?_
 rintro _ _ ⟨g2, rfl, rfl⟩
 refine WL.yld (by decide) (Yld.assign rfl) ?_
 refine WL.done (hK1 _ _ ?_)
 refine WC.seq fun K3 hK3 => ?_
 refine WC.seqRegion fun K4 hK4 => ?_
 obtain ⟨x5, hx5, h⟩ := bnd h
 refine WL.yld (by decide) (Yld.move rfl) ?_
 refine WL.eff (by decide) (Eff.callS 106 rfl Try.func35 nm_35 rfl rfl (fun w hb hh => w_gfmatrix_mayHave (Mem.snap w) x00 hx5)) ?_
 rintro _ _ ⟨_, ⟨rfl, rfl⟩, rfl⟩
 refine WL.yld (by decide) (Yld.notB rfl) ?_
 refine WL.done (hK4 _ _ ?_)
 by_cases hc7 : x5 = true
 ·
  replace h := of_t hc7 h
  refine WC.condFe rfl (not_f hc7) ?_
  refine WC.skip ?_
  refine QK.thenN (hK3 _ _ ?_)
  refine WC.seqRegion fun K8 hK8 => ?_
  obtain ⟨x9, hx9, h⟩ := bnd h
  refine WL.yld (by decide) (Yld.move rfl) ?_
  refine WL.yld (by decide) (Yld.move rfl) ?_
  refine WL.eff (by decide) (Eff.callS 113 rfl Try.func52 nm_52 rfl rfl (fun w hb hh => w_gfmatrix_empty (Mem.snap w) x00 x00 hx9)) ?_
  rintro _ _ ⟨_, ⟨A14, n15, c16, rfl, rfl⟩, rfl⟩
  refine WL.eff (by decide) (Eff.alloc 117 rfl zr_24) ?_
  rintro _ _ ⟨g17, rfl, rfl⟩
  refine WL.eff0 (Eff0.storeBAM 117 agg_24 rfl rfl rfl ⟨rfl, rfl⟩ rfl) ?_
  refine WL.done (hK8 _ _ ?_)
  refine WC.seqCut (σ := (List (BitVec 8))) (fun x18 => [(2, .pointer (some ⟨g2, 0, none⟩)), (4, .pointer (some ⟨g17, 0, none⟩))]) (fun x18 => [(0, .mem M0), (102, .blk g2 24 [I64 (0 : Int), I64 (0 : Int), .slice none 0 0]), (113, .own 5 (Lay.sz (BitVec 8)) A14 n15 c16 (cel x18)), (117, .blk g17 24 [I64 x9.1, I64 x9.2.1, .slice A14 n15 c16])]) (fun x18 => m_gfmatrix_Identity_j0 x9 x18 = some res) (fun K19 hK19 => ?_) ?_
  ·
   skip
   refine WC.seqRegion fun K20 hK20 => ?_
   refine WL.yld (by decide) (Yld.move rfl) ?_
   refine WL.yld (by decide) (Yld.move rfl) ?_
   refine WL.done (hK20 _ _ ?_)
   refine WC.block ?_
   refine WC.loop (σ := Nat × (List (BitVec 8)) × Int) (fun ⟨q23, x21, x22⟩ => [(2, .pointer (some ⟨g2, 0, none⟩)), (4, .pointer (some ⟨g17, 0, none⟩)), (13, I64 x00), (14, I64 x22)]) (fun ⟨q23, x21, x22⟩ => [(0, .mem M0), (102, .blk g2 24 [I64 (0 : Int), I64 (0 : Int), .slice none 0 0]), (113, .own 5 (Lay.sz (BitVec 8)) A14 n15 c16 (cel x21)), (117, .blk g17 24 [I64 x9.1, I64 x9.2.1, .slice A14 n15 c16])]) (fun ⟨q23, x21, x22⟩ => m_gfmatrix_Identity_l1 x00 x9 q23 x21 x22 = some res) (fun ⟨q23, x21, x22⟩ => q23) ⟨forever, x9.2.2, (0 : Int)⟩ ?_ (Sub.cons rfl (Sub.cons rfl (Sub.cons rfl (Sub.cons rfl (Sub.nil _))))) (Sub.cons rfl (Sub.cons rfl (Sub.cons rfl (Sub.cons rfl (Sub.nil _))))) ?_
   ·
    exact h
   rintro ⟨q23, x21, x22⟩ h K24 hK24
   cases q23 with
   | zero => exact absurd h (by simp [m_gfmatrix_Identity_l1])
   | succ q23 =>
    unfold m_gfmatrix_Identity_l1 at h
    refine WC.seqRegion fun K25 hK25 => ?_
    refine WL.yld (by decide) (Yld.lss rfl rfl) ?_
    refine WL.done (hK25 _ _ ?_)
    refine WC.seq fun K26 hK26 => ?_
    by_cases hc27 : x22 < x00
    ·
     replace h := of_t hc27 h
     refine WC.condTe rfl (decide_eq_true hc27) ?_
     refine WC.skip ?_
     refine QK.thenN (hK26 _ _ ?_)
     refine WC.seq fun K28 hK28 => ?_
     refine WC.block ?_
     refine WC.seqRegion fun K29 hK29 => ?_
     refine WL.yld (by decide) (Yld.move rfl) ?_
     refine WL.yld (by decide) (Yld.assign rfl) ?_
     refine WL.done (hK29 _ _ ?_)
     refine WC.region fun K30 hK30 => ?_
     obtain ⟨x31, hx31, h⟩ := bnd h
     obtain ⟨x32, hx32, h⟩ := bnd h
     obtain ⟨x33, hx33, h⟩ := bnd h
     obtain ⟨x34, hx34, h⟩ := bnd h
     obtain ⟨x35, hx35, h⟩ := bnd h
     refine WL.yld (by decide) (Yld.loadBM (k := 117) agg_24 rfl rfl rfl) ?_
     refine WL.yld (by decide) (Yld.move rfl) ?_
     refine WL.eff (by decide) (Eff.callS 1 rfl Try.func36 nm_36 rfl rfl (fun w hb hh => w_gfmatrix_Matrix_row (Mem.snap w) x9.1 x9.2.1 A14 n15 c16 x22 (SlT.slcB (RdH.sn (RdH.own (k := 113) rfl) w hb hh) hx32) hx31)) ?_
     rintro _ _ ⟨_, ⟨rfl, rfl⟩, rfl⟩
     refine WL.yld (by decide) (Yld.move rfl) ?_
     refine WL.yld (by decide) (Yld.idxC (xs := x33) sty_22 rfl rfl (RdT.slcN (RdH.own (k := 113) rfl) hx33) hx34) ?_
     refine WL.eff0 (Eff0.storeS 113 (xs := x21) (lo := x31.1) (hi := x31.2) (a' := 1#8) siz_5 rfl rfl rfl rfl rfl rfl hx35) ?_
     refine WL.done (hK30 _ _ ?_)
     refine QK.blockN ?_
     refine QK.thenN (hK28 _ _ ?_)
     refine WC.region fun K36 hK36 => ?_
     obtain ⟨x37, hx37, h⟩ := bnd h
     refine WL.yld (by decide) (Yld.addC rfl rfl hx37) ?_
     refine WL.yld (by decide) (Yld.move rfl) ?_
     refine WL.done (hK36 _ _ ?_)
     refine QK.thenN ?_
     refine hK24 ⟨q23, x35, x37⟩ _ _ ?_ (Nat.lt_succ_self _) (Sub.cons rfl (Sub.cons rfl (Sub.cons rfl (Sub.cons rfl (Sub.nil _))))) (Sub.cons rfl (Sub.cons rfl (Sub.cons rfl (Sub.cons rfl (Sub.nil _)))))
     exact h
    ·
     replace h := of_f hc27 h
     refine WC.condFe rfl (decide_eq_false hc27) ?_
     refine WC.exit (QK.thenE (QK.thenE (QK.blockX ?_)))
     refine QK.thenN ?_
     refine hK19 x21 _ _ ?_ (Sub.cons rfl (Sub.cons rfl (Sub.nil _))) (Sub.cons rfl (Sub.cons rfl (Sub.cons rfl (Sub.cons rfl (Sub.nil _)))))
     exact h
  ·
   rintro x18 h
   unfold m_gfmatrix_Identity_j0 at h
   refine WC.seqRegion fun K38 hK38 => ?_
   refine WL.yld (by decide) (Yld.loadBM (k := 117) agg_24 rfl rfl rfl) ?_
   refine WL.eff0 (Eff0.storeBAM 102 agg_24 rfl rfl rfl ⟨rfl, rfl⟩ rfl) ?_
   refine WL.yld (by decide) (Yld.assign rfl) ?_
   refine WL.done (hK38 _ _ ?_)
   refine WC.ret ?_
   injection h with h; subst h
   exact Ret.fn [113] (ResIs.cellTmpM (k := 102) rfl agg_24 rfl rfl rfl rfl) rfl (Ext.refl _ _) rfl (by decide) rfl rfl ⟨A14, n15, c16, rfl, rfl⟩
 ·
  replace h := of_f hc7 h
  refine WC.condTe rfl (not_t (Bool.eq_false_iff.2 hc7)) ?_
  refine WC.seqRegion fun K39 hK39 => ?_
  refine WL.yld (by decide) (Yld.build rfl (bu_24_)) ?_
  refine WL.eff0 (Eff0.storeBAM 102 agg_24 rfl rfl rfl ⟨rfl, rfl⟩ rfl) ?_
  refine WL.yld (by decide) (Yld.assign rfl) ?_
  refine WL.done (hK39 _ _ ?_)
  refine WC.ret (QK.thenR ?_)
  refine QK.nilOwn 140 5 (Lay.sz (BitVec 8)) none ?_
  injection h with h; subst h
  exact Ret.fn [140] (ResIs.cellTmpM (k := 102) rfl agg_24 rfl rfl rfl rfl) rfl (Ext.refl _ _) rfl (by decide) rfl rfl ⟨none, 0, 0, rfl, rfl⟩

set_option maxRecDepth 10000 in
theorem w_gfmatrix_Vandermonde (M0 : Mem) (x00 : Int) (x01 : Int) {res : Int × Int × (List (BitVec 8)) × Int} (h : m_gfmatrix_Vandermonde x00 x01 = some res) :
  Fn Try.prog 28 #[I64 x00, I64 x01] M0 fun r M' es => ∃ (A1 : Option Addr) (n1 c1 : Nat), r = .tuple #[.agg ([I64 res.1, I64 res.2.1, .slice A1 n1 c1] : List Value).toArray, I64 res.2.2.2] ∧ es = [.own 5 (Lay.sz (BitVec 8)) A1 n1 c1 (cel res.2.2.1)] := by
 refine Fn.intro (N := 41) Try.func28 rfl rfl (Nat.le_of_ble_eq_true rfl) fun w0 => ?_
 unfold m_gfmatrix_Vandermonde at h
 refine WC.seqRegion fun K1 hK1 => ?_
 refine WL.eff (by decide) (Eff.alloc 102 rfl zr_24) ?_
 rintro _ _ ⟨g2, rfl, rfl⟩
 refine WL.yld (by decide) (Yld.assign rfl) ?_
 refine WL.done (hK1 _ _ ?_)
 refine WC.seqCut (σ := Unit) (fun _ => [(0, I64 x00), (1, I64 x01), (4, .pointer (some ⟨g2, 0, none⟩))]) (fun _ => [(0, .mem M0), (102, .blk g2 24 [I64 (0 : Int), I64 (0 : Int), .slice none 0 0])]) (fun _ => m_gfmatrix_Vandermonde_j0 x00 x01 = some res) (fun K3 hK3 => ?_) ?_
 ·
  skip
  refine WC.seqRegion fun K4 hK4 => ?_
  obtain ⟨x5, hx5, h⟩ := bnd h
  by_cases hc7 : x5 = true
  ·
   replace h := of_t hc7 h
   obtain ⟨x8, hx8, h⟩ := bnd h
   refine WL.yld (by decide) (Yld.move rfl) ?_
   refine WL.eff (by decide) (Eff.callS 106 rfl Try.func35 nm_35 rfl rfl (fun w hb hh => w_gfmatrix_mayHave (Mem.snap w) x00 hx5)) ?_
   rintro _ _ ⟨_, ⟨rfl, rfl⟩, rfl⟩
   refine WL.yld (by decide) (Yld.notB rfl) ?_
   refine WL.yld (by decide) (Yld.move rfl) ?_
   refine WL.new (v' := .bool false) (congrArg Value.bool (not_f hc7)) ?_
   refine WL.yldG (by decide) rfl (Yld.move rfl) ?_
   refine WL.effG (by decide) rfl (Eff.callS 109 rfl Try.func35 nm_35 rfl rfl (fun w hb hh => w_gfmatrix_mayHave (Mem.snap w) x01 hx8)) ?_
   rintro _ _ ⟨_, ⟨rfl, rfl⟩, rfl⟩
   refine WL.yldG (by decide) rfl (Yld.notB rfl) ?_
   refine WL.yld (by decide) (Yld.pickF rfl rfl) ?_
   refine WL.done (hK4 _ _ ?_)
   by_cases hc10 : x8 = true
   ·
    replace h := of_t hc10 h
    refine WC.condFe rfl (not_f hc10) ?_
    refine WC.skip ?_
    refine QK.thenN ?_
    refine hK3 () _ _ ?_ (Sub.cons rfl (Sub.cons rfl (Sub.cons rfl (Sub.nil _)))) (Sub.cons rfl (Sub.cons rfl (Sub.nil _)))
    exact h
   ·
    replace h := of_f hc10 h
    refine WC.condTe rfl (not_t (Bool.eq_false_iff.2 hc10)) ?_
    refine WC.seqRegion fun K11 hK11 => ?_
    refine WL.yld (by decide) (Yld.build rfl (bu_24_)) ?_
    refine WL.eff0 (Eff0.storeBAM 102 agg_24 rfl rfl rfl ⟨rfl, rfl⟩ rfl) ?_
    refine WL.yld (by decide) (Yld.assign rfl) ?_
    refine WL.done (hK11 _ _ ?_)
    refine WC.ret (QK.thenR ?_)
    refine QK.nilOwn 112 5 (Lay.sz (BitVec 8)) none ?_
    injection h with h; subst h
    exact Ret.fn [112] (ResIs.cellTmpM (k := 102) rfl agg_24 rfl rfl rfl rfl) rfl (Ext.refl _ _) rfl (by decide) rfl rfl ⟨none, 0, 0, rfl, rfl⟩
  ·
   replace h := of_f hc7 h
   refine WL.yld (by decide) (Yld.move rfl) ?_
   refine WL.eff (by decide) (Eff.callS 106 rfl Try.func35 nm_35 rfl rfl (fun w hb hh => w_gfmatrix_mayHave (Mem.snap w) x00 hx5)) ?_
   rintro _ _ ⟨_, ⟨rfl, rfl⟩, rfl⟩
   refine WL.yld (by decide) (Yld.notB rfl) ?_
   refine WL.yld (by decide) (Yld.move rfl) ?_
   refine WL.new (v' := .bool true) (congrArg Value.bool (not_t (Bool.eq_false_iff.2 hc7))) ?_
   refine WL.skip (by decide) rfl rfl ?_
   refine WL.skip (by decide) rfl rfl ?_
   refine WL.skip (by decide) rfl rfl ?_
   refine WL.yld (by decide) (Yld.pickT rfl rfl) ?_
   refine WL.done (hK4 _ _ ?_)
   refine WC.condT rfl ?_
   refine WC.seqRegion fun K13 hK13 => ?_
   refine WL.yld (by decide) (Yld.build rfl (bu_24_)) ?_
   refine WL.eff0 (Eff0.storeBAM 102 agg_24 rfl rfl rfl ⟨rfl, rfl⟩ rfl) ?_
   refine WL.yld (by decide) (Yld.assign rfl) ?_
   refine WL.done (hK13 _ _ ?_)
   refine WC.ret (QK.thenR ?_)
   refine QK.nilOwn 114 5 (Lay.sz (BitVec 8)) none ?_
   injection h with h; subst h
   exact Ret.fn [114] (ResIs.cellTmpM (k := 102) rfl agg_24 rfl rfl rfl rfl) rfl (Ext.refl _ _) rfl (by decide) rfl rfl ⟨none, 0, 0, rfl, rfl⟩
 ·
  rintro _ h
  unfold m_gfmatrix_Vandermonde_j0 at h
  refine WC.seqRegion fun K15 hK15 => ?_
  obtain ⟨x16, hx16, h⟩ := bnd h
  refine WL.yld (by decide) (Yld.move rfl) ?_
  refine WL.yld (by decide) (Yld.move rfl) ?_
  refine WL.eff (by decide) (Eff.callS 120 rfl Try.func52 nm_52 rfl rfl (fun w hb hh => w_gfmatrix_empty (Mem.snap w) x00 x01 hx16)) ?_
  rintro _ _ ⟨_, ⟨A21, n22, c23, rfl, rfl⟩, rfl⟩
  refine WL.eff (by decide) (Eff.alloc 124 rfl zr_24) ?_
  rintro _ _ ⟨g24, rfl, rfl⟩
  refine WL.eff0 (Eff0.storeBAM 124 agg_24 rfl rfl rfl ⟨rfl, rfl⟩ rfl) ?_
  refine WL.done (hK15 _ _ ?_)
  refine WC.seqCut (σ := (List (BitVec 8))) (fun x25 => [(4, .pointer (some ⟨g2, 0, none⟩)), (6, .pointer (some ⟨g24, 0, none⟩))]) (fun x25 => [(0, .mem M0), (102, .blk g2 24 [I64 (0 : Int), I64 (0 : Int), .slice none 0 0]), (120, .own 5 (Lay.sz (BitVec 8)) A21 n22 c23 (cel x25)), (124, .blk g24 24 [I64 x16.1, I64 x16.2.1, .slice A21 n22 c23])]) (fun x25 => m_gfmatrix_Vandermonde_j1 x16 x25 = some res) (fun K26 hK26 => ?_) ?_
  ·
   skip
   refine WC.seqRegion fun K27 hK27 => ?_
   refine WL.yld (by decide) (Yld.move rfl) ?_
   refine WL.yld (by decide) (Yld.move rfl) ?_
   refine WL.done (hK27 _ _ ?_)
   refine WC.block ?_
   refine WC.loop (σ := Nat × (List (BitVec 8)) × Int) (fun ⟨q30, x28, x29⟩ => [(1, I64 x01), (4, .pointer (some ⟨g2, 0, none⟩)), (6, .pointer (some ⟨g24, 0, none⟩)), (21, I64 x00), (22, I64 x29)]) (fun ⟨q30, x28, x29⟩ => [(0, .mem M0), (102, .blk g2 24 [I64 (0 : Int), I64 (0 : Int), .slice none 0 0]), (120, .own 5 (Lay.sz (BitVec 8)) A21 n22 c23 (cel x28)), (124, .blk g24 24 [I64 x16.1, I64 x16.2.1, .slice A21 n22 c23])]) (fun ⟨q30, x28, x29⟩ => m_gfmatrix_Vandermonde_l2 x00 x01 x16 q30 x28 x29 = some res) (fun ⟨q30, x28, x29⟩ => q30) ⟨forever, x16.2.2, (0 : Int)⟩ ?_ (Sub.cons rfl (Sub.cons rfl (Sub.cons rfl (Sub.cons rfl (Sub.cons rfl (Sub.nil _)))))) (Sub.cons rfl (Sub.cons rfl (Sub.cons rfl (Sub.cons rfl (Sub.nil _))))) ?_
   ·
    exact h
   rintro ⟨q30, x28, x29⟩ h K31 hK31
   cases q30 with
   | zero => exact absurd h (by simp [m_gfmatrix_Vandermonde_l2])
   | succ q30 =>
    unfold m_gfmatrix_Vandermonde_l2 at h
    refine WC.seqRegion fun K32 hK32 => ?_
    refine WL.yld (by decide) (Yld.lss rfl rfl) ?_
    refine WL.done (hK32 _ _ ?_)
    refine WC.seq fun K33 hK33 => ?_
    by_cases hc34 : x29 < x00
    ·
     replace h := of_t hc34 h
     refine WC.condTe rfl (decide_eq_true hc34) ?_
     refine WC.skip ?_
     refine QK.thenN (hK33 _ _ ?_)
     refine WC.seqCut (σ := (List (BitVec 8))) (fun x35 => [(1, I64 x01), (4, .pointer (some ⟨g2, 0, none⟩)), (6, .pointer (some ⟨g24, 0, none⟩)), (21, I64 x00), (22, I64 x29)]) (fun x35 => [(0, .mem M0), (102, .blk g2 24 [I64 (0 : Int), I64 (0 : Int), .slice none 0 0]), (120, .own 5 (Lay.sz (BitVec 8)) A21 n22 c23 (cel x35)), (124, .blk g24 24 [I64 x16.1, I64 x16.2.1, .slice A21 n22 c23])]) (fun x35 => m_gfmatrix_Vandermonde_j3 x29 (m_gfmatrix_Vandermonde_l2 x00 x01 x16 q30) x35 = some res) (fun K36 hK36 => ?_) ?_
     ·
      skip
      refine WC.block ?_
      refine WC.seqRegion fun K37 hK37 => ?_
      refine WL.yld (by decide) (Yld.move rfl) ?_
      refine WL.yld (by decide) (Yld.assign rfl) ?_
      refine WL.done (hK37 _ _ ?_)
      refine WC.seqRegion fun K38 hK38 => ?_
      refine WL.yld (by decide) (Yld.move rfl) ?_
      refine WL.yld (by decide) (Yld.move rfl) ?_
      refine WL.done (hK38 _ _ ?_)
      refine WC.block ?_
      refine WC.loop (σ := Nat × (List (BitVec 8)) × Int) (fun ⟨q41, x39, x40⟩ => [(1, I64 x01), (4, .pointer (some ⟨g2, 0, none⟩)), (6, .pointer (some ⟨g24, 0, none⟩)), (7, I64 x29), (21, I64 x00), (22, I64 x29), (25, I64 x01), (26, I64 x40)]) (fun ⟨q41, x39, x40⟩ => [(0, .mem M0), (102, .blk g2 24 [I64 (0 : Int), I64 (0 : Int), .slice none 0 0]), (120, .own 5 (Lay.sz (BitVec 8)) A21 n22 c23 (cel x39)), (124, .blk g24 24 [I64 x16.1, I64 x16.2.1, .slice A21 n22 c23])]) (fun ⟨q41, x39, x40⟩ => m_gfmatrix_Vandermonde_l4 x01 x16 x29 (m_gfmatrix_Vandermonde_l2 x00 x01 x16 q30) q41 x39 x40 = some res) (fun ⟨q41, x39, x40⟩ => q41) ⟨forever, x28, (0 : Int)⟩ ?_ (Sub.cons rfl (Sub.cons rfl (Sub.cons rfl (Sub.cons rfl (Sub.cons rfl (Sub.cons rfl (Sub.cons rfl (Sub.cons rfl (Sub.nil _))))))))) (Sub.cons rfl (Sub.cons rfl (Sub.cons rfl (Sub.cons rfl (Sub.nil _))))) ?_
      ·
       exact h
      rintro ⟨q41, x39, x40⟩ h K42 hK42
      cases q41 with
      | zero => exact absurd h (by simp [m_gfmatrix_Vandermonde_l4])
      | succ q41 =>
       unfold m_gfmatrix_Vandermonde_l4 at h
       refine WC.seqRegion fun K43 hK43 => ?_
       refine WL.yld (by decide) (Yld.lss rfl rfl) ?_
       refine WL.done (hK43 _ _ ?_)
       refine WC.seq fun K44 hK44 => ?_
       by_cases hc45 : x40 < x01
       ·
        replace h := of_t hc45 h
        refine WC.condTe rfl (decide_eq_true hc45) ?_
        refine WC.skip ?_
        refine QK.thenN (hK44 _ _ ?_)
        refine WC.seq fun K46 hK46 => ?_
        refine WC.block ?_
        refine WC.seqRegion fun K47 hK47 => ?_
        refine WL.yld (by decide) (Yld.move rfl) ?_
        refine WL.yld (by decide) (Yld.assign rfl) ?_
        refine WL.done (hK47 _ _ ?_)
        refine WC.region fun K48 hK48 => ?_
        obtain ⟨x49, hx49, h⟩ := bnd h
        obtain ⟨x50, hx50, h⟩ := bnd h
        obtain ⟨x51, hx51, h⟩ := bnd h
        obtain ⟨x53, hx53, h⟩ := bnd h
        obtain ⟨x54, hx54, h⟩ := bnd h
        obtain ⟨x55, hx55, h⟩ := bnd h
        refine WL.yld (by decide) (Yld.loadBM (k := 124) agg_24 rfl rfl rfl) ?_
        refine WL.yld (by decide) (Yld.move rfl) ?_
        refine WL.eff (by decide) (Eff.callS 1 rfl Try.func36 nm_36 rfl rfl (fun w hb hh => w_gfmatrix_Matrix_row (Mem.snap w) x16.1 x16.2.1 A21 n22 c23 x29 (SlT.slcB (RdH.sn (RdH.own (k := 120) rfl) w hb hh) hx50) hx49)) ?_
        rintro _ _ ⟨_, ⟨rfl, rfl⟩, rfl⟩
        refine WL.yld (by decide) (Yld.move rfl) ?_
        refine WL.yld (by decide) (Yld.move rfl) ?_
        refine WL.yld (by decide) (Yld.conv_i64_u8 some_3 und_5 rfl) ?_
        refine WL.yld (by decide) (Yld.move rfl) ?_
        refine WL.eff (by decide) (Eff.callS 152 rfl Try.func53 nm_53 rfl rfl (fun w hb hh => w_gf256_Pow (Mem.snap w) (BitVec.ofInt 8 x29) x40 hx51)) ?_
        rintro _ _ ⟨_, ⟨rfl, rfl⟩, rfl⟩
        refine WL.yld (by decide) (Yld.idxC (xs := x53) sty_22 rfl rfl (RdT.slcN (RdH.own (k := 120) rfl) hx53) hx54) ?_
        refine WL.eff0 (Eff0.storeS 120 (xs := x39) (lo := x49.1) (hi := x49.2) (a' := x51) siz_5 rfl rfl rfl rfl rfl rfl hx55) ?_
        refine WL.done (hK48 _ _ ?_)
        refine QK.blockN ?_
        refine QK.thenN (hK46 _ _ ?_)
        refine WC.region fun K56 hK56 => ?_
        obtain ⟨x57, hx57, h⟩ := bnd h
        refine WL.yld (by decide) (Yld.addC rfl rfl hx57) ?_
        refine WL.yld (by decide) (Yld.move rfl) ?_
        refine WL.done (hK56 _ _ ?_)
        refine QK.thenN ?_
        refine hK42 ⟨q41, x55, x57⟩ _ _ ?_ (Nat.lt_succ_self _) (Sub.cons rfl (Sub.cons rfl (Sub.cons rfl (Sub.cons rfl (Sub.cons rfl (Sub.cons rfl (Sub.cons rfl (Sub.cons rfl (Sub.nil _))))))))) (Sub.cons rfl (Sub.cons rfl (Sub.cons rfl (Sub.cons rfl (Sub.nil _)))))
        exact h
       ·
        replace h := of_f hc45 h
        refine WC.condFe rfl (decide_eq_false hc45) ?_
        refine WC.exit (QK.thenE (QK.thenE (QK.blockX ?_)))
        refine QK.blockN ?_
        refine QK.thenN ?_
        refine hK36 x39 _ _ ?_ (Sub.cons rfl (Sub.cons rfl (Sub.cons rfl (Sub.cons rfl (Sub.cons rfl (Sub.nil _)))))) (Sub.cons rfl (Sub.cons rfl (Sub.cons rfl (Sub.cons rfl (Sub.nil _)))))
        exact h
     ·
      rintro x35 h
      unfold m_gfmatrix_Vandermonde_j3 at h
      refine WC.region fun K58 hK58 => ?_
      obtain ⟨x59, hx59, h⟩ := bnd h
      refine WL.yld (by decide) (Yld.addC rfl rfl hx59) ?_
      refine WL.yld (by decide) (Yld.move rfl) ?_
      refine WL.done (hK58 _ _ ?_)
      refine QK.thenN ?_
      refine hK31 ⟨q30, x35, x59⟩ _ _ ?_ (Nat.lt_succ_self _) (Sub.cons rfl (Sub.cons rfl (Sub.cons rfl (Sub.cons rfl (Sub.cons rfl (Sub.nil _)))))) (Sub.cons rfl (Sub.cons rfl (Sub.cons rfl (Sub.cons rfl (Sub.nil _)))))
      exact h
    ·
     replace h := of_f hc34 h
     refine WC.condFe rfl (decide_eq_false hc34) ?_
     refine WC.exit (QK.thenE (QK.thenE (QK.blockX ?_)))
     refine QK.thenN ?_
     refine hK26 x28 _ _ ?_ (Sub.cons rfl (Sub.cons rfl (Sub.nil _))) (Sub.cons rfl (Sub.cons rfl (Sub.cons rfl (Sub.cons rfl (Sub.nil _)))))
     exact h
  ·
   rintro x25 h
   unfold m_gfmatrix_Vandermonde_j1 at h
   refine WC.seqRegion fun K60 hK60 => ?_
   refine WL.yld (by decide) (Yld.loadBM (k := 124) agg_24 rfl rfl rfl) ?_
   refine WL.eff0 (Eff0.storeBAM 102 agg_24 rfl rfl rfl ⟨rfl, rfl⟩ rfl) ?_
   refine WL.yld (by decide) (Yld.assign rfl) ?_
   refine WL.done (hK60 _ _ ?_)
   refine WC.ret ?_
   injection h with h; subst h
   exact Ret.fn [120] (ResIs.cellTmpM (k := 102) rfl agg_24 rfl rfl rfl rfl) rfl (Ext.refl _ _) rfl (by decide) rfl rfl ⟨A21, n22, c23, rfl, rfl⟩

set_option maxRecDepth 10000 in
theorem w_gfmatrix_Mul (M0 : Mem) (x00_0 : Int) (x00_1 : Int) (A00_2 : Option Addr) (n00_2 c00_2 : Nat) (x00_2 : List (BitVec 8)) (hf00_2 : SlT M0 A00_2 n00_2 c00_2 x00_2) (x01_0 : Int) (x01_1 : Int) (A01_2 : Option Addr) (n01_2 c01_2 : Nat) (x01_2 : List (BitVec 8)) (hf01_2 : SlT M0 A01_2 n01_2 c01_2 x01_2) {res : Int × Int × (List (BitVec 8)) × Int} (h : m_gfmatrix_Mul x00_0 x00_1 x00_2 x01_0 x01_1 x01_2 = some res) :
  Fn Try.prog 29 #[.agg ([I64 x00_0, I64 x00_1, .slice A00_2 n00_2 c00_2] : List Value).toArray, .agg ([I64 x01_0, I64 x01_1, .slice A01_2 n01_2 c01_2] : List Value).toArray] M0 fun r M' es => ∃ (A1 : Option Addr) (n1 c1 : Nat), r = .tuple #[.agg ([I64 res.1, I64 res.2.1, .slice A1 n1 c1] : List Value).toArray, I64 res.2.2.2] ∧ es = [.own 5 (Lay.sz (BitVec 8)) A1 n1 c1 (cel res.2.2.1)] := by
 refine Fn.intro (N := 67) Try.func29 rfl rfl (Nat.le_of_ble_eq_true rfl) fun w0 => ?_
 unfold m_gfmatrix_Mul at h
 refine WC.seqRegion fun K1 hK1 => ?_
 refine WL.eff (by decide) (Eff.box 102 (us := [I64 x00_0, I64 x00_1, .slice A00_2 n00_2 c00_2]) rfl rfl rfl) ?_
 rintro _ _ ⟨g2, rfl, rfl⟩
 refine WL.eff (by decide) (Eff.box 103 (us := [I64 x01_0, I64 x01_1, .slice A01_2 n01_2 c01_2]) rfl rfl rfl) ?_
 rintro _ _ ⟨g3, rfl, rfl⟩
 refine WL.eff (by decide) (Eff.alloc 104 rfl zr_24) ?_
 rintro _ _ ⟨g4, rfl, rfl⟩
 refine WL.yld (by decide) (Yld.assign rfl) ?_
 refine WL.done (hK1 _ _ ?_)
 refine WC.seqCut (σ := Unit) (fun _ => [(2, .pointer (some ⟨g2, 0, none⟩)), (3, .pointer (some ⟨g3, 0, none⟩)), (4, .pointer (some ⟨g4, 0, none⟩))]) (fun _ => [(0, .mem M0), (102, .blk g2 24 [I64 x00_0, I64 x00_1, .slice A00_2 n00_2 c00_2]), (103, .blk g3 24 [I64 x01_0, I64 x01_1, .slice A01_2 n01_2 c01_2]), (104, .blk g4 24 [I64 (0 : Int), I64 (0 : Int), .slice none 0 0])]) (fun _ => m_gfmatrix_Mul_j0 x00_0 x00_1 x00_2 x01_0 x01_1 x01_2 = some res) (fun K5 hK5 => ?_) ?_
 ·
  skip
  refine WC.seqRegion fun K6 hK6 => ?_
  obtain ⟨x7, hx7, h⟩ := bnd h
  by_cases hc9 : x7 = true
  ·
   replace h := of_t hc9 h
   obtain ⟨x10, hx10, h⟩ := bnd h
   by_cases hc12 : x10 = true
   ·
    replace h := of_t hc12 h
    refine WL.yld (by decide) (Yld.loadBM (k := 102) agg_24 rfl rfl rfl) ?_
    refine WL.eff (by decide) (Eff.callS 108 rfl Try.func34 nm_34 rfl rfl (fun w hb hh => w_gfmatrix_Valid (Mem.snap w) x00_0 x00_1 A00_2 n00_2 c00_2 _ (RdH.sn (RdH.memM (k := 0) rfl hf00_2) w hb hh) hx7)) ?_
    rintro _ _ ⟨_, ⟨rfl, rfl⟩, rfl⟩
    refine WL.yld (by decide) (Yld.notB rfl) ?_
    refine WL.yld (by decide) (Yld.move rfl) ?_
    refine WL.new (v' := .bool false) (congrArg Value.bool (not_f hc9)) ?_
    refine WL.yldG (by decide) rfl (Yld.loadBM (k := 103) agg_24 rfl rfl rfl) ?_
    refine WL.effG (by decide) rfl (Eff.callS 111 rfl Try.func34 nm_34 rfl rfl (fun w hb hh => w_gfmatrix_Valid (Mem.snap w) x01_0 x01_1 A01_2 n01_2 c01_2 _ (RdH.sn (RdH.memM (k := 0) rfl hf01_2) w hb hh) hx10)) ?_
    rintro _ _ ⟨_, ⟨rfl, rfl⟩, rfl⟩
    refine WL.yldG (by decide) rfl (Yld.notB rfl) ?_
    refine WL.yld (by decide) (Yld.pickF rfl rfl) ?_
    refine WL.yld (by decide) (Yld.move rfl) ?_
    refine WL.new (v' := .bool false) (congrArg Value.bool (not_f hc12)) ?_
    refine WL.yldG (by decide) rfl (Yld.fieldAddr Try.underlying24 rfl nz_3 rfl rfl) ?_
    refine WL.yldG (by decide) rfl (Yld.loadB (k := 102) scal_3 rfl rfl rfl) ?_
    refine WL.yldG (by decide) rfl (Yld.fieldAddr Try.underlying24 rfl nz_3 rfl rfl) ?_
    refine WL.yldG (by decide) rfl (Yld.loadB (k := 103) scal_3 rfl rfl rfl) ?_
    refine WL.yldG (by decide) rfl (Yld.neqI rfl rfl) ?_
    refine WL.yld (by decide) (Yld.pickF rfl rfl) ?_
    refine WL.done (hK6 _ _ ?_)
    by_cases hc13 : x00_1 = x01_0
    ·
     replace h := of_t hc13 h
     refine WC.condFe rfl (bne_eq_false_iff_eq.2 hc13) ?_
     refine WC.skip ?_
     refine QK.thenN ?_
     refine hK5 () _ _ ?_ (Sub.cons rfl (Sub.cons rfl (Sub.cons rfl (Sub.nil _)))) (Sub.cons rfl (Sub.cons rfl (Sub.cons rfl (Sub.cons rfl (Sub.nil _)))))
     exact h
    ·
     replace h := of_f hc13 h
     refine WC.condTe rfl (bne_iff_ne.2 hc13) ?_
     refine WC.seqRegion fun K14 hK14 => ?_
     refine WL.yld (by decide) (Yld.build rfl (bu_24_)) ?_
     refine WL.eff0 (Eff0.storeBAM 104 agg_24 rfl rfl rfl ⟨rfl, rfl⟩ rfl) ?_
     refine WL.yld (by decide) (Yld.assign rfl) ?_
     refine WL.done (hK14 _ _ ?_)
     refine WC.ret (QK.thenR ?_)
     refine QK.nilOwn 115 5 (Lay.sz (BitVec 8)) none ?_
     injection h with h; subst h
     exact Ret.fn [115] (ResIs.cellTmpM (k := 104) rfl agg_24 rfl rfl rfl rfl) rfl (Ext.refl _ _) rfl (by decide) rfl rfl ⟨none, 0, 0, rfl, rfl⟩
   ·
    replace h := of_f hc12 h
    refine WL.yld (by decide) (Yld.loadBM (k := 102) agg_24 rfl rfl rfl) ?_
    refine WL.eff (by decide) (Eff.callS 108 rfl Try.func34 nm_34 rfl rfl (fun w hb hh => w_gfmatrix_Valid (Mem.snap w) x00_0 x00_1 A00_2 n00_2 c00_2 _ (RdH.sn (RdH.memM (k := 0) rfl hf00_2) w hb hh) hx7)) ?_
    rintro _ _ ⟨_, ⟨rfl, rfl⟩, rfl⟩
    refine WL.yld (by decide) (Yld.notB rfl) ?_
    refine WL.yld (by decide) (Yld.move rfl) ?_
    refine WL.new (v' := .bool false) (congrArg Value.bool (not_f hc9)) ?_
    refine WL.yldG (by decide) rfl (Yld.loadBM (k := 103) agg_24 rfl rfl rfl) ?_
    refine WL.effG (by decide) rfl (Eff.callS 111 rfl Try.func34 nm_34 rfl rfl (fun w hb hh => w_gfmatrix_Valid (Mem.snap w) x01_0 x01_1 A01_2 n01_2 c01_2 _ (RdH.sn (RdH.memM (k := 0) rfl hf01_2) w hb hh) hx10)) ?_
    rintro _ _ ⟨_, ⟨rfl, rfl⟩, rfl⟩
    refine WL.yldG (by decide) rfl (Yld.notB rfl) ?_
    refine WL.yld (by decide) (Yld.pickF rfl rfl) ?_
    refine WL.yld (by decide) (Yld.move rfl) ?_
    refine WL.new (v' := .bool true) (congrArg Value.bool (not_t (Bool.eq_false_iff.2 hc12))) ?_
    refine WL.skip (by decide) rfl rfl ?_
    refine WL.skip (by decide) rfl rfl ?_
    refine WL.skip (by decide) rfl rfl ?_
    refine WL.skip (by decide) rfl rfl ?_
    refine WL.skip (by decide) rfl rfl ?_
    refine WL.yld (by decide) (Yld.pickT rfl rfl) ?_
    refine WL.done (hK6 _ _ ?_)
    refine WC.condT rfl ?_
    refine WC.seqRegion fun K16 hK16 => ?_
    refine WL.yld (by decide) (Yld.build rfl (bu_24_)) ?_
    refine WL.eff0 (Eff0.storeBAM 104 agg_24 rfl rfl rfl ⟨rfl, rfl⟩ rfl) ?_
    refine WL.yld (by decide) (Yld.assign rfl) ?_
    refine WL.done (hK16 _ _ ?_)
    refine WC.ret (QK.thenR ?_)
    refine QK.nilOwn 117 5 (Lay.sz (BitVec 8)) none ?_
    injection h with h; subst h
    exact Ret.fn [117] (ResIs.cellTmpM (k := 104) rfl agg_24 rfl rfl rfl rfl) rfl (Ext.refl _ _) rfl (by decide) rfl rfl ⟨none, 0, 0, rfl, rfl⟩
  ·
   replace h := of_f hc9 h
   refine WL.yld (by decide) (Yld.loadBM (k := 102) agg_24 rfl rfl rfl) ?_
   refine WL.eff (by decide) (Eff.callS 108 rfl Try.func34 nm_34 rfl rfl (fun w hb hh => w_gfmatrix_Valid (Mem.snap w) x00_0 x00_1 A00_2 n00_2 c00_2 _ (RdH.sn (RdH.memM (k := 0) rfl hf00_2) w hb hh) hx7)) ?_
   rintro _ _ ⟨_, ⟨rfl, rfl⟩, rfl⟩
   refine WL.yld (by decide) (Yld.notB rfl) ?_
   refine WL.yld (by decide) (Yld.move rfl) ?_
   refine WL.new (v' := .bool true) (congrArg Value.bool (not_t (Bool.eq_false_iff.2 hc9))) ?_
   refine WL.skip (by decide) rfl rfl ?_
   refine WL.skip (by decide) rfl rfl ?_
   refine WL.skip (by decide) rfl rfl ?_
   refine WL.yld (by decide) (Yld.pickT rfl rfl) ?_
   refine WL.yld (by decide) (Yld.move rfl) ?_
   refine WL.skip (by decide) rfl rfl ?_
   refine WL.skip (by decide) rfl rfl ?_
   refine WL.skip (by decide) rfl rfl ?_
   refine WL.skip (by decide) rfl rfl ?_
   refine WL.skip (by decide) rfl rfl ?_
   refine WL.yld (by decide) (Yld.pickT rfl rfl) ?_
   refine WL.done (hK6 _ _ ?_)
   refine WC.condT rfl ?_
   refine WC.seqRegion fun K18 hK18 => ?_
   refine WL.yld (by decide) (Yld.build rfl (bu_24_)) ?_
   refine WL.eff0 (Eff0.storeBAM 104 agg_24 rfl rfl rfl ⟨rfl, rfl⟩ rfl) ?_
   refine WL.yld (by decide) (Yld.assign rfl) ?_
   refine WL.done (hK18 _ _ ?_)
   refine WC.ret (QK.thenR ?_)
   refine QK.nilOwn 119 5 (Lay.sz (BitVec 8)) none ?_
   injection h with h; subst h
   exact Ret.fn [119] (ResIs.cellTmpM (k := 104) rfl agg_24 rfl rfl rfl rfl) rfl (Ext.refl _ _) rfl (by decide) rfl rfl ⟨none, 0, 0, rfl, rfl⟩
 ·
  rintro _ h
  unfold m_gfmatrix_Mul_j0 at h
  refine WC.seqRegion fun K20 hK20 => ?_
  obtain ⟨x21, hx21, h⟩ := bnd h
  refine WL.yld (by decide) (Yld.fieldAddr Try.underlying24 rfl nz_3 rfl rfl) ?_
  refine WL.yld (by decide) (Yld.loadB (k := 102) scal_3 rfl rfl rfl) ?_
  refine WL.yld (by decide) (Yld.fieldAddr Try.underlying24 rfl nz_3 rfl rfl) ?_
  refine WL.yld (by decide) (Yld.loadB (k := 103) scal_3 rfl rfl rfl) ?_
  refine WL.eff (by decide) (Eff.callS 125 rfl Try.func52 nm_52 rfl rfl (fun w hb hh => w_gfmatrix_empty (Mem.snap w) x00_0 x01_1 hx21)) ?_
  rintro _ _ ⟨_, ⟨A26, n27, c28, rfl, rfl⟩, rfl⟩
  refine WL.eff (by decide) (Eff.alloc 129 rfl zr_24) ?_
  rintro _ _ ⟨g29, rfl, rfl⟩
  refine WL.eff0 (Eff0.storeBAM 129 agg_24 rfl rfl rfl ⟨rfl, rfl⟩ rfl) ?_
  refine WL.done (hK20 _ _ ?_)
  refine WC.seqCut (σ := (List (BitVec 8))) (fun x30 => [(4, .pointer (some ⟨g4, 0, none⟩)), (6, .pointer (some ⟨g29, 0, none⟩))]) (fun x30 => [(0, .mem M0), (104, .blk g4 24 [I64 (0 : Int), I64 (0 : Int), .slice none 0 0]), (125, .own 5 (Lay.sz (BitVec 8)) A26 n27 c28 (cel x30)), (129, .blk g29 24 [I64 x21.1, I64 x21.2.1, .slice A26 n27 c28])]) (fun x30 => m_gfmatrix_Mul_j1 x21 x30 = some res) (fun K31 hK31 => ?_) ?_
  ·
   skip
   refine WC.seqRegion fun K32 hK32 => ?_
   refine WL.yld (by decide) (Yld.fieldAddr Try.underlying24 rfl nz_3 rfl rfl) ?_
   refine WL.yld (by decide) (Yld.loadB (k := 102) scal_3 rfl rfl rfl) ?_
   refine WL.yld (by decide) (Yld.move rfl) ?_
   refine WL.done (hK32 _ _ ?_)
   refine WC.block ?_
   refine WC.loop (σ := Nat × (List (BitVec 8)) × Int) (fun ⟨q35, x33, x34⟩ => [(2, .pointer (some ⟨g2, 0, none⟩)), (3, .pointer (some ⟨g3, 0, none⟩)), (4, .pointer (some ⟨g4, 0, none⟩)), (6, .pointer (some ⟨g29, 0, none⟩)), (32, I64 x00_0), (33, I64 x34)]) (fun ⟨q35, x33, x34⟩ => [(0, .mem M0), (102, .blk g2 24 [I64 x00_0, I64 x00_1, .slice A00_2 n00_2 c00_2]), (103, .blk g3 24 [I64 x01_0, I64 x01_1, .slice A01_2 n01_2 c01_2]), (104, .blk g4 24 [I64 (0 : Int), I64 (0 : Int), .slice none 0 0]), (125, .own 5 (Lay.sz (BitVec 8)) A26 n27 c28 (cel x33)), (129, .blk g29 24 [I64 x21.1, I64 x21.2.1, .slice A26 n27 c28])]) (fun ⟨q35, x33, x34⟩ => m_gfmatrix_Mul_l2 x00_0 x00_1 x00_2 x01_0 x01_1 x01_2 x21 q35 x33 x34 = some res) (fun ⟨q35, x33, x34⟩ => q35) ⟨forever, x21.2.2, (0 : Int)⟩ ?_ (Sub.cons rfl (Sub.cons rfl (Sub.cons rfl (Sub.cons rfl (Sub.cons rfl (Sub.cons rfl (Sub.nil _))))))) (Sub.cons rfl (Sub.cons rfl (Sub.cons rfl (Sub.cons rfl (Sub.cons rfl (Sub.cons rfl (Sub.nil _))))))) ?_
   ·
    exact h
   rintro ⟨q35, x33, x34⟩ h K36 hK36
   cases q35 with
   | zero => exact absurd h (by simp [m_gfmatrix_Mul_l2])
   | succ q35 =>
    unfold m_gfmatrix_Mul_l2 at h
    refine WC.seqRegion fun K37 hK37 => ?_
    refine WL.yld (by decide) (Yld.lss rfl rfl) ?_
    refine WL.done (hK37 _ _ ?_)
    refine WC.seq fun K38 hK38 => ?_
    by_cases hc39 : x34 < x00_0
    ·
     replace h := of_t hc39 h
     refine WC.condTe rfl (decide_eq_true hc39) ?_
     refine WC.skip ?_
     refine QK.thenN (hK38 _ _ ?_)
     refine WC.seqCut (σ := (List (BitVec 8))) (fun x40 => [(2, .pointer (some ⟨g2, 0, none⟩)), (3, .pointer (some ⟨g3, 0, none⟩)), (4, .pointer (some ⟨g4, 0, none⟩)), (6, .pointer (some ⟨g29, 0, none⟩)), (32, I64 x00_0), (33, I64 x34)]) (fun x40 => [(0, .mem M0), (102, .blk g2 24 [I64 x00_0, I64 x00_1, .slice A00_2 n00_2 c00_2]), (103, .blk g3 24 [I64 x01_0, I64 x01_1, .slice A01_2 n01_2 c01_2]), (104, .blk g4 24 [I64 (0 : Int), I64 (0 : Int), .slice none 0 0]), (125, .own 5 (Lay.sz (BitVec 8)) A26 n27 c28 (cel x40)), (129, .blk g29 24 [I64 x21.1, I64 x21.2.1, .slice A26 n27 c28])]) (fun x40 => m_gfmatrix_Mul_j3 x34 (m_gfmatrix_Mul_l2 x00_0 x00_1 x00_2 x01_0 x01_1 x01_2 x21 q35) x40 = some res) (fun K41 hK41 => ?_) ?_
     ·
      skip
      refine WC.block ?_
      refine WC.seqRegion fun K42 hK42 => ?_
      refine WL.yld (by decide) (Yld.move rfl) ?_
      refine WL.yld (by decide) (Yld.assign rfl) ?_
      refine WL.done (hK42 _ _ ?_)
      refine WC.seqRegion fun K43 hK43 => ?_
      refine WL.yld (by decide) (Yld.fieldAddr Try.underlying24 rfl nz_3 rfl rfl) ?_
      refine WL.yld (by decide) (Yld.loadB (k := 103) scal_3 rfl rfl rfl) ?_
      refine WL.yld (by decide) (Yld.move rfl) ?_
      refine WL.done (hK43 _ _ ?_)
      refine WC.block ?_
      refine WC.loop (σ := Nat × (List (BitVec 8)) × Int) (fun ⟨q46, x44, x45⟩ => [(2, .pointer (some ⟨g2, 0, none⟩)), (3, .pointer (some ⟨g3, 0, none⟩)), (4, .pointer (some ⟨g4, 0, none⟩)), (6, .pointer (some ⟨g29, 0, none⟩)), (7, I64 x34), (32, I64 x00_0), (33, I64 x34), (37, I64 x01_1), (38, I64 x45)]) (fun ⟨q46, x44, x45⟩ => [(0, .mem M0), (102, .blk g2 24 [I64 x00_0, I64 x00_1, .slice A00_2 n00_2 c00_2]), (103, .blk g3 24 [I64 x01_0, I64 x01_1, .slice A01_2 n01_2 c01_2]), (104, .blk g4 24 [I64 (0 : Int), I64 (0 : Int), .slice none 0 0]), (125, .own 5 (Lay.sz (BitVec 8)) A26 n27 c28 (cel x44)), (129, .blk g29 24 [I64 x21.1, I64 x21.2.1, .slice A26 n27 c28])]) (fun ⟨q46, x44, x45⟩ => m_gfmatrix_Mul_l4 x00_0 x00_1 x00_2 x01_0 x01_1 x01_2 x21 x34 (m_gfmatrix_Mul_l2 x00_0 x00_1 x00_2 x01_0 x01_1 x01_2 x21 q35) q46 x44 x45 = some res) (fun ⟨q46, x44, x45⟩ => q46) ⟨forever, x33, (0 : Int)⟩ ?_ (Sub.cons rfl (Sub.cons rfl (Sub.cons rfl (Sub.cons rfl (Sub.cons rfl (Sub.cons rfl (Sub.cons rfl (Sub.cons rfl (Sub.cons rfl (Sub.nil _)))))))))) (Sub.cons rfl (Sub.cons rfl (Sub.cons rfl (Sub.cons rfl (Sub.cons rfl (Sub.cons rfl (Sub.nil _))))))) ?_
      ·
       exact h
      rintro ⟨q46, x44, x45⟩ h K47 hK47
      cases q46 with
      | zero => exact absurd h (by simp [m_gfmatrix_Mul_l4])
      | succ q46 =>
       unfold m_gfmatrix_Mul_l4 at h
       refine WC.seqRegion fun K48 hK48 => ?_
       refine WL.yld (by decide) (Yld.lss rfl rfl) ?_
       refine WL.done (hK48 _ _ ?_)
       refine WC.seq fun K49 hK49 => ?_
       by_cases hc50 : x45 < x01_1
       ·
        replace h := of_t hc50 h
        refine WC.condTe rfl (decide_eq_true hc50) ?_
        refine WC.skip ?_
        refine QK.thenN (hK49 _ _ ?_)
        refine WC.seqCut (σ := (List (BitVec 8))) (fun x51 => [(2, .pointer (some ⟨g2, 0, none⟩)), (3, .pointer (some ⟨g3, 0, none⟩)), (4, .pointer (some ⟨g4, 0, none⟩)), (6, .pointer (some ⟨g29, 0, none⟩)), (7, I64 x34), (32, I64 x00_0), (33, I64 x34), (37, I64 x01_1), (38, I64 x45)]) (fun x51 => [(0, .mem M0), (102, .blk g2 24 [I64 x00_0, I64 x00_1, .slice A00_2 n00_2 c00_2]), (103, .blk g3 24 [I64 x01_0, I64 x01_1, .slice A01_2 n01_2 c01_2]), (104, .blk g4 24 [I64 (0 : Int), I64 (0 : Int), .slice none 0 0]), (125, .own 5 (Lay.sz (BitVec 8)) A26 n27 c28 (cel x51)), (129, .blk g29 24 [I64 x21.1, I64 x21.2.1, .slice A26 n27 c28])]) (fun x51 => m_gfmatrix_Mul_j5 x45 (m_gfmatrix_Mul_l4 x00_0 x00_1 x00_2 x01_0 x01_1 x01_2 x21 x34 (m_gfmatrix_Mul_l2 x00_0 x00_1 x00_2 x01_0 x01_1 x01_2 x21 q35) q46) x51 = some res) (fun K52 hK52 => ?_) ?_
        ·
         skip
         refine WC.block ?_
         refine WC.seqRegion fun K53 hK53 => ?_
         refine WL.yld (by decide) (Yld.move rfl) ?_
         refine WL.yld (by decide) (Yld.assign rfl) ?_
         refine WL.done (hK53 _ _ ?_)
         refine WC.seqRegion fun K54 hK54 => ?_
         refine WL.yld (by decide) (Yld.fieldAddr Try.underlying24 rfl nz_3 rfl rfl) ?_
         refine WL.yld (by decide) (Yld.loadB (k := 102) scal_3 rfl rfl rfl) ?_
         refine WL.yld (by decide) (Yld.move rfl) ?_
         refine WL.done (hK54 _ _ ?_)
         refine WC.block ?_
         refine WC.loop (σ := Nat × (List (BitVec 8)) × Int) (fun ⟨q57, x55, x56⟩ => [(2, .pointer (some ⟨g2, 0, none⟩)), (3, .pointer (some ⟨g3, 0, none⟩)), (4, .pointer (some ⟨g4, 0, none⟩)), (6, .pointer (some ⟨g29, 0, none⟩)), (7, I64 x34), (8, I64 x45), (32, I64 x00_0), (33, I64 x34), (37, I64 x01_1), (38, I64 x45), (42, I64 x00_1), (43, I64 x56)]) (fun ⟨q57, x55, x56⟩ => [(0, .mem M0), (102, .blk g2 24 [I64 x00_0, I64 x00_1, .slice A00_2 n00_2 c00_2]), (103, .blk g3 24 [I64 x01_0, I64 x01_1, .slice A01_2 n01_2 c01_2]), (104, .blk g4 24 [I64 (0 : Int), I64 (0 : Int), .slice none 0 0]), (125, .own 5 (Lay.sz (BitVec 8)) A26 n27 c28 (cel x55)), (129, .blk g29 24 [I64 x21.1, I64 x21.2.1, .slice A26 n27 c28])]) (fun ⟨q57, x55, x56⟩ => m_gfmatrix_Mul_l6 x00_0 x00_1 x00_2 x01_0 x01_1 x01_2 x21 x34 x45 (m_gfmatrix_Mul_l4 x00_0 x00_1 x00_2 x01_0 x01_1 x01_2 x21 x34 (m_gfmatrix_Mul_l2 x00_0 x00_1 x00_2 x01_0 x01_1 x01_2 x21 q35) q46) q57 x55 x56 = some res) (fun ⟨q57, x55, x56⟩ => q57) ⟨forever, x44, (0 : Int)⟩ ?_ (Sub.cons rfl (Sub.cons rfl (Sub.cons rfl (Sub.cons rfl (Sub.cons rfl (Sub.cons rfl (Sub.cons rfl (Sub.cons rfl (Sub.cons rfl (Sub.cons rfl (Sub.cons rfl (Sub.cons rfl (Sub.nil _))))))))))))) (Sub.cons rfl (Sub.cons rfl (Sub.cons rfl (Sub.cons rfl (Sub.cons rfl (Sub.cons rfl (Sub.nil _))))))) ?_
         ·
          exact h
         rintro ⟨q57, x55, x56⟩ h K58 hK58
         cases q57 with
         | zero => exact absurd h (by simp [m_gfmatrix_Mul_l6])
         | succ q57 =>
          unfold m_gfmatrix_Mul_l6 at h
          refine WC.seqRegion fun K59 hK59 => ?_
          refine WL.yld (by decide) (Yld.lss rfl rfl) ?_
          refine WL.done (hK59 _ _ ?_)
          refine WC.seq fun K60 hK60 => ?_
          by_cases hc61 : x56 < x00_1
          ·
           replace h := of_t hc61 h
           refine WC.condTe rfl (decide_eq_true hc61) ?_
           refine WC.skip ?_
           refine QK.thenN (hK60 _ _ ?_)
           refine WC.seq fun K62 hK62 => ?_
           refine WC.block ?_
           refine WC.seqRegion fun K63 hK63 => ?_
           refine WL.yld (by decide) (Yld.move rfl) ?_
           refine WL.yld (by decide) (Yld.assign rfl) ?_
           refine WL.done (hK63 _ _ ?_)
           refine WC.regionD (n := 18) [(102, _), (103, _), (104, _), (129, _)] rfl mixed (Sub.cons rfl (Sub.cons rfl (Sub.cons rfl (Sub.cons rfl (Sub.nil _))))) fun K64 hK64 => ?_
           obtain ⟨x65, hx65, h⟩ := bnd h
           obtain ⟨x66, hx66, h⟩ := bnd h
           obtain ⟨x67, hx67, h⟩ := bnd h
           obtain ⟨x68, hx68, h⟩ := bnd h
           obtain ⟨x69, hx69, h⟩ := bnd h
           obtain ⟨x71, hx71, h⟩ := bnd h
           obtain ⟨x73, hx73, h⟩ := bnd h
           obtain ⟨x75, hx75, h⟩ := bnd h
           obtain ⟨x76, hx76, h⟩ := bnd h
           obtain ⟨x77, hx77, h⟩ := bnd h
           refine WD.take 0 rfl (by kernel_rfl) (by kernel_rfl) (by kernel_rfl) (by decide) (Yld.loadBM (k := 129) agg_24 rfl rfl rfl) ?_
           refine WD.take 1 rfl (by kernel_rfl) (by kernel_rfl) (by kernel_rfl) (by decide) (Yld.move rfl) ?_
           refine WD.take 3 rfl (by kernel_rfl) (by kernel_rfl) (by kernel_rfl) (by decide) (Yld.move rfl) ?_
           refine WD.take 6 rfl (by kernel_rfl) (by kernel_rfl) (by kernel_rfl) (by decide) (Yld.loadBM (k := 102) agg_24 rfl rfl rfl) ?_
           refine WD.take 7 rfl (by kernel_rfl) (by kernel_rfl) (by kernel_rfl) (by decide) (Yld.move rfl) ?_
           refine WD.take 8 rfl (by kernel_rfl) (by kernel_rfl) (by kernel_rfl) (by decide) (Yld.move rfl) ?_
           refine WD.take 10 rfl (by kernel_rfl) (by kernel_rfl) (by kernel_rfl) (by decide) (Yld.loadBM (k := 103) agg_24 rfl rfl rfl) ?_
           refine WD.take 11 rfl (by kernel_rfl) (by kernel_rfl) (by kernel_rfl) (by decide) (Yld.move rfl) ?_
           refine WD.take 12 rfl (by kernel_rfl) (by kernel_rfl) (by kernel_rfl) (by decide) (Yld.move rfl) ?_
           refine WD.one 2 (by kernel_rfl) ?_
           refine WS.eff rfl (by decide) (Eff.callS 1 rfl Try.func36 nm_36 rfl rfl (fun w hb hh => w_gfmatrix_Matrix_row (Mem.snap w) x21.1 x21.2.1 A26 n27 c28 x34 (SlT.slcB (RdH.sn (RdH.own (k := 125) rfl) w hb hh) hx66) hx65)) ?_
           rintro _ _ ⟨_, ⟨rfl, rfl⟩, rfl⟩
           refine ⟨(Sub.cons rfl (Sub.cons rfl (Sub.cons rfl (Sub.cons rfl (Sub.nil _))))), ?_⟩
           refine WD.two 4 9 (by kernel_rfl) ?_ ?_
           ·
            skip
            refine WS.yld rfl (by decide) (Yld.idxC (xs := x67) sty_22 rfl rfl (RdT.slcN (RdH.own (k := 125) rfl) hx67) hx68) ?_
            refine WD.two 5 9 (by kernel_rfl) ?_ ?_
            ·
             skip
             refine WS.yld rfl (by decide) (Yld.loadC0 (xs := x67) scal_5 rfl (RdT.slcN (RdH.own (k := 125) rfl) hx67) hx68 rfl) ?_
             refine WD.one 9 (by kernel_rfl) ?_
             refine WS.eff rfl (by decide) (Eff.callS 170 rfl Try.func40 nm_40 rfl rfl (fun w hb hh => w_gfmatrix_Matrix_at (Mem.snap w) x00_0 x00_1 A00_2 n00_2 c00_2 _ (RdH.sn (RdH.memM (k := 0) rfl hf00_2) w hb hh) x34 x56 hx69)) ?_
             rintro _ _ ⟨_, ⟨rfl, rfl⟩, rfl⟩
             refine ⟨(Sub.cons rfl (Sub.cons rfl (Sub.cons rfl (Sub.cons rfl (Sub.nil _))))), ?_⟩
             refine WD.one 13 (by kernel_rfl) ?_
             refine WS.eff rfl (by decide) (Eff.callS 172 rfl Try.func40 nm_40 rfl rfl (fun w hb hh => w_gfmatrix_Matrix_at (Mem.snap w) x01_0 x01_1 A01_2 n01_2 c01_2 _ (RdH.sn (RdH.memM (k := 0) rfl hf01_2) w hb hh) x56 x45 hx71)) ?_
             rintro _ _ ⟨_, ⟨rfl, rfl⟩, rfl⟩
             refine ⟨(Sub.cons rfl (Sub.cons rfl (Sub.cons rfl (Sub.cons rfl (Sub.nil _))))), ?_⟩
             refine WD.one 14 (by kernel_rfl) ?_
             refine WS.eff rfl (by decide) (Eff.callS 174 rfl Try.func54 nm_54 rfl rfl (fun w hb hh => w_gf256_Mul (Mem.snap w) x69 x71 hx73)) ?_
             rintro _ _ ⟨_, ⟨rfl, rfl⟩, rfl⟩
             refine ⟨(Sub.cons rfl (Sub.cons rfl (Sub.cons rfl (Sub.cons rfl (Sub.nil _))))), ?_⟩
             refine WD.take 15 rfl (by kernel_rfl) (by kernel_rfl) (by kernel_rfl) (by decide) (Yld.xor_u8 (a := x68) (b := x73) rfl rfl) ?_
             refine WD.one 16 (by kernel_rfl) ?_
             refine WS.yld rfl (by decide) (Yld.idxC (xs := x75) sty_22 rfl rfl (RdT.slcN (RdH.own (k := 125) rfl) hx75) hx76) ?_
             refine WD.one 17 (by kernel_rfl) ?_
             refine WS.eff0 rfl (Eff0.storeS 125 (xs := x55) (lo := x65.1) (hi := x65.2) (a' := x68 ^^^ x73) siz_5 rfl rfl rfl rfl rfl rfl hx77) (Sub.cons rfl (Sub.cons rfl (Sub.cons rfl (Sub.cons rfl (Sub.nil _))))) ?_
             refine WD.done (by kernel_rfl) (hK64 _ _ ?_)
             refine QK.blockN ?_
             refine QK.thenN (hK62 _ _ ?_)
             refine WC.region fun K78 hK78 => ?_
             obtain ⟨x79, hx79, h⟩ := bnd h
             refine WL.yld (by decide) (Yld.addC rfl rfl hx79) ?_
             refine WL.yld (by decide) (Yld.move rfl) ?_
             refine WL.done (hK78 _ _ ?_)
             refine QK.thenN ?_
             refine hK58 ⟨q57, x77, x79⟩ _ _ ?_ (Nat.lt_succ_self _) (Sub.cons rfl (Sub.cons rfl (Sub.cons rfl (Sub.cons rfl (Sub.cons rfl (Sub.cons rfl (Sub.cons rfl (Sub.cons rfl (Sub.cons rfl (Sub.cons rfl (Sub.cons rfl (Sub.cons rfl (Sub.nil _))))))))))))) (Sub.cons rfl (Sub.cons rfl (Sub.cons rfl (Sub.cons rfl (Sub.cons rfl (Sub.cons rfl (Sub.nil _)))))))
             exact h
            ·
             skip
             refine WS.eff rfl (by decide) (Eff.callS 170 rfl Try.func40 nm_40 rfl rfl (fun w hb hh => w_gfmatrix_Matrix_at (Mem.snap w) x00_0 x00_1 A00_2 n00_2 c00_2 _ (RdH.sn (RdH.memM (k := 0) rfl hf00_2) w hb hh) x34 x56 hx69)) ?_
             rintro _ _ ⟨_, ⟨rfl, rfl⟩, rfl⟩
             refine ⟨(Sub.cons rfl (Sub.cons rfl (Sub.cons rfl (Sub.cons rfl (Sub.nil _))))), ?_⟩
             refine WD.two 5 13 (by kernel_rfl) ?_ ?_
             ·
              skip
              refine WS.yld rfl (by decide) (Yld.loadC0 (xs := x67) scal_5 rfl (RdT.slcN (RdH.own (k := 125) rfl) hx67) hx68 rfl) ?_
              refine WD.one 13 (by kernel_rfl) ?_
              refine WS.eff rfl (by decide) (Eff.callS 172 rfl Try.func40 nm_40 rfl rfl (fun w hb hh => w_gfmatrix_Matrix_at (Mem.snap w) x01_0 x01_1 A01_2 n01_2 c01_2 _ (RdH.sn (RdH.memM (k := 0) rfl hf01_2) w hb hh) x56 x45 hx71)) ?_
              rintro _ _ ⟨_, ⟨rfl, rfl⟩, rfl⟩
              refine ⟨(Sub.cons rfl (Sub.cons rfl (Sub.cons rfl (Sub.cons rfl (Sub.nil _))))), ?_⟩
              refine WD.one 14 (by kernel_rfl) ?_
              refine WS.eff rfl (by decide) (Eff.callS 174 rfl Try.func54 nm_54 rfl rfl (fun w hb hh => w_gf256_Mul (Mem.snap w) x69 x71 hx73)) ?_
              rintro _ _ ⟨_, ⟨rfl, rfl⟩, rfl⟩
              refine ⟨(Sub.cons rfl (Sub.cons rfl (Sub.cons rfl (Sub.cons rfl (Sub.nil _))))), ?_⟩
              refine WD.take 15 rfl (by kernel_rfl) (by kernel_rfl) (by kernel_rfl) (by decide) (Yld.xor_u8 (a := x68) (b := x73) rfl rfl) ?_
              refine WD.one 16 (by kernel_rfl) ?_
              refine WS.yld rfl (by decide) (Yld.idxC (xs := x75) sty_22 rfl rfl (RdT.slcN (RdH.own (k := 125) rfl) hx75) hx76) ?_
              refine WD.one 17 (by kernel_rfl) ?_
              refine WS.eff0 rfl (Eff0.storeS 125 (xs := x55) (lo := x65.1) (hi := x65.2) (a' := x68 ^^^ x73) siz_5 rfl rfl rfl rfl rfl rfl hx77) (Sub.cons rfl (Sub.cons rfl (Sub.cons rfl (Sub.cons rfl (Sub.nil _))))) ?_
              refine WD.done (by kernel_rfl) (hK64 _ _ ?_)
              refine QK.blockN ?_
              refine QK.thenN (hK62 _ _ ?_)
              refine WC.region fun K80 hK80 => ?_
              obtain ⟨x81, hx81, h⟩ := bnd h
              refine WL.yld (by decide) (Yld.addC rfl rfl hx81) ?_
              refine WL.yld (by decide) (Yld.move rfl) ?_
              refine WL.done (hK80 _ _ ?_)
              refine QK.thenN ?_
              refine hK58 ⟨q57, x77, x81⟩ _ _ ?_ (Nat.lt_succ_self _) (Sub.cons rfl (Sub.cons rfl (Sub.cons rfl (Sub.cons rfl (Sub.cons rfl (Sub.cons rfl (Sub.cons rfl (Sub.cons rfl (Sub.cons rfl (Sub.cons rfl (Sub.cons rfl (Sub.cons rfl (Sub.nil _))))))))))))) (Sub.cons rfl (Sub.cons rfl (Sub.cons rfl (Sub.cons rfl (Sub.cons rfl (Sub.cons rfl (Sub.nil _)))))))
              exact h
             ·
              skip
              refine WS.eff rfl (by decide) (Eff.callS 172 rfl Try.func40 nm_40 rfl rfl (fun w hb hh => w_gfmatrix_Matrix_at (Mem.snap w) x01_0 x01_1 A01_2 n01_2 c01_2 _ (RdH.sn (RdH.memM (k := 0) rfl hf01_2) w hb hh) x56 x45 hx71)) ?_
              rintro _ _ ⟨_, ⟨rfl, rfl⟩, rfl⟩
              refine ⟨(Sub.cons rfl (Sub.cons rfl (Sub.cons rfl (Sub.cons rfl (Sub.nil _))))), ?_⟩
              refine WD.two 5 14 (by kernel_rfl) ?_ ?_
              ·
               skip
               refine WS.yld rfl (by decide) (Yld.loadC0 (xs := x67) scal_5 rfl (RdT.slcN (RdH.own (k := 125) rfl) hx67) hx68 rfl) ?_
               refine WD.one 14 (by kernel_rfl) ?_
               refine WS.eff rfl (by decide) (Eff.callS 174 rfl Try.func54 nm_54 rfl rfl (fun w hb hh => w_gf256_Mul (Mem.snap w) x69 x71 hx73)) ?_
               rintro _ _ ⟨_, ⟨rfl, rfl⟩, rfl⟩
               refine ⟨(Sub.cons rfl (Sub.cons rfl (Sub.cons rfl (Sub.cons rfl (Sub.nil _))))), ?_⟩
               refine WD.take 15 rfl (by kernel_rfl) (by kernel_rfl) (by kernel_rfl) (by decide) (Yld.xor_u8 (a := x68) (b := x73) rfl rfl) ?_
               refine WD.one 16 (by kernel_rfl) ?_
               refine WS.yld rfl (by decide) (Yld.idxC (xs := x75) sty_22 rfl rfl (RdT.slcN (RdH.own (k := 125) rfl) hx75) hx76) ?_
               refine WD.one 17 (by kernel_rfl) ?_
               refine WS.eff0 rfl (Eff0.storeS 125 (xs := x55) (lo := x65.1) (hi := x65.2) (a' := x68 ^^^ x73) siz_5 rfl rfl rfl rfl rfl rfl hx77) (Sub.cons rfl (Sub.cons rfl (Sub.cons rfl (Sub.cons rfl (Sub.nil _))))) ?_
               refine WD.done (by kernel_rfl) (hK64 _ _ ?_)
               refine QK.blockN ?_
               refine QK.thenN (hK62 _ _ ?_)
               refine WC.region fun K82 hK82 => ?_
               obtain ⟨x83, hx83, h⟩ := bnd h
               refine WL.yld (by decide) (Yld.addC rfl rfl hx83) ?_
               refine WL.yld (by decide) (Yld.move rfl) ?_
               refine WL.done (hK82 _ _ ?_)
               refine QK.thenN ?_
               refine hK58 ⟨q57, x77, x83⟩ _ _ ?_ (Nat.lt_succ_self _) (Sub.cons rfl (Sub.cons rfl (Sub.cons rfl (Sub.cons rfl (Sub.cons rfl (Sub.cons rfl (Sub.cons rfl (Sub.cons rfl (Sub.cons rfl (Sub.cons rfl (Sub.cons rfl (Sub.cons rfl (Sub.nil _))))))))))))) (Sub.cons rfl (Sub.cons rfl (Sub.cons rfl (Sub.cons rfl (Sub.cons rfl (Sub.cons rfl (Sub.nil _)))))))
               exact h
              ·
               skip
               refine WS.eff rfl (by decide) (Eff.callS 174 rfl Try.func54 nm_54 rfl rfl (fun w hb hh => w_gf256_Mul (Mem.snap w) x69 x71 hx73)) ?_
               rintro _ _ ⟨_, ⟨rfl, rfl⟩, rfl⟩
               refine ⟨(Sub.cons rfl (Sub.cons rfl (Sub.cons rfl (Sub.cons rfl (Sub.nil _))))), ?_⟩
               refine WD.one 5 (by kernel_rfl) ?_
               refine WS.yld rfl (by decide) (Yld.loadC0 (xs := x67) scal_5 rfl (RdT.slcN (RdH.own (k := 125) rfl) hx67) hx68 rfl) ?_
               refine WD.take 15 rfl (by kernel_rfl) (by kernel_rfl) (by kernel_rfl) (by decide) (Yld.xor_u8 (a := x68) (b := x73) rfl rfl) ?_
               refine WD.one 16 (by kernel_rfl) ?_
               refine WS.yld rfl (by decide) (Yld.idxC (xs := x75) sty_22 rfl rfl (RdT.slcN (RdH.own (k := 125) rfl) hx75) hx76) ?_
               refine WD.one 17 (by kernel_rfl) ?_
               refine WS.eff0 rfl (Eff0.storeS 125 (xs := x55) (lo := x65.1) (hi := x65.2) (a' := x68 ^^^ x73) siz_5 rfl rfl rfl rfl rfl rfl hx77) (Sub.cons rfl (Sub.cons rfl (Sub.cons rfl (Sub.cons rfl (Sub.nil _))))) ?_
               refine WD.done (by kernel_rfl) (hK64 _ _ ?_)
               refine QK.blockN ?_
               refine QK.thenN (hK62 _ _ ?_)
               refine WC.region fun K84 hK84 => ?_
               obtain ⟨x85, hx85, h⟩ := bnd h
               refine WL.yld (by decide) (Yld.addC rfl rfl hx85) ?_
               refine WL.yld (by decide) (Yld.move rfl) ?_
               refine WL.done (hK84 _ _ ?_)
               refine QK.thenN ?_
               refine hK58 ⟨q57, x77, x85⟩ _ _ ?_ (Nat.lt_succ_self _) (Sub.cons rfl (Sub.cons rfl (Sub.cons rfl (Sub.cons rfl (Sub.cons rfl (Sub.cons rfl (Sub.cons rfl (Sub.cons rfl (Sub.cons rfl (Sub.cons rfl (Sub.cons rfl (Sub.cons rfl (Sub.nil _))))))))))))) (Sub.cons rfl (Sub.cons rfl (Sub.cons rfl (Sub.cons rfl (Sub.cons rfl (Sub.cons rfl (Sub.nil _)))))))
               exact h
           ·
            skip
            refine WS.eff rfl (by decide) (Eff.callS 170 rfl Try.func40 nm_40 rfl rfl (fun w hb hh => w_gfmatrix_Matrix_at (Mem.snap w) x00_0 x00_1 A00_2 n00_2 c00_2 _ (RdH.sn (RdH.memM (k := 0) rfl hf00_2) w hb hh) x34 x56 hx69)) ?_
            rintro _ _ ⟨_, ⟨rfl, rfl⟩, rfl⟩
            refine ⟨(Sub.cons rfl (Sub.cons rfl (Sub.cons rfl (Sub.cons rfl (Sub.nil _))))), ?_⟩
            refine WD.two 4 13 (by kernel_rfl) ?_ ?_
            ·
             skip
             refine WS.yld rfl (by decide) (Yld.idxC (xs := x67) sty_22 rfl rfl (RdT.slcN (RdH.own (k := 125) rfl) hx67) hx68) ?_
             refine WD.two 5 13 (by kernel_rfl) ?_ ?_
             ·
              skip
              refine WS.yld rfl (by decide) (Yld.loadC0 (xs := x67) scal_5 rfl (RdT.slcN (RdH.own (k := 125) rfl) hx67) hx68 rfl) ?_
              refine WD.one 13 (by kernel_rfl) ?_
              refine WS.eff rfl (by decide) (Eff.callS 172 rfl Try.func40 nm_40 rfl rfl (fun w hb hh => w_gfmatrix_Matrix_at (Mem.snap w) x01_0 x01_1 A01_2 n01_2 c01_2 _ (RdH.sn (RdH.memM (k := 0) rfl hf01_2) w hb hh) x56 x45 hx71)) ?_
              rintro _ _ ⟨_, ⟨rfl, rfl⟩, rfl⟩
              refine ⟨(Sub.cons rfl (Sub.cons rfl (Sub.cons rfl (Sub.cons rfl (Sub.nil _))))), ?_⟩
              refine WD.one 14 (by kernel_rfl) ?_
              refine WS.eff rfl (by decide) (Eff.callS 174 rfl Try.func54 nm_54 rfl rfl (fun w hb hh => w_gf256_Mul (Mem.snap w) x69 x71 hx73)) ?_
              rintro _ _ ⟨_, ⟨rfl, rfl⟩, rfl⟩
              refine ⟨(Sub.cons rfl (Sub.cons rfl (Sub.cons rfl (Sub.cons rfl (Sub.nil _))))), ?_⟩
              refine WD.take 15 rfl (by kernel_rfl) (by kernel_rfl) (by kernel_rfl) (by decide) (Yld.xor_u8 (a := x68) (b := x73) rfl rfl) ?_
              refine WD.one 16 (by kernel_rfl) ?_
              refine WS.yld rfl (by decide) (Yld.idxC (xs := x75) sty_22 rfl rfl (RdT.slcN (RdH.own (k := 125) rfl) hx75) hx76) ?_
              refine WD.one 17 (by kernel_rfl) ?_
              refine WS.eff0 rfl (Eff0.storeS 125 (xs := x55) (lo := x65.1) (hi := x65.2) (a' := x68 ^^^ x73) siz_5 rfl rfl rfl rfl rfl rfl hx77) (Sub.cons rfl (Sub.cons rfl (Sub.cons rfl (Sub.cons rfl (Sub.nil _))))) ?_
              refine WD.done (by kernel_rfl) (hK64 _ _ ?_)
              refine QK.blockN ?_
              refine QK.thenN (hK62 _ _ ?_)
              refine WC.region fun K86 hK86 => ?_
              obtain ⟨x87, hx87, h⟩ := bnd h
              refine WL.yld (by decide) (Yld.addC rfl rfl hx87) ?_
              refine WL.yld (by decide) (Yld.move rfl) ?_
              refine WL.done (hK86 _ _ ?_)
              refine QK.thenN ?_
              refine hK58 ⟨q57, x77, x87⟩ _ _ ?_ (Nat.lt_succ_self _) (Sub.cons rfl (Sub.cons rfl (Sub.cons rfl (Sub.cons rfl (Sub.cons rfl (Sub.cons rfl (Sub.cons rfl (Sub.cons rfl (Sub.cons rfl (Sub.cons rfl (Sub.cons rfl (Sub.cons rfl (Sub.nil _))))))))))))) (Sub.cons rfl (Sub.cons rfl (Sub.cons rfl (Sub.cons rfl (Sub.cons rfl (Sub.cons rfl (Sub.nil _)))))))
              exact h
             ·
              skip
              refine WS.eff rfl (by decide) (Eff.callS 172 rfl Try.func40 nm_40 rfl rfl (fun w hb hh => w_gfmatrix_Matrix_at (Mem.snap w) x01_0 x01_1 A01_2 n01_2 c01_2 _ (RdH.sn (RdH.memM (k := 0) rfl hf01_2) w hb hh) x56 x45 hx71)) ?_
              rintro _ _ ⟨_, ⟨rfl, rfl⟩, rfl⟩
              refine ⟨(Sub.cons rfl (Sub.cons rfl (Sub.cons rfl (Sub.cons rfl (Sub.nil _))))), ?_⟩
              refine WD.two 5 14 (by kernel_rfl) ?_ ?_
              ·
               skip
               refine WS.yld rfl (by decide) (Yld.loadC0 (xs := x67) scal_5 rfl (RdT.slcN (RdH.own (k := 125) rfl) hx67) hx68 rfl) ?_
               refine WD.one 14 (by kernel_rfl) ?_
               refine WS.eff rfl (by decide) (Eff.callS 174 rfl Try.func54 nm_54 rfl rfl (fun w hb hh => w_gf256_Mul (Mem.snap w) x69 x71 hx73)) ?_
               rintro _ _ ⟨_, ⟨rfl, rfl⟩, rfl⟩
               refine ⟨(Sub.cons rfl (Sub.cons rfl (Sub.cons rfl (Sub.cons rfl (Sub.nil _))))), ?_⟩
               refine WD.take 15 rfl (by kernel_rfl) (by kernel_rfl) (by kernel_rfl) (by decide) (Yld.xor_u8 (a := x68) (b := x73) rfl rfl) ?_
               refine WD.one 16 (by kernel_rfl) ?_
               refine WS.yld rfl (by decide) (Yld.idxC (xs := x75) sty_22 rfl rfl (RdT.slcN (RdH.own (k := 125) rfl) hx75) hx76) ?_
               refine WD.one 17 (by kernel_rfl) ?_
               refine WS.eff0 rfl (Eff0.storeS 125 (xs := x55) (lo := x65.1) (hi := x65.2) (a' := x68 ^^^ x73) siz_5 rfl rfl rfl rfl rfl rfl hx77) (Sub.cons rfl (Sub.cons rfl (Sub.cons rfl (Sub.cons rfl (Sub.nil _))))) ?_
               refine WD.done (by kernel_rfl) (hK64 _ _ ?_)
               refine QK.blockN ?_
               refine QK.thenN (hK62 _ _ ?_)
               refine WC.region fun K88 hK88 => ?_
               obtain ⟨x89, hx89, h⟩ := bnd h
               refine WL.yld (by decide) (Yld.addC rfl rfl hx89) ?_
               refine WL.yld (by decide) (Yld.move rfl) ?_
               refine WL.done (hK88 _ _ ?_)
               refine QK.thenN ?_
               refine hK58 ⟨q57, x77, x89⟩ _ _ ?_ (Nat.lt_succ_self _) (Sub.cons rfl (Sub.cons rfl (Sub.cons rfl (Sub.cons rfl (Sub.cons rfl (Sub.cons rfl (Sub.cons rfl (Sub.cons rfl (Sub.cons rfl (Sub.cons rfl (Sub.cons rfl (Sub.cons rfl (Sub.nil _))))))))))))) (Sub.cons rfl (Sub.cons rfl (Sub.cons rfl (Sub.cons rfl (Sub.cons rfl (Sub.cons rfl (Sub.nil _)))))))
               exact h
              ·
               skip
               refine WS.eff rfl (by decide) (Eff.callS 174 rfl Try.func54 nm_54 rfl rfl (fun w hb hh => w_gf256_Mul (Mem.snap w) x69 x71 hx73)) ?_
               rintro _ _ ⟨_, ⟨rfl, rfl⟩, rfl⟩
               refine ⟨(Sub.cons rfl (Sub.cons rfl (Sub.cons rfl (Sub.cons rfl (Sub.nil _))))), ?_⟩
               refine WD.one 5 (by kernel_rfl) ?_
               refine WS.yld rfl (by decide) (Yld.loadC0 (xs := x67) scal_5 rfl (RdT.slcN (RdH.own (k := 125) rfl) hx67) hx68 rfl) ?_
               refine WD.take 15 rfl (by kernel_rfl) (by kernel_rfl) (by kernel_rfl) (by decide) (Yld.xor_u8 (a := x68) (b := x73) rfl rfl) ?_
               refine WD.one 16 (by kernel_rfl) ?_
               refine WS.yld rfl (by decide) (Yld.idxC (xs := x75) sty_22 rfl rfl (RdT.slcN (RdH.own (k := 125) rfl) hx75) hx76) ?_
               refine WD.one 17 (by kernel_rfl) ?_
               refine WS.eff0 rfl (Eff0.storeS 125 (xs := x55) (lo := x65.1) (hi := x65.2) (a' := x68 ^^^ x73) siz_5 rfl rfl rfl rfl rfl rfl hx77) (Sub.cons rfl (Sub.cons rfl (Sub.cons rfl (Sub.cons rfl (Sub.nil _))))) ?_
               refine WD.done (by kernel_rfl) (hK64 _ _ ?_)
               refine QK.blockN ?_
               refine QK.thenN (hK62 _ _ ?_)
               refine WC.region fun K90 hK90 => ?_
               obtain ⟨x91, hx91, h⟩ := bnd h
               refine WL.yld (by decide) (Yld.addC rfl rfl hx91) ?_
               refine WL.yld (by decide) (Yld.move rfl) ?_
               refine WL.done (hK90 _ _ ?_)
               refine QK.thenN ?_
               refine hK58 ⟨q57, x77, x91⟩ _ _ ?_ (Nat.lt_succ_self _) (Sub.cons rfl (Sub.cons rfl (Sub.cons rfl (Sub.cons rfl (Sub.cons rfl (Sub.cons rfl (Sub.cons rfl (Sub.cons rfl (Sub.cons rfl (Sub.cons rfl (Sub.cons rfl (Sub.cons rfl (Sub.nil _))))))))))))) (Sub.cons rfl (Sub.cons rfl (Sub.cons rfl (Sub.cons rfl (Sub.cons rfl (Sub.cons rfl (Sub.nil _)))))))
               exact h
            ·
             skip
             refine WS.eff rfl (by decide) (Eff.callS 172 rfl Try.func40 nm_40 rfl rfl (fun w hb hh => w_gfmatrix_Matrix_at (Mem.snap w) x01_0 x01_1 A01_2 n01_2 c01_2 _ (RdH.sn (RdH.memM (k := 0) rfl hf01_2) w hb hh) x56 x45 hx71)) ?_
             rintro _ _ ⟨_, ⟨rfl, rfl⟩, rfl⟩
             refine ⟨(Sub.cons rfl (Sub.cons rfl (Sub.cons rfl (Sub.cons rfl (Sub.nil _))))), ?_⟩
             refine WD.two 4 14 (by kernel_rfl) ?_ ?_
             ·
              skip
              refine WS.yld rfl (by decide) (Yld.idxC (xs := x67) sty_22 rfl rfl (RdT.slcN (RdH.own (k := 125) rfl) hx67) hx68) ?_
              refine WD.two 5 14 (by kernel_rfl) ?_ ?_
              ·
               skip
               refine WS.yld rfl (by decide) (Yld.loadC0 (xs := x67) scal_5 rfl (RdT.slcN (RdH.own (k := 125) rfl) hx67) hx68 rfl) ?_
               refine WD.one 14 (by kernel_rfl) ?_
               refine WS.eff rfl (by decide) (Eff.callS 174 rfl Try.func54 nm_54 rfl rfl (fun w hb hh => w_gf256_Mul (Mem.snap w) x69 x71 hx73)) ?_
               rintro _ _ ⟨_, ⟨rfl, rfl⟩, rfl⟩
               refine ⟨(Sub.cons rfl (Sub.cons rfl (Sub.cons rfl (Sub.cons rfl (Sub.nil _))))), ?_⟩
               refine WD.take 15 rfl (by kernel_rfl) (by kernel_rfl) (by kernel_rfl) (by decide) (Yld.xor_u8 (a := x68) (b := x73) rfl rfl) ?_
               refine WD.one 16 (by kernel_rfl) ?_
               refine WS.yld rfl (by decide) (Yld.idxC (xs := x75) sty_22 rfl rfl (RdT.slcN (RdH.own (k := 125) rfl) hx75) hx76) ?_
               refine WD.one 17 (by kernel_rfl) ?_
               refine WS.eff0 rfl (Eff0.storeS 125 (xs := x55) (lo := x65.1) (hi := x65.2) (a' := x68 ^^^ x73) siz_5 rfl rfl rfl rfl rfl rfl hx77) (Sub.cons rfl (Sub.cons rfl (Sub.cons rfl (Sub.cons rfl (Sub.nil _))))) ?_
               refine WD.done (by kernel_rfl) (hK64 _ _ ?_)
               refine QK.blockN ?_
               refine QK.thenN (hK62 _ _ ?_)
               refine WC.region fun K92 hK92 => ?_
               obtain ⟨x93, hx93, h⟩ := bnd h
               refine WL.yld (by decide) (Yld.addC rfl rfl hx93) ?_
               refine WL.yld (by decide) (Yld.move rfl) ?_
               refine WL.done (hK92 _ _ ?_)
               refine QK.thenN ?_
               refine hK58 ⟨q57, x77, x93⟩ _ _ ?_ (Nat.lt_succ_self _) (Sub.cons rfl (Sub.cons rfl (Sub.cons rfl (Sub.cons rfl (Sub.cons rfl (Sub.cons rfl (Sub.cons rfl (Sub.cons rfl (Sub.cons rfl (Sub.cons rfl (Sub.cons rfl (Sub.cons rfl (Sub.nil _))))))))))))) (Sub.cons rfl (Sub.cons rfl (Sub.cons rfl (Sub.cons rfl (Sub.cons rfl (Sub.cons rfl (Sub.nil _)))))))
               exact h
              ·
               skip
               refine WS.eff rfl (by decide) (Eff.callS 174 rfl Try.func54 nm_54 rfl rfl (fun w hb hh => w_gf256_Mul (Mem.snap w) x69 x71 hx73)) ?_
               rintro _ _ ⟨_, ⟨rfl, rfl⟩, rfl⟩
               refine ⟨(Sub.cons rfl (Sub.cons rfl (Sub.cons rfl (Sub.cons rfl (Sub.nil _))))), ?_⟩
               refine WD.one 5 (by kernel_rfl) ?_
               refine WS.yld rfl (by decide) (Yld.loadC0 (xs := x67) scal_5 rfl (RdT.slcN (RdH.own (k := 125) rfl) hx67) hx68 rfl) ?_
               refine WD.take 15 rfl (by kernel_rfl) (by kernel_rfl) (by kernel_rfl) (by decide) (Yld.xor_u8 (a := x68) (b := x73) rfl rfl) ?_
               refine WD.one 16 (by kernel_rfl) ?_
               refine WS.yld rfl (by decide) (Yld.idxC (xs := x75) sty_22 rfl rfl (RdT.slcN (RdH.own (k := 125) rfl) hx75) hx76) ?_
               refine WD.one 17 (by kernel_rfl) ?_
               refine WS.eff0 rfl (Eff0.storeS 125 (xs := x55) (lo := x65.1) (hi := x65.2) (a' := x68 ^^^ x73) siz_5 rfl rfl rfl rfl rfl rfl hx77) (Sub.cons rfl (Sub.cons rfl (Sub.cons rfl (Sub.cons rfl (Sub.nil _))))) ?_
               refine WD.done (by kernel_rfl) (hK64 _ _ ?_)
               refine QK.blockN ?_
               refine QK.thenN (hK62 _ _ ?_)
               refine WC.region fun K94 hK94 => ?_
               obtain ⟨x95, hx95, h⟩ := bnd h
               refine WL.yld (by decide) (Yld.addC rfl rfl hx95) ?_
               refine WL.yld (by decide) (Yld.move rfl) ?_
               refine WL.done (hK94 _ _ ?_)
               refine QK.thenN ?_
               refine hK58 ⟨q57, x77, x95⟩ _ _ ?_ (Nat.lt_succ_self _) (Sub.cons rfl (Sub.cons rfl (Sub.cons rfl (Sub.cons rfl (Sub.cons rfl (Sub.cons rfl (Sub.cons rfl (Sub.cons rfl (Sub.cons rfl (Sub.cons rfl (Sub.cons rfl (Sub.cons rfl (Sub.nil _))))))))))))) (Sub.cons rfl (Sub.cons rfl (Sub.cons rfl (Sub.cons rfl (Sub.cons rfl (Sub.cons rfl (Sub.nil _)))))))
               exact h
             ·
              skip
              refine WS.eff rfl (by decide) (Eff.callS 174 rfl Try.func54 nm_54 rfl rfl (fun w hb hh => w_gf256_Mul (Mem.snap w) x69 x71 hx73)) ?_
              rintro _ _ ⟨_, ⟨rfl, rfl⟩, rfl⟩
              refine ⟨(Sub.cons rfl (Sub.cons rfl (Sub.cons rfl (Sub.cons rfl (Sub.nil _))))), ?_⟩
              refine WD.one 4 (by kernel_rfl) ?_
              refine WS.yld rfl (by decide) (Yld.idxC (xs := x67) sty_22 rfl rfl (RdT.slcN (RdH.own (k := 125) rfl) hx67) hx68) ?_
              refine WD.one 5 (by kernel_rfl) ?_
              refine WS.yld rfl (by decide) (Yld.loadC0 (xs := x67) scal_5 rfl (RdT.slcN (RdH.own (k := 125) rfl) hx67) hx68 rfl) ?_
              refine WD.take 15 rfl (by kernel_rfl) (by kernel_rfl) (by kernel_rfl) (by decide) (Yld.xor_u8 (a := x68) (b := x73) rfl rfl) ?_
              refine WD.one 16 (by kernel_rfl) ?_
              refine WS.yld rfl (by decide) (Yld.idxC (xs := x75) sty_22 rfl rfl (RdT.slcN (RdH.own (k := 125) rfl) hx75) hx76) ?_
              refine WD.one 17 (by kernel_rfl) ?_
              refine WS.eff0 rfl (Eff0.storeS 125 (xs := x55) (lo := x65.1) (hi := x65.2) (a' := x68 ^^^ x73) siz_5 rfl rfl rfl rfl rfl rfl hx77) (Sub.cons rfl (Sub.cons rfl (Sub.cons rfl (Sub.cons rfl (Sub.nil _))))) ?_
              refine WD.done (by kernel_rfl) (hK64 _ _ ?_)
              refine QK.blockN ?_
              refine QK.thenN (hK62 _ _ ?_)
              refine WC.region fun K96 hK96 => ?_
              obtain ⟨x97, hx97, h⟩ := bnd h
              refine WL.yld (by decide) (Yld.addC rfl rfl hx97) ?_
              refine WL.yld (by decide) (Yld.move rfl) ?_
              refine WL.done (hK96 _ _ ?_)
              refine QK.thenN ?_
              refine hK58 ⟨q57, x77, x97⟩ _ _ ?_ (Nat.lt_succ_self _) (Sub.cons rfl (Sub.cons rfl (Sub.cons rfl (Sub.cons rfl (Sub.cons rfl (Sub.cons rfl (Sub.cons rfl (Sub.cons rfl (Sub.cons rfl (Sub.cons rfl (Sub.cons rfl (Sub.cons rfl (Sub.nil _))))))))))))) (Sub.cons rfl (Sub.cons rfl (Sub.cons rfl (Sub.cons rfl (Sub.cons rfl (Sub.cons rfl (Sub.nil _)))))))
              exact h
          ·
           replace h := of_f hc61 h
           refine WC.condFe rfl (decide_eq_false hc61) ?_
           refine WC.exit (QK.thenE (QK.thenE (QK.blockX ?_)))
           refine QK.blockN ?_
           refine QK.thenN ?_
           refine hK52 x55 _ _ ?_ (Sub.cons rfl (Sub.cons rfl (Sub.cons rfl (Sub.cons rfl (Sub.cons rfl (Sub.cons rfl (Sub.cons rfl (Sub.cons rfl (Sub.cons rfl (Sub.nil _)))))))))) (Sub.cons rfl (Sub.cons rfl (Sub.cons rfl (Sub.cons rfl (Sub.cons rfl (Sub.cons rfl (Sub.nil _)))))))
           exact h
        ·
         rintro x51 h
         unfold m_gfmatrix_Mul_j5 at h
         refine WC.region fun K98 hK98 => ?_
         obtain ⟨x99, hx99, h⟩ := bnd h
         refine WL.yld (by decide) (Yld.addC rfl rfl hx99) ?_
         refine WL.yld (by decide) (Yld.move rfl) ?_
         refine WL.done (hK98 _ _ ?_)
         refine QK.thenN ?_
         refine hK47 ⟨q46, x51, x99⟩ _ _ ?_ (Nat.lt_succ_self _) (Sub.cons rfl (Sub.cons rfl (Sub.cons rfl (Sub.cons rfl (Sub.cons rfl (Sub.cons rfl (Sub.cons rfl (Sub.cons rfl (Sub.cons rfl (Sub.nil _)))))))))) (Sub.cons rfl (Sub.cons rfl (Sub.cons rfl (Sub.cons rfl (Sub.cons rfl (Sub.cons rfl (Sub.nil _)))))))
         exact h
       ·
        replace h := of_f hc50 h
        refine WC.condFe rfl (decide_eq_false hc50) ?_
        refine WC.exit (QK.thenE (QK.thenE (QK.blockX ?_)))
        refine QK.blockN ?_
        refine QK.thenN ?_
        refine hK41 x44 _ _ ?_ (Sub.cons rfl (Sub.cons rfl (Sub.cons rfl (Sub.cons rfl (Sub.cons rfl (Sub.cons rfl (Sub.nil _))))))) (Sub.cons rfl (Sub.cons rfl (Sub.cons rfl (Sub.cons rfl (Sub.cons rfl (Sub.cons rfl (Sub.nil _)))))))
        exact h
     ·
      rintro x40 h
      unfold m_gfmatrix_Mul_j3 at h
      refine WC.region fun K100 hK100 => ?_
      obtain ⟨x101, hx101, h⟩ := bnd h
      refine WL.yld (by decide) (Yld.addC rfl rfl hx101) ?_
      refine WL.yld (by decide) (Yld.move rfl) ?_
      refine WL.done (hK100 _ _ ?_)
      refine QK.thenN ?_
      refine hK36 ⟨q35, x40, x101⟩ _ _ ?_ (Nat.lt_succ_self _) (Sub.cons rfl (Sub.cons rfl (Sub.cons rfl (Sub.cons rfl (Sub.cons rfl (Sub.cons rfl (Sub.nil _))))))) (Sub.cons rfl (Sub.cons rfl (Sub.cons rfl (Sub.cons rfl (Sub.cons rfl (Sub.cons rfl (Sub.nil _)))))))
      exact h
    ·
     replace h := of_f hc39 h
     refine WC.condFe rfl (decide_eq_false hc39) ?_
     refine WC.exit (QK.thenE (QK.thenE (QK.blockX ?_)))
     refine QK.thenN ?_
     refine hK31 x33 _ _ ?_ (Sub.cons rfl (Sub.cons rfl (Sub.nil _))) (Sub.cons rfl (Sub.cons rfl (Sub.cons rfl (Sub.cons rfl (Sub.nil _)))))
     exact h
  ·
   rintro x30 h
   unfold m_gfmatrix_Mul_j1 at h
   refine WC.seqRegion fun K102 hK102 => ?_
   refine WL.yld (by decide) (Yld.loadBM (k := 129) agg_24 rfl rfl rfl) ?_
   refine WL.eff0 (Eff0.storeBAM 104 agg_24 rfl rfl rfl ⟨rfl, rfl⟩ rfl) ?_
   refine WL.yld (by decide) (Yld.assign rfl) ?_
   refine WL.done (hK102 _ _ ?_)
   refine WC.ret ?_
   injection h with h; subst h
   exact Ret.fn [125] (ResIs.cellTmpM (k := 104) rfl agg_24 rfl rfl rfl rfl) rfl (Ext.refl _ _) rfl (by decide) rfl rfl ⟨A26, n27, c28, rfl, rfl⟩

set_option maxRecDepth 10000 in
theorem w_gfmatrix_Pick (M0 : Mem) (x00_0 : Int) (x00_1 : Int) (A00_2 : Option Addr) (n00_2 c00_2 : Nat) (x00_2 : List (BitVec 8)) (hf00_2 : SlT M0 A00_2 n00_2 c00_2 x00_2) (A01 : Option Addr) (n01 c01 : Nat) (x01 : List (Int)) (hf01 : SlT M0 A01 n01 c01 x01) {res : Int × Int × (List (BitVec 8)) × Int} (h : m_gfmatrix_Pick x00_0 x00_1 x00_2 x01 = some res) :
  Fn Try.prog 13 #[.agg ([I64 x00_0, I64 x00_1, .slice A00_2 n00_2 c00_2] : List Value).toArray, .slice A01 n01 c01] M0 fun r M' es => ∃ (A1 : Option Addr) (n1 c1 : Nat), r = .tuple #[.agg ([I64 res.1, I64 res.2.1, .slice A1 n1 c1] : List Value).toArray, I64 res.2.2.2] ∧ es = [.own 5 (Lay.sz (BitVec 8)) A1 n1 c1 (cel res.2.2.1)] := by
 refine Fn.intro (N := 48) Try.func13 rfl rfl (Nat.le_of_ble_eq_true rfl) fun w0 => ?_
 unfold m_gfmatrix_Pick at h
 refine WC.seqRegion fun K1 hK1 => ?_
 refine WL.eff (by decide) (Eff.box 102 (us := [I64 x00_0, I64 x00_1, .slice A00_2 n00_2 c00_2]) rfl rfl rfl) ?_
 rintro _ _ ⟨g2, rfl, rfl⟩
 refine WL.eff (by decide) (Eff.alloc 103 rfl zr_24) ?_
 rintro _ _ ⟨g3, rfl, rfl⟩
 refine WL.yld (by decide) (Yld.assign rfl) ?_
 refine WL.done (hK1 _ _ ?_)
 refine WC.seqCut (σ := Unit) (fun _ => [(1, .slice A01 n01 c01), (2, .pointer (some ⟨g2, 0, none⟩)), (4, .pointer (some ⟨g3, 0, none⟩))]) (fun _ => [(0, .mem M0), (102, .blk g2 24 [I64 x00_0, I64 x00_1, .slice A00_2 n00_2 c00_2]), (103, .blk g3 24 [I64 (0 : Int), I64 (0 : Int), .slice none 0 0])]) (fun _ => m_gfmatrix_Pick_j0 x00_0 x00_1 x00_2 x01 = some res) (fun K4 hK4 => ?_) ?_
 ·
  skip
  refine WC.seqRegion fun K5 hK5 => ?_
  obtain ⟨x6, hx6, h⟩ := bnd h
  by_cases hc8 : x6 = true
  ·
   replace h := of_t hc8 h
   obtain ⟨x9, hx9, h⟩ := bnd h
   refine WL.yld (by decide) (Yld.loadBM (k := 102) agg_24 rfl rfl rfl) ?_
   refine WL.eff (by decide) (Eff.callS 107 rfl Try.func34 nm_34 rfl rfl (fun w hb hh => w_gfmatrix_Valid (Mem.snap w) x00_0 x00_1 A00_2 n00_2 c00_2 _ (RdH.sn (RdH.memM (k := 0) rfl hf00_2) w hb hh) hx6)) ?_
   rintro _ _ ⟨_, ⟨rfl, rfl⟩, rfl⟩
   refine WL.yld (by decide) (Yld.notB rfl) ?_
   refine WL.yld (by decide) (Yld.move rfl) ?_
   refine WL.new (v' := .bool false) (congrArg Value.bool (not_f hc8)) ?_
   refine WL.yldG (by decide) rfl (Yld.move rfl) ?_
   refine WL.yldG (by decide) rfl (Yld.lenC (xs := x01) und_28 rfl (RdH.memM (k := 0) rfl hf01)) ?_
   refine WL.effG (by decide) rfl (Eff.callS 110 rfl Try.func35 nm_35 rfl rfl (fun w hb hh => w_gfmatrix_mayHave (Mem.snap w) (x01.length : Int) hx9)) ?_
   rintro _ _ ⟨_, ⟨rfl, rfl⟩, rfl⟩
   refine WL.yldG (by decide) rfl (Yld.notB rfl) ?_
   refine WL.yld (by decide) (Yld.pickF rfl rfl) ?_
   refine WL.done (hK5 _ _ ?_)
   by_cases hc11 : x9 = true
   ·
    replace h := of_t hc11 h
    refine WC.condFe rfl (not_f hc11) ?_
    refine WC.skip ?_
    refine QK.thenN ?_
    refine hK4 () _ _ ?_ (Sub.cons rfl (Sub.cons rfl (Sub.cons rfl (Sub.nil _)))) (Sub.cons rfl (Sub.cons rfl (Sub.cons rfl (Sub.nil _))))
    exact h
   ·
    replace h := of_f hc11 h
    refine WC.condTe rfl (not_t (Bool.eq_false_iff.2 hc11)) ?_
    refine WC.seqRegion fun K12 hK12 => ?_
    refine WL.yld (by decide) (Yld.build rfl (bu_24_)) ?_
    refine WL.eff0 (Eff0.storeBAM 103 agg_24 rfl rfl rfl ⟨rfl, rfl⟩ rfl) ?_
    refine WL.yld (by decide) (Yld.assign rfl) ?_
    refine WL.done (hK12 _ _ ?_)
    refine WC.ret (QK.thenR ?_)
    refine QK.nilOwn 113 5 (Lay.sz (BitVec 8)) none ?_
    injection h with h; subst h
    exact Ret.fn [113] (ResIs.cellTmpM (k := 103) rfl agg_24 rfl rfl rfl rfl) rfl (Ext.refl _ _) rfl (by decide) rfl rfl ⟨none, 0, 0, rfl, rfl⟩
  ·
   replace h := of_f hc8 h
   refine WL.yld (by decide) (Yld.loadBM (k := 102) agg_24 rfl rfl rfl) ?_
   refine WL.eff (by decide) (Eff.callS 107 rfl Try.func34 nm_34 rfl rfl (fun w hb hh => w_gfmatrix_Valid (Mem.snap w) x00_0 x00_1 A00_2 n00_2 c00_2 _ (RdH.sn (RdH.memM (k := 0) rfl hf00_2) w hb hh) hx6)) ?_
   rintro _ _ ⟨_, ⟨rfl, rfl⟩, rfl⟩
   refine WL.yld (by decide) (Yld.notB rfl) ?_
   refine WL.yld (by decide) (Yld.move rfl) ?_
   refine WL.new (v' := .bool true) (congrArg Value.bool (not_t (Bool.eq_false_iff.2 hc8))) ?_
   refine WL.skip (by decide) rfl rfl ?_
   refine WL.skip (by decide) rfl rfl ?_
   refine WL.skip (by decide) rfl rfl ?_
   refine WL.skip (by decide) rfl rfl ?_
   refine WL.yld (by decide) (Yld.pickT rfl rfl) ?_
   refine WL.done (hK5 _ _ ?_)
   refine WC.condT rfl ?_
   refine WC.seqRegion fun K14 hK14 => ?_
   refine WL.yld (by decide) (Yld.build rfl (bu_24_)) ?_
   refine WL.eff0 (Eff0.storeBAM 103 agg_24 rfl rfl rfl ⟨rfl, rfl⟩ rfl) ?_
   refine WL.yld (by decide) (Yld.assign rfl) ?_
   refine WL.done (hK14 _ _ ?_)
   refine WC.ret (QK.thenR ?_)
   refine QK.nilOwn 115 5 (Lay.sz (BitVec 8)) none ?_
   injection h with h; subst h
   exact Ret.fn [115] (ResIs.cellTmpM (k := 103) rfl agg_24 rfl rfl rfl rfl) rfl (Ext.refl _ _) rfl (by decide) rfl rfl ⟨none, 0, 0, rfl, rfl⟩
 ·
  rintro _ h
  unfold m_gfmatrix_Pick_j0 at h
  refine WC.seqRegion fun K16 hK16 => ?_
  refine WL.yld (by decide) (Yld.move rfl) ?_
  refine WL.yld (by decide) (Yld.lenC (xs := x01) und_28 rfl (RdH.memM (k := 0) rfl hf01)) ?_
  refine WL.yld (by decide) (Yld.fieldAddr Try.underlying24 rfl nz_3 rfl rfl) ?_
  refine WL.yld (by decide) (Yld.loadB (k := 102) scal_3 rfl rfl rfl) ?_
  refine WL.yld (by decide) (Yld.build rfl (bu_24_0_1 (x01.length : Int) x00_1)) ?_
  refine WL.eff (by decide) (Eff.alloc 117 rfl zr_24) ?_
  rintro _ _ ⟨g17, rfl, rfl⟩
  refine WL.eff0 (Eff0.storeBAM 117 agg_24 rfl rfl rfl ⟨rfl, rfl⟩ rfl) ?_
  refine WL.done (hK16 _ _ ?_)
  refine WC.seqCut (σ := (Option Addr) × Nat × Nat × (List (BitVec 8))) (fun ⟨A20, n21, c22, x23⟩ => [(4, .pointer (some ⟨g3, 0, none⟩)), (6, .pointer (some ⟨g17, 0, none⟩))]) (fun ⟨A20, n21, c22, x23⟩ => [(0, .mem M0), (103, .blk g3 24 [I64 (0 : Int), I64 (0 : Int), .slice none 0 0]), (117, .blk g17 24 [I64 (x01.length : Int), I64 x00_1, .slice A20 n21 c22]), (119, .own 5 (Lay.sz (BitVec 8)) A20 n21 c22 (cel x23))]) (fun ⟨A20, n21, c22, x23⟩ => m_gfmatrix_Pick_j1 x00_1 x01 x23 = some res) (fun K24 hK24 => ?_) ?_
  ·
   skip
   refine WC.seqRegion fun K25 hK25 => ?_
   refine WL.yld (by decide) (Yld.move rfl) ?_
   refine WL.yld (by decide) (Yld.lenC (xs := x01) und_28 rfl (RdH.memM (k := 0) rfl hf01)) ?_
   refine WL.yld (by decide) (Yld.move rfl) ?_
   refine WL.done (hK25 _ _ ?_)
   refine WC.block ?_
   refine WC.nilOwn 127 5 (Lay.sz (BitVec 8)) none ?_
   refine WC.loop (σ := Nat × (Option Addr) × Nat × Nat × (List (BitVec 8)) × Int) (fun ⟨q33, A28, n29, c30, x31, x32⟩ => [(2, .pointer (some ⟨g2, 0, none⟩)), (4, .pointer (some ⟨g3, 0, none⟩)), (6, .pointer (some ⟨g17, 0, none⟩)), (24, .slice A01 n01 c01), (25, I64 (x01.length : Int)), (26, I64 x32)]) (fun ⟨q33, A28, n29, c30, x31, x32⟩ => [(0, .mem M0), (102, .blk g2 24 [I64 x00_0, I64 x00_1, .slice A00_2 n00_2 c00_2]), (103, .blk g3 24 [I64 (0 : Int), I64 (0 : Int), .slice none 0 0]), (117, .blk g17 24 [I64 (x01.length : Int), I64 x00_1, .slice A28 n29 c30]), (127, .own 5 (Lay.sz (BitVec 8)) A28 n29 c30 (cel x31))]) (fun ⟨q33, A28, n29, c30, x31, x32⟩ => m_gfmatrix_Pick_l2 x00_0 x00_1 x00_2 x01 q33 x31 x32 = some res) (fun ⟨q33, A28, n29, c30, x31, x32⟩ => q33) ⟨forever, none, 0, 0, ([] : List (BitVec 8)), (0 : Int)⟩ ?_ (Sub.cons rfl (Sub.cons rfl (Sub.cons rfl (Sub.cons rfl (Sub.cons rfl (Sub.cons rfl (Sub.nil _))))))) (Sub.cons rfl (Sub.cons rfl (Sub.cons rfl (Sub.cons rfl (Sub.cons rfl (Sub.nil _)))))) ?_
   ·
    exact h
   rintro ⟨q33, A28, n29, c30, x31, x32⟩ h K34 hK34
   cases q33 with
   | zero => exact absurd h (by simp [m_gfmatrix_Pick_l2])
   | succ q33 =>
    unfold m_gfmatrix_Pick_l2 at h
    refine WC.seqRegion fun K35 hK35 => ?_
    refine WL.yld (by decide) (Yld.lss rfl rfl) ?_
    refine WL.done (hK35 _ _ ?_)
    refine WC.seq fun K36 hK36 => ?_
    by_cases hc37 : x32 < (x01.length : Int)
    ·
     replace h := of_t hc37 h
     refine WC.condTe rfl (decide_eq_true hc37) ?_
     refine WC.skip ?_
     refine QK.thenN (hK36 _ _ ?_)
     refine WC.seq fun K38 hK38 => ?_
     refine WC.block ?_
     refine WC.seqRegion fun K39 hK39 => ?_
     obtain ⟨x40, hx40, h⟩ := bnd h
     refine WL.yld (by decide) (Yld.idxC (xs := x01) sty_28 rfl rfl (RdH.memM (k := 0) rfl hf01) hx40) ?_
     refine WL.yld (by decide) (Yld.loadC0 (xs := x01) scal_3 rfl (RdH.memM (k := 0) rfl hf01) hx40 rfl) ?_
     refine WL.yld (by decide) (Yld.assign rfl) ?_
     refine WL.done (hK39 _ _ ?_)
     refine WC.seq fun K41 hK41 => ?_
     refine WC.seqRegion fun K42 hK42 => ?_
     by_cases hc43 : x40 < (0 : Int)
     ·
      replace h := of_t hc43 h
      refine WL.yld (by decide) (Yld.move rfl) ?_
      refine WL.yld (by decide) (Yld.lss rfl rfl) ?_
      refine WL.yld (by decide) (Yld.move rfl) ?_
      refine WL.new (v' := .bool true) (congrArg Value.bool (decide_eq_true hc43)) ?_
      refine WL.skip (by decide) rfl rfl ?_
      refine WL.skip (by decide) rfl rfl ?_
      refine WL.skip (by decide) rfl rfl ?_
      refine WL.skip (by decide) rfl rfl ?_
      refine WL.yld (by decide) (Yld.pickT rfl rfl) ?_
      refine WL.done (hK42 _ _ ?_)
      refine WC.condT rfl ?_
      refine WC.seqRegion fun K44 hK44 => ?_
      refine WL.yld (by decide) (Yld.build rfl (bu_24_)) ?_
      refine WL.eff0 (Eff0.storeBAM 103 agg_24 rfl rfl rfl ⟨rfl, rfl⟩ rfl) ?_
      refine WL.yld (by decide) (Yld.assign rfl) ?_
      refine WL.done (hK44 _ _ ?_)
      refine WC.ret (QK.thenR (QK.blockR (QK.thenR (QK.thenR (QK.blockR (QK.thenR ?_))))))
      refine QK.nilOwn 145 5 (Lay.sz (BitVec 8)) none ?_
      injection h with h; subst h
      exact Ret.fn [145] (ResIs.cellTmpM (k := 103) rfl agg_24 rfl rfl rfl rfl) rfl (Ext.refl _ _) rfl (by decide) rfl rfl ⟨none, 0, 0, rfl, rfl⟩
     ·
      replace h := of_f hc43 h
      refine WL.yld (by decide) (Yld.move rfl) ?_
      refine WL.yld (by decide) (Yld.lss rfl rfl) ?_
      refine WL.yld (by decide) (Yld.move rfl) ?_
      refine WL.new (v' := .bool false) (congrArg Value.bool (decide_eq_false hc43)) ?_
      refine WL.yldG (by decide) rfl (Yld.move rfl) ?_
      refine WL.yldG (by decide) rfl (Yld.fieldAddr Try.underlying24 rfl nz_3 rfl rfl) ?_
      refine WL.yldG (by decide) rfl (Yld.loadB (k := 102) scal_3 rfl rfl rfl) ?_
      refine WL.yldG (by decide) rfl (Yld.geq rfl rfl) ?_
      refine WL.yld (by decide) (Yld.pickF rfl rfl) ?_
      refine WL.done (hK42 _ _ ?_)
      by_cases hc46 : x00_0 ≤ x40
      ·
       replace h := of_t hc46 h
       refine WC.condTe rfl (decide_eq_true hc46) ?_
       refine WC.seqRegion fun K47 hK47 => ?_
       refine WL.yld (by decide) (Yld.build rfl (bu_24_)) ?_
       refine WL.eff0 (Eff0.storeBAM 103 agg_24 rfl rfl rfl ⟨rfl, rfl⟩ rfl) ?_
       refine WL.yld (by decide) (Yld.assign rfl) ?_
       refine WL.done (hK47 _ _ ?_)
       refine WC.ret (QK.thenR (QK.blockR (QK.thenR (QK.thenR (QK.blockR (QK.thenR ?_))))))
       refine QK.nilOwn 148 5 (Lay.sz (BitVec 8)) none ?_
       injection h with h; subst h
       exact Ret.fn [148] (ResIs.cellTmpM (k := 103) rfl agg_24 rfl rfl rfl rfl) rfl (Ext.refl _ _) rfl (by decide) rfl rfl ⟨none, 0, 0, rfl, rfl⟩
      ·
       replace h := of_f hc46 h
       refine WC.condFe rfl (decide_eq_false hc46) ?_
       refine WC.skip ?_
       refine QK.thenN (hK41 _ _ ?_)
       refine WC.regionD (n := 8) [(102, _), (103, _)] rfl mixed (Sub.cons rfl (Sub.cons rfl (Sub.nil _))) fun K49 hK49 => ?_
       obtain ⟨x50, hx50, h⟩ := bnd h
       obtain ⟨x51, hx51, h⟩ := bnd h
       obtain ⟨x52, hx52, h⟩ := bnd h
       refine WD.take 0 rfl (by kernel_rfl) (by kernel_rfl) (by kernel_rfl) (by decide) (Yld.fieldAddr Try.underlying24 rfl nz_22 rfl rfl) ?_
       refine WD.take 2 rfl (by kernel_rfl) (by kernel_rfl) (by kernel_rfl) (by decide) (Yld.loadBM (k := 102) agg_24 rfl rfl rfl) ?_
       refine WD.take 3 rfl (by kernel_rfl) (by kernel_rfl) (by kernel_rfl) (by decide) (Yld.move rfl) ?_
       refine WD.two 1 4 (by kernel_rfl) ?_ ?_
       ·
        skip
        refine WS.yld rfl (by decide) (Yld.loadB (k := 117) scal_22 rfl rfl rfl) ?_
        refine WD.one 4 (by kernel_rfl) ?_
        refine WS.eff rfl (by decide) (Eff.callS 1 rfl Try.func36 nm_36 rfl rfl (fun w hb hh => w_gfmatrix_Matrix_row (Mem.snap w) x00_0 x00_1 A00_2 n00_2 c00_2 x40 (SlT.slcB (RdH.sn (RdH.memM (k := 0) rfl hf00_2) w hb hh) hx51) hx50)) ?_
        rintro _ _ ⟨_, ⟨rfl, rfl⟩, rfl⟩
        refine ⟨(Sub.cons rfl (Sub.cons rfl (Sub.nil _))), ?_⟩
        refine WD.one 5 (by kernel_rfl) ?_
        refine WS.eff rfl (by decide) (Eff.appendC 127 (xs := x31) (ys := x51) sty_22 rfl rfl rfl (RdT.slcN (RdH.memM (k := 0) rfl hf00_2) hx51) hx52) ?_
        rintro _ _ ⟨A53, c54, rfl, rfl⟩
        refine ⟨(Sub.cons rfl (Sub.cons rfl (Sub.nil _))), ?_⟩
        refine WD.take 6 rfl (by kernel_rfl) (by kernel_rfl) (by kernel_rfl) (by decide) (Yld.fieldAddr Try.underlying24 rfl nz_22 rfl rfl) ?_
        refine WD.one 7 (by kernel_rfl) ?_
        refine WS.eff0 rfl (Eff0.storeB 117 siz_22 rfl rfl rfl rfl (Nat.le_of_ble_eq_true rfl)) (Sub.cons rfl (Sub.cons rfl (Sub.nil _))) ?_
        refine WD.done (by kernel_rfl) (hK49 _ _ ?_)
        refine QK.blockN ?_
        refine QK.thenN (hK38 _ _ ?_)
        refine WC.region fun K55 hK55 => ?_
        obtain ⟨x56, hx56, h⟩ := bnd h
        refine WL.yld (by decide) (Yld.addC rfl rfl hx56) ?_
        refine WL.yld (by decide) (Yld.move rfl) ?_
        refine WL.done (hK55 _ _ ?_)
        refine QK.thenN ?_
        refine hK34 ⟨q33, A53, x52.length, c54, x52, x56⟩ _ _ ?_ (Nat.lt_succ_self _) (Sub.cons rfl (Sub.cons rfl (Sub.cons rfl (Sub.cons rfl (Sub.cons rfl (Sub.cons rfl (Sub.nil _))))))) (Sub.cons rfl (Sub.cons rfl (Sub.cons rfl (Sub.cons rfl (Sub.cons rfl (Sub.nil _))))))
        exact h
       ·
        skip
        refine WS.eff rfl (by decide) (Eff.callS 1 rfl Try.func36 nm_36 rfl rfl (fun w hb hh => w_gfmatrix_Matrix_row (Mem.snap w) x00_0 x00_1 A00_2 n00_2 c00_2 x40 (SlT.slcB (RdH.sn (RdH.memM (k := 0) rfl hf00_2) w hb hh) hx51) hx50)) ?_
        rintro _ _ ⟨_, ⟨rfl, rfl⟩, rfl⟩
        refine ⟨(Sub.cons rfl (Sub.cons rfl (Sub.nil _))), ?_⟩
        refine WD.one 1 (by kernel_rfl) ?_
        refine WS.yld rfl (by decide) (Yld.loadB (k := 117) scal_22 rfl rfl rfl) ?_
        refine WD.one 5 (by kernel_rfl) ?_
        refine WS.eff rfl (by decide) (Eff.appendC 127 (xs := x31) (ys := x51) sty_22 rfl rfl rfl (RdT.slcN (RdH.memM (k := 0) rfl hf00_2) hx51) hx52) ?_
        rintro _ _ ⟨A53, c54, rfl, rfl⟩
        refine ⟨(Sub.cons rfl (Sub.cons rfl (Sub.nil _))), ?_⟩
        refine WD.take 6 rfl (by kernel_rfl) (by kernel_rfl) (by kernel_rfl) (by decide) (Yld.fieldAddr Try.underlying24 rfl nz_22 rfl rfl) ?_
        refine WD.one 7 (by kernel_rfl) ?_
        refine WS.eff0 rfl (Eff0.storeB 117 siz_22 rfl rfl rfl rfl (Nat.le_of_ble_eq_true rfl)) (Sub.cons rfl (Sub.cons rfl (Sub.nil _))) ?_
        refine WD.done (by kernel_rfl) (hK49 _ _ ?_)
        refine QK.blockN ?_
        refine QK.thenN (hK38 _ _ ?_)
        refine WC.region fun K57 hK57 => ?_
        obtain ⟨x58, hx58, h⟩ := bnd h
        refine WL.yld (by decide) (Yld.addC rfl rfl hx58) ?_
        refine WL.yld (by decide) (Yld.move rfl) ?_
        refine WL.done (hK57 _ _ ?_)
        refine QK.thenN ?_
        refine hK34 ⟨q33, A53, x52.length, c54, x52, x58⟩ _ _ ?_ (Nat.lt_succ_self _) (Sub.cons rfl (Sub.cons rfl (Sub.cons rfl (Sub.cons rfl (Sub.cons rfl (Sub.cons rfl (Sub.nil _))))))) (Sub.cons rfl (Sub.cons rfl (Sub.cons rfl (Sub.cons rfl (Sub.cons rfl (Sub.nil _))))))
        exact h
    ·
     replace h := of_f hc37 h
     refine WC.condFe rfl (decide_eq_false hc37) ?_
     refine WC.exit (QK.thenE (QK.thenE (QK.blockX ?_)))
     refine QK.thenN ?_
     refine KK.move 127 119 rfl rfl ?_
     refine hK24 ⟨A28, n29, c30, x31⟩ _ _ ?_ (Sub.cons rfl (Sub.cons rfl (Sub.nil _))) (Sub.cons rfl (Sub.cons rfl (Sub.cons rfl (Sub.cons rfl (Sub.nil _)))))
     exact h
  ·
   rintro ⟨A20, n21, c22, x23⟩ h
   unfold m_gfmatrix_Pick_j1 at h
   refine WC.seqRegion fun K59 hK59 => ?_
   refine WL.yld (by decide) (Yld.loadBM (k := 117) agg_24 rfl rfl rfl) ?_
   refine WL.eff0 (Eff0.storeBAM 103 agg_24 rfl rfl rfl ⟨rfl, rfl⟩ rfl) ?_
   refine WL.yld (by decide) (Yld.assign rfl) ?_
   refine WL.done (hK59 _ _ ?_)
   refine WC.ret ?_
   injection h with h; subst h
   exact Ret.fn [119] (ResIs.cellTmpM (k := 103) rfl agg_24 rfl rfl rfl rfl) rfl (Ext.refl _ _) rfl (by decide) rfl rfl ⟨A20, n21, c22, rfl, rfl⟩

set_option maxRecDepth 10000 in
theorem w_gfmatrix_scale (A : Option Addr) (n c : Nat) (x0c : List (BitVec 8)) (x00lo : Int) (x00hi : Int) (x01 : BitVec 8) {res : List (BitVec 8)} (h : m_gfmatrix_scale x0c x00lo x00hi x01 = some res) :
  Mut Try.prog 42 #[.slice (subA A c (x00lo).toNat (Lay.sz (BitVec 8))) ((x00hi).toNat - (x00lo).toNat) (c - (x00lo).toNat), U8 x01] 5 (Lay.sz (BitVec 8)) A n c (cel x0c) fun r ds => r = .tuple #[] ∧ ds = cel res := by
 refine Mut.intro (N := 20) Try.func42 rfl rfl (Nat.le_of_ble_eq_true rfl) fun w0 e0 => ?_
 unfold m_gfmatrix_scale at h
 refine WC.seqRegion fun K1 hK1 => ?_
 obtain ⟨x2, hx2, h⟩ := bnd h
 refine WL.yld (by decide) (Yld.move rfl) ?_
 refine WL.yld (by decide) (Yld.lenC (xs := x2) und_22 rfl (RdT.slcN (RdH.own (k := 2) rfl) hx2)) ?_
 refine WL.yld (by decide) (Yld.move rfl) ?_
 refine WL.done (hK1 _ _ ?_)
 refine WC.block ?_
 refine WC.loop (σ := Nat × (List (BitVec 8)) × Int) (fun ⟨q5, x3, x4⟩ => [(0, .slice (subA A c (x00lo).toNat (Lay.sz (BitVec 8))) ((x00hi).toNat - (x00lo).toNat) (c - (x00lo).toNat)), (1, U8 x01), (6, .slice (subA A c (x00lo).toNat (Lay.sz (BitVec 8))) ((x00hi).toNat - (x00lo).toNat) (c - (x00lo).toNat)), (7, I64 (x2.length : Int)), (8, I64 x4)]) (fun ⟨q5, x3, x4⟩ => [(1, e0), (2, .own 5 (Lay.sz (BitVec 8)) A n c (cel x3))]) (fun ⟨q5, x3, x4⟩ => m_gfmatrix_scale_l0 x00hi x00lo x01 x2 q5 x3 x4 = some res) (fun ⟨q5, x3, x4⟩ => q5) ⟨forever, x0c, (0 : Int)⟩ ?_ (Sub.cons rfl (Sub.cons rfl (Sub.cons rfl (Sub.cons rfl (Sub.cons rfl (Sub.nil _)))))) (Sub.cons rfl (Sub.cons rfl (Sub.nil _))) ?_
 ·
  exact h
 rintro ⟨q5, x3, x4⟩ h K6 hK6
 cases q5 with
 | zero => exact absurd h (by simp [m_gfmatrix_scale_l0])
 | succ q5 =>
  unfold m_gfmatrix_scale_l0 at h
  refine WC.seqRegion fun K7 hK7 => ?_
  refine WL.yld (by decide) (Yld.lss rfl rfl) ?_
  refine WL.done (hK7 _ _ ?_)
  refine WC.seq fun K8 hK8 => ?_
  by_cases hc9 : x4 < (x2.length : Int)
  ·
   replace h := of_t hc9 h
   refine WC.condTe rfl (decide_eq_true hc9) ?_
   refine WC.skip ?_
   refine QK.thenN (hK8 _ _ ?_)
   refine WC.seq fun K10 hK10 => ?_
   refine WC.block ?_
   refine WC.seqRegion fun K11 hK11 => ?_
   obtain ⟨x12, hx12, h⟩ := bnd h
   obtain ⟨x13, hx13, h⟩ := bnd h
   refine WL.yld (by decide) (Yld.move rfl) ?_
   refine WL.yld (by decide) (Yld.idxC (xs := x12) sty_22 rfl rfl (RdT.slcN (RdH.own (k := 2) rfl) hx12) hx13) ?_
   refine WL.yld (by decide) (Yld.loadC0 (xs := x12) scal_5 rfl (RdT.slcN (RdH.own (k := 2) rfl) hx12) hx13 rfl) ?_
   refine WL.yld (by decide) (Yld.assign rfl) ?_
   refine WL.yld (by decide) (Yld.assign rfl) ?_
   refine WL.done (hK11 _ _ ?_)
   refine WC.region fun K14 hK14 => ?_
   obtain ⟨x15, hx15, h⟩ := bnd h
   obtain ⟨x17, hx17, h⟩ := bnd h
   obtain ⟨x18, hx18, h⟩ := bnd h
   obtain ⟨x19, hx19, h⟩ := bnd h
   refine WL.yld (by decide) (Yld.move rfl) ?_
   refine WL.yld (by decide) (Yld.move rfl) ?_
   refine WL.yld (by decide) (Yld.move rfl) ?_
   refine WL.yld (by decide) (Yld.move rfl) ?_
   refine WL.eff (by decide) (Eff.callS 116 rfl Try.func54 nm_54 rfl rfl (fun w hb hh => w_gf256_Mul (Mem.snap w) x13 x01 hx15)) ?_
   rintro _ _ ⟨_, ⟨rfl, rfl⟩, rfl⟩
   refine WL.yld (by decide) (Yld.idxC (xs := x17) sty_22 rfl rfl (RdT.slcN (RdH.own (k := 2) rfl) hx17) hx18) ?_
   refine WL.eff0 (Eff0.storeS 2 (xs := x3) (lo := x00lo) (hi := x00hi) (a' := x15) siz_5 rfl rfl rfl rfl rfl rfl hx19) ?_
   refine WL.done (hK14 _ _ ?_)
   refine QK.blockN ?_
   refine QK.thenN (hK10 _ _ ?_)
   refine WC.region fun K20 hK20 => ?_
   obtain ⟨x21, hx21, h⟩ := bnd h
   refine WL.yld (by decide) (Yld.addC rfl rfl hx21) ?_
   refine WL.yld (by decide) (Yld.move rfl) ?_
   refine WL.done (hK20 _ _ ?_)
   refine QK.thenN ?_
   refine hK6 ⟨q5, x19, x21⟩ _ _ ?_ (Nat.lt_succ_self _) (Sub.cons rfl (Sub.cons rfl (Sub.cons rfl (Sub.cons rfl (Sub.cons rfl (Sub.nil _)))))) (Sub.cons rfl (Sub.cons rfl (Sub.nil _)))
   exact h
  ·
   replace h := of_f hc9 h
   refine WC.condFe rfl (decide_eq_false hc9) ?_
   refine WC.exit (QK.thenE (QK.thenE (QK.blockX ?_)))
   injection h with h; subst h
   exact Ret.mut (ResIs.zero rfl) (Sub.cons rfl (Sub.cons rfl (Sub.nil _))) ⟨rfl, rfl⟩

set_option maxRecDepth 10000 in
theorem w_gfmatrix_add (A : Option Addr) (n c : Nat) (x0c : List (BitVec 8)) (x00lo : Int) (x00hi : Int) (x01lo : Int) (x01hi : Int) (x02 : BitVec 8) {res : List (BitVec 8)} (h : m_gfmatrix_add x0c x00lo x00hi x01lo x01hi x02 = some res) :
  Mut Try.prog 43 #[.slice (subA A c (x00lo).toNat (Lay.sz (BitVec 8))) ((x00hi).toNat - (x00lo).toNat) (c - (x00lo).toNat), .slice (subA A c (x01lo).toNat (Lay.sz (BitVec 8))) ((x01hi).toNat - (x01lo).toNat) (c - (x01lo).toNat), U8 x02] 5 (Lay.sz (BitVec 8)) A n c (cel x0c) fun r ds => r = .tuple #[] ∧ ds = cel res := by
 refine Mut.intro (N := 25) Try.func43 rfl rfl (Nat.le_of_ble_eq_true rfl) fun w0 e0 => ?_
 unfold m_gfmatrix_add at h
 refine WC.seqRegion fun K1 hK1 => ?_
 obtain ⟨x2, hx2, h⟩ := bnd h
 refine WL.yld (by decide) (Yld.move rfl) ?_
 refine WL.yld (by decide) (Yld.lenC (xs := x2) und_22 rfl (RdT.slcN (RdH.own (k := 2) rfl) hx2)) ?_
 refine WL.yld (by decide) (Yld.move rfl) ?_
 refine WL.done (hK1 _ _ ?_)
 refine WC.block ?_
 refine WC.loop (σ := Nat × (List (BitVec 8)) × Int) (fun ⟨q5, x3, x4⟩ => [(0, .slice (subA A c (x00lo).toNat (Lay.sz (BitVec 8))) ((x00hi).toNat - (x00lo).toNat) (c - (x00lo).toNat)), (2, U8 x02), (8, .slice (subA A c (x01lo).toNat (Lay.sz (BitVec 8))) ((x01hi).toNat - (x01lo).toNat) (c - (x01lo).toNat)), (9, I64 (x2.length : Int)), (10, I64 x4)]) (fun ⟨q5, x3, x4⟩ => [(1, e0), (2, .own 5 (Lay.sz (BitVec 8)) A n c (cel x3))]) (fun ⟨q5, x3, x4⟩ => m_gfmatrix_add_l0 x00hi x00lo x01hi x01lo x02 x2 q5 x3 x4 = some res) (fun ⟨q5, x3, x4⟩ => q5) ⟨forever, x0c, (0 : Int)⟩ ?_ (Sub.cons rfl (Sub.cons rfl (Sub.cons rfl (Sub.cons rfl (Sub.cons rfl (Sub.nil _)))))) (Sub.cons rfl (Sub.cons rfl (Sub.nil _))) ?_
 ·
  exact h
 rintro ⟨q5, x3, x4⟩ h K6 hK6
 cases q5 with
 | zero => exact absurd h (by simp [m_gfmatrix_add_l0])
 | succ q5 =>
  unfold m_gfmatrix_add_l0 at h
  refine WC.seqRegion fun K7 hK7 => ?_
  refine WL.yld (by decide) (Yld.lss rfl rfl) ?_
  refine WL.done (hK7 _ _ ?_)
  refine WC.seq fun K8 hK8 => ?_
  by_cases hc9 : x4 < (x2.length : Int)
  ·
   replace h := of_t hc9 h
   refine WC.condTe rfl (decide_eq_true hc9) ?_
   refine WC.skip ?_
   refine QK.thenN (hK8 _ _ ?_)
   refine WC.seq fun K10 hK10 => ?_
   refine WC.block ?_
   refine WC.seqRegion fun K11 hK11 => ?_
   obtain ⟨x12, hx12, h⟩ := bnd h
   obtain ⟨x13, hx13, h⟩ := bnd h
   refine WL.yld (by decide) (Yld.move rfl) ?_
   refine WL.yld (by decide) (Yld.idxC (xs := x12) sty_22 rfl rfl (RdT.slcN (RdH.own (k := 2) rfl) hx12) hx13) ?_
   refine WL.yld (by decide) (Yld.loadC0 (xs := x12) scal_5 rfl (RdT.slcN (RdH.own (k := 2) rfl) hx12) hx13 rfl) ?_
   refine WL.yld (by decide) (Yld.assign rfl) ?_
   refine WL.yld (by decide) (Yld.assign rfl) ?_
   refine WL.done (hK11 _ _ ?_)
   refine WC.regionD (n := 10) [(1, _)] rfl mixed (Sub.cons rfl (Sub.nil _)) fun K14 hK14 => ?_
   obtain ⟨x15, hx15, h⟩ := bnd h
   obtain ⟨x16, hx16, h⟩ := bnd h
   obtain ⟨x17, hx17, h⟩ := bnd h
   obtain ⟨x19, hx19, h⟩ := bnd h
   obtain ⟨x20, hx20, h⟩ := bnd h
   obtain ⟨x21, hx21, h⟩ := bnd h
   refine WD.take 0 rfl (by kernel_rfl) (by kernel_rfl) (by kernel_rfl) (by decide) (Yld.move rfl) ?_
   refine WD.take 1 rfl (by kernel_rfl) (by kernel_rfl) (by kernel_rfl) (by decide) (Yld.move rfl) ?_
   refine WD.take 4 rfl (by kernel_rfl) (by kernel_rfl) (by kernel_rfl) (by decide) (Yld.move rfl) ?_
   refine WD.take 5 rfl (by kernel_rfl) (by kernel_rfl) (by kernel_rfl) (by decide) (Yld.move rfl) ?_
   refine WD.two 2 6 (by kernel_rfl) ?_ ?_
   ·
    skip
    refine WS.yld rfl (by decide) (Yld.idxC (xs := x15) sty_22 rfl rfl (RdT.slcN (RdH.own (k := 2) rfl) hx15) hx16) ?_
    refine WD.two 3 6 (by kernel_rfl) ?_ ?_
    ·
     skip
     refine WS.yld rfl (by decide) (Yld.loadC0 (xs := x15) scal_5 rfl (RdT.slcN (RdH.own (k := 2) rfl) hx15) hx16 rfl) ?_
     refine WD.one 6 (by kernel_rfl) ?_
     refine WS.eff rfl (by decide) (Eff.callS 118 rfl Try.func54 nm_54 rfl rfl (fun w hb hh => w_gf256_Mul (Mem.snap w) x13 x02 hx17)) ?_
     rintro _ _ ⟨_, ⟨rfl, rfl⟩, rfl⟩
     refine ⟨(Sub.cons rfl (Sub.nil _)), ?_⟩
     refine WD.take 7 rfl (by kernel_rfl) (by kernel_rfl) (by kernel_rfl) (by decide) (Yld.xor_u8 (a := x16) (b := x17) rfl rfl) ?_
     refine WD.one 8 (by kernel_rfl) ?_
     refine WS.yld rfl (by decide) (Yld.idxC (xs := x19) sty_22 rfl rfl (RdT.slcN (RdH.own (k := 2) rfl) hx19) hx20) ?_
     refine WD.one 9 (by kernel_rfl) ?_
     refine WS.eff0 rfl (Eff0.storeS 2 (xs := x3) (lo := x00lo) (hi := x00hi) (a' := x16 ^^^ x17) siz_5 rfl rfl rfl rfl rfl rfl hx21) (Sub.cons rfl (Sub.nil _)) ?_
     refine WD.done (by kernel_rfl) (hK14 _ _ ?_)
     refine QK.blockN ?_
     refine QK.thenN (hK10 _ _ ?_)
     refine WC.region fun K22 hK22 => ?_
     obtain ⟨x23, hx23, h⟩ := bnd h
     refine WL.yld (by decide) (Yld.addC rfl rfl hx23) ?_
     refine WL.yld (by decide) (Yld.move rfl) ?_
     refine WL.done (hK22 _ _ ?_)
     refine QK.thenN ?_
     refine hK6 ⟨q5, x21, x23⟩ _ _ ?_ (Nat.lt_succ_self _) (Sub.cons rfl (Sub.cons rfl (Sub.cons rfl (Sub.cons rfl (Sub.cons rfl (Sub.nil _)))))) (Sub.cons rfl (Sub.cons rfl (Sub.nil _)))
     exact h
    ·
     skip
     refine WS.eff rfl (by decide) (Eff.callS 118 rfl Try.func54 nm_54 rfl rfl (fun w hb hh => w_gf256_Mul (Mem.snap w) x13 x02 hx17)) ?_
     rintro _ _ ⟨_, ⟨rfl, rfl⟩, rfl⟩
     refine ⟨(Sub.cons rfl (Sub.nil _)), ?_⟩
     refine WD.one 3 (by kernel_rfl) ?_
     refine WS.yld rfl (by decide) (Yld.loadC0 (xs := x15) scal_5 rfl (RdT.slcN (RdH.own (k := 2) rfl) hx15) hx16 rfl) ?_
     refine WD.take 7 rfl (by kernel_rfl) (by kernel_rfl) (by kernel_rfl) (by decide) (Yld.xor_u8 (a := x16) (b := x17) rfl rfl) ?_
     refine WD.one 8 (by kernel_rfl) ?_
     refine WS.yld rfl (by decide) (Yld.idxC (xs := x19) sty_22 rfl rfl (RdT.slcN (RdH.own (k := 2) rfl) hx19) hx20) ?_
     refine WD.one 9 (by kernel_rfl) ?_
     refine WS.eff0 rfl (Eff0.storeS 2 (xs := x3) (lo := x00lo) (hi := x00hi) (a' := x16 ^^^ x17) siz_5 rfl rfl rfl rfl rfl rfl hx21) (Sub.cons rfl (Sub.nil _)) ?_
     refine WD.done (by kernel_rfl) (hK14 _ _ ?_)
     refine QK.blockN ?_
     refine QK.thenN (hK10 _ _ ?_)
     refine WC.region fun K24 hK24 => ?_
     obtain ⟨x25, hx25, h⟩ := bnd h
     refine WL.yld (by decide) (Yld.addC rfl rfl hx25) ?_
     refine WL.yld (by decide) (Yld.move rfl) ?_
     refine WL.done (hK24 _ _ ?_)
     refine QK.thenN ?_
     refine hK6 ⟨q5, x21, x25⟩ _ _ ?_ (Nat.lt_succ_self _) (Sub.cons rfl (Sub.cons rfl (Sub.cons rfl (Sub.cons rfl (Sub.cons rfl (Sub.nil _)))))) (Sub.cons rfl (Sub.cons rfl (Sub.nil _)))
     exact h
   ·
    skip
    refine WS.eff rfl (by decide) (Eff.callS 118 rfl Try.func54 nm_54 rfl rfl (fun w hb hh => w_gf256_Mul (Mem.snap w) x13 x02 hx17)) ?_
    rintro _ _ ⟨_, ⟨rfl, rfl⟩, rfl⟩
    refine ⟨(Sub.cons rfl (Sub.nil _)), ?_⟩
    refine WD.one 2 (by kernel_rfl) ?_
    refine WS.yld rfl (by decide) (Yld.idxC (xs := x15) sty_22 rfl rfl (RdT.slcN (RdH.own (k := 2) rfl) hx15) hx16) ?_
    refine WD.one 3 (by kernel_rfl) ?_
    refine WS.yld rfl (by decide) (Yld.loadC0 (xs := x15) scal_5 rfl (RdT.slcN (RdH.own (k := 2) rfl) hx15) hx16 rfl) ?_
    refine WD.take 7 rfl (by kernel_rfl) (by kernel_rfl) (by kernel_rfl) (by decide) (Yld.xor_u8 (a := x16) (b := x17) rfl rfl) ?_
    refine WD.one 8 (by kernel_rfl) ?_
    refine WS.yld rfl (by decide) (Yld.idxC (xs := x19) sty_22 rfl rfl (RdT.slcN (RdH.own (k := 2) rfl) hx19) hx20) ?_
    refine WD.one 9 (by kernel_rfl) ?_
    refine WS.eff0 rfl (Eff0.storeS 2 (xs := x3) (lo := x00lo) (hi := x00hi) (a' := x16 ^^^ x17) siz_5 rfl rfl rfl rfl rfl rfl hx21) (Sub.cons rfl (Sub.nil _)) ?_
    refine WD.done (by kernel_rfl) (hK14 _ _ ?_)
    refine QK.blockN ?_
    refine QK.thenN (hK10 _ _ ?_)
    refine WC.region fun K26 hK26 => ?_
    obtain ⟨x27, hx27, h⟩ := bnd h
    refine WL.yld (by decide) (Yld.addC rfl rfl hx27) ?_
    refine WL.yld (by decide) (Yld.move rfl) ?_
    refine WL.done (hK26 _ _ ?_)
    refine QK.thenN ?_
    refine hK6 ⟨q5, x21, x27⟩ _ _ ?_ (Nat.lt_succ_self _) (Sub.cons rfl (Sub.cons rfl (Sub.cons rfl (Sub.cons rfl (Sub.cons rfl (Sub.nil _)))))) (Sub.cons rfl (Sub.cons rfl (Sub.nil _)))
    exact h
  ·
   replace h := of_f hc9 h
   refine WC.condFe rfl (decide_eq_false hc9) ?_
   refine WC.exit (QK.thenE (QK.thenE (QK.blockX ?_)))
   injection h with h; subst h
   exact Ret.mut (ResIs.zero rfl) (Sub.cons rfl (Sub.cons rfl (Sub.nil _))) ⟨rfl, rfl⟩

set_option maxRecDepth 10000 in
theorem w_gfmatrix_Matrix_swap (A : Option Addr) (n c : Nat) (x0c : List (BitVec 8)) (x00_0 : Int) (x00_1 : Int) (x01 : Int) (x02 : Int) {res : List (BitVec 8)} (h : m_gfmatrix_Matrix_swap x0c x00_0 x00_1 x01 x02 = some res) :
  Mut Try.prog 41 #[.agg ([I64 x00_0, I64 x00_1, .slice A n c] : List Value).toArray, I64 x01, I64 x02] 5 (Lay.sz (BitVec 8)) A n c (cel x0c) fun r ds => r = .tuple #[] ∧ ds = cel res := by
 refine Mut.intro (N := 35) Try.func41 rfl rfl (Nat.le_of_ble_eq_true rfl) fun w0 e0 => ?_
 unfold m_gfmatrix_Matrix_swap at h
 refine WC.seqRegion fun K1 hK1 => ?_
 refine WL.eff (by decide) (Eff.box 102 (us := [I64 x00_0, I64 x00_1, .slice A n c]) rfl rfl rfl) ?_
 rintro _ _ ⟨g2, rfl, rfl⟩
 refine WL.done (hK1 _ _ ?_)
 refine WC.seqRegionD (n := 8) [(1, _), (102, _)] rfl mixed (Sub.cons rfl (Sub.cons rfl (Sub.nil _))) fun K3 hK3 => ?_
 obtain ⟨x4, hx4, h⟩ := bnd h
 obtain ⟨x5, hx5, h⟩ := bnd h
 obtain ⟨x6, hx6, h⟩ := bnd h
 obtain ⟨x7, hx7, h⟩ := bnd h
 refine WD.take 0 rfl (by kernel_rfl) (by kernel_rfl) (by kernel_rfl) (by decide) (Yld.loadBM (k := 102) agg_24 rfl rfl rfl) ?_
 refine WD.take 1 rfl (by kernel_rfl) (by kernel_rfl) (by kernel_rfl) (by decide) (Yld.move rfl) ?_
 refine WD.take 3 rfl (by kernel_rfl) (by kernel_rfl) (by kernel_rfl) (by decide) (Yld.loadBM (k := 102) agg_24 rfl rfl rfl) ?_
 refine WD.take 4 rfl (by kernel_rfl) (by kernel_rfl) (by kernel_rfl) (by decide) (Yld.move rfl) ?_
 refine WD.one 2 (by kernel_rfl) ?_
 refine WS.eff rfl (by decide) (Eff.callS 1 rfl Try.func36 nm_36 rfl rfl (fun w hb hh => w_gfmatrix_Matrix_row (Mem.snap w) x00_0 x00_1 A n c x01 (SlT.slcB (RdH.sn (RdH.own (k := 2) rfl) w hb hh) hx5) hx4)) ?_
 rintro _ _ ⟨_, ⟨rfl, rfl⟩, rfl⟩
 refine ⟨(Sub.cons rfl (Sub.cons rfl (Sub.nil _))), ?_⟩
 refine WD.one 5 (by kernel_rfl) ?_
 refine WS.eff rfl (by decide) (Eff.callS 1 rfl Try.func36 nm_36 rfl rfl (fun w hb hh => w_gfmatrix_Matrix_row (Mem.snap w) x00_0 x00_1 A n c x02 (SlT.slcB (RdH.sn (RdH.own (k := 2) rfl) w hb hh) hx7) hx6)) ?_
 rintro _ _ ⟨_, ⟨rfl, rfl⟩, rfl⟩
 refine ⟨(Sub.cons rfl (Sub.cons rfl (Sub.nil _))), ?_⟩
 refine WD.take 6 rfl (by kernel_rfl) (by kernel_rfl) (by kernel_rfl) (by decide) (Yld.assign rfl) ?_
 refine WD.take 7 rfl (by kernel_rfl) (by kernel_rfl) (by kernel_rfl) (by decide) (Yld.assign rfl) ?_
 refine WD.done (by kernel_rfl) (hK3 _ _ ?_)
 refine WC.seqRegion fun K8 hK8 => ?_
 obtain ⟨x9, hx9, h⟩ := bnd h
 refine WL.yld (by decide) (Yld.move rfl) ?_
 refine WL.yld (by decide) (Yld.lenC (xs := x9) und_22 rfl (RdT.slcN (RdH.own (k := 2) rfl) hx9)) ?_
 refine WL.yld (by decide) (Yld.move rfl) ?_
 refine WL.done (hK8 _ _ ?_)
 refine WC.block ?_
 refine WC.loop (σ := Nat × (List (BitVec 8)) × Int) (fun ⟨q12, x10, x11⟩ => [(6, .slice (subA A c (x4.1).toNat (Lay.sz (BitVec 8))) ((x4.2).toNat - (x4.1).toNat) (c - (x4.1).toNat)), (7, .slice (subA A c (x6.1).toNat (Lay.sz (BitVec 8))) ((x6.2).toNat - (x6.1).toNat) (c - (x6.1).toNat)), (16, I64 (x9.length : Int)), (17, I64 x11)]) (fun ⟨q12, x10, x11⟩ => [(1, e0), (2, .own 5 (Lay.sz (BitVec 8)) A n c (cel x10))]) (fun ⟨q12, x10, x11⟩ => m_gfmatrix_Matrix_swap_l0 x4 x6 x9 q12 x10 x11 = some res) (fun ⟨q12, x10, x11⟩ => q12) ⟨forever, x0c, (0 : Int)⟩ ?_ (Sub.cons rfl (Sub.cons rfl (Sub.cons rfl (Sub.cons rfl (Sub.nil _))))) (Sub.cons rfl (Sub.cons rfl (Sub.nil _))) ?_
 ·
  exact h
 rintro ⟨q12, x10, x11⟩ h K13 hK13
 cases q12 with
 | zero => exact absurd h (by simp [m_gfmatrix_Matrix_swap_l0])
 | succ q12 =>
  unfold m_gfmatrix_Matrix_swap_l0 at h
  refine WC.seqRegion fun K14 hK14 => ?_
  refine WL.yld (by decide) (Yld.lss rfl rfl) ?_
  refine WL.done (hK14 _ _ ?_)
  refine WC.seq fun K15 hK15 => ?_
  by_cases hc16 : x11 < (x9.length : Int)
  ·
   replace h := of_t hc16 h
   refine WC.condTe rfl (decide_eq_true hc16) ?_
   refine WC.skip ?_
   refine QK.thenN (hK15 _ _ ?_)
   refine WC.seq fun K17 hK17 => ?_
   refine WC.block ?_
   refine WC.seqRegion fun K18 hK18 => ?_
   refine WL.yld (by decide) (Yld.move rfl) ?_
   refine WL.yld (by decide) (Yld.assign rfl) ?_
   refine WL.done (hK18 _ _ ?_)
   refine WC.regionD (n := 16) [(1, _)] rfl mixed (Sub.cons rfl (Sub.nil _)) fun K19 hK19 => ?_
   obtain ⟨x20, hx20, h⟩ := bnd h
   obtain ⟨x21, hx21, h⟩ := bnd h
   obtain ⟨x22, hx22, h⟩ := bnd h
   obtain ⟨x23, hx23, h⟩ := bnd h
   obtain ⟨x24, hx24, h⟩ := bnd h
   obtain ⟨x25, hx25, h⟩ := bnd h
   obtain ⟨x26, hx26, h⟩ := bnd h
   obtain ⟨x27, hx27, h⟩ := bnd h
   obtain ⟨x28, hx28, h⟩ := bnd h
   obtain ⟨x29, hx29, h⟩ := bnd h
   refine WD.take 0 rfl (by kernel_rfl) (by kernel_rfl) (by kernel_rfl) (by decide) (Yld.move rfl) ?_
   refine WD.take 1 rfl (by kernel_rfl) (by kernel_rfl) (by kernel_rfl) (by decide) (Yld.move rfl) ?_
   refine WD.take 2 rfl (by kernel_rfl) (by kernel_rfl) (by kernel_rfl) (by decide) (Yld.move rfl) ?_
   refine WD.take 3 rfl (by kernel_rfl) (by kernel_rfl) (by kernel_rfl) (by decide) (Yld.move rfl) ?_
   refine WD.take 4 rfl (by kernel_rfl) (by kernel_rfl) (by kernel_rfl) (by decide) (Yld.move rfl) ?_
   refine WD.take 5 rfl (by kernel_rfl) (by kernel_rfl) (by kernel_rfl) (by decide) (Yld.move rfl) ?_
   refine WD.take 8 rfl (by kernel_rfl) (by kernel_rfl) (by kernel_rfl) (by decide) (Yld.move rfl) ?_
   refine WD.take 9 rfl (by kernel_rfl) (by kernel_rfl) (by kernel_rfl) (by decide) (Yld.move rfl) ?_
   refine WD.two 6 10 (by kernel_rfl) ?_ ?_
   ·
    skip
    refine WS.yld rfl (by decide) (Yld.idxC (xs := x20) sty_22 rfl rfl (RdT.slcN (RdH.own (k := 2) rfl) hx20) hx21) ?_
    refine WD.two 7 10 (by kernel_rfl) ?_ ?_
    ·
     skip
     refine WS.yld rfl (by decide) (Yld.loadC0 (xs := x20) scal_5 rfl (RdT.slcN (RdH.own (k := 2) rfl) hx20) hx21 rfl) ?_
     refine WD.one 10 (by kernel_rfl) ?_
     refine WS.yld rfl (by decide) (Yld.idxC (xs := x22) sty_22 rfl rfl (RdT.slcN (RdH.own (k := 2) rfl) hx22) hx23) ?_
     refine WD.one 11 (by kernel_rfl) ?_
     refine WS.yld rfl (by decide) (Yld.loadC0 (xs := x22) scal_5 rfl (RdT.slcN (RdH.own (k := 2) rfl) hx22) hx23 rfl) ?_
     refine WD.one 12 (by kernel_rfl) ?_
     refine WS.yld rfl (by decide) (Yld.idxC (xs := x24) sty_22 rfl rfl (RdT.slcN (RdH.own (k := 2) rfl) hx24) hx25) ?_
     refine WD.one 13 (by kernel_rfl) ?_
     refine WS.eff0 rfl (Eff0.storeS 2 (xs := x10) (lo := x4.1) (hi := x4.2) (a' := x21) siz_5 rfl rfl rfl rfl rfl rfl hx26) (Sub.cons rfl (Sub.nil _)) ?_
     refine WD.one 14 (by kernel_rfl) ?_
     refine WS.yld rfl (by decide) (Yld.idxC (xs := x27) sty_22 rfl rfl (RdT.slcN (RdH.own (k := 2) rfl) hx27) hx28) ?_
     refine WD.one 15 (by kernel_rfl) ?_
     refine WS.eff0 rfl (Eff0.storeS 2 (xs := x26) (lo := x6.1) (hi := x6.2) (a' := x23) siz_5 rfl rfl rfl rfl rfl rfl hx29) (Sub.cons rfl (Sub.nil _)) ?_
     refine WD.done (by kernel_rfl) (hK19 _ _ ?_)
     refine QK.blockN ?_
     refine QK.thenN (hK17 _ _ ?_)
     refine WC.region fun K30 hK30 => ?_
     obtain ⟨x31, hx31, h⟩ := bnd h
     refine WL.yld (by decide) (Yld.addC rfl rfl hx31) ?_
     refine WL.yld (by decide) (Yld.move rfl) ?_
     refine WL.done (hK30 _ _ ?_)
     refine QK.thenN ?_
     refine hK13 ⟨q12, x29, x31⟩ _ _ ?_ (Nat.lt_succ_self _) (Sub.cons rfl (Sub.cons rfl (Sub.cons rfl (Sub.cons rfl (Sub.nil _))))) (Sub.cons rfl (Sub.cons rfl (Sub.nil _)))
     exact h
    ·
     skip
     refine WS.yld rfl (by decide) (Yld.idxC (xs := x22) sty_22 rfl rfl (RdT.slcN (RdH.own (k := 2) rfl) hx22) hx23) ?_
     refine WD.two 7 11 (by kernel_rfl) ?_ ?_
     ·
      skip
      refine WS.yld rfl (by decide) (Yld.loadC0 (xs := x20) scal_5 rfl (RdT.slcN (RdH.own (k := 2) rfl) hx20) hx21 rfl) ?_
      refine WD.one 11 (by kernel_rfl) ?_
      refine WS.yld rfl (by decide) (Yld.loadC0 (xs := x22) scal_5 rfl (RdT.slcN (RdH.own (k := 2) rfl) hx22) hx23 rfl) ?_
      refine WD.one 12 (by kernel_rfl) ?_
      refine WS.yld rfl (by decide) (Yld.idxC (xs := x24) sty_22 rfl rfl (RdT.slcN (RdH.own (k := 2) rfl) hx24) hx25) ?_
      refine WD.one 13 (by kernel_rfl) ?_
      refine WS.eff0 rfl (Eff0.storeS 2 (xs := x10) (lo := x4.1) (hi := x4.2) (a' := x21) siz_5 rfl rfl rfl rfl rfl rfl hx26) (Sub.cons rfl (Sub.nil _)) ?_
      refine WD.one 14 (by kernel_rfl) ?_
      refine WS.yld rfl (by decide) (Yld.idxC (xs := x27) sty_22 rfl rfl (RdT.slcN (RdH.own (k := 2) rfl) hx27) hx28) ?_
      refine WD.one 15 (by kernel_rfl) ?_
      refine WS.eff0 rfl (Eff0.storeS 2 (xs := x26) (lo := x6.1) (hi := x6.2) (a' := x23) siz_5 rfl rfl rfl rfl rfl rfl hx29) (Sub.cons rfl (Sub.nil _)) ?_
      refine WD.done (by kernel_rfl) (hK19 _ _ ?_)
      refine QK.blockN ?_
      refine QK.thenN (hK17 _ _ ?_)
      refine WC.region fun K32 hK32 => ?_
      obtain ⟨x33, hx33, h⟩ := bnd h
      refine WL.yld (by decide) (Yld.addC rfl rfl hx33) ?_
      refine WL.yld (by decide) (Yld.move rfl) ?_
      refine WL.done (hK32 _ _ ?_)
      refine QK.thenN ?_
      refine hK13 ⟨q12, x29, x33⟩ _ _ ?_ (Nat.lt_succ_self _) (Sub.cons rfl (Sub.cons rfl (Sub.cons rfl (Sub.cons rfl (Sub.nil _))))) (Sub.cons rfl (Sub.cons rfl (Sub.nil _)))
      exact h
     ·
      skip
      refine WS.yld rfl (by decide) (Yld.loadC0 (xs := x22) scal_5 rfl (RdT.slcN (RdH.own (k := 2) rfl) hx22) hx23 rfl) ?_
      refine WD.one 7 (by kernel_rfl) ?_
      refine WS.yld rfl (by decide) (Yld.loadC0 (xs := x20) scal_5 rfl (RdT.slcN (RdH.own (k := 2) rfl) hx20) hx21 rfl) ?_
      refine WD.one 12 (by kernel_rfl) ?_
      refine WS.yld rfl (by decide) (Yld.idxC (xs := x24) sty_22 rfl rfl (RdT.slcN (RdH.own (k := 2) rfl) hx24) hx25) ?_
      refine WD.one 13 (by kernel_rfl) ?_
      refine WS.eff0 rfl (Eff0.storeS 2 (xs := x10) (lo := x4.1) (hi := x4.2) (a' := x21) siz_5 rfl rfl rfl rfl rfl rfl hx26) (Sub.cons rfl (Sub.nil _)) ?_
      refine WD.one 14 (by kernel_rfl) ?_
      refine WS.yld rfl (by decide) (Yld.idxC (xs := x27) sty_22 rfl rfl (RdT.slcN (RdH.own (k := 2) rfl) hx27) hx28) ?_
      refine WD.one 15 (by kernel_rfl) ?_
      refine WS.eff0 rfl (Eff0.storeS 2 (xs := x26) (lo := x6.1) (hi := x6.2) (a' := x23) siz_5 rfl rfl rfl rfl rfl rfl hx29) (Sub.cons rfl (Sub.nil _)) ?_
      refine WD.done (by kernel_rfl) (hK19 _ _ ?_)
      refine QK.blockN ?_
      refine QK.thenN (hK17 _ _ ?_)
      refine WC.region fun K34 hK34 => ?_
      obtain ⟨x35, hx35, h⟩ := bnd h
      refine WL.yld (by decide) (Yld.addC rfl rfl hx35) ?_
      refine WL.yld (by decide) (Yld.move rfl) ?_
      refine WL.done (hK34 _ _ ?_)
      refine QK.thenN ?_
      refine hK13 ⟨q12, x29, x35⟩ _ _ ?_ (Nat.lt_succ_self _) (Sub.cons rfl (Sub.cons rfl (Sub.cons rfl (Sub.cons rfl (Sub.nil _))))) (Sub.cons rfl (Sub.cons rfl (Sub.nil _)))
      exact h
   ·
    skip
    refine WS.yld rfl (by decide) (Yld.idxC (xs := x22) sty_22 rfl rfl (RdT.slcN (RdH.own (k := 2) rfl) hx22) hx23) ?_
    refine WD.two 6 11 (by kernel_rfl) ?_ ?_
    ·
     skip
     refine WS.yld rfl (by decide) (Yld.idxC (xs := x20) sty_22 rfl rfl (RdT.slcN (RdH.own (k := 2) rfl) hx20) hx21) ?_
     refine WD.two 7 11 (by kernel_rfl) ?_ ?_
     ·
      skip
      refine WS.yld rfl (by decide) (Yld.loadC0 (xs := x20) scal_5 rfl (RdT.slcN (RdH.own (k := 2) rfl) hx20) hx21 rfl) ?_
      refine WD.one 11 (by kernel_rfl) ?_
      refine WS.yld rfl (by decide) (Yld.loadC0 (xs := x22) scal_5 rfl (RdT.slcN (RdH.own (k := 2) rfl) hx22) hx23 rfl) ?_
      refine WD.one 12 (by kernel_rfl) ?_
      refine WS.yld rfl (by decide) (Yld.idxC (xs := x24) sty_22 rfl rfl (RdT.slcN (RdH.own (k := 2) rfl) hx24) hx25) ?_
      refine WD.one 13 (by kernel_rfl) ?_
      refine WS.eff0 rfl (Eff0.storeS 2 (xs := x10) (lo := x4.1) (hi := x4.2) (a' := x21) siz_5 rfl rfl rfl rfl rfl rfl hx26) (Sub.cons rfl (Sub.nil _)) ?_
      refine WD.one 14 (by kernel_rfl) ?_
      refine WS.yld rfl (by decide) (Yld.idxC (xs := x27) sty_22 rfl rfl (RdT.slcN (RdH.own (k := 2) rfl) hx27) hx28) ?_
      refine WD.one 15 (by kernel_rfl) ?_
      refine WS.eff0 rfl (Eff0.storeS 2 (xs := x26) (lo := x6.1) (hi := x6.2) (a' := x23) siz_5 rfl rfl rfl rfl rfl rfl hx29) (Sub.cons rfl (Sub.nil _)) ?_
      refine WD.done (by kernel_rfl) (hK19 _ _ ?_)
      refine QK.blockN ?_
      refine QK.thenN (hK17 _ _ ?_)
      refine WC.region fun K36 hK36 => ?_
      obtain ⟨x37, hx37, h⟩ := bnd h
      refine WL.yld (by decide) (Yld.addC rfl rfl hx37) ?_
      refine WL.yld (by decide) (Yld.move rfl) ?_
      refine WL.done (hK36 _ _ ?_)
      refine QK.thenN ?_
      refine hK13 ⟨q12, x29, x37⟩ _ _ ?_ (Nat.lt_succ_self _) (Sub.cons rfl (Sub.cons rfl (Sub.cons rfl (Sub.cons rfl (Sub.nil _))))) (Sub.cons rfl (Sub.cons rfl (Sub.nil _)))
      exact h
     ·
      skip
      refine WS.yld rfl (by decide) (Yld.loadC0 (xs := x22) scal_5 rfl (RdT.slcN (RdH.own (k := 2) rfl) hx22) hx23 rfl) ?_
      refine WD.one 7 (by kernel_rfl) ?_
      refine WS.yld rfl (by decide) (Yld.loadC0 (xs := x20) scal_5 rfl (RdT.slcN (RdH.own (k := 2) rfl) hx20) hx21 rfl) ?_
      refine WD.one 12 (by kernel_rfl) ?_
      refine WS.yld rfl (by decide) (Yld.idxC (xs := x24) sty_22 rfl rfl (RdT.slcN (RdH.own (k := 2) rfl) hx24) hx25) ?_
      refine WD.one 13 (by kernel_rfl) ?_
      refine WS.eff0 rfl (Eff0.storeS 2 (xs := x10) (lo := x4.1) (hi := x4.2) (a' := x21) siz_5 rfl rfl rfl rfl rfl rfl hx26) (Sub.cons rfl (Sub.nil _)) ?_
      refine WD.one 14 (by kernel_rfl) ?_
      refine WS.yld rfl (by decide) (Yld.idxC (xs := x27) sty_22 rfl rfl (RdT.slcN (RdH.own (k := 2) rfl) hx27) hx28) ?_
      refine WD.one 15 (by kernel_rfl) ?_
      refine WS.eff0 rfl (Eff0.storeS 2 (xs := x26) (lo := x6.1) (hi := x6.2) (a' := x23) siz_5 rfl rfl rfl rfl rfl rfl hx29) (Sub.cons rfl (Sub.nil _)) ?_
      refine WD.done (by kernel_rfl) (hK19 _ _ ?_)
      refine QK.blockN ?_
      refine QK.thenN (hK17 _ _ ?_)
      refine WC.region fun K38 hK38 => ?_
      obtain ⟨x39, hx39, h⟩ := bnd h
      refine WL.yld (by decide) (Yld.addC rfl rfl hx39) ?_
      refine WL.yld (by decide) (Yld.move rfl) ?_
      refine WL.done (hK38 _ _ ?_)
      refine QK.thenN ?_
      refine hK13 ⟨q12, x29, x39⟩ _ _ ?_ (Nat.lt_succ_self _) (Sub.cons rfl (Sub.cons rfl (Sub.cons rfl (Sub.cons rfl (Sub.nil _))))) (Sub.cons rfl (Sub.cons rfl (Sub.nil _)))
      exact h
    ·
     skip
     refine WS.yld rfl (by decide) (Yld.loadC0 (xs := x22) scal_5 rfl (RdT.slcN (RdH.own (k := 2) rfl) hx22) hx23 rfl) ?_
     refine WD.one 6 (by kernel_rfl) ?_
     refine WS.yld rfl (by decide) (Yld.idxC (xs := x20) sty_22 rfl rfl (RdT.slcN (RdH.own (k := 2) rfl) hx20) hx21) ?_
     refine WD.one 7 (by kernel_rfl) ?_
     refine WS.yld rfl (by decide) (Yld.loadC0 (xs := x20) scal_5 rfl (RdT.slcN (RdH.own (k := 2) rfl) hx20) hx21 rfl) ?_
     refine WD.one 12 (by kernel_rfl) ?_
     refine WS.yld rfl (by decide) (Yld.idxC (xs := x24) sty_22 rfl rfl (RdT.slcN (RdH.own (k := 2) rfl) hx24) hx25) ?_
     refine WD.one 13 (by kernel_rfl) ?_
     refine WS.eff0 rfl (Eff0.storeS 2 (xs := x10) (lo := x4.1) (hi := x4.2) (a' := x21) siz_5 rfl rfl rfl rfl rfl rfl hx26) (Sub.cons rfl (Sub.nil _)) ?_
     refine WD.one 14 (by kernel_rfl) ?_
     refine WS.yld rfl (by decide) (Yld.idxC (xs := x27) sty_22 rfl rfl (RdT.slcN (RdH.own (k := 2) rfl) hx27) hx28) ?_
     refine WD.one 15 (by kernel_rfl) ?_
     refine WS.eff0 rfl (Eff0.storeS 2 (xs := x26) (lo := x6.1) (hi := x6.2) (a' := x23) siz_5 rfl rfl rfl rfl rfl rfl hx29) (Sub.cons rfl (Sub.nil _)) ?_
     refine WD.done (by kernel_rfl) (hK19 _ _ ?_)
     refine QK.blockN ?_
     refine QK.thenN (hK17 _ _ ?_)
     refine WC.region fun K40 hK40 => ?_
     obtain ⟨x41, hx41, h⟩ := bnd h
     refine WL.yld (by decide) (Yld.addC rfl rfl hx41) ?_
     refine WL.yld (by decide) (Yld.move rfl) ?_
     refine WL.done (hK40 _ _ ?_)
     refine QK.thenN ?_
     refine hK13 ⟨q12, x29, x41⟩ _ _ ?_ (Nat.lt_succ_self _) (Sub.cons rfl (Sub.cons rfl (Sub.cons rfl (Sub.cons rfl (Sub.nil _))))) (Sub.cons rfl (Sub.cons rfl (Sub.nil _)))
     exact h
  ·
   replace h := of_f hc16 h
   refine WC.condFe rfl (decide_eq_false hc16) ?_
   refine WC.exit (QK.thenE (QK.thenE (QK.blockX ?_)))
   injection h with h; subst h
   exact Ret.mut (ResIs.zero rfl) (Sub.cons rfl (Sub.cons rfl (Sub.nil _))) ⟨rfl, rfl⟩

set_option maxRecDepth 10000 in
theorem w_slices_Clone_byte_byte (M0 : Mem) (A00 : Option Addr) (n00 c00 : Nat) (x00 : List (BitVec 8)) (hf00 : SlT M0 A00 n00 c00 x00) {res : (List (BitVec 8))} (h : m_slices_Clone_byte_byte x00 = some res) :
  Fn Try.prog 37 #[.slice A00 n00 c00] M0 fun r M' es => ∃ (A1 : Option Addr) (n1 c1 : Nat), r = .slice A1 n1 c1 ∧ es = [.own 5 (Lay.sz (BitVec 8)) A1 n1 c1 (cel res)] := by
 refine Fn.intro (N := 8) Try.func37 rfl rfl (Nat.le_of_ble_eq_true rfl) fun w0 => ?_
 unfold m_slices_Clone_byte_byte at h
 refine WC.seqRegion fun K1 hK1 => ?_
 refine WL.yld (by decide) (Yld.assign rfl) ?_
 refine WL.done (hK1 _ _ ?_)
 refine WC.seq fun K2 hK2 => ?_
 refine WC.seqRegion fun K3 hK3 => ?_
 refine WL.yld (by decide) (Yld.move rfl) ?_
 refine WL.yld (by decide) (Yld.eqlNil und_22 rfl rfl) ?_
 refine WL.done (hK3 _ _ ?_)
 by_cases hA4 : A00 = none
 ·
  have hz := nil_of hf00 hA4
  subst hz
  replace h : some ([] : List (BitVec 8)) = some res := h
  refine WC.condTe rfl (by rw [hA4]; rfl) ?_
  refine WC.seqRegion fun K5 hK5 => ?_
  refine WL.yld (by decide) (Yld.assign rfl) ?_
  refine WL.done (hK5 _ _ ?_)
  refine WC.ret (QK.thenR ?_)
  refine QK.nilOwn 106 5 (Lay.sz (BitVec 8)) none ?_
  injection h with h; subst h
  exact Ret.fn [106] (ResIs.one rfl rfl) rfl (Ext.refl _ _) rfl (by decide) rfl rfl ⟨none, 0, 0, rfl, rfl⟩
 ·
  skip
  refine WC.condFe rfl (isNone_ne hA4) ?_
  refine WC.skip ?_
  refine QK.thenN (hK2 _ _ ?_)
  refine WC.seqRegion fun K7 hK7 => ?_
  obtain ⟨x9, hx9, h⟩ := bnd h
  refine WL.eff (by decide) (Eff.buildC 108 ([] : List (BitVec 8)) sty_22 rfl rfl rfl rfl rfl (by decide)) ?_
  rintro _ _ ⟨g8, rfl, rfl⟩
  refine WL.yld (by decide) (Yld.move rfl) ?_
  refine WL.eff (by decide) (Eff.appendC 108 (xs := ([] : List (BitVec 8))) (ys := x00) sty_22 rfl rfl rfl (RdH.memM (k := 0) rfl hf00) hx9) ?_
  rintro _ _ ⟨A10, c11, rfl, rfl⟩
  refine WL.yld (by decide) (Yld.assign rfl) ?_
  refine WL.done (hK7 _ _ ?_)
  refine WC.ret ?_
  injection h with h; subst h
  exact Ret.fn [108] (ResIs.one rfl rfl) rfl (Ext.refl _ _) rfl (by decide) rfl rfl ⟨A10, x9.length, c11, rfl, rfl⟩

set_option maxRecDepth 10000 in
theorem w_gfmatrix_Invert (M0 : Mem) (x00_0 : Int) (x00_1 : Int) (A00_2 : Option Addr) (n00_2 c00_2 : Nat) (x00_2 : List (BitVec 8)) (hf00_2 : SlT M0 A00_2 n00_2 c00_2 x00_2) {res : Int × Int × (List (BitVec 8)) × Int} (h : m_gfmatrix_Invert x00_0 x00_1 x00_2 = some res) :
  Fn Try.prog 14 #[.agg ([I64 x00_0, I64 x00_1, .slice A00_2 n00_2 c00_2] : List Value).toArray] M0 fun r M' es => ∃ (A1 : Option Addr) (n1 c1 : Nat), r = .tuple #[.agg ([I64 res.1, I64 res.2.1, .slice A1 n1 c1] : List Value).toArray, I64 res.2.2.2] ∧ es = [.own 5 (Lay.sz (BitVec 8)) A1 n1 c1 (cel res.2.2.1)] := by
 refine Fn.intro (N := 104) Try.func14 rfl rfl (Nat.le_of_ble_eq_true rfl) fun w0 => ?_
 unfold m_gfmatrix_Invert at h
 refine WC.seqRegion fun K1 hK1 => ?_
 refine WL.eff (by decide) (Eff.box 102 (us := [I64 x00_0, I64 x00_1, .slice A00_2 n00_2 c00_2]) rfl rfl rfl) ?_
 rintro _ _ ⟨g2, rfl, rfl⟩
 refine WL.eff (by decide) (Eff.alloc 103 rfl zr_24) ?_
 rintro _ _ ⟨g3, rfl, rfl⟩
 refine WL.yld (by decide) (Yld.assign rfl) ?_
 refine WL.done (hK1 _ _ ?_)
 refine WC.scope ?_
 refine WC.seqCut (σ := Unit) (fun _ => [(1, .pointer (some ⟨g2, 0, none⟩)), (2, .pointer (some ⟨g3, 0, none⟩))]) (fun _ => [(0, .mem M0), (102, .blk g2 24 [I64 x00_0, I64 x00_1, .slice A00_2 n00_2 c00_2]), (103, .blk g3 24 [I64 (0 : Int), I64 (0 : Int), .slice none 0 0])]) (fun _ => m_gfmatrix_Invert_j0 x00_0 x00_1 x00_2 = some res) (fun K4 hK4 => ?_) ?_
 ·
  skip
  refine WC.seqRegion fun K5 hK5 => ?_
  obtain ⟨x6, hx6, h⟩ := bnd h
  by_cases hc8 : x6 = true
  ·
   replace h := of_t hc8 h
   refine WL.yld (by decide) (Yld.loadBM (k := 102) agg_24 rfl rfl rfl) ?_
   refine WL.eff (by decide) (Eff.callS 107 rfl Try.func34 nm_34 rfl rfl (fun w hb hh => w_gfmatrix_Valid (Mem.snap w) x00_0 x00_1 A00_2 n00_2 c00_2 _ (RdH.sn (RdH.memM (k := 0) rfl hf00_2) w hb hh) hx6)) ?_
   rintro _ _ ⟨_, ⟨rfl, rfl⟩, rfl⟩
   refine WL.yld (by decide) (Yld.notB rfl) ?_
   refine WL.yld (by decide) (Yld.move rfl) ?_
   refine WL.new (v' := .bool false) (congrArg Value.bool (not_f hc8)) ?_
   refine WL.yldG (by decide) rfl (Yld.fieldAddr Try.underlying24 rfl nz_3 rfl rfl) ?_
   refine WL.yldG (by decide) rfl (Yld.loadB (k := 102) scal_3 rfl rfl rfl) ?_
   refine WL.yldG (by decide) rfl (Yld.fieldAddr Try.underlying24 rfl nz_3 rfl rfl) ?_
   refine WL.yldG (by decide) rfl (Yld.loadB (k := 102) scal_3 rfl rfl rfl) ?_
   refine WL.yldG (by decide) rfl (Yld.neqI rfl rfl) ?_
   refine WL.yld (by decide) (Yld.pickF rfl rfl) ?_
   refine WL.done (hK5 _ _ ?_)
   by_cases hc9 : x00_0 = x00_1
   ·
    replace h := of_t hc9 h
    refine WC.condFe rfl (bne_eq_false_iff_eq.2 hc9) ?_
    refine WC.skip ?_
    refine QK.thenN ?_
    refine hK4 () _ _ ?_ (Sub.cons rfl (Sub.cons rfl (Sub.nil _))) (Sub.cons rfl (Sub.cons rfl (Sub.cons rfl (Sub.nil _))))
    exact h
   ·
    replace h := of_f hc9 h
    refine WC.condTe rfl (bne_iff_ne.2 hc9) ?_
    refine WC.seqRegion fun K10 hK10 => ?_
    refine WL.yld (by decide) (Yld.build rfl (bu_24_)) ?_
    refine WL.eff0 (Eff0.storeBAM 103 agg_24 rfl rfl rfl ⟨rfl, rfl⟩ rfl) ?_
    refine WL.yld (by decide) (Yld.assign rfl) ?_
    refine WL.done (hK10 _ _ ?_)
    refine WC.ret (QK.thenR (QK.scopeR ?_))
    refine QK.nilOwn 111 5 (Lay.sz (BitVec 8)) none ?_
    injection h with h; subst h
    exact Ret.fn [111] (ResIs.cellTmpM (k := 103) rfl agg_24 rfl rfl rfl rfl) rfl (Ext.refl _ _) rfl (by decide) rfl rfl ⟨none, 0, 0, rfl, rfl⟩
  ·
   replace h := of_f hc8 h
   refine WL.yld (by decide) (Yld.loadBM (k := 102) agg_24 rfl rfl rfl) ?_
   refine WL.eff (by decide) (Eff.callS 107 rfl Try.func34 nm_34 rfl rfl (fun w hb hh => w_gfmatrix_Valid (Mem.snap w) x00_0 x00_1 A00_2 n00_2 c00_2 _ (RdH.sn (RdH.memM (k := 0) rfl hf00_2) w hb hh) hx6)) ?_
   rintro _ _ ⟨_, ⟨rfl, rfl⟩, rfl⟩
   refine WL.yld (by decide) (Yld.notB rfl) ?_
   refine WL.yld (by decide) (Yld.move rfl) ?_
   refine WL.new (v' := .bool true) (congrArg Value.bool (not_t (Bool.eq_false_iff.2 hc8))) ?_
   refine WL.skip (by decide) rfl rfl ?_
   refine WL.skip (by decide) rfl rfl ?_
   refine WL.skip (by decide) rfl rfl ?_
   refine WL.skip (by decide) rfl rfl ?_
   refine WL.skip (by decide) rfl rfl ?_
   refine WL.yld (by decide) (Yld.pickT rfl rfl) ?_
   refine WL.done (hK5 _ _ ?_)
   refine WC.condT rfl ?_
   refine WC.seqRegion fun K12 hK12 => ?_
   refine WL.yld (by decide) (Yld.build rfl (bu_24_)) ?_
   refine WL.eff0 (Eff0.storeBAM 103 agg_24 rfl rfl rfl ⟨rfl, rfl⟩ rfl) ?_
   refine WL.yld (by decide) (Yld.assign rfl) ?_
   refine WL.done (hK12 _ _ ?_)
   refine WC.ret (QK.thenR (QK.scopeR ?_))
   refine QK.nilOwn 113 5 (Lay.sz (BitVec 8)) none ?_
   injection h with h; subst h
   exact Ret.fn [113] (ResIs.cellTmpM (k := 103) rfl agg_24 rfl rfl rfl rfl) rfl (Ext.refl _ _) rfl (by decide) rfl rfl ⟨none, 0, 0, rfl, rfl⟩
 ·
  rintro _ h
  unfold m_gfmatrix_Invert_j0 at h
  refine WC.seqRegion fun K14 hK14 => ?_
  refine WL.yld (by decide) (Yld.fieldAddr Try.underlying24 rfl nz_3 rfl rfl) ?_
  refine WL.yld (by decide) (Yld.loadB (k := 102) scal_3 rfl rfl rfl) ?_
  refine WL.yld (by decide) (Yld.assign rfl) ?_
  refine WL.done (hK14 _ _ ?_)
  refine WC.seqRegion fun K15 hK15 => ?_
  obtain ⟨x16, hx16, h⟩ := bnd h
  refine WL.yld (by decide) (Yld.fieldAddr Try.underlying24 rfl nz_22 rfl rfl) ?_
  refine WL.yld (by decide) (Yld.loadB (k := 102) scal_22 rfl rfl rfl) ?_
  refine WL.eff (by decide) (Eff.callS 120 rfl Try.func37 nm_37 rfl rfl (fun w hb hh => w_slices_Clone_byte_byte (Mem.snap w) A00_2 n00_2 c00_2 _ (RdH.sn (RdH.memM (k := 0) rfl hf00_2) w hb hh) hx16)) ?_
  rintro _ _ ⟨_, ⟨A21, n22, c23, rfl, rfl⟩, rfl⟩
  refine WL.yld (by decide) (Yld.fieldAddr Try.underlying24 rfl nz_22 rfl rfl) ?_
  refine WL.eff0 (Eff0.storeB 102 siz_22 rfl rfl rfl rfl (Nat.le_of_ble_eq_true rfl)) ?_
  refine WL.done (hK15 _ _ ?_)
  refine WC.seqRegion fun K24 hK24 => ?_
  obtain ⟨x25, hx25, h⟩ := bnd h
  refine WL.yld (by decide) (Yld.move rfl) ?_
  refine WL.eff (by decide) (Eff.callS 129 rfl Try.func38 nm_38 rfl rfl (fun w hb hh => w_gfmatrix_Identity (Mem.snap w) x00_0 hx25)) ?_
  rintro _ _ ⟨_, ⟨A30, n31, c32, rfl, rfl⟩, rfl⟩
  refine WL.yld (by decide) (Yld.move rfl) ?_
  refine WL.yld (by decide) (Yld.extract rfl rfl) ?_
  refine WL.yld (by decide) (Yld.extract rfl rfl) ?_
  refine WL.eff (by decide) (Eff.alloc 133 rfl zr_24) ?_
  rintro _ _ ⟨g33, rfl, rfl⟩
  refine WL.eff0 (Eff0.storeBAM 133 agg_24 rfl rfl rfl ⟨rfl, rfl⟩ rfl) ?_
  refine WL.yld (by decide) (Yld.assign rfl) ?_
  refine WL.done (hK24 _ _ ?_)
  refine WC.seq fun K34 hK34 => ?_
  refine WC.label ?_
  refine QK.thenN (hK34 _ _ ?_)
  refine WC.seqCut (σ := (List (BitVec 8))) (fun x35 => [(2, .pointer (some ⟨g3, 0, none⟩)), (5, .pointer (some ⟨g33, 0, none⟩))]) (fun x35 => [(0, .mem M0), (103, .blk g3 24 [I64 (0 : Int), I64 (0 : Int), .slice none 0 0]), (129, .own 5 (Lay.sz (BitVec 8)) A30 n31 c32 (cel x35)), (133, .blk g33 24 [I64 x25.1, I64 x25.2.1, .slice A30 n31 c32])]) (fun x35 => m_gfmatrix_Invert_j1 x25 x35 = some res) (fun K36 hK36 => ?_) ?_
  ·
   skip
   refine WC.seqRegion fun K37 hK37 => ?_
   refine WL.yld (by decide) (Yld.move rfl) ?_
   refine WL.yld (by decide) (Yld.move rfl) ?_
   refine WL.done (hK37 _ _ ?_)
   refine WC.block ?_
   refine WC.loop (σ := Nat × (List (BitVec 8)) × (List (BitVec 8)) × Int) (fun ⟨q41, x38, x39, x40⟩ => [(1, .pointer (some ⟨g2, 0, none⟩)), (2, .pointer (some ⟨g3, 0, none⟩)), (4, I64 x00_0), (5, .pointer (some ⟨g33, 0, none⟩)), (35, I64 x00_0), (36, I64 x40)]) (fun ⟨q41, x38, x39, x40⟩ => [(0, .mem M0), (102, .blk g2 24 [I64 x00_0, I64 x00_1, .slice A21 n22 c23]), (103, .blk g3 24 [I64 (0 : Int), I64 (0 : Int), .slice none 0 0]), (120, .own 5 (Lay.sz (BitVec 8)) A21 n22 c23 (cel x38)), (129, .own 5 (Lay.sz (BitVec 8)) A30 n31 c32 (cel x39)), (133, .blk g33 24 [I64 x25.1, I64 x25.2.1, .slice A30 n31 c32])]) (fun ⟨q41, x38, x39, x40⟩ => m_gfmatrix_Invert_l2 x00_0 x00_1 x25 q41 x38 x39 x40 = some res) (fun ⟨q41, x38, x39, x40⟩ => q41) ⟨forever, x16, x25.2.2.1, (0 : Int)⟩ ?_ (Sub.cons rfl (Sub.cons rfl (Sub.cons rfl (Sub.cons rfl (Sub.cons rfl (Sub.cons rfl (Sub.nil _))))))) (Sub.cons rfl (Sub.cons rfl (Sub.cons rfl (Sub.cons rfl (Sub.cons rfl (Sub.cons rfl (Sub.nil _))))))) ?_
   ·
    exact h
   rintro ⟨q41, x38, x39, x40⟩ h K42 hK42
   cases q41 with
   | zero => exact absurd h (by simp [m_gfmatrix_Invert_l2])
   | succ q41 =>
    unfold m_gfmatrix_Invert_l2 at h
    refine WC.seqRegion fun K43 hK43 => ?_
    refine WL.yld (by decide) (Yld.lss rfl rfl) ?_
    refine WL.done (hK43 _ _ ?_)
    refine WC.seq fun K44 hK44 => ?_
    by_cases hc45 : x40 < x00_0
    ·
     replace h := of_t hc45 h
     refine WC.condTe rfl (decide_eq_true hc45) ?_
     refine WC.skip ?_
     refine QK.thenN (hK44 _ _ ?_)
     refine WC.seqCut (σ := (List (BitVec 8)) × (List (BitVec 8))) (fun ⟨x46, x47⟩ => [(1, .pointer (some ⟨g2, 0, none⟩)), (2, .pointer (some ⟨g3, 0, none⟩)), (4, I64 x00_0), (5, .pointer (some ⟨g33, 0, none⟩)), (35, I64 x00_0), (36, I64 x40)]) (fun ⟨x46, x47⟩ => [(0, .mem M0), (102, .blk g2 24 [I64 x00_0, I64 x00_1, .slice A21 n22 c23]), (103, .blk g3 24 [I64 (0 : Int), I64 (0 : Int), .slice none 0 0]), (120, .own 5 (Lay.sz (BitVec 8)) A21 n22 c23 (cel x46)), (129, .own 5 (Lay.sz (BitVec 8)) A30 n31 c32 (cel x47)), (133, .blk g33 24 [I64 x25.1, I64 x25.2.1, .slice A30 n31 c32])]) (fun ⟨x46, x47⟩ => m_gfmatrix_Invert_j3 x40 (m_gfmatrix_Invert_l2 x00_0 x00_1 x25 q41) x46 x47 = some res) (fun K48 hK48 => ?_) ?_
     ·
      skip
      refine WC.block ?_
      refine WC.seqRegion fun K49 hK49 => ?_
      refine WL.yld (by decide) (Yld.move rfl) ?_
      refine WL.yld (by decide) (Yld.assign rfl) ?_
      refine WL.done (hK49 _ _ ?_)
      refine WC.seqCut (σ := Unit) (fun _ => [(2, .pointer (some ⟨g3, 0, none⟩))]) (fun _ => [(0, .mem M0), (103, .blk g3 24 [I64 (0 : Int), I64 (0 : Int), .slice none 0 0])]) (fun _ => m_gfmatrix_Invert_j4 = some res) (fun K50 hK50 => ?_) ?_
      ·
       skip
       refine WC.seqRegion fun K51 hK51 => ?_
       refine WL.yld (by decide) (Yld.move rfl) ?_
       refine WL.yld (by decide) (Yld.assign rfl) ?_
       refine WL.done (hK51 _ _ ?_)
       refine WC.block ?_
       refine WC.loop (σ := Nat × Int) (fun ⟨q53, x52⟩ => [(1, .pointer (some ⟨g2, 0, none⟩)), (2, .pointer (some ⟨g3, 0, none⟩)), (4, I64 x00_0), (5, .pointer (some ⟨g33, 0, none⟩)), (7, I64 x40), (8, I64 x52), (35, I64 x00_0), (36, I64 x40)]) (fun ⟨q53, x52⟩ => [(0, .mem M0), (102, .blk g2 24 [I64 x00_0, I64 x00_1, .slice A21 n22 c23]), (103, .blk g3 24 [I64 (0 : Int), I64 (0 : Int), .slice none 0 0]), (120, .own 5 (Lay.sz (BitVec 8)) A21 n22 c23 (cel x38)), (129, .own 5 (Lay.sz (BitVec 8)) A30 n31 c32 (cel x39)), (133, .blk g33 24 [I64 x25.1, I64 x25.2.1, .slice A30 n31 c32])]) (fun ⟨q53, x52⟩ => m_gfmatrix_Invert_l5 x00_0 x00_1 x25 x38 x39 x40 (m_gfmatrix_Invert_l2 x00_0 x00_1 x25 q41) q53 x52 = some res) (fun ⟨q53, x52⟩ => q53) ⟨forever, x40⟩ ?_ (Sub.cons rfl (Sub.cons rfl (Sub.cons rfl (Sub.cons rfl (Sub.cons rfl (Sub.cons rfl (Sub.cons rfl (Sub.cons rfl (Sub.nil _))))))))) (Sub.cons rfl (Sub.cons rfl (Sub.cons rfl (Sub.cons rfl (Sub.cons rfl (Sub.cons rfl (Sub.nil _))))))) ?_
       ·
        exact h
       rintro ⟨q53, x52⟩ h K54 hK54
       cases q53 with
       | zero => exact absurd h (by simp [m_gfmatrix_Invert_l5])
       | succ q53 =>
        unfold m_gfmatrix_Invert_l5 at h
        refine WC.seq fun K55 hK55 => ?_
        refine WC.seqRegion fun K56 hK56 => ?_
        refine WL.yld (by decide) (Yld.move rfl) ?_
        refine WL.yld (by decide) (Yld.move rfl) ?_
        refine WL.yld (by decide) (Yld.lss rfl rfl) ?_
        refine WL.done (hK56 _ _ ?_)
        by_cases hc57 : x52 < x00_0
        ·
         replace h := of_t hc57 h
         refine WC.condTe rfl (decide_eq_true hc57) ?_
         refine WC.skip ?_
         refine QK.thenN (hK55 _ _ ?_)
         refine WC.seqCut (σ := Unit) (fun _ => [(1, .pointer (some ⟨g2, 0, none⟩)), (2, .pointer (some ⟨g3, 0, none⟩)), (4, I64 x00_0), (5, .pointer (some ⟨g33, 0, none⟩)), (7, I64 x40), (8, I64 x52), (35, I64 x00_0), (36, I64 x40)]) (fun _ => [(0, .mem M0), (102, .blk g2 24 [I64 x00_0, I64 x00_1, .slice A21 n22 c23]), (103, .blk g3 24 [I64 (0 : Int), I64 (0 : Int), .slice none 0 0]), (120, .own 5 (Lay.sz (BitVec 8)) A21 n22 c23 (cel x38)), (129, .own 5 (Lay.sz (BitVec 8)) A30 n31 c32 (cel x39)), (133, .blk g33 24 [I64 x25.1, I64 x25.2.1, .slice A30 n31 c32])]) (fun _ => m_gfmatrix_Invert_j6 x52 (m_gfmatrix_Invert_l5 x00_0 x00_1 x25 x38 x39 x40 (m_gfmatrix_Invert_l2 x00_0 x00_1 x25 q41) q53) = some res) (fun K58 hK58 => ?_) ?_
         ·
          skip
          refine WC.block ?_
          refine WC.seqRegion fun K59 hK59 => ?_
          obtain ⟨x60, hx60, h⟩ := bnd h
          obtain ⟨x62, hx62, h⟩ := bnd h
          refine WL.yld (by decide) (Yld.loadBM (k := 102) agg_24 rfl rfl rfl) ?_
          refine WL.yld (by decide) (Yld.move rfl) ?_
          refine WL.yld (by decide) (Yld.move rfl) ?_
          refine WL.eff (by decide) (Eff.callS 161 rfl Try.func40 nm_40 rfl rfl (fun w hb hh => w_gfmatrix_Matrix_at (Mem.snap w) x00_0 x00_1 A21 n22 c23 _ (RdH.sn (RdH.own (k := 120) rfl) w hb hh) x52 x40 hx60)) ?_
          rintro _ _ ⟨_, ⟨rfl, rfl⟩, rfl⟩
          refine WL.eff (by decide) (Eff.callS 163 rfl Try.func39 nm_39 rfl rfl (fun w hb hh => w_gf256_Inv (Mem.snap w) x60 hx62)) ?_
          rintro _ _ ⟨_, ⟨rfl, rfl⟩, rfl⟩
          refine WL.yld (by decide) (Yld.move rfl) ?_
          refine WL.yld (by decide) (Yld.extract rfl rfl) ?_
          refine WL.yld (by decide) (Yld.extract rfl rfl) ?_
          refine WL.yld (by decide) (Yld.assign rfl) ?_
          refine WL.yld (by decide) (Yld.assign rfl) ?_
          refine WL.done (hK59 _ _ ?_)
          refine WC.seq fun K64 hK64 => ?_
          refine WC.seqRegion fun K65 hK65 => ?_
          refine WL.yld (by decide) (Yld.move rfl) ?_
          refine WL.yld (by decide) (Yld.neqI rfl rfl) ?_
          refine WL.done (hK65 _ _ ?_)
          by_cases hc66 : x62.2 = (0 : Int)
          ·
           replace h := of_t hc66 h
           refine WC.condFe rfl (bne_eq_false_iff_eq.2 hc66) ?_
           refine WC.skip ?_
           refine QK.thenN (hK64 _ _ ?_)
           refine WC.seqRegion fun K67 hK67 => ?_
           obtain ⟨x68, hx68, h⟩ := bnd h
           refine WL.yld (by decide) (Yld.loadBM (k := 102) agg_24 rfl rfl rfl) ?_
           refine WL.yld (by decide) (Yld.move rfl) ?_
           refine WL.yld (by decide) (Yld.move rfl) ?_
           refine WL.eff (by decide) (Eff.callMut 120 rfl Try.func41 nm_41 rfl rfl rfl (w_gfmatrix_Matrix_swap A21 n22 c23 x38 x00_0 x00_1 x52 x40 hx68)) ?_
           rintro _ _ ⟨_, ⟨rfl, rfl⟩, rfl⟩
           refine WL.done (hK67 _ _ ?_)
           refine WC.seqRegion fun K69 hK69 => ?_
           obtain ⟨x70, hx70, h⟩ := bnd h
           refine WL.yld (by decide) (Yld.loadBM (k := 133) agg_24 rfl rfl rfl) ?_
           refine WL.yld (by decide) (Yld.move rfl) ?_
           refine WL.yld (by decide) (Yld.move rfl) ?_
           refine WL.eff (by decide) (Eff.callMut 129 rfl Try.func41 nm_41 rfl rfl rfl (w_gfmatrix_Matrix_swap A30 n31 c32 x39 x25.1 x25.2.1 x52 x40 hx70)) ?_
           rintro _ _ ⟨_, ⟨rfl, rfl⟩, rfl⟩
           refine WL.done (hK69 _ _ ?_)
           refine WC.seqRegion fun K71 hK71 => ?_
           obtain ⟨x72, hx72, h⟩ := bnd h
           obtain ⟨x73, hx73, h⟩ := bnd h
           obtain ⟨x74, hx74, h⟩ := bnd h
           refine WL.yld (by decide) (Yld.loadBM (k := 102) agg_24 rfl rfl rfl) ?_
           refine WL.yld (by decide) (Yld.move rfl) ?_
           refine WL.eff (by decide) (Eff.callS 1 rfl Try.func36 nm_36 rfl rfl (fun w hb hh => w_gfmatrix_Matrix_row (Mem.snap w) x00_0 x00_1 A21 n22 c23 x40 (SlT.slcB (RdH.sn (RdH.own (k := 120) rfl) w hb hh) hx73) hx72)) ?_
           rintro _ _ ⟨_, ⟨rfl, rfl⟩, rfl⟩
           refine WL.yld (by decide) (Yld.move rfl) ?_
           refine WL.eff (by decide) (Eff.callMut 120 rfl Try.func42 nm_42 rfl rfl rfl (w_gfmatrix_scale A21 n22 c23 x68 x72.1 x72.2 x62.1 hx74)) ?_
           rintro _ _ ⟨_, ⟨rfl, rfl⟩, rfl⟩
           refine WL.done (hK71 _ _ ?_)
           refine WC.seqRegion fun K75 hK75 => ?_
           obtain ⟨x76, hx76, h⟩ := bnd h
           obtain ⟨x77, hx77, h⟩ := bnd h
           obtain ⟨x78, hx78, h⟩ := bnd h
           refine WL.yld (by decide) (Yld.loadBM (k := 133) agg_24 rfl rfl rfl) ?_
           refine WL.yld (by decide) (Yld.move rfl) ?_
           refine WL.eff (by decide) (Eff.callS 1 rfl Try.func36 nm_36 rfl rfl (fun w hb hh => w_gfmatrix_Matrix_row (Mem.snap w) x25.1 x25.2.1 A30 n31 c32 x40 (SlT.slcB (RdH.sn (RdH.own (k := 129) rfl) w hb hh) hx77) hx76)) ?_
           rintro _ _ ⟨_, ⟨rfl, rfl⟩, rfl⟩
           refine WL.yld (by decide) (Yld.move rfl) ?_
           refine WL.eff (by decide) (Eff.callMut 129 rfl Try.func42 nm_42 rfl rfl rfl (w_gfmatrix_scale A30 n31 c32 x70 x76.1 x76.2 x62.1 hx78)) ?_
           rintro _ _ ⟨_, ⟨rfl, rfl⟩, rfl⟩
           refine WL.done (hK75 _ _ ?_)
           refine WC.seqCut (σ := (List (BitVec 8)) × (List (BitVec 8))) (fun ⟨x79, x80⟩ => [(1, .pointer (some ⟨g2, 0, none⟩)), (2, .pointer (some ⟨g3, 0, none⟩)), (4, I64 x00_0), (5, .pointer (some ⟨g33, 0, none⟩)), (35, I64 x00_0), (36, I64 x40)]) (fun ⟨x79, x80⟩ => [(0, .mem M0), (102, .blk g2 24 [I64 x00_0, I64 x00_1, .slice A21 n22 c23]), (103, .blk g3 24 [I64 (0 : Int), I64 (0 : Int), .slice none 0 0]), (120, .own 5 (Lay.sz (BitVec 8)) A21 n22 c23 (cel x79)), (129, .own 5 (Lay.sz (BitVec 8)) A30 n31 c32 (cel x80)), (133, .blk g33 24 [I64 x25.1, I64 x25.2.1, .slice A30 n31 c32])]) (fun ⟨x79, x80⟩ => m_gfmatrix_Invert_j7 x40 (m_gfmatrix_Invert_l2 x00_0 x00_1 x25 q41) x79 x80 = some res) (fun K81 hK81 => ?_) ?_
           ·
            skip
            refine WC.seqRegion fun K82 hK82 => ?_
            refine WL.yld (by decide) (Yld.move rfl) ?_
            refine WL.yld (by decide) (Yld.move rfl) ?_
            refine WL.done (hK82 _ _ ?_)
            refine WC.block ?_
            refine WC.loop (σ := Nat × (List (BitVec 8)) × (List (BitVec 8)) × Int) (fun ⟨q86, x83, x84, x85⟩ => [(1, .pointer (some ⟨g2, 0, none⟩)), (2, .pointer (some ⟨g3, 0, none⟩)), (4, I64 x00_0), (5, .pointer (some ⟨g33, 0, none⟩)), (7, I64 x40), (35, I64 x00_0), (36, I64 x40), (73, I64 x00_0), (74, I64 x85)]) (fun ⟨q86, x83, x84, x85⟩ => [(0, .mem M0), (102, .blk g2 24 [I64 x00_0, I64 x00_1, .slice A21 n22 c23]), (103, .blk g3 24 [I64 (0 : Int), I64 (0 : Int), .slice none 0 0]), (120, .own 5 (Lay.sz (BitVec 8)) A21 n22 c23 (cel x83)), (129, .own 5 (Lay.sz (BitVec 8)) A30 n31 c32 (cel x84)), (133, .blk g33 24 [I64 x25.1, I64 x25.2.1, .slice A30 n31 c32])]) (fun ⟨q86, x83, x84, x85⟩ => m_gfmatrix_Invert_l8 x00_0 x00_1 x25 x40 (m_gfmatrix_Invert_l2 x00_0 x00_1 x25 q41) q86 x83 x84 x85 = some res) (fun ⟨q86, x83, x84, x85⟩ => q86) ⟨forever, x74, x78, (0 : Int)⟩ ?_ (Sub.cons rfl (Sub.cons rfl (Sub.cons rfl (Sub.cons rfl (Sub.cons rfl (Sub.cons rfl (Sub.cons rfl (Sub.cons rfl (Sub.cons rfl (Sub.nil _)))))))))) (Sub.cons rfl (Sub.cons rfl (Sub.cons rfl (Sub.cons rfl (Sub.cons rfl (Sub.cons rfl (Sub.nil _))))))) ?_
            ·
             exact h
            rintro ⟨q86, x83, x84, x85⟩ h K87 hK87
            cases q86 with
            | zero => exact absurd h (by simp [m_gfmatrix_Invert_l8])
            | succ q86 =>
             unfold m_gfmatrix_Invert_l8 at h
             refine WC.seqRegion fun K88 hK88 => ?_
             refine WL.yld (by decide) (Yld.lss rfl rfl) ?_
             refine WL.done (hK88 _ _ ?_)
             refine WC.seq fun K89 hK89 => ?_
             by_cases hc90 : x85 < x00_0
             ·
              replace h := of_t hc90 h
              refine WC.condTe rfl (decide_eq_true hc90) ?_
              refine WC.skip ?_
              refine QK.thenN (hK89 _ _ ?_)
              refine WC.seq fun K91 hK91 => ?_
              refine WC.block ?_
              refine WC.seqRegion fun K92 hK92 => ?_
              refine WL.yld (by decide) (Yld.move rfl) ?_
              refine WL.yld (by decide) (Yld.assign rfl) ?_
              refine WL.done (hK92 _ _ ?_)
              refine WC.seqRegion fun K93 hK93 => ?_
              obtain ⟨x94, hx94, h⟩ := bnd h
              refine WL.yld (by decide) (Yld.loadBM (k := 102) agg_24 rfl rfl rfl) ?_
              refine WL.yld (by decide) (Yld.move rfl) ?_
              refine WL.yld (by decide) (Yld.move rfl) ?_
              refine WL.eff (by decide) (Eff.callS 195 rfl Try.func40 nm_40 rfl rfl (fun w hb hh => w_gfmatrix_Matrix_at (Mem.snap w) x00_0 x00_1 A21 n22 c23 _ (RdH.sn (RdH.own (k := 120) rfl) w hb hh) x85 x40 hx94)) ?_
              rintro _ _ ⟨_, ⟨rfl, rfl⟩, rfl⟩
              refine WL.yld (by decide) (Yld.assign rfl) ?_
              refine WL.done (hK93 _ _ ?_)
              refine WC.seqRegion fun K96 hK96 => ?_
              refine WL.yld (by decide) (Yld.move rfl) ?_
              refine WL.yld (by decide) (Yld.move rfl) ?_
              refine WL.yld (by decide) (Yld.neqI rfl rfl) ?_
              refine WL.done (hK96 _ _ ?_)
              by_cases hc97 : x85 = x40
              ·
               replace h := of_t hc97 h
               refine WC.condFe rfl (bne_eq_false_iff_eq.2 hc97) ?_
               refine WC.skip ?_
               refine QK.blockN ?_
               refine QK.thenN (hK91 _ _ ?_)
               refine WC.region fun K98 hK98 => ?_
               obtain ⟨x99, hx99, h⟩ := bnd h
               refine WL.yld (by decide) (Yld.addC rfl rfl hx99) ?_
               refine WL.yld (by decide) (Yld.move rfl) ?_
               refine WL.done (hK98 _ _ ?_)
               refine QK.thenN ?_
               refine hK87 ⟨q86, x83, x84, x99⟩ _ _ ?_ (Nat.lt_succ_self _) (Sub.cons rfl (Sub.cons rfl (Sub.cons rfl (Sub.cons rfl (Sub.cons rfl (Sub.cons rfl (Sub.cons rfl (Sub.cons rfl (Sub.cons rfl (Sub.nil _)))))))))) (Sub.cons rfl (Sub.cons rfl (Sub.cons rfl (Sub.cons rfl (Sub.cons rfl (Sub.cons rfl (Sub.nil _)))))))
               exact h
              ·
               replace h := of_f hc97 h
               refine WC.condTe rfl (bne_iff_ne.2 hc97) ?_
               refine WC.seqRegionD (n := 8) [(102, _), (103, _), (129, _), (133, _)] rfl mixed (Sub.cons rfl (Sub.cons rfl (Sub.cons rfl (Sub.cons rfl (Sub.nil _))))) fun K100 hK100 => ?_
               obtain ⟨x101, hx101, h⟩ := bnd h
               obtain ⟨x102, hx102, h⟩ := bnd h
               obtain ⟨x103, hx103, h⟩ := bnd h
               obtain ⟨x104, hx104, h⟩ := bnd h
               obtain ⟨x105, hx105, h⟩ := bnd h
               refine WD.take 0 rfl (by kernel_rfl) (by kernel_rfl) (by kernel_rfl) (by decide) (Yld.loadBM (k := 102) agg_24 rfl rfl rfl) ?_
               refine WD.take 1 rfl (by kernel_rfl) (by kernel_rfl) (by kernel_rfl) (by decide) (Yld.move rfl) ?_
               refine WD.take 3 rfl (by kernel_rfl) (by kernel_rfl) (by kernel_rfl) (by decide) (Yld.loadBM (k := 102) agg_24 rfl rfl rfl) ?_
               refine WD.take 4 rfl (by kernel_rfl) (by kernel_rfl) (by kernel_rfl) (by decide) (Yld.move rfl) ?_
               refine WD.take 6 rfl (by kernel_rfl) (by kernel_rfl) (by kernel_rfl) (by decide) (Yld.move rfl) ?_
               refine WD.one 2 (by kernel_rfl) ?_
               refine WS.eff rfl (by decide) (Eff.callS 1 rfl Try.func36 nm_36 rfl rfl (fun w hb hh => w_gfmatrix_Matrix_row (Mem.snap w) x00_0 x00_1 A21 n22 c23 x85 (SlT.slcB (RdH.sn (RdH.own (k := 120) rfl) w hb hh) hx102) hx101)) ?_
               rintro _ _ ⟨_, ⟨rfl, rfl⟩, rfl⟩
               refine ⟨(Sub.cons rfl (Sub.cons rfl (Sub.cons rfl (Sub.cons rfl (Sub.nil _))))), ?_⟩
               refine WD.one 5 (by kernel_rfl) ?_
               refine WS.eff rfl (by decide) (Eff.callS 1 rfl Try.func36 nm_36 rfl rfl (fun w hb hh => w_gfmatrix_Matrix_row (Mem.snap w) x00_0 x00_1 A21 n22 c23 x40 (SlT.slcB (RdH.sn (RdH.own (k := 120) rfl) w hb hh) hx104) hx103)) ?_
               rintro _ _ ⟨_, ⟨rfl, rfl⟩, rfl⟩
               refine ⟨(Sub.cons rfl (Sub.cons rfl (Sub.cons rfl (Sub.cons rfl (Sub.nil _))))), ?_⟩
               refine WD.one 7 (by kernel_rfl) ?_
               refine WS.eff rfl (by decide) (Eff.callMut 120 rfl Try.func43 nm_43 rfl rfl rfl (w_gfmatrix_add A21 n22 c23 x83 x101.1 x101.2 x103.1 x103.2 x94 hx105)) ?_
               rintro _ _ ⟨_, ⟨rfl, rfl⟩, rfl⟩
               refine ⟨(Sub.cons rfl (Sub.cons rfl (Sub.cons rfl (Sub.cons rfl (Sub.nil _))))), ?_⟩
               refine WD.done (by kernel_rfl) (hK100 _ _ ?_)
               refine WC.regionD (n := 8) [(102, _), (103, _), (120, _), (133, _)] rfl mixed (Sub.cons rfl (Sub.cons rfl (Sub.cons rfl (Sub.cons rfl (Sub.nil _))))) fun K106 hK106 => ?_
               obtain ⟨x107, hx107, h⟩ := bnd h
               obtain ⟨x108, hx108, h⟩ := bnd h
               obtain ⟨x109, hx109, h⟩ := bnd h
               obtain ⟨x110, hx110, h⟩ := bnd h
               obtain ⟨x111, hx111, h⟩ := bnd h
               refine WD.take 0 rfl (by kernel_rfl) (by kernel_rfl) (by kernel_rfl) (by decide) (Yld.loadBM (k := 133) agg_24 rfl rfl rfl) ?_
               refine WD.take 1 rfl (by kernel_rfl) (by kernel_rfl) (by kernel_rfl) (by decide) (Yld.move rfl) ?_
               refine WD.take 3 rfl (by kernel_rfl) (by kernel_rfl) (by kernel_rfl) (by decide) (Yld.loadBM (k := 133) agg_24 rfl rfl rfl) ?_
               refine WD.take 4 rfl (by kernel_rfl) (by kernel_rfl) (by kernel_rfl) (by decide) (Yld.move rfl) ?_
               refine WD.take 6 rfl (by kernel_rfl) (by kernel_rfl) (by kernel_rfl) (by decide) (Yld.move rfl) ?_
               refine WD.one 2 (by kernel_rfl) ?_
               refine WS.eff rfl (by decide) (Eff.callS 1 rfl Try.func36 nm_36 rfl rfl (fun w hb hh => w_gfmatrix_Matrix_row (Mem.snap w) x25.1 x25.2.1 A30 n31 c32 x85 (SlT.slcB (RdH.sn (RdH.own (k := 129) rfl) w hb hh) hx108) hx107)) ?_
               rintro _ _ ⟨_, ⟨rfl, rfl⟩, rfl⟩
               refine ⟨(Sub.cons rfl (Sub.cons rfl (Sub.cons rfl (Sub.cons rfl (Sub.nil _))))), ?_⟩
               refine WD.one 5 (by kernel_rfl) ?_
               refine WS.eff rfl (by decide) (Eff.callS 1 rfl Try.func36 nm_36 rfl rfl (fun w hb hh => w_gfmatrix_Matrix_row (Mem.snap w) x25.1 x25.2.1 A30 n31 c32 x40 (SlT.slcB (RdH.sn (RdH.own (k := 129) rfl) w hb hh) hx110) hx109)) ?_
               rintro _ _ ⟨_, ⟨rfl, rfl⟩, rfl⟩
               refine ⟨(Sub.cons rfl (Sub.cons rfl (Sub.cons rfl (Sub.cons rfl (Sub.nil _))))), ?_⟩
               refine WD.one 7 (by kernel_rfl) ?_
               refine WS.eff rfl (by decide) (Eff.callMut 129 rfl Try.func43 nm_43 rfl rfl rfl (w_gfmatrix_add A30 n31 c32 x84 x107.1 x107.2 x109.1 x109.2 x94 hx111)) ?_
               rintro _ _ ⟨_, ⟨rfl, rfl⟩, rfl⟩
               refine ⟨(Sub.cons rfl (Sub.cons rfl (Sub.cons rfl (Sub.cons rfl (Sub.nil _))))), ?_⟩
               refine WD.done (by kernel_rfl) (hK106 _ _ ?_)
               refine QK.blockN ?_
               refine QK.thenN (hK91 _ _ ?_)
               refine WC.region fun K112 hK112 => ?_
               obtain ⟨x113, hx113, h⟩ := bnd h
               refine WL.yld (by decide) (Yld.addC rfl rfl hx113) ?_
               refine WL.yld (by decide) (Yld.move rfl) ?_
               refine WL.done (hK112 _ _ ?_)
               refine QK.thenN ?_
               refine hK87 ⟨q86, x105, x111, x113⟩ _ _ ?_ (Nat.lt_succ_self _) (Sub.cons rfl (Sub.cons rfl (Sub.cons rfl (Sub.cons rfl (Sub.cons rfl (Sub.cons rfl (Sub.cons rfl (Sub.cons rfl (Sub.cons rfl (Sub.nil _)))))))))) (Sub.cons rfl (Sub.cons rfl (Sub.cons rfl (Sub.cons rfl (Sub.cons rfl (Sub.cons rfl (Sub.nil _)))))))
               exact h
             ·
              replace h := of_f hc90 h
              refine WC.condFe rfl (decide_eq_false hc90) ?_
              refine WC.exit (QK.thenE (QK.thenE (QK.blockX ?_)))
              refine QK.thenN ?_
              refine hK81 ⟨x83, x84⟩ _ _ ?_ (Sub.cons rfl (Sub.cons rfl (Sub.cons rfl (Sub.cons rfl (Sub.cons rfl (Sub.cons rfl (Sub.nil _))))))) (Sub.cons rfl (Sub.cons rfl (Sub.cons rfl (Sub.cons rfl (Sub.cons rfl (Sub.cons rfl (Sub.nil _)))))))
              exact h
           ·
            rintro ⟨x79, x80⟩ h
            unfold m_gfmatrix_Invert_j7 at h
            refine WC.exit (QK.blockO rfl (QK.thenE (QK.thenE (QK.blockO rfl (QK.thenE (QK.blockX ?_))))))
            refine QK.thenN ?_
            refine hK48 ⟨x79, x80⟩ _ _ ?_ (Sub.cons rfl (Sub.cons rfl (Sub.cons rfl (Sub.cons rfl (Sub.cons rfl (Sub.cons rfl (Sub.nil _))))))) (Sub.cons rfl (Sub.cons rfl (Sub.cons rfl (Sub.cons rfl (Sub.cons rfl (Sub.cons rfl (Sub.nil _)))))))
            exact h
          ·
           replace h := of_f hc66 h
           refine WC.condTe rfl (bne_iff_ne.2 hc66) ?_
           refine WC.exit (QK.thenE (QK.blockX ?_))
           refine QK.thenN ?_
           refine hK58 () _ _ ?_ (Sub.cons rfl (Sub.cons rfl (Sub.cons rfl (Sub.cons rfl (Sub.cons rfl (Sub.cons rfl (Sub.cons rfl (Sub.cons rfl (Sub.nil _))))))))) (Sub.cons rfl (Sub.cons rfl (Sub.cons rfl (Sub.cons rfl (Sub.cons rfl (Sub.cons rfl (Sub.nil _)))))))
           exact h
         ·
          rintro _ h
          unfold m_gfmatrix_Invert_j6 at h
          refine WC.region fun K114 hK114 => ?_
          obtain ⟨x115, hx115, h⟩ := bnd h
          refine WL.yld (by decide) (Yld.move rfl) ?_
          refine WL.yld (by decide) (Yld.addC rfl rfl hx115) ?_
          refine WL.yld (by decide) (Yld.assign rfl) ?_
          refine WL.done (hK114 _ _ ?_)
          refine QK.thenN ?_
          refine hK54 ⟨q53, x115⟩ _ _ ?_ (Nat.lt_succ_self _) (Sub.cons rfl (Sub.cons rfl (Sub.cons rfl (Sub.cons rfl (Sub.cons rfl (Sub.cons rfl (Sub.cons rfl (Sub.cons rfl (Sub.nil _))))))))) (Sub.cons rfl (Sub.cons rfl (Sub.cons rfl (Sub.cons rfl (Sub.cons rfl (Sub.cons rfl (Sub.nil _)))))))
          exact h
        ·
         replace h := of_f hc57 h
         refine WC.condFe rfl (decide_eq_false hc57) ?_
         refine WC.exit (QK.thenE (QK.thenE (QK.blockX ?_)))
         refine QK.thenN ?_
         refine hK50 () _ _ ?_ (Sub.cons rfl (Sub.nil _)) (Sub.cons rfl (Sub.cons rfl (Sub.nil _)))
         exact h
      ·
       rintro _ h
       unfold m_gfmatrix_Invert_j4 at h
       refine WC.seqRegion fun K116 hK116 => ?_
       refine WL.yld (by decide) (Yld.build rfl (bu_24_)) ?_
       refine WL.eff0 (Eff0.storeBAM 103 agg_24 rfl rfl rfl ⟨rfl, rfl⟩ rfl) ?_
       refine WL.yld (by decide) (Yld.assign rfl) ?_
       refine WL.done (hK116 _ _ ?_)
       refine WC.ret (QK.blockR (QK.thenR (QK.thenR (QK.blockR (QK.thenR (QK.scopeR ?_))))))
       refine QK.nilOwn 217 5 (Lay.sz (BitVec 8)) none ?_
       injection h with h; subst h
       exact Ret.fn [217] (ResIs.cellTmpM (k := 103) rfl agg_24 rfl rfl rfl rfl) rfl (Ext.refl _ _) rfl (by decide) rfl rfl ⟨none, 0, 0, rfl, rfl⟩
     ·
      rintro ⟨x46, x47⟩ h
      unfold m_gfmatrix_Invert_j3 at h
      refine WC.region fun K118 hK118 => ?_
      obtain ⟨x119, hx119, h⟩ := bnd h
      refine WL.yld (by decide) (Yld.addC rfl rfl hx119) ?_
      refine WL.yld (by decide) (Yld.move rfl) ?_
      refine WL.done (hK118 _ _ ?_)
      refine QK.thenN ?_
      refine hK42 ⟨q41, x46, x47, x119⟩ _ _ ?_ (Nat.lt_succ_self _) (Sub.cons rfl (Sub.cons rfl (Sub.cons rfl (Sub.cons rfl (Sub.cons rfl (Sub.cons rfl (Sub.nil _))))))) (Sub.cons rfl (Sub.cons rfl (Sub.cons rfl (Sub.cons rfl (Sub.cons rfl (Sub.cons rfl (Sub.nil _)))))))
      exact h
    ·
     replace h := of_f hc45 h
     refine WC.condFe rfl (decide_eq_false hc45) ?_
     refine WC.exit (QK.thenE (QK.thenE (QK.blockX ?_)))
     refine QK.thenN ?_
     refine hK36 x39 _ _ ?_ (Sub.cons rfl (Sub.cons rfl (Sub.nil _))) (Sub.cons rfl (Sub.cons rfl (Sub.cons rfl (Sub.cons rfl (Sub.nil _)))))
     exact h
  ·
   rintro x35 h
   unfold m_gfmatrix_Invert_j1 at h
   refine WC.seqRegion fun K120 hK120 => ?_
   refine WL.yld (by decide) (Yld.loadBM (k := 133) agg_24 rfl rfl rfl) ?_
   refine WL.eff0 (Eff0.storeBAM 103 agg_24 rfl rfl rfl ⟨rfl, rfl⟩ rfl) ?_
   refine WL.yld (by decide) (Yld.assign rfl) ?_
   refine WL.done (hK120 _ _ ?_)
   refine WC.ret (QK.scopeR ?_)
   injection h with h; subst h
   exact Ret.fn [129] (ResIs.cellTmpM (k := 103) rfl agg_24 rfl rfl rfl rfl) rfl (Ext.refl _ _) rfl (by decide) rfl rfl ⟨A30, n31, c32, rfl, rfl⟩

set_option maxRecDepth 10000 in
theorem w_gfmatrix_Apply (M0 : Mem) (x00_0 : Int) (x00_1 : Int) (A00_2 : Option Addr) (n00_2 c00_2 : Nat) (x00_2 : List (BitVec 8)) (hf00_2 : SlT M0 A00_2 n00_2 c00_2 x00_2) (A01 : Option Addr) (n01 c01 : Nat) (rs01 : List Hdr) (x01 : List (List (BitVec 8))) (hf01 : SlT M0 A01 n01 c01 rs01) (hq01 : Rels ((RelB (α := BitVec 8)) M0) rs01 x01) {res : (List (List (BitVec 8))) × Int} (h : m_gfmatrix_Apply x00_0 x00_1 x00_2 x01 = some res) :
  Fn Try.prog 48 #[.agg ([I64 x00_0, I64 x00_1, .slice A00_2 n00_2 c00_2] : List Value).toArray, .slice A01 n01 c01] M0 fun r M' es => ∃ (A1 : Option Addr) (n1 c1 : Nat), ∃ rs1 : List Hdr, r = .tuple #[.slice A1 n1 c1, I64 res.2] ∧ es = [.own 22 (Lay.sz Hdr) A1 n1 c1 (cel rs1)] ∧ Rels ((RelB (α := BitVec 8)) M') rs1 res.1 := by
 refine Fn.intro (N := 78) Try.func48 rfl rfl (Nat.le_of_ble_eq_true rfl) fun w0 => ?_
 unfold m_gfmatrix_Apply at h
 refine WC.seqRegion fun K1 hK1 => ?_
 refine WL.eff (by decide) (Eff.box 102 (us := [I64 x00_0, I64 x00_1, .slice A00_2 n00_2 c00_2]) rfl rfl rfl) ?_
 rintro _ _ ⟨g2, rfl, rfl⟩
 refine WL.yld (by decide) (Yld.assign rfl) ?_
 refine WL.yld (by decide) (Yld.assign rfl) ?_
 refine WL.done (hK1 _ _ ?_)
 refine WC.seqCut (σ := Unit) (fun _ => [(1, .slice A01 n01 c01), (2, .pointer (some ⟨g2, 0, none⟩))]) (fun _ => [(0, .mem M0), (102, .blk g2 24 [I64 x00_0, I64 x00_1, .slice A00_2 n00_2 c00_2])]) (fun _ => m_gfmatrix_Apply_j0 x00_0 x00_1 x00_2 x01 = some res) (fun K3 hK3 => ?_) ?_
 ·
  skip
  refine WC.seqRegion fun K4 hK4 => ?_
  obtain ⟨x5, hx5, h⟩ := bnd h
  by_cases hc7 : x5 = true
  ·
   replace h := of_t hc7 h
   refine WL.yld (by decide) (Yld.loadBM (k := 102) agg_24 rfl rfl rfl) ?_
   refine WL.eff (by decide) (Eff.callS 106 rfl Try.func34 nm_34 rfl rfl (fun w hb hh => w_gfmatrix_Valid (Mem.snap w) x00_0 x00_1 A00_2 n00_2 c00_2 _ (RdH.sn (RdH.memM (k := 0) rfl hf00_2) w hb hh) hx5)) ?_
   rintro _ _ ⟨_, ⟨rfl, rfl⟩, rfl⟩
   refine WL.yld (by decide) (Yld.notB rfl) ?_
   refine WL.yld (by decide) (Yld.move rfl) ?_
   refine WL.new (v' := .bool false) (congrArg Value.bool (not_f hc7)) ?_
   refine WL.yldG (by decide) rfl (Yld.move rfl) ?_
   refine WL.yldG (by decide) rfl (Yld.lenD (rs := rs01) (xs := x01) (Rels.len hq01) und_35 rfl (RdH.memM (k := 0) rfl hf01)) ?_
   refine WL.yldG (by decide) rfl (Yld.fieldAddr Try.underlying24 rfl nz_3 rfl rfl) ?_
   refine WL.yldG (by decide) rfl (Yld.loadB (k := 102) scal_3 rfl rfl rfl) ?_
   refine WL.yldG (by decide) rfl (Yld.neqI rfl rfl) ?_
   refine WL.yld (by decide) (Yld.pickF rfl rfl) ?_
   refine WL.done (hK4 _ _ ?_)
   by_cases hc8 : (x01.length : Int) = x00_1
   ·
    replace h := of_t hc8 h
    refine WC.condFe rfl (bne_eq_false_iff_eq.2 hc8) ?_
    refine WC.skip ?_
    refine QK.thenN ?_
    refine hK3 () _ _ ?_ (Sub.cons rfl (Sub.cons rfl (Sub.nil _))) (Sub.cons rfl (Sub.cons rfl (Sub.nil _)))
    exact h
   ·
    replace h := of_f hc8 h
    refine WC.condTe rfl (bne_iff_ne.2 hc8) ?_
    refine WC.seqRegion fun K9 hK9 => ?_
    refine WL.yld (by decide) (Yld.assign rfl) ?_
    refine WL.yld (by decide) (Yld.assign rfl) ?_
    refine WL.done (hK9 _ _ ?_)
    refine WC.ret (QK.thenR ?_)
    refine QK.nilOwn 110 22 (Lay.sz Hdr) none ?_
    injection h with h; subst h
    exact Ret.fn [110] (ResIs.two rfl rfl rfl) rfl (Ext.refl _ _) rfl (by decide) rfl rfl ⟨none, 0, 0, ([] : List Hdr), rfl, rfl, (Rels.nil (R := (RelB (α := BitVec 8)) M0))⟩
  ·
   replace h := of_f hc7 h
   refine WL.yld (by decide) (Yld.loadBM (k := 102) agg_24 rfl rfl rfl) ?_
   refine WL.eff (by decide) (Eff.callS 106 rfl Try.func34 nm_34 rfl rfl (fun w hb hh => w_gfmatrix_Valid (Mem.snap w) x00_0 x00_1 A00_2 n00_2 c00_2 _ (RdH.sn (RdH.memM (k := 0) rfl hf00_2) w hb hh) hx5)) ?_
   rintro _ _ ⟨_, ⟨rfl, rfl⟩, rfl⟩
   refine WL.yld (by decide) (Yld.notB rfl) ?_
   refine WL.yld (by decide) (Yld.move rfl) ?_
   refine WL.new (v' := .bool true) (congrArg Value.bool (not_t (Bool.eq_false_iff.2 hc7))) ?_
   refine WL.skip (by decide) rfl rfl ?_
   refine WL.skip (by decide) rfl rfl ?_
   refine WL.skip (by decide) rfl rfl ?_
   refine WL.skip (by decide) rfl rfl ?_
   refine WL.skip (by decide) rfl rfl ?_
   refine WL.yld (by decide) (Yld.pickT rfl rfl) ?_
   refine WL.done (hK4 _ _ ?_)
   refine WC.condT rfl ?_
   refine WC.seqRegion fun K11 hK11 => ?_
   refine WL.yld (by decide) (Yld.assign rfl) ?_
   refine WL.yld (by decide) (Yld.assign rfl) ?_
   refine WL.done (hK11 _ _ ?_)
   refine WC.ret (QK.thenR ?_)
   refine QK.nilOwn 112 22 (Lay.sz Hdr) none ?_
   injection h with h; subst h
   exact Ret.fn [112] (ResIs.two rfl rfl rfl) rfl (Ext.refl _ _) rfl (by decide) rfl rfl ⟨none, 0, 0, ([] : List Hdr), rfl, rfl, (Rels.nil (R := (RelB (α := BitVec 8)) M0))⟩
 ·
  rintro _ h
  unfold m_gfmatrix_Apply_j0 at h
  refine WC.seqCut (σ := Unit) (fun _ => [(1, .slice A01 n01 c01), (2, .pointer (some ⟨g2, 0, none⟩))]) (fun _ => [(0, .mem M0), (102, .blk g2 24 [I64 x00_0, I64 x00_1, .slice A00_2 n00_2 c00_2])]) (fun _ => m_gfmatrix_Apply_j1 x00_0 x00_1 x00_2 x01 = some res) (fun K13 hK13 => ?_) ?_
  ·
   skip
   refine WC.seqRegion fun K14 hK14 => ?_
   refine WL.yld (by decide) (Yld.move rfl) ?_
   refine WL.yld (by decide) (Yld.lenD (rs := rs01) (xs := x01) (Rels.len hq01) und_35 rfl (RdH.memM (k := 0) rfl hf01)) ?_
   refine WL.yld (by decide) (Yld.move rfl) ?_
   refine WL.done (hK14 _ _ ?_)
   refine WC.block ?_
   refine WC.loop (σ := Nat × Int) (fun ⟨q16, x15⟩ => [(1, .slice A01 n01 c01), (2, .pointer (some ⟨g2, 0, none⟩)), (22, .slice A01 n01 c01), (23, I64 (x01.length : Int)), (24, I64 x15)]) (fun ⟨q16, x15⟩ => [(0, .mem M0), (102, .blk g2 24 [I64 x00_0, I64 x00_1, .slice A00_2 n00_2 c00_2])]) (fun ⟨q16, x15⟩ => m_gfmatrix_Apply_l2 x00_0 x00_1 x00_2 x01 q16 x15 = some res) (fun ⟨q16, x15⟩ => q16) ⟨forever, (0 : Int)⟩ ?_ (Sub.cons rfl (Sub.cons rfl (Sub.cons rfl (Sub.cons rfl (Sub.cons rfl (Sub.nil _)))))) (Sub.cons rfl (Sub.cons rfl (Sub.nil _))) ?_
   ·
    exact h
   rintro ⟨q16, x15⟩ h K17 hK17
   cases q16 with
   | zero => exact absurd h (by simp [m_gfmatrix_Apply_l2])
   | succ q16 =>
    unfold m_gfmatrix_Apply_l2 at h
    refine WC.seqRegion fun K18 hK18 => ?_
    refine WL.yld (by decide) (Yld.lss rfl rfl) ?_
    refine WL.done (hK18 _ _ ?_)
    refine WC.seq fun K19 hK19 => ?_
    by_cases hc20 : x15 < (x01.length : Int)
    ·
     replace h := of_t hc20 h
     refine WC.condTe rfl (decide_eq_true hc20) ?_
     refine WC.skip ?_
     refine QK.thenN (hK19 _ _ ?_)
     refine WC.seq fun K21 hK21 => ?_
     refine WC.block ?_
     refine WC.seqRegion fun K22 hK22 => ?_
     obtain ⟨x23, hx23, h⟩ := bnd h
     obtain ⟨r_24, hr25, hq26⟩ := Rels.idx hq01 hx23
     refine WL.yld (by decide) (Yld.idxC (xs := rs01) sty_35 rfl rfl (RdH.memM (k := 0) rfl hf01) hr25) ?_
     refine WL.yld (by decide) (Yld.loadC0 (xs := rs01) scal_22 rfl (RdH.memM (k := 0) rfl hf01) hr25 rfl) ?_
     refine WL.yld (by decide) (Yld.assign rfl) ?_
     refine WL.done (hK22 _ _ ?_)
     refine WC.seqRegion fun K27 hK27 => ?_
     obtain ⟨x28, hx28, h⟩ := bnd h
     refine WL.yld (by decide) (Yld.move rfl) ?_
     refine WL.yld (by decide) (Yld.lenC (xs := x23) und_22 rfl (RdH.memM (k := 0) rfl hq26)) ?_
     refine WL.yld (by decide) (Yld.move rfl) ?_
     obtain ⟨r_29, hr30, hq31⟩ := Rels.idx hq01 hx28
     refine WL.yld (by decide) (Yld.idxC (xs := rs01) sty_35 rfl rfl (RdH.memM (k := 0) rfl hf01) hr30) ?_
     refine WL.yld (by decide) (Yld.loadC0 (xs := rs01) scal_22 rfl (RdH.memM (k := 0) rfl hf01) hr30 rfl) ?_
     refine WL.yld (by decide) (Yld.lenC (xs := x28) und_22 rfl (RdH.memM (k := 0) rfl hq31)) ?_
     refine WL.yld (by decide) (Yld.neqI rfl rfl) ?_
     refine WL.done (hK27 _ _ ?_)
     by_cases hc32 : (x23.length : Int) = (x28.length : Int)
     ·
      replace h := of_t hc32 h
      refine WC.condFe rfl (bne_eq_false_iff_eq.2 hc32) ?_
      refine WC.skip ?_
      refine QK.blockN ?_
      refine QK.thenN (hK21 _ _ ?_)
      refine WC.region fun K33 hK33 => ?_
      obtain ⟨x34, hx34, h⟩ := bnd h
      refine WL.yld (by decide) (Yld.addC rfl rfl hx34) ?_
      refine WL.yld (by decide) (Yld.move rfl) ?_
      refine WL.done (hK33 _ _ ?_)
      refine QK.thenN ?_
      refine hK17 ⟨q16, x34⟩ _ _ ?_ (Nat.lt_succ_self _) (Sub.cons rfl (Sub.cons rfl (Sub.cons rfl (Sub.cons rfl (Sub.cons rfl (Sub.nil _)))))) (Sub.cons rfl (Sub.cons rfl (Sub.nil _)))
      exact h
     ·
      replace h := of_f hc32 h
      refine WC.condTe rfl (bne_iff_ne.2 hc32) ?_
      refine WC.seqRegion fun K35 hK35 => ?_
      refine WL.yld (by decide) (Yld.assign rfl) ?_
      refine WL.yld (by decide) (Yld.assign rfl) ?_
      refine WL.done (hK35 _ _ ?_)
      refine WC.ret (QK.blockR (QK.thenR (QK.thenR (QK.blockR (QK.thenR ?_)))))
      refine QK.nilOwn 136 22 (Lay.sz Hdr) none ?_
      injection h with h; subst h
      exact Ret.fn [136] (ResIs.two rfl rfl rfl) rfl (Ext.refl _ _) rfl (by decide) rfl rfl ⟨none, 0, 0, ([] : List Hdr), rfl, rfl, (Rels.nil (R := (RelB (α := BitVec 8)) M0))⟩
    ·
     replace h := of_f hc20 h
     refine WC.condFe rfl (decide_eq_false hc20) ?_
     refine WC.exit (QK.thenE (QK.thenE (QK.blockX ?_)))
     refine QK.thenN ?_
     refine hK13 () _ _ ?_ (Sub.cons rfl (Sub.cons rfl (Sub.nil _))) (Sub.cons rfl (Sub.cons rfl (Sub.nil _)))
     exact h
  ·
   rintro _ h
   unfold m_gfmatrix_Apply_j1 at h
   refine WC.seqRegion fun K37 hK37 => ?_
   obtain ⟨x39, hx39, h⟩ := bnd h
   refine WL.yld (by decide) (Yld.fieldAddr Try.underlying24 rfl nz_3 rfl rfl) ?_
   refine WL.yld (by decide) (Yld.loadB (k := 102) scal_3 rfl rfl rfl) ?_
   obtain ⟨hu40, hq41⟩ := Rels.mks (R := (RelB (α := BitVec 8)) M0) (r := (⟨none, 0, 0⟩ : Hdr)) hx39 RelB.nil
   refine WL.eff (by decide) (Eff.makeC 138 (⟨none, 0, 0⟩ : Hdr) sty_35 rfl rfl rfl rfl rfl rfl hu40) ?_
   rintro _ _ ⟨g38, rfl, rfl⟩
   refine WL.yld (by decide) (Yld.assign rfl) ?_
   refine WL.done (hK37 _ _ ?_)
   refine WC.seqCut (σ := Mem × (List (List (BitVec 8))) × (List Hdr)) (fun ⟨M42, x43, rs44⟩ => [(8, .slice (some ⟨g38, 0, none⟩) ((List.replicate (x00_0).toNat (⟨none, 0, 0⟩ : Hdr)).length) ((List.replicate (x00_0).toNat (⟨none, 0, 0⟩ : Hdr)).length))]) (fun ⟨M42, x43, rs44⟩ => [(0, .mem M42), (138, .own 22 (Lay.sz Hdr) (some ⟨g38, 0, none⟩) ((List.replicate (x00_0).toNat (⟨none, 0, 0⟩ : Hdr)).length) ((List.replicate (x00_0).toNat (⟨none, 0, 0⟩ : Hdr)).length) (cel rs44))]) (fun ⟨M42, x43, rs44⟩ => m_gfmatrix_Apply_j3 x43 = some res ∧ Ext w0.heap.size M0 M42 ∧ Rels ((RelB (α := BitVec 8)) M42) rs44 x43) (fun K46 hK46 => ?_) ?_
   ·
    skip
    refine WC.seqRegion fun K47 hK47 => ?_
    refine WL.yld (by decide) (Yld.move rfl) ?_
    refine WL.yld (by decide) (Yld.lenD (rs := (List.replicate (x00_0).toNat (⟨none, 0, 0⟩ : Hdr))) (xs := x39) (Rels.len hq41) und_35 rfl (RdH.own (k := 138) rfl)) ?_
    refine WL.yld (by decide) (Yld.move rfl) ?_
    refine WL.done (hK47 _ _ ?_)
    refine WC.block ?_
    refine WC.loop (σ := Nat × Mem × (List (List (BitVec 8))) × (List Hdr) × Int) (fun ⟨q53, M48, x49, rs50, x52⟩ => [(1, .slice A01 n01 c01), (2, .pointer (some ⟨g2, 0, none⟩)), (8, .slice (some ⟨g38, 0, none⟩) ((List.replicate (x00_0).toNat (⟨none, 0, 0⟩ : Hdr)).length) ((List.replicate (x00_0).toNat (⟨none, 0, 0⟩ : Hdr)).length)), (40, I64 (x39.length : Int)), (41, I64 x52)]) (fun ⟨q53, M48, x49, rs50, x52⟩ => [(0, .mem M48), (102, .blk g2 24 [I64 x00_0, I64 x00_1, .slice A00_2 n00_2 c00_2]), (138, .own 22 (Lay.sz Hdr) (some ⟨g38, 0, none⟩) ((List.replicate (x00_0).toNat (⟨none, 0, 0⟩ : Hdr)).length) ((List.replicate (x00_0).toNat (⟨none, 0, 0⟩ : Hdr)).length) (cel rs50))]) (fun ⟨q53, M48, x49, rs50, x52⟩ => m_gfmatrix_Apply_l4 x00_0 x00_1 x00_2 x01 x39 q53 x49 x52 = some res ∧ Ext w0.heap.size M0 M48 ∧ Rels ((RelB (α := BitVec 8)) M48) rs50 x49) (fun ⟨q53, M48, x49, rs50, x52⟩ => q53) ⟨forever, M0, x39, (List.replicate (x00_0).toNat (⟨none, 0, 0⟩ : Hdr)), (0 : Int)⟩ ?_ (Sub.cons rfl (Sub.cons rfl (Sub.cons rfl (Sub.cons rfl (Sub.cons rfl (Sub.nil _)))))) (Sub.cons rfl (Sub.cons rfl (Sub.cons rfl (Sub.nil _)))) ?_
    ·
     exact ⟨h, (Ext.refl _ _), hq41⟩
    rintro ⟨q53, M48, x49, rs50, x52⟩ ⟨h, hm_M48, hq51⟩ K54 hK54
    cases q53 with
    | zero => exact absurd h (by simp [m_gfmatrix_Apply_l4])
    | succ q53 =>
     unfold m_gfmatrix_Apply_l4 at h
     refine WC.seqRegion fun K55 hK55 => ?_
     refine WL.yld (by decide) (Yld.lss rfl rfl) ?_
     refine WL.done (hK55 _ _ ?_)
     refine WC.seq fun K56 hK56 => ?_
     by_cases hc57 : x52 < (x39.length : Int)
     ·
      replace h := of_t hc57 h
      refine WC.condTe rfl (decide_eq_true hc57) ?_
      refine WC.skip ?_
      refine QK.thenN (hK56 _ _ ?_)
      refine WC.seqCut (σ := Mem × (List (List (BitVec 8))) × (List Hdr)) (fun ⟨M58, x59, rs60⟩ => [(1, .slice A01 n01 c01), (2, .pointer (some ⟨g2, 0, none⟩)), (8, .slice (some ⟨g38, 0, none⟩) ((List.replicate (x00_0).toNat (⟨none, 0, 0⟩ : Hdr)).length) ((List.replicate (x00_0).toNat (⟨none, 0, 0⟩ : Hdr)).length)), (40, I64 (x39.length : Int)), (41, I64 x52)]) (fun ⟨M58, x59, rs60⟩ => [(0, .mem M58), (102, .blk g2 24 [I64 x00_0, I64 x00_1, .slice A00_2 n00_2 c00_2]), (138, .own 22 (Lay.sz Hdr) (some ⟨g38, 0, none⟩) ((List.replicate (x00_0).toNat (⟨none, 0, 0⟩ : Hdr)).length) ((List.replicate (x00_0).toNat (⟨none, 0, 0⟩ : Hdr)).length) (cel rs60))]) (fun ⟨M58, x59, rs60⟩ => m_gfmatrix_Apply_j5 x52 (m_gfmatrix_Apply_l4 x00_0 x00_1 x00_2 x01 x39 q53) x59 = some res ∧ Ext w0.heap.size M48 M58 ∧ Rels ((RelB (α := BitVec 8)) M58) rs60 x59) (fun K62 hK62 => ?_) ?_
      ·
       skip
       refine WC.block ?_
       refine WC.seqRegion fun K63 hK63 => ?_
       refine WL.yld (by decide) (Yld.move rfl) ?_
       refine WL.yld (by decide) (Yld.assign rfl) ?_
       refine WL.done (hK63 _ _ ?_)
       refine WC.seqRegion fun K64 hK64 => ?_
       obtain ⟨x65, hx65, h⟩ := bnd h
       obtain ⟨x70, hx70, h⟩ := bnd h
       obtain ⟨x71, hx71, h⟩ := bnd h
       obtain ⟨x77, hx77, h⟩ := bnd h
       refine WL.yld (by decide) (Yld.move rfl) ?_
       refine WL.yld (by decide) (Yld.move rfl) ?_
       refine WL.yld (by decide) (Yld.move rfl) ?_
       obtain ⟨r_66, hr67, hq68⟩ := Rels.idx (Rels.lift hq01 hm_M48) hx65
       refine WL.yld (by decide) (Yld.idxC (xs := rs01) sty_35 rfl rfl (RdH.memM (k := 0) rfl (SlRc.lift hf01 hm_M48)) hr67) ?_
       refine WL.yld (by decide) (Yld.loadC0 (xs := rs01) scal_22 rfl (RdH.memM (k := 0) rfl (SlRc.lift hf01 hm_M48)) hr67 rfl) ?_
       refine WL.yld (by decide) (Yld.lenC (xs := x65) und_22 rfl (RdH.memM (k := 0) rfl hq68)) ?_
       refine WL.eff (by decide) (Eff.makeC 169 0#8 sty_22 rfl rfl rfl rfl rfl rfl hx70) ?_
       rintro _ _ ⟨g69, rfl, rfl⟩
       obtain ⟨r_72, hr73, hq74⟩ := Rels.idx hq51 hx71
       refine WL.yld (by decide) (Yld.idxC (xs := rs50) sty_35 rfl rfl (RdH.own (k := 138) rfl) hr73) ?_
       refine WL.freeze 169 rfl rfl rfl fun M75 hm_M75 hf76 => ?_
       obtain ⟨hu78, hq79⟩ := Rels.upd (r := (⟨(some ⟨g69, 0, none⟩), x70.length, x70.length⟩ : Hdr)) (Rels.lift hq51 hm_M75) hx77 hf76
       refine WL.eff0 (Eff0.storeC1 138 (xs := rs50) (a' := (⟨(some ⟨g69, 0, none⟩), x70.length, x70.length⟩ : Hdr)) siz_22 rfl rfl rfl rfl rfl rfl hu78) ?_
       refine WL.done (hK64 _ _ ?_)
       refine WC.seqRegion fun K80 hK80 => ?_
       refine WL.yld (by decide) (Yld.move rfl) ?_
       refine WL.yld (by decide) (Yld.lenD (rs := rs01) (xs := x01) (Rels.len (Rels.lift (Rels.lift hq01 hm_M48) hm_M75)) und_35 rfl (RdH.memM (k := 0) rfl (SlRc.lift (SlRc.lift hf01 hm_M48) hm_M75))) ?_
       refine WL.yld (by decide) (Yld.move rfl) ?_
       refine WL.done (hK80 _ _ ?_)
       refine WC.block ?_
       refine WC.loop (σ := Nat × Mem × (List (List (BitVec 8))) × (List Hdr) × Int) (fun ⟨q86, M81, x82, rs83, x85⟩ => [(1, .slice A01 n01 c01), (2, .pointer (some ⟨g2, 0, none⟩)), (8, .slice (some ⟨g38, 0, none⟩) ((List.replicate (x00_0).toNat (⟨none, 0, 0⟩ : Hdr)).length) ((List.replicate (x00_0).toNat (⟨none, 0, 0⟩ : Hdr)).length)), (9, I64 x52), (40, I64 (x39.length : Int)), (41, I64 x52), (52, .slice A01 n01 c01), (53, I64 (x01.length : Int)), (54, I64 x85)]) (fun ⟨q86, M81, x82, rs83, x85⟩ => [(0, .mem M81), (102, .blk g2 24 [I64 x00_0, I64 x00_1, .slice A00_2 n00_2 c00_2]), (138, .own 22 (Lay.sz Hdr) (some ⟨g38, 0, none⟩) ((List.replicate (x00_0).toNat (⟨none, 0, 0⟩ : Hdr)).length) ((List.replicate (x00_0).toNat (⟨none, 0, 0⟩ : Hdr)).length) (cel rs83))]) (fun ⟨q86, M81, x82, rs83, x85⟩ => m_gfmatrix_Apply_l6 x00_0 x00_1 x00_2 x01 x52 (m_gfmatrix_Apply_l4 x00_0 x00_1 x00_2 x01 x39 q53) q86 x82 x85 = some res ∧ Ext w0.heap.size M75 M81 ∧ Rels ((RelB (α := BitVec 8)) M81) rs83 x82) (fun ⟨q86, M81, x82, rs83, x85⟩ => q86) ⟨forever, M75, x77, (rs50.set (x52).toNat (⟨(some ⟨g69, 0, none⟩), x70.length, x70.length⟩ : Hdr)), (0 : Int)⟩ ?_ (Sub.cons rfl (Sub.cons rfl (Sub.cons rfl (Sub.cons rfl (Sub.cons rfl (Sub.cons rfl (Sub.cons rfl (Sub.cons rfl (Sub.cons rfl (Sub.nil _)))))))))) (Sub.cons rfl (Sub.cons rfl (Sub.cons rfl (Sub.nil _)))) ?_
       ·
        exact ⟨h, (Ext.refl _ _), hq79⟩
       rintro ⟨q86, M81, x82, rs83, x85⟩ ⟨h, hm_M81, hq84⟩ K87 hK87
       cases q86 with
       | zero => exact absurd h (by simp [m_gfmatrix_Apply_l6])
       | succ q86 =>
        unfold m_gfmatrix_Apply_l6 at h
        refine WC.seqRegion fun K88 hK88 => ?_
        refine WL.yld (by decide) (Yld.lss rfl rfl) ?_
        refine WL.done (hK88 _ _ ?_)
        refine WC.seq fun K89 hK89 => ?_
        by_cases hc90 : x85 < (x01.length : Int)
        ·
         replace h := of_t hc90 h
         refine WC.condTe rfl (decide_eq_true hc90) ?_
         refine WC.skip ?_
         refine QK.thenN (hK89 _ _ ?_)
         refine WC.seq fun K91 hK91 => ?_
         refine WC.block ?_
         refine WC.seqRegion fun K92 hK92 => ?_
         obtain ⟨x93, hx93, h⟩ := bnd h
         refine WL.yld (by decide) (Yld.move rfl) ?_
         obtain ⟨r_94, hr95, hq96⟩ := Rels.idx (Rels.lift (Rels.lift (Rels.lift hq01 hm_M48) hm_M75) hm_M81) hx93
         refine WL.yld (by decide) (Yld.idxC (xs := rs01) sty_35 rfl rfl (RdH.memM (k := 0) rfl (SlRc.lift (SlRc.lift (SlRc.lift hf01 hm_M48) hm_M75) hm_M81)) hr95) ?_
         refine WL.yld (by decide) (Yld.loadC0 (xs := rs01) scal_22 rfl (RdH.memM (k := 0) rfl (SlRc.lift (SlRc.lift (SlRc.lift hf01 hm_M48) hm_M75) hm_M81)) hr95 rfl) ?_
         refine WL.yld (by decide) (Yld.assign rfl) ?_
         refine WL.yld (by decide) (Yld.assign rfl) ?_
         refine WL.done (hK92 _ _ ?_)
         refine WC.regionD (n := 17) [(102, _)] rfl mixed (Sub.cons rfl (Sub.nil _)) fun K97 hK97 => ?_
         obtain ⟨x98, hx98, h⟩ := bnd h
         obtain ⟨x102, hx102, h⟩ := bnd h
         obtain ⟨x104, hx104, h⟩ := bnd h
         obtain ⟨x112, hx112, h⟩ := bnd h
         obtain ⟨x118, hx118, h⟩ := bnd h
         refine WD.take 0 rfl (by kernel_rfl) (by kernel_rfl) (by kernel_rfl) (by decide) (Yld.move rfl) ?_
         refine WD.take 1 rfl (by kernel_rfl) (by kernel_rfl) (by kernel_rfl) (by decide) (Yld.move rfl) ?_
         refine WD.take 2 rfl (by kernel_rfl) (by kernel_rfl) (by kernel_rfl) (by decide) (Yld.move rfl) ?_
         refine WD.take 3 rfl (by kernel_rfl) (by kernel_rfl) (by kernel_rfl) (by decide) (Yld.move rfl) ?_
         refine WD.take 6 rfl (by kernel_rfl) (by kernel_rfl) (by kernel_rfl) (by decide) (Yld.move rfl) ?_
         refine WD.take 7 rfl (by kernel_rfl) (by kernel_rfl) (by kernel_rfl) (by decide) (Yld.loadBM (k := 102) agg_24 rfl rfl rfl) ?_
         refine WD.take 8 rfl (by kernel_rfl) (by kernel_rfl) (by kernel_rfl) (by decide) (Yld.move rfl) ?_
         refine WD.take 9 rfl (by kernel_rfl) (by kernel_rfl) (by kernel_rfl) (by decide) (Yld.move rfl) ?_
         refine WD.two 4 10 (by kernel_rfl) ?_ ?_
         ·
          skip
          obtain ⟨r_99, hr100, hq101⟩ := Rels.idx hq84 hx98
          refine WS.yld rfl (by decide) (Yld.idxC (xs := rs83) sty_35 rfl rfl (RdH.own (k := 138) rfl) hr100) ?_
          refine WD.two 5 10 (by kernel_rfl) ?_ ?_
          ·
           skip
           refine WS.yld rfl (by decide) (Yld.loadC0 (xs := rs83) scal_22 rfl (RdH.own (k := 138) rfl) hr100 rfl) ?_
           refine WD.one 10 (by kernel_rfl) ?_
           refine WS.eff rfl (by decide) (Eff.callS 203 rfl Try.func40 nm_40 rfl rfl (fun w hb hh => w_gfmatrix_Matrix_at (Mem.snap w) x00_0 x00_1 A00_2 n00_2 c00_2 _ (RdH.sn (RdH.memM (k := 0) rfl (SlRc.lift (SlRc.lift (SlRc.lift hf00_2 hm_M48) hm_M75) hm_M81)) w hb hh) x52 x85 hx102)) ?_
           rintro _ _ ⟨_, ⟨rfl, rfl⟩, rfl⟩
           refine ⟨(Sub.cons rfl (Sub.nil _)), ?_⟩
           refine WD.one 11 (by kernel_rfl) ?_
           refine WS.eff rfl (by decide) (Eff.callS 208 rfl Try.func63 nm_63 rfl rfl (fun w hb hh => w_gf256_MulAdd (Mem.snap w) r_99.A r_99.n r_99.c _ (RdH.sn (RdH.memM (k := 0) rfl hq101) w hb hh) r_94.A r_94.n r_94.c _ (RdH.sn (RdH.memM (k := 0) rfl hq96) w hb hh) x102 hx104)) ?_
           rintro _ _ ⟨_, ⟨A109, n110, c111, rfl, rfl⟩, rfl⟩
           refine ⟨(Sub.cons rfl (Sub.nil _)), ?_⟩
           refine WD.take 12 rfl (by kernel_rfl) (by kernel_rfl) (by kernel_rfl) (by decide) (Yld.move rfl) ?_
           refine WD.take 13 rfl (by kernel_rfl) (by kernel_rfl) (by kernel_rfl) (by decide) (Yld.extract rfl rfl) ?_
           refine WD.take 14 rfl (by kernel_rfl) (by kernel_rfl) (by kernel_rfl) (by decide) (Yld.extract rfl rfl) ?_
           refine WD.one 15 (by kernel_rfl) ?_
           obtain ⟨r_113, hr114, hq115⟩ := Rels.idx hq84 hx112
           refine WS.yld rfl (by decide) (Yld.idxC (xs := rs83) sty_35 rfl rfl (RdH.own (k := 138) rfl) hr114) ?_
           refine WD.one 16 (by kernel_rfl) ?_
           refine WS.freeze 208 rfl rfl rfl rfl rfl fun M116 hm_M116 hf117 => ?_
           obtain ⟨hu119, hq120⟩ := Rels.upd (r := (⟨A109, n110, c111⟩ : Hdr)) (Rels.lift hq84 hm_M116) hx118 hf117
           refine WS.eff0 rfl (Eff0.storeC1 138 (xs := rs83) (a' := (⟨A109, n110, c111⟩ : Hdr)) siz_22 rfl rfl rfl rfl rfl rfl hu119) (Sub.cons rfl (Sub.nil _)) ?_
           refine WD.done (by kernel_rfl) (hK97 _ _ ?_)
           refine QK.blockN ?_
           refine QK.thenN (hK91 _ _ ?_)
           refine WC.region fun K121 hK121 => ?_
           obtain ⟨x122, hx122, h⟩ := bnd h
           refine WL.yld (by decide) (Yld.addC rfl rfl hx122) ?_
           refine WL.yld (by decide) (Yld.move rfl) ?_
           refine WL.done (hK121 _ _ ?_)
           refine QK.thenN ?_
           refine hK87 ⟨q86, M116, x118, (rs83.set (x52).toNat (⟨A109, n110, c111⟩ : Hdr)), x122⟩ _ _ ?_ (Nat.lt_succ_self _) (Sub.cons rfl (Sub.cons rfl (Sub.cons rfl (Sub.cons rfl (Sub.cons rfl (Sub.cons rfl (Sub.cons rfl (Sub.cons rfl (Sub.cons rfl (Sub.nil _)))))))))) (Sub.cons rfl (Sub.cons rfl (Sub.cons rfl (Sub.nil _))))
           exact ⟨h, (Ext.trans hm_M81 hm_M116), hq120⟩
          ·
           skip
           refine WS.eff rfl (by decide) (Eff.callS 203 rfl Try.func40 nm_40 rfl rfl (fun w hb hh => w_gfmatrix_Matrix_at (Mem.snap w) x00_0 x00_1 A00_2 n00_2 c00_2 _ (RdH.sn (RdH.memM (k := 0) rfl (SlRc.lift (SlRc.lift (SlRc.lift hf00_2 hm_M48) hm_M75) hm_M81)) w hb hh) x52 x85 hx102)) ?_
           rintro _ _ ⟨_, ⟨rfl, rfl⟩, rfl⟩
           refine ⟨(Sub.cons rfl (Sub.nil _)), ?_⟩
           refine WD.one 5 (by kernel_rfl) ?_
           refine WS.yld rfl (by decide) (Yld.loadC0 (xs := rs83) scal_22 rfl (RdH.own (k := 138) rfl) hr100 rfl) ?_
           refine WD.one 11 (by kernel_rfl) ?_
           refine WS.eff rfl (by decide) (Eff.callS 208 rfl Try.func63 nm_63 rfl rfl (fun w hb hh => w_gf256_MulAdd (Mem.snap w) r_99.A r_99.n r_99.c _ (RdH.sn (RdH.memM (k := 0) rfl hq101) w hb hh) r_94.A r_94.n r_94.c _ (RdH.sn (RdH.memM (k := 0) rfl hq96) w hb hh) x102 hx104)) ?_
           rintro _ _ ⟨_, ⟨A109, n110, c111, rfl, rfl⟩, rfl⟩
           refine ⟨(Sub.cons rfl (Sub.nil _)), ?_⟩
           refine WD.take 12 rfl (by kernel_rfl) (by kernel_rfl) (by kernel_rfl) (by decide) (Yld.move rfl) ?_
           refine WD.take 13 rfl (by kernel_rfl) (by kernel_rfl) (by kernel_rfl) (by decide) (Yld.extract rfl rfl) ?_
           refine WD.take 14 rfl (by kernel_rfl) (by kernel_rfl) (by kernel_rfl) (by decide) (Yld.extract rfl rfl) ?_
           refine WD.one 15 (by kernel_rfl) ?_
           obtain ⟨r_113, hr114, hq115⟩ := Rels.idx hq84 hx112
           refine WS.yld rfl (by decide) (Yld.idxC (xs := rs83) sty_35 rfl rfl (RdH.own (k := 138) rfl) hr114) ?_
           refine WD.one 16 (by kernel_rfl) ?_
           refine WS.freeze 208 rfl rfl rfl rfl rfl fun M116 hm_M116 hf117 => ?_
           obtain ⟨hu119, hq120⟩ := Rels.upd (r := (⟨A109, n110, c111⟩ : Hdr)) (Rels.lift hq84 hm_M116) hx118 hf117
           refine WS.eff0 rfl (Eff0.storeC1 138 (xs := rs83) (a' := (⟨A109, n110, c111⟩ : Hdr)) siz_22 rfl rfl rfl rfl rfl rfl hu119) (Sub.cons rfl (Sub.nil _)) ?_
           refine WD.done (by kernel_rfl) (hK97 _ _ ?_)
           refine QK.blockN ?_
           refine QK.thenN (hK91 _ _ ?_)
           refine WC.region fun K123 hK123 => ?_
           obtain ⟨x124, hx124, h⟩ := bnd h
           refine WL.yld (by decide) (Yld.addC rfl rfl hx124) ?_
           refine WL.yld (by decide) (Yld.move rfl) ?_
           refine WL.done (hK123 _ _ ?_)
           refine QK.thenN ?_
           refine hK87 ⟨q86, M116, x118, (rs83.set (x52).toNat (⟨A109, n110, c111⟩ : Hdr)), x124⟩ _ _ ?_ (Nat.lt_succ_self _) (Sub.cons rfl (Sub.cons rfl (Sub.cons rfl (Sub.cons rfl (Sub.cons rfl (Sub.cons rfl (Sub.cons rfl (Sub.cons rfl (Sub.cons rfl (Sub.nil _)))))))))) (Sub.cons rfl (Sub.cons rfl (Sub.cons rfl (Sub.nil _))))
           exact ⟨h, (Ext.trans hm_M81 hm_M116), hq120⟩
         ·
          skip
          refine WS.eff rfl (by decide) (Eff.callS 203 rfl Try.func40 nm_40 rfl rfl (fun w hb hh => w_gfmatrix_Matrix_at (Mem.snap w) x00_0 x00_1 A00_2 n00_2 c00_2 _ (RdH.sn (RdH.memM (k := 0) rfl (SlRc.lift (SlRc.lift (SlRc.lift hf00_2 hm_M48) hm_M75) hm_M81)) w hb hh) x52 x85 hx102)) ?_
          rintro _ _ ⟨_, ⟨rfl, rfl⟩, rfl⟩
          refine ⟨(Sub.cons rfl (Sub.nil _)), ?_⟩
          refine WD.one 4 (by kernel_rfl) ?_
          obtain ⟨r_99, hr100, hq101⟩ := Rels.idx hq84 hx98
          refine WS.yld rfl (by decide) (Yld.idxC (xs := rs83) sty_35 rfl rfl (RdH.own (k := 138) rfl) hr100) ?_
          refine WD.one 5 (by kernel_rfl) ?_
          refine WS.yld rfl (by decide) (Yld.loadC0 (xs := rs83) scal_22 rfl (RdH.own (k := 138) rfl) hr100 rfl) ?_
          refine WD.one 11 (by kernel_rfl) ?_
          refine WS.eff rfl (by decide) (Eff.callS 208 rfl Try.func63 nm_63 rfl rfl (fun w hb hh => w_gf256_MulAdd (Mem.snap w) r_99.A r_99.n r_99.c _ (RdH.sn (RdH.memM (k := 0) rfl hq101) w hb hh) r_94.A r_94.n r_94.c _ (RdH.sn (RdH.memM (k := 0) rfl hq96) w hb hh) x102 hx104)) ?_
          rintro _ _ ⟨_, ⟨A109, n110, c111, rfl, rfl⟩, rfl⟩
          refine ⟨(Sub.cons rfl (Sub.nil _)), ?_⟩
          refine WD.take 12 rfl (by kernel_rfl) (by kernel_rfl) (by kernel_rfl) (by decide) (Yld.move rfl) ?_
          refine WD.take 13 rfl (by kernel_rfl) (by kernel_rfl) (by kernel_rfl) (by decide) (Yld.extract rfl rfl) ?_
          refine WD.take 14 rfl (by kernel_rfl) (by kernel_rfl) (by kernel_rfl) (by decide) (Yld.extract rfl rfl) ?_
          refine WD.one 15 (by kernel_rfl) ?_
          obtain ⟨r_113, hr114, hq115⟩ := Rels.idx hq84 hx112
          refine WS.yld rfl (by decide) (Yld.idxC (xs := rs83) sty_35 rfl rfl (RdH.own (k := 138) rfl) hr114) ?_
          refine WD.one 16 (by kernel_rfl) ?_
          refine WS.freeze 208 rfl rfl rfl rfl rfl fun M116 hm_M116 hf117 => ?_
          obtain ⟨hu119, hq120⟩ := Rels.upd (r := (⟨A109, n110, c111⟩ : Hdr)) (Rels.lift hq84 hm_M116) hx118 hf117
          refine WS.eff0 rfl (Eff0.storeC1 138 (xs := rs83) (a' := (⟨A109, n110, c111⟩ : Hdr)) siz_22 rfl rfl rfl rfl rfl rfl hu119) (Sub.cons rfl (Sub.nil _)) ?_
          refine WD.done (by kernel_rfl) (hK97 _ _ ?_)
          refine QK.blockN ?_
          refine QK.thenN (hK91 _ _ ?_)
          refine WC.region fun K125 hK125 => ?_
          obtain ⟨x126, hx126, h⟩ := bnd h
          refine WL.yld (by decide) (Yld.addC rfl rfl hx126) ?_
          refine WL.yld (by decide) (Yld.move rfl) ?_
          refine WL.done (hK125 _ _ ?_)
          refine QK.thenN ?_
          refine hK87 ⟨q86, M116, x118, (rs83.set (x52).toNat (⟨A109, n110, c111⟩ : Hdr)), x126⟩ _ _ ?_ (Nat.lt_succ_self _) (Sub.cons rfl (Sub.cons rfl (Sub.cons rfl (Sub.cons rfl (Sub.cons rfl (Sub.cons rfl (Sub.cons rfl (Sub.cons rfl (Sub.cons rfl (Sub.nil _)))))))))) (Sub.cons rfl (Sub.cons rfl (Sub.cons rfl (Sub.nil _))))
          exact ⟨h, (Ext.trans hm_M81 hm_M116), hq120⟩
        ·
         replace h := of_f hc90 h
         refine WC.condFe rfl (decide_eq_false hc90) ?_
         refine WC.exit (QK.thenE (QK.thenE (QK.blockX ?_)))
         refine QK.blockN ?_
         refine QK.thenN ?_
         refine hK62 ⟨M81, x82, rs83⟩ _ _ ?_ (Sub.cons rfl (Sub.cons rfl (Sub.cons rfl (Sub.cons rfl (Sub.cons rfl (Sub.nil _)))))) (Sub.cons rfl (Sub.cons rfl (Sub.cons rfl (Sub.nil _))))
         exact ⟨h, (Ext.trans hm_M75 hm_M81), hq84⟩
      ·
       rintro ⟨M58, x59, rs60⟩ ⟨h, hm_M58, hq61⟩
       unfold m_gfmatrix_Apply_j5 at h
       refine WC.region fun K127 hK127 => ?_
       obtain ⟨x128, hx128, h⟩ := bnd h
       refine WL.yld (by decide) (Yld.addC rfl rfl hx128) ?_
       refine WL.yld (by decide) (Yld.move rfl) ?_
       refine WL.done (hK127 _ _ ?_)
       refine QK.thenN ?_
       refine hK54 ⟨q53, M58, x59, rs60, x128⟩ _ _ ?_ (Nat.lt_succ_self _) (Sub.cons rfl (Sub.cons rfl (Sub.cons rfl (Sub.cons rfl (Sub.cons rfl (Sub.nil _)))))) (Sub.cons rfl (Sub.cons rfl (Sub.cons rfl (Sub.nil _))))
       exact ⟨h, (Ext.trans hm_M48 hm_M58), hq61⟩
     ·
      replace h := of_f hc57 h
      refine WC.condFe rfl (decide_eq_false hc57) ?_
      refine WC.exit (QK.thenE (QK.thenE (QK.blockX ?_)))
      refine QK.thenN ?_
      refine hK46 ⟨M48, x49, rs50⟩ _ _ ?_ (Sub.cons rfl (Sub.nil _)) (Sub.cons rfl (Sub.cons rfl (Sub.nil _)))
      exact ⟨h, hm_M48, hq51⟩
   ·
    rintro ⟨M42, x43, rs44⟩ ⟨h, hm_M42, hq45⟩
    unfold m_gfmatrix_Apply_j3 at h
    refine WC.seqRegion fun K129 hK129 => ?_
    refine WL.yld (by decide) (Yld.move rfl) ?_
    refine WL.yld (by decide) (Yld.assign rfl) ?_
    refine WL.yld (by decide) (Yld.assign rfl) ?_
    refine WL.done (hK129 _ _ ?_)
    refine WC.ret ?_
    injection h with h; subst h
    exact Ret.fn [138] (ResIs.two rfl rfl rfl) rfl hm_M42 rfl (by decide) rfl rfl ⟨(some ⟨g38, 0, none⟩), (List.replicate (x00_0).toNat (⟨none, 0, 0⟩ : Hdr)).length, (List.replicate (x00_0).toNat (⟨none, 0, 0⟩ : Hdr)).length, rs44, rfl, rfl, hq45⟩

end Go.Proofs.Ytnbcphofimicdaa
