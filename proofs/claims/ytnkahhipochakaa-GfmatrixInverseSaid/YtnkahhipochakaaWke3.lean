/-
  Walks (e3): what a function's model gives, the function returns. Printed by a program of ours (vcm.py) from the function's operations. Conditions: as each theorem says.
-/
import Derived.Test.YtnkahhipochakaaWkc
import Derived.Test.YtnkahhipochakaaWkd
import Derived.Test.YtnkahhipochakaaMde3
namespace Go.Proofs.Ytnkahhipochakaa
open Go Go.RowKit
set_option linter.unusedVariables false

theorem nm_13 : (Try.f13.name == "runtime.NumGoroutine") = false := by kernel_rfl
theorem nm_24 : (Try.f24.name == "runtime.NumGoroutine") = false := by kernel_rfl
theorem nm_30 : (Try.f30.name == "runtime.NumGoroutine") = false := by kernel_rfl
theorem nm_31 : (Try.f31.name == "runtime.NumGoroutine") = false := by kernel_rfl

set_option maxRecDepth 10000 in
theorem w_law03_GfmatrixInverse (M0 : Mem) (x00 : Int) (A01 : Option Addr) (n01 c01 : Nat) (x01 : List (BitVec 8)) (hf01 : SlT M0 A01 n01 c01 x01) {res : Bool} (h : m_law03_GfmatrixInverse x00 x01 = some res) :
    Fn Try.prog 8 #[I64 x00, .slice A01 n01 c01] M0 fun r M' es => r = .bool res ∧ es = [] := by
  refine Fn.intro (N := 87) Try.func8 rfl rfl (Nat.le_of_ble_eq_true rfl) fun w0 => ?_
  unfold m_law03_GfmatrixInverse at h
  refine WC.seqRegion fun K1 hK1 => ?_
  refine WL.yld (by decide) (Yld.assign rfl) ?_
  refine WL.done (hK1 _ _ ?_)
  refine WC.seqRegion fun K2 hK2 => ?_
  obtain ⟨x3, hx3, h⟩ := bnd h
  refine WL.yld (by decide) (Yld.move rfl) ?_
  refine WL.yld (by decide) (Yld.move rfl) ?_
  refine WL.yld (by decide) (Yld.move rfl) ?_
  refine WL.eff (by decide) (Eff.callS 107 rfl Try.func24 nm_24 rfl rfl (fun w hb hh => w_law03_made (Mem.snap w) x00 x00 A01 n01 c01 _ (RdH.sn (RdH.memM (k := 0) rfl hf01) w hb hh) hx3)) ?_
  rintro _ _ ⟨_, ⟨A8, n9, c10, rfl, rfl⟩, rfl⟩
  refine WL.eff (by decide) (Eff.alloc 111 rfl zr_27) ?_
  rintro _ _ ⟨g11, rfl, rfl⟩
  refine WL.eff0 (Eff0.storeBAM 111 agg_27 rfl rfl rfl ⟨rfl, rfl⟩ rfl) ?_
  refine WL.done (hK2 _ _ ?_)
  refine WC.seqRegion fun K12 hK12 => ?_
  obtain ⟨x13, hx13, h⟩ := bnd h
  refine WL.yld (by decide) (Yld.loadBM (k := 111) agg_27 rfl rfl rfl) ?_
  refine WL.eff (by decide) (Eff.callS 117 rfl Try.func22 nm_22 rfl rfl (fun w hb hh => w_gfmatrix_Invert (Mem.snap w) x3.1 x3.2.1 A8 n9 c10 _ (RdH.sn (RdH.own (k := 107) rfl) w hb hh) hx13)) ?_
  rintro _ _ ⟨_, ⟨A18, n19, c20, rfl, rfl⟩, rfl⟩
  refine WL.yld (by decide) (Yld.move rfl) ?_
  refine WL.yld (by decide) (Yld.extract rfl rfl) ?_
  refine WL.yld (by decide) (Yld.extract rfl rfl) ?_
  refine WL.eff (by decide) (Eff.alloc 121 rfl zr_27) ?_
  rintro _ _ ⟨g21, rfl, rfl⟩
  refine WL.eff0 (Eff0.storeBAM 121 agg_27 rfl rfl rfl ⟨rfl, rfl⟩ rfl) ?_
  refine WL.yld (by decide) (Yld.assign rfl) ?_
  refine WL.done (hK12 _ _ ?_)
  refine WC.seq fun K22 hK22 => ?_
  refine WC.seqRegion fun K23 hK23 => ?_
  refine WL.yld (by decide) (Yld.move rfl) ?_
  refine WL.yld (by decide) (Yld.neqI rfl rfl) ?_
  refine WL.done (hK23 _ _ ?_)
  by_cases hc24 : x13.2.2.2 = (0 : Int)
  · replace h := of_t hc24 h
    refine WC.condFe rfl (bne_eq_false_iff_eq.2 hc24) ?_
    refine WC.skip ?_
    refine QK.thenN (hK22 _ _ ?_)
    refine WC.seqRegion fun K25 hK25 => ?_
    obtain ⟨x26, hx26, h⟩ := bnd h
    refine WL.yld (by decide) (Yld.fieldAddr Try.underlying27 rfl nz_3 rfl rfl) ?_
    refine WL.yld (by decide) (Yld.loadB (k := 111) scal_3 rfl rfl rfl) ?_
    refine WL.eff (by decide) (Eff.callS 130 rfl Try.func14 nm_14 rfl rfl (fun w hb hh => w_gfmatrix_Identity (Mem.snap w) x3.1 hx26)) ?_
    rintro _ _ ⟨_, ⟨A31, n32, c33, rfl, rfl⟩, rfl⟩
    refine WL.yld (by decide) (Yld.move rfl) ?_
    refine WL.yld (by decide) (Yld.extract rfl rfl) ?_
    refine WL.yld (by decide) (Yld.extract rfl rfl) ?_
    refine WL.eff (by decide) (Eff.alloc 134 rfl zr_27) ?_
    rintro _ _ ⟨g34, rfl, rfl⟩
    refine WL.eff0 (Eff0.storeBAM 134 agg_27 rfl rfl rfl ⟨rfl, rfl⟩ rfl) ?_
    refine WL.yld (by decide) (Yld.assign rfl) ?_
    refine WL.done (hK25 _ _ ?_)
    refine WC.seqRegion fun K35 hK35 => ?_
    obtain ⟨x36, hx36, h⟩ := bnd h
    refine WL.yld (by decide) (Yld.loadBM (k := 111) agg_27 rfl rfl rfl) ?_
    refine WL.yld (by decide) (Yld.loadBM (k := 121) agg_27 rfl rfl rfl) ?_
    refine WL.eff (by decide) (Eff.callS 140 rfl Try.func30 nm_30 rfl rfl (fun w hb hh => w_gfmatrix_Mul (Mem.snap w) x3.1 x3.2.1 A8 n9 c10 _ (RdH.sn (RdH.own (k := 107) rfl) w hb hh) x13.1 x13.2.1 A18 n19 c20 _ (RdH.sn (RdH.own (k := 117) rfl) w hb hh) hx36)) ?_
    rintro _ _ ⟨_, ⟨A41, n42, c43, rfl, rfl⟩, rfl⟩
    refine WL.yld (by decide) (Yld.move rfl) ?_
    refine WL.yld (by decide) (Yld.extract rfl rfl) ?_
    refine WL.yld (by decide) (Yld.extract rfl rfl) ?_
    refine WL.eff (by decide) (Eff.alloc 144 rfl zr_27) ?_
    rintro _ _ ⟨g44, rfl, rfl⟩
    refine WL.eff0 (Eff0.storeBAM 144 agg_27 rfl rfl rfl ⟨rfl, rfl⟩ rfl) ?_
    refine WL.yld (by decide) (Yld.assign rfl) ?_
    refine WL.done (hK35 _ _ ?_)
    refine WC.seqRegion fun K45 hK45 => ?_
    obtain ⟨x46, hx46, h⟩ := bnd h
    refine WL.yld (by decide) (Yld.loadBM (k := 121) agg_27 rfl rfl rfl) ?_
    refine WL.yld (by decide) (Yld.loadBM (k := 111) agg_27 rfl rfl rfl) ?_
    refine WL.eff (by decide) (Eff.callS 150 rfl Try.func30 nm_30 rfl rfl (fun w hb hh => w_gfmatrix_Mul (Mem.snap w) x13.1 x13.2.1 A18 n19 c20 _ (RdH.sn (RdH.own (k := 117) rfl) w hb hh) x3.1 x3.2.1 A8 n9 c10 _ (RdH.sn (RdH.own (k := 107) rfl) w hb hh) hx46)) ?_
    rintro _ _ ⟨_, ⟨A51, n52, c53, rfl, rfl⟩, rfl⟩
    refine WL.yld (by decide) (Yld.move rfl) ?_
    refine WL.yld (by decide) (Yld.extract rfl rfl) ?_
    refine WL.yld (by decide) (Yld.extract rfl rfl) ?_
    refine WL.eff (by decide) (Eff.alloc 154 rfl zr_27) ?_
    rintro _ _ ⟨g54, rfl, rfl⟩
    refine WL.eff0 (Eff0.storeBAM 154 agg_27 rfl rfl rfl ⟨rfl, rfl⟩ rfl) ?_
    refine WL.yld (by decide) (Yld.assign rfl) ?_
    refine WL.done (hK45 _ _ ?_)
    refine WC.seqRegion fun K55 hK55 => ?_
    obtain ⟨x56, hx56, h⟩ := bnd h
    refine WL.yld (by decide) (Yld.loadBM (k := 121) agg_27 rfl rfl rfl) ?_
    refine WL.eff (by decide) (Eff.callS 160 rfl Try.func22 nm_22 rfl rfl (fun w hb hh => w_gfmatrix_Invert (Mem.snap w) x13.1 x13.2.1 A18 n19 c20 _ (RdH.sn (RdH.own (k := 117) rfl) w hb hh) hx56)) ?_
    rintro _ _ ⟨_, ⟨A61, n62, c63, rfl, rfl⟩, rfl⟩
    refine WL.yld (by decide) (Yld.move rfl) ?_
    refine WL.yld (by decide) (Yld.extract rfl rfl) ?_
    refine WL.yld (by decide) (Yld.extract rfl rfl) ?_
    refine WL.eff (by decide) (Eff.alloc 164 rfl zr_27) ?_
    rintro _ _ ⟨g64, rfl, rfl⟩
    refine WL.eff0 (Eff0.storeBAM 164 agg_27 rfl rfl rfl ⟨rfl, rfl⟩ rfl) ?_
    refine WL.yld (by decide) (Yld.assign rfl) ?_
    refine WL.done (hK55 _ _ ?_)
    refine WC.seqRegion fun K65 hK65 => ?_
    by_cases hc66 : x26.2.2.2 = (0 : Int)
    · replace h := of_t hc66 h
      by_cases hc67 : x36.2.2.2 = (0 : Int)
      · replace h := of_t hc67 h
        by_cases hc68 : x46.2.2.2 = (0 : Int)
        · replace h := of_t hc68 h
          by_cases hc69 : x56.2.2.2 = (0 : Int)
          · replace h := of_t hc69 h
            obtain ⟨x70, hx70, h⟩ := bnd h
            by_cases hc72 : x70 = true
            · replace h := of_t hc72 h
              obtain ⟨x73, hx73, h⟩ := bnd h
              by_cases hc75 : x73 = true
              · replace h := of_t hc75 h
                obtain ⟨x76, hx76, h⟩ := bnd h
                by_cases hc78 : x76 = true
                · replace h := of_t hc78 h
                  obtain ⟨x79, hx79, h⟩ := bnd h
                  refine WL.yld (by decide) (Yld.move rfl) ?_
                  refine WL.yld (by decide) (Yld.eqlI rfl rfl) ?_
                  refine WL.yld (by decide) (Yld.move rfl) ?_
                  refine WL.new (v' := .bool true) (congrArg Value.bool (beq_iff_eq.2 hc66)) ?_
                  refine WL.yldG (by decide) rfl (Yld.move rfl) ?_
                  refine WL.yldG (by decide) rfl (Yld.eqlI rfl rfl) ?_
                  refine WL.yld (by decide) (Yld.pickT rfl rfl) ?_
                  refine WL.yld (by decide) (Yld.move rfl) ?_
                  refine WL.new (v' := .bool true) (congrArg Value.bool (beq_iff_eq.2 hc67)) ?_
                  refine WL.yldG (by decide) rfl (Yld.move rfl) ?_
                  refine WL.yldG (by decide) rfl (Yld.eqlI rfl rfl) ?_
                  refine WL.yld (by decide) (Yld.pickT rfl rfl) ?_
                  refine WL.yld (by decide) (Yld.move rfl) ?_
                  refine WL.new (v' := .bool true) (congrArg Value.bool (beq_iff_eq.2 hc68)) ?_
                  refine WL.yldG (by decide) rfl (Yld.move rfl) ?_
                  refine WL.yldG (by decide) rfl (Yld.eqlI rfl rfl) ?_
                  refine WL.yld (by decide) (Yld.pickT rfl rfl) ?_
                  refine WL.yld (by decide) (Yld.move rfl) ?_
                  refine WL.new (v' := .bool true) (congrArg Value.bool (beq_iff_eq.2 hc69)) ?_
                  refine WL.yldG (by decide) rfl (Yld.loadBM (k := 144) agg_27 rfl rfl rfl) ?_
                  refine WL.yldG (by decide) rfl (Yld.loadBM (k := 134) agg_27 rfl rfl rfl) ?_
                  refine WL.effG (by decide) rfl (Eff.callS 171 rfl Try.func31 nm_31 rfl rfl (fun w hb hh => w_law03_equal (Mem.snap w) x36.1 x36.2.1 A41 n42 c43 _ (RdH.sn (RdH.own (k := 140) rfl) w hb hh) x26.1 x26.2.1 A31 n32 c33 _ (RdH.sn (RdH.own (k := 130) rfl) w hb hh) hx70)) ?_
                  rintro _ _ ⟨_, ⟨rfl, rfl⟩, rfl⟩
                  refine WL.yld (by decide) (Yld.pickT rfl rfl) ?_
                  refine WL.yld (by decide) (Yld.move rfl) ?_
                  refine WL.new (v' := .bool true) (congrArg Value.bool hc72) ?_
                  refine WL.yldG (by decide) rfl (Yld.loadBM (k := 154) agg_27 rfl rfl rfl) ?_
                  refine WL.yldG (by decide) rfl (Yld.loadBM (k := 134) agg_27 rfl rfl rfl) ?_
                  refine WL.effG (by decide) rfl (Eff.callS 174 rfl Try.func31 nm_31 rfl rfl (fun w hb hh => w_law03_equal (Mem.snap w) x46.1 x46.2.1 A51 n52 c53 _ (RdH.sn (RdH.own (k := 150) rfl) w hb hh) x26.1 x26.2.1 A31 n32 c33 _ (RdH.sn (RdH.own (k := 130) rfl) w hb hh) hx73)) ?_
                  rintro _ _ ⟨_, ⟨rfl, rfl⟩, rfl⟩
                  refine WL.yld (by decide) (Yld.pickT rfl rfl) ?_
                  refine WL.yld (by decide) (Yld.move rfl) ?_
                  refine WL.new (v' := .bool true) (congrArg Value.bool hc75) ?_
                  refine WL.yldG (by decide) rfl (Yld.loadBM (k := 164) agg_27 rfl rfl rfl) ?_
                  refine WL.yldG (by decide) rfl (Yld.loadBM (k := 111) agg_27 rfl rfl rfl) ?_
                  refine WL.effG (by decide) rfl (Eff.callS 177 rfl Try.func31 nm_31 rfl rfl (fun w hb hh => w_law03_equal (Mem.snap w) x56.1 x56.2.1 A61 n62 c63 _ (RdH.sn (RdH.own (k := 160) rfl) w hb hh) x3.1 x3.2.1 A8 n9 c10 _ (RdH.sn (RdH.own (k := 107) rfl) w hb hh) hx76)) ?_
                  rintro _ _ ⟨_, ⟨rfl, rfl⟩, rfl⟩
                  refine WL.yld (by decide) (Yld.pickT rfl rfl) ?_
                  refine WL.yld (by decide) (Yld.move rfl) ?_
                  refine WL.new (v' := .bool true) (congrArg Value.bool hc78) ?_
                  refine WL.effG (by decide) rfl (Eff.callS 180 rfl Try.func13 nm_13 rfl rfl (fun w hb hh => w_law03_awake (Mem.snap w) hx79)) ?_
                  rintro _ _ ⟨_, ⟨rfl, rfl⟩, rfl⟩
                  refine WL.yld (by decide) (Yld.pickT rfl rfl) ?_
                  refine WL.yld (by decide) (Yld.assign rfl) ?_
                  refine WL.done (hK65 _ _ ?_)
                  refine WC.ret ?_
                  injection h with h; subst h
                  exact Ret.fn [] (ResIs.one rfl rfl) rfl (Ext.refl _ _) rfl (by decide) rfl rfl ⟨rfl, rfl⟩
                · replace h := of_f hc78 h
                  refine WL.yld (by decide) (Yld.move rfl) ?_
                  refine WL.yld (by decide) (Yld.eqlI rfl rfl) ?_
                  refine WL.yld (by decide) (Yld.move rfl) ?_
                  refine WL.new (v' := .bool true) (congrArg Value.bool (beq_iff_eq.2 hc66)) ?_
                  refine WL.yldG (by decide) rfl (Yld.move rfl) ?_
                  refine WL.yldG (by decide) rfl (Yld.eqlI rfl rfl) ?_
                  refine WL.yld (by decide) (Yld.pickT rfl rfl) ?_
                  refine WL.yld (by decide) (Yld.move rfl) ?_
                  refine WL.new (v' := .bool true) (congrArg Value.bool (beq_iff_eq.2 hc67)) ?_
                  refine WL.yldG (by decide) rfl (Yld.move rfl) ?_
                  refine WL.yldG (by decide) rfl (Yld.eqlI rfl rfl) ?_
                  refine WL.yld (by decide) (Yld.pickT rfl rfl) ?_
                  refine WL.yld (by decide) (Yld.move rfl) ?_
                  refine WL.new (v' := .bool true) (congrArg Value.bool (beq_iff_eq.2 hc68)) ?_
                  refine WL.yldG (by decide) rfl (Yld.move rfl) ?_
                  refine WL.yldG (by decide) rfl (Yld.eqlI rfl rfl) ?_
                  refine WL.yld (by decide) (Yld.pickT rfl rfl) ?_
                  refine WL.yld (by decide) (Yld.move rfl) ?_
                  refine WL.new (v' := .bool true) (congrArg Value.bool (beq_iff_eq.2 hc69)) ?_
                  refine WL.yldG (by decide) rfl (Yld.loadBM (k := 144) agg_27 rfl rfl rfl) ?_
                  refine WL.yldG (by decide) rfl (Yld.loadBM (k := 134) agg_27 rfl rfl rfl) ?_
                  refine WL.effG (by decide) rfl (Eff.callS 171 rfl Try.func31 nm_31 rfl rfl (fun w hb hh => w_law03_equal (Mem.snap w) x36.1 x36.2.1 A41 n42 c43 _ (RdH.sn (RdH.own (k := 140) rfl) w hb hh) x26.1 x26.2.1 A31 n32 c33 _ (RdH.sn (RdH.own (k := 130) rfl) w hb hh) hx70)) ?_
                  rintro _ _ ⟨_, ⟨rfl, rfl⟩, rfl⟩
                  refine WL.yld (by decide) (Yld.pickT rfl rfl) ?_
                  refine WL.yld (by decide) (Yld.move rfl) ?_
                  refine WL.new (v' := .bool true) (congrArg Value.bool hc72) ?_
                  refine WL.yldG (by decide) rfl (Yld.loadBM (k := 154) agg_27 rfl rfl rfl) ?_
                  refine WL.yldG (by decide) rfl (Yld.loadBM (k := 134) agg_27 rfl rfl rfl) ?_
                  refine WL.effG (by decide) rfl (Eff.callS 174 rfl Try.func31 nm_31 rfl rfl (fun w hb hh => w_law03_equal (Mem.snap w) x46.1 x46.2.1 A51 n52 c53 _ (RdH.sn (RdH.own (k := 150) rfl) w hb hh) x26.1 x26.2.1 A31 n32 c33 _ (RdH.sn (RdH.own (k := 130) rfl) w hb hh) hx73)) ?_
                  rintro _ _ ⟨_, ⟨rfl, rfl⟩, rfl⟩
                  refine WL.yld (by decide) (Yld.pickT rfl rfl) ?_
                  refine WL.yld (by decide) (Yld.move rfl) ?_
                  refine WL.new (v' := .bool true) (congrArg Value.bool hc75) ?_
                  refine WL.yldG (by decide) rfl (Yld.loadBM (k := 164) agg_27 rfl rfl rfl) ?_
                  refine WL.yldG (by decide) rfl (Yld.loadBM (k := 111) agg_27 rfl rfl rfl) ?_
                  refine WL.effG (by decide) rfl (Eff.callS 177 rfl Try.func31 nm_31 rfl rfl (fun w hb hh => w_law03_equal (Mem.snap w) x56.1 x56.2.1 A61 n62 c63 _ (RdH.sn (RdH.own (k := 160) rfl) w hb hh) x3.1 x3.2.1 A8 n9 c10 _ (RdH.sn (RdH.own (k := 107) rfl) w hb hh) hx76)) ?_
                  rintro _ _ ⟨_, ⟨rfl, rfl⟩, rfl⟩
                  refine WL.yld (by decide) (Yld.pickT rfl rfl) ?_
                  refine WL.yld (by decide) (Yld.move rfl) ?_
                  refine WL.new (v' := .bool false) (congrArg Value.bool (Bool.eq_false_iff.2 hc78)) ?_
                  refine WL.skip (by decide) rfl rfl ?_
                  refine WL.yld (by decide) (Yld.pickF rfl rfl) ?_
                  refine WL.yld (by decide) (Yld.assign rfl) ?_
                  refine WL.done (hK65 _ _ ?_)
                  refine WC.ret ?_
                  injection h with h; subst h
                  exact Ret.fn [] (ResIs.one rfl rfl) rfl (Ext.refl _ _) rfl (by decide) rfl rfl ⟨rfl, rfl⟩
              · replace h := of_f hc75 h
                refine WL.yld (by decide) (Yld.move rfl) ?_
                refine WL.yld (by decide) (Yld.eqlI rfl rfl) ?_
                refine WL.yld (by decide) (Yld.move rfl) ?_
                refine WL.new (v' := .bool true) (congrArg Value.bool (beq_iff_eq.2 hc66)) ?_
                refine WL.yldG (by decide) rfl (Yld.move rfl) ?_
                refine WL.yldG (by decide) rfl (Yld.eqlI rfl rfl) ?_
                refine WL.yld (by decide) (Yld.pickT rfl rfl) ?_
                refine WL.yld (by decide) (Yld.move rfl) ?_
                refine WL.new (v' := .bool true) (congrArg Value.bool (beq_iff_eq.2 hc67)) ?_
                refine WL.yldG (by decide) rfl (Yld.move rfl) ?_
                refine WL.yldG (by decide) rfl (Yld.eqlI rfl rfl) ?_
                refine WL.yld (by decide) (Yld.pickT rfl rfl) ?_
                refine WL.yld (by decide) (Yld.move rfl) ?_
                refine WL.new (v' := .bool true) (congrArg Value.bool (beq_iff_eq.2 hc68)) ?_
                refine WL.yldG (by decide) rfl (Yld.move rfl) ?_
                refine WL.yldG (by decide) rfl (Yld.eqlI rfl rfl) ?_
                refine WL.yld (by decide) (Yld.pickT rfl rfl) ?_
                refine WL.yld (by decide) (Yld.move rfl) ?_
                refine WL.new (v' := .bool true) (congrArg Value.bool (beq_iff_eq.2 hc69)) ?_
                refine WL.yldG (by decide) rfl (Yld.loadBM (k := 144) agg_27 rfl rfl rfl) ?_
                refine WL.yldG (by decide) rfl (Yld.loadBM (k := 134) agg_27 rfl rfl rfl) ?_
                refine WL.effG (by decide) rfl (Eff.callS 171 rfl Try.func31 nm_31 rfl rfl (fun w hb hh => w_law03_equal (Mem.snap w) x36.1 x36.2.1 A41 n42 c43 _ (RdH.sn (RdH.own (k := 140) rfl) w hb hh) x26.1 x26.2.1 A31 n32 c33 _ (RdH.sn (RdH.own (k := 130) rfl) w hb hh) hx70)) ?_
                rintro _ _ ⟨_, ⟨rfl, rfl⟩, rfl⟩
                refine WL.yld (by decide) (Yld.pickT rfl rfl) ?_
                refine WL.yld (by decide) (Yld.move rfl) ?_
                refine WL.new (v' := .bool true) (congrArg Value.bool hc72) ?_
                refine WL.yldG (by decide) rfl (Yld.loadBM (k := 154) agg_27 rfl rfl rfl) ?_
                refine WL.yldG (by decide) rfl (Yld.loadBM (k := 134) agg_27 rfl rfl rfl) ?_
                refine WL.effG (by decide) rfl (Eff.callS 174 rfl Try.func31 nm_31 rfl rfl (fun w hb hh => w_law03_equal (Mem.snap w) x46.1 x46.2.1 A51 n52 c53 _ (RdH.sn (RdH.own (k := 150) rfl) w hb hh) x26.1 x26.2.1 A31 n32 c33 _ (RdH.sn (RdH.own (k := 130) rfl) w hb hh) hx73)) ?_
                rintro _ _ ⟨_, ⟨rfl, rfl⟩, rfl⟩
                refine WL.yld (by decide) (Yld.pickT rfl rfl) ?_
                refine WL.yld (by decide) (Yld.move rfl) ?_
                refine WL.new (v' := .bool false) (congrArg Value.bool (Bool.eq_false_iff.2 hc75)) ?_
                refine WL.skip (by decide) rfl rfl ?_
                refine WL.skip (by decide) rfl rfl ?_
                refine WL.skip (by decide) rfl rfl ?_
                refine WL.yld (by decide) (Yld.pickF rfl rfl) ?_
                refine WL.yld (by decide) (Yld.move rfl) ?_
                refine WL.skip (by decide) rfl rfl ?_
                refine WL.yld (by decide) (Yld.pickF rfl rfl) ?_
                refine WL.yld (by decide) (Yld.assign rfl) ?_
                refine WL.done (hK65 _ _ ?_)
                refine WC.ret ?_
                injection h with h; subst h
                exact Ret.fn [] (ResIs.one rfl rfl) rfl (Ext.refl _ _) rfl (by decide) rfl rfl ⟨rfl, rfl⟩
            · replace h := of_f hc72 h
              refine WL.yld (by decide) (Yld.move rfl) ?_
              refine WL.yld (by decide) (Yld.eqlI rfl rfl) ?_
              refine WL.yld (by decide) (Yld.move rfl) ?_
              refine WL.new (v' := .bool true) (congrArg Value.bool (beq_iff_eq.2 hc66)) ?_
              refine WL.yldG (by decide) rfl (Yld.move rfl) ?_
              refine WL.yldG (by decide) rfl (Yld.eqlI rfl rfl) ?_
              refine WL.yld (by decide) (Yld.pickT rfl rfl) ?_
              refine WL.yld (by decide) (Yld.move rfl) ?_
              refine WL.new (v' := .bool true) (congrArg Value.bool (beq_iff_eq.2 hc67)) ?_
              refine WL.yldG (by decide) rfl (Yld.move rfl) ?_
              refine WL.yldG (by decide) rfl (Yld.eqlI rfl rfl) ?_
              refine WL.yld (by decide) (Yld.pickT rfl rfl) ?_
              refine WL.yld (by decide) (Yld.move rfl) ?_
              refine WL.new (v' := .bool true) (congrArg Value.bool (beq_iff_eq.2 hc68)) ?_
              refine WL.yldG (by decide) rfl (Yld.move rfl) ?_
              refine WL.yldG (by decide) rfl (Yld.eqlI rfl rfl) ?_
              refine WL.yld (by decide) (Yld.pickT rfl rfl) ?_
              refine WL.yld (by decide) (Yld.move rfl) ?_
              refine WL.new (v' := .bool true) (congrArg Value.bool (beq_iff_eq.2 hc69)) ?_
              refine WL.yldG (by decide) rfl (Yld.loadBM (k := 144) agg_27 rfl rfl rfl) ?_
              refine WL.yldG (by decide) rfl (Yld.loadBM (k := 134) agg_27 rfl rfl rfl) ?_
              refine WL.effG (by decide) rfl (Eff.callS 171 rfl Try.func31 nm_31 rfl rfl (fun w hb hh => w_law03_equal (Mem.snap w) x36.1 x36.2.1 A41 n42 c43 _ (RdH.sn (RdH.own (k := 140) rfl) w hb hh) x26.1 x26.2.1 A31 n32 c33 _ (RdH.sn (RdH.own (k := 130) rfl) w hb hh) hx70)) ?_
              rintro _ _ ⟨_, ⟨rfl, rfl⟩, rfl⟩
              refine WL.yld (by decide) (Yld.pickT rfl rfl) ?_
              refine WL.yld (by decide) (Yld.move rfl) ?_
              refine WL.new (v' := .bool false) (congrArg Value.bool (Bool.eq_false_iff.2 hc72)) ?_
              refine WL.skip (by decide) rfl rfl ?_
              refine WL.skip (by decide) rfl rfl ?_
              refine WL.skip (by decide) rfl rfl ?_
              refine WL.yld (by decide) (Yld.pickF rfl rfl) ?_
              refine WL.yld (by decide) (Yld.move rfl) ?_
              refine WL.skip (by decide) rfl rfl ?_
              refine WL.skip (by decide) rfl rfl ?_
              refine WL.skip (by decide) rfl rfl ?_
              refine WL.yld (by decide) (Yld.pickF rfl rfl) ?_
              refine WL.yld (by decide) (Yld.move rfl) ?_
              refine WL.skip (by decide) rfl rfl ?_
              refine WL.yld (by decide) (Yld.pickF rfl rfl) ?_
              refine WL.yld (by decide) (Yld.assign rfl) ?_
              refine WL.done (hK65 _ _ ?_)
              refine WC.ret ?_
              injection h with h; subst h
              exact Ret.fn [] (ResIs.one rfl rfl) rfl (Ext.refl _ _) rfl (by decide) rfl rfl ⟨rfl, rfl⟩
          · replace h := of_f hc69 h
            refine WL.yld (by decide) (Yld.move rfl) ?_
            refine WL.yld (by decide) (Yld.eqlI rfl rfl) ?_
            refine WL.yld (by decide) (Yld.move rfl) ?_
            refine WL.new (v' := .bool true) (congrArg Value.bool (beq_iff_eq.2 hc66)) ?_
            refine WL.yldG (by decide) rfl (Yld.move rfl) ?_
            refine WL.yldG (by decide) rfl (Yld.eqlI rfl rfl) ?_
            refine WL.yld (by decide) (Yld.pickT rfl rfl) ?_
            refine WL.yld (by decide) (Yld.move rfl) ?_
            refine WL.new (v' := .bool true) (congrArg Value.bool (beq_iff_eq.2 hc67)) ?_
            refine WL.yldG (by decide) rfl (Yld.move rfl) ?_
            refine WL.yldG (by decide) rfl (Yld.eqlI rfl rfl) ?_
            refine WL.yld (by decide) (Yld.pickT rfl rfl) ?_
            refine WL.yld (by decide) (Yld.move rfl) ?_
            refine WL.new (v' := .bool true) (congrArg Value.bool (beq_iff_eq.2 hc68)) ?_
            refine WL.yldG (by decide) rfl (Yld.move rfl) ?_
            refine WL.yldG (by decide) rfl (Yld.eqlI rfl rfl) ?_
            refine WL.yld (by decide) (Yld.pickT rfl rfl) ?_
            refine WL.yld (by decide) (Yld.move rfl) ?_
            refine WL.new (v' := .bool false) (congrArg Value.bool (beq_eq_false_iff_ne.2 hc69)) ?_
            refine WL.skip (by decide) rfl rfl ?_
            refine WL.skip (by decide) rfl rfl ?_
            refine WL.skip (by decide) rfl rfl ?_
            refine WL.yld (by decide) (Yld.pickF rfl rfl) ?_
            refine WL.yld (by decide) (Yld.move rfl) ?_
            refine WL.skip (by decide) rfl rfl ?_
            refine WL.skip (by decide) rfl rfl ?_
            refine WL.skip (by decide) rfl rfl ?_
            refine WL.yld (by decide) (Yld.pickF rfl rfl) ?_
            refine WL.yld (by decide) (Yld.move rfl) ?_
            refine WL.skip (by decide) rfl rfl ?_
            refine WL.skip (by decide) rfl rfl ?_
            refine WL.skip (by decide) rfl rfl ?_
            refine WL.yld (by decide) (Yld.pickF rfl rfl) ?_
            refine WL.yld (by decide) (Yld.move rfl) ?_
            refine WL.skip (by decide) rfl rfl ?_
            refine WL.yld (by decide) (Yld.pickF rfl rfl) ?_
            refine WL.yld (by decide) (Yld.assign rfl) ?_
            refine WL.done (hK65 _ _ ?_)
            refine WC.ret ?_
            injection h with h; subst h
            exact Ret.fn [] (ResIs.one rfl rfl) rfl (Ext.refl _ _) rfl (by decide) rfl rfl ⟨rfl, rfl⟩
        · replace h := of_f hc68 h
          refine WL.yld (by decide) (Yld.move rfl) ?_
          refine WL.yld (by decide) (Yld.eqlI rfl rfl) ?_
          refine WL.yld (by decide) (Yld.move rfl) ?_
          refine WL.new (v' := .bool true) (congrArg Value.bool (beq_iff_eq.2 hc66)) ?_
          refine WL.yldG (by decide) rfl (Yld.move rfl) ?_
          refine WL.yldG (by decide) rfl (Yld.eqlI rfl rfl) ?_
          refine WL.yld (by decide) (Yld.pickT rfl rfl) ?_
          refine WL.yld (by decide) (Yld.move rfl) ?_
          refine WL.new (v' := .bool true) (congrArg Value.bool (beq_iff_eq.2 hc67)) ?_
          refine WL.yldG (by decide) rfl (Yld.move rfl) ?_
          refine WL.yldG (by decide) rfl (Yld.eqlI rfl rfl) ?_
          refine WL.yld (by decide) (Yld.pickT rfl rfl) ?_
          refine WL.yld (by decide) (Yld.move rfl) ?_
          refine WL.new (v' := .bool false) (congrArg Value.bool (beq_eq_false_iff_ne.2 hc68)) ?_
          refine WL.skip (by decide) rfl rfl ?_
          refine WL.skip (by decide) rfl rfl ?_
          refine WL.yld (by decide) (Yld.pickF rfl rfl) ?_
          refine WL.yld (by decide) (Yld.move rfl) ?_
          refine WL.skip (by decide) rfl rfl ?_
          refine WL.skip (by decide) rfl rfl ?_
          refine WL.skip (by decide) rfl rfl ?_
          refine WL.yld (by decide) (Yld.pickF rfl rfl) ?_
          refine WL.yld (by decide) (Yld.move rfl) ?_
          refine WL.skip (by decide) rfl rfl ?_
          refine WL.skip (by decide) rfl rfl ?_
          refine WL.skip (by decide) rfl rfl ?_
          refine WL.yld (by decide) (Yld.pickF rfl rfl) ?_
          refine WL.yld (by decide) (Yld.move rfl) ?_
          refine WL.skip (by decide) rfl rfl ?_
          refine WL.skip (by decide) rfl rfl ?_
          refine WL.skip (by decide) rfl rfl ?_
          refine WL.yld (by decide) (Yld.pickF rfl rfl) ?_
          refine WL.yld (by decide) (Yld.move rfl) ?_
          refine WL.skip (by decide) rfl rfl ?_
          refine WL.yld (by decide) (Yld.pickF rfl rfl) ?_
          refine WL.yld (by decide) (Yld.assign rfl) ?_
          refine WL.done (hK65 _ _ ?_)
          refine WC.ret ?_
          injection h with h; subst h
          exact Ret.fn [] (ResIs.one rfl rfl) rfl (Ext.refl _ _) rfl (by decide) rfl rfl ⟨rfl, rfl⟩
      · replace h := of_f hc67 h
        refine WL.yld (by decide) (Yld.move rfl) ?_
        refine WL.yld (by decide) (Yld.eqlI rfl rfl) ?_
        refine WL.yld (by decide) (Yld.move rfl) ?_
        refine WL.new (v' := .bool true) (congrArg Value.bool (beq_iff_eq.2 hc66)) ?_
        refine WL.yldG (by decide) rfl (Yld.move rfl) ?_
        refine WL.yldG (by decide) rfl (Yld.eqlI rfl rfl) ?_
        refine WL.yld (by decide) (Yld.pickT rfl rfl) ?_
        refine WL.yld (by decide) (Yld.move rfl) ?_
        refine WL.new (v' := .bool false) (congrArg Value.bool (beq_eq_false_iff_ne.2 hc67)) ?_
        refine WL.skip (by decide) rfl rfl ?_
        refine WL.skip (by decide) rfl rfl ?_
        refine WL.yld (by decide) (Yld.pickF rfl rfl) ?_
        refine WL.yld (by decide) (Yld.move rfl) ?_
        refine WL.skip (by decide) rfl rfl ?_
        refine WL.skip (by decide) rfl rfl ?_
        refine WL.yld (by decide) (Yld.pickF rfl rfl) ?_
        refine WL.yld (by decide) (Yld.move rfl) ?_
        refine WL.skip (by decide) rfl rfl ?_
        refine WL.skip (by decide) rfl rfl ?_
        refine WL.skip (by decide) rfl rfl ?_
        refine WL.yld (by decide) (Yld.pickF rfl rfl) ?_
        refine WL.yld (by decide) (Yld.move rfl) ?_
        refine WL.skip (by decide) rfl rfl ?_
        refine WL.skip (by decide) rfl rfl ?_
        refine WL.skip (by decide) rfl rfl ?_
        refine WL.yld (by decide) (Yld.pickF rfl rfl) ?_
        refine WL.yld (by decide) (Yld.move rfl) ?_
        refine WL.skip (by decide) rfl rfl ?_
        refine WL.skip (by decide) rfl rfl ?_
        refine WL.skip (by decide) rfl rfl ?_
        refine WL.yld (by decide) (Yld.pickF rfl rfl) ?_
        refine WL.yld (by decide) (Yld.move rfl) ?_
        refine WL.skip (by decide) rfl rfl ?_
        refine WL.yld (by decide) (Yld.pickF rfl rfl) ?_
        refine WL.yld (by decide) (Yld.assign rfl) ?_
        refine WL.done (hK65 _ _ ?_)
        refine WC.ret ?_
        injection h with h; subst h
        exact Ret.fn [] (ResIs.one rfl rfl) rfl (Ext.refl _ _) rfl (by decide) rfl rfl ⟨rfl, rfl⟩
    · replace h := of_f hc66 h
      refine WL.yld (by decide) (Yld.move rfl) ?_
      refine WL.yld (by decide) (Yld.eqlI rfl rfl) ?_
      refine WL.yld (by decide) (Yld.move rfl) ?_
      refine WL.new (v' := .bool false) (congrArg Value.bool (beq_eq_false_iff_ne.2 hc66)) ?_
      refine WL.skip (by decide) rfl rfl ?_
      refine WL.skip (by decide) rfl rfl ?_
      refine WL.yld (by decide) (Yld.pickF rfl rfl) ?_
      refine WL.yld (by decide) (Yld.move rfl) ?_
      refine WL.skip (by decide) rfl rfl ?_
      refine WL.skip (by decide) rfl rfl ?_
      refine WL.yld (by decide) (Yld.pickF rfl rfl) ?_
      refine WL.yld (by decide) (Yld.move rfl) ?_
      refine WL.skip (by decide) rfl rfl ?_
      refine WL.skip (by decide) rfl rfl ?_
      refine WL.yld (by decide) (Yld.pickF rfl rfl) ?_
      refine WL.yld (by decide) (Yld.move rfl) ?_
      refine WL.skip (by decide) rfl rfl ?_
      refine WL.skip (by decide) rfl rfl ?_
      refine WL.skip (by decide) rfl rfl ?_
      refine WL.yld (by decide) (Yld.pickF rfl rfl) ?_
      refine WL.yld (by decide) (Yld.move rfl) ?_
      refine WL.skip (by decide) rfl rfl ?_
      refine WL.skip (by decide) rfl rfl ?_
      refine WL.skip (by decide) rfl rfl ?_
      refine WL.yld (by decide) (Yld.pickF rfl rfl) ?_
      refine WL.yld (by decide) (Yld.move rfl) ?_
      refine WL.skip (by decide) rfl rfl ?_
      refine WL.skip (by decide) rfl rfl ?_
      refine WL.skip (by decide) rfl rfl ?_
      refine WL.yld (by decide) (Yld.pickF rfl rfl) ?_
      refine WL.yld (by decide) (Yld.move rfl) ?_
      refine WL.skip (by decide) rfl rfl ?_
      refine WL.yld (by decide) (Yld.pickF rfl rfl) ?_
      refine WL.yld (by decide) (Yld.assign rfl) ?_
      refine WL.done (hK65 _ _ ?_)
      refine WC.ret ?_
      injection h with h; subst h
      exact Ret.fn [] (ResIs.one rfl rfl) rfl (Ext.refl _ _) rfl (by decide) rfl rfl ⟨rfl, rfl⟩
  · replace h := of_f hc24 h
    refine WC.condTe rfl (bne_iff_ne.2 hc24) ?_
    refine WC.seqRegion fun K81 hK81 => ?_
    by_cases hc82 : x13.2.2.2 = (14 : Int)
    · replace h := of_t hc82 h
      obtain ⟨x83, hx83, h⟩ := bnd h
      refine WL.yld (by decide) (Yld.move rfl) ?_
      refine WL.yld (by decide) (Yld.eqlI rfl rfl) ?_
      refine WL.yld (by decide) (Yld.move rfl) ?_
      refine WL.new (v' := .bool true) (congrArg Value.bool (beq_iff_eq.2 hc82)) ?_
      refine WL.effG (by decide) rfl (Eff.callS 184 rfl Try.func13 nm_13 rfl rfl (fun w hb hh => w_law03_awake (Mem.snap w) hx83)) ?_
      rintro _ _ ⟨_, ⟨rfl, rfl⟩, rfl⟩
      refine WL.yld (by decide) (Yld.pickT rfl rfl) ?_
      refine WL.yld (by decide) (Yld.assign rfl) ?_
      refine WL.done (hK81 _ _ ?_)
      refine WC.ret (QK.thenR ?_)
      injection h with h; subst h
      exact Ret.fn [] (ResIs.one rfl rfl) rfl (Ext.refl _ _) rfl (by decide) rfl rfl ⟨rfl, rfl⟩
    · replace h := of_f hc82 h
      refine WL.yld (by decide) (Yld.move rfl) ?_
      refine WL.yld (by decide) (Yld.eqlI rfl rfl) ?_
      refine WL.yld (by decide) (Yld.move rfl) ?_
      refine WL.new (v' := .bool false) (congrArg Value.bool (beq_eq_false_iff_ne.2 hc82)) ?_
      refine WL.skip (by decide) rfl rfl ?_
      refine WL.yld (by decide) (Yld.pickF rfl rfl) ?_
      refine WL.yld (by decide) (Yld.assign rfl) ?_
      refine WL.done (hK81 _ _ ?_)
      refine WC.ret (QK.thenR ?_)
      injection h with h; subst h
      exact Ret.fn [] (ResIs.one rfl rfl) rfl (Ext.refl _ _) rfl (by decide) rfl rfl ⟨rfl, rfl⟩

end Go.Proofs.Ytnkahhipochakaa
