/-
  Walks (e5): what a function's model gives, the function returns. Printed by a program of ours (vcm.py) from the function's operations. Conditions: as each theorem says.
-/
import Derived.Test.YtnkahhipochakaaWkc
import Derived.Test.YtnkahhipochakaaWkd
import Derived.Test.YtnkahhipochakaaMde5
namespace Go.Proofs.Ytnkahhipochakaa
open Go Go.RowKit
set_option linter.unusedVariables false

theorem nm_13 : (Try.f13.name == "runtime.NumGoroutine") = false := by kernel_rfl
theorem nm_24 : (Try.f24.name == "runtime.NumGoroutine") = false := by kernel_rfl
theorem nm_30 : (Try.f30.name == "runtime.NumGoroutine") = false := by kernel_rfl
theorem nm_31 : (Try.f31.name == "runtime.NumGoroutine") = false := by kernel_rfl

set_option maxRecDepth 10000 in
theorem w_law03_GfmatrixAssociates (M0 : Mem) (x00 : Int) (x01 : Int) (x02 : Int) (x03 : Int) (A04 : Option Addr) (n04 c04 : Nat) (x04 : List (BitVec 8)) (hf04 : SlT M0 A04 n04 c04 x04) (A05 : Option Addr) (n05 c05 : Nat) (x05 : List (BitVec 8)) (hf05 : SlT M0 A05 n05 c05 x05) (A06 : Option Addr) (n06 c06 : Nat) (x06 : List (BitVec 8)) (hf06 : SlT M0 A06 n06 c06 x06) {res : Bool} (h : m_law03_GfmatrixAssociates x00 x01 x02 x03 x04 x05 x06 = some res) :
    Fn Try.prog 9 #[I64 x00, I64 x01, I64 x02, I64 x03, .slice A04 n04 c04, .slice A05 n05 c05, .slice A06 n06 c06] M0 fun r M' es => r = .bool res ∧ es = [] := by
  refine Fn.intro (N := 88) Try.func9 rfl rfl (Nat.le_of_ble_eq_true rfl) fun w0 => ?_
  unfold m_law03_GfmatrixAssociates at h
  refine WC.seqRegion fun K1 hK1 => ?_
  refine WL.yld (by decide) (Yld.assign rfl) ?_
  refine WL.done (hK1 _ _ ?_)
  refine WC.seqRegion fun K2 hK2 => ?_
  obtain ⟨x3, hx3, h⟩ := bnd h
  refine WL.yld (by decide) (Yld.move rfl) ?_
  refine WL.yld (by decide) (Yld.move rfl) ?_
  refine WL.yld (by decide) (Yld.move rfl) ?_
  refine WL.eff (by decide) (Eff.callS 107 rfl Try.func24 nm_24 rfl rfl (fun w hb hh => w_law03_made (Mem.snap w) x00 x01 A04 n04 c04 _ (RdH.sn (RdH.memM (k := 0) rfl hf04) w hb hh) hx3)) ?_
  rintro _ _ ⟨_, ⟨A8, n9, c10, rfl, rfl⟩, rfl⟩
  refine WL.eff (by decide) (Eff.alloc 111 rfl zr_27) ?_
  rintro _ _ ⟨g11, rfl, rfl⟩
  refine WL.eff0 (Eff0.storeBAM 111 agg_27 rfl rfl rfl ⟨rfl, rfl⟩ rfl) ?_
  refine WL.done (hK2 _ _ ?_)
  refine WC.seqRegion fun K12 hK12 => ?_
  obtain ⟨x13, hx13, h⟩ := bnd h
  obtain ⟨x14, hx14, h⟩ := bnd h
  refine WL.yld (by decide) (Yld.fieldAddr Try.underlying27 rfl nz_3 rfl rfl) ?_
  refine WL.yld (by decide) (Yld.loadB (k := 111) scal_3 rfl rfl rfl) ?_
  refine WL.yld (by decide) (Yld.subC rfl rfl hx13) ?_
  refine WL.yld (by decide) (Yld.move rfl) ?_
  refine WL.yld (by decide) (Yld.move rfl) ?_
  refine WL.eff (by decide) (Eff.callS 118 rfl Try.func24 nm_24 rfl rfl (fun w hb hh => w_law03_made (Mem.snap w) x13 x02 A05 n05 c05 _ (RdH.sn (RdH.memM (k := 0) rfl hf05) w hb hh) hx14)) ?_
  rintro _ _ ⟨_, ⟨A19, n20, c21, rfl, rfl⟩, rfl⟩
  refine WL.eff (by decide) (Eff.alloc 122 rfl zr_27) ?_
  rintro _ _ ⟨g22, rfl, rfl⟩
  refine WL.eff0 (Eff0.storeBAM 122 agg_27 rfl rfl rfl ⟨rfl, rfl⟩ rfl) ?_
  refine WL.done (hK12 _ _ ?_)
  refine WC.seqRegion fun K23 hK23 => ?_
  obtain ⟨x24, hx24, h⟩ := bnd h
  obtain ⟨x25, hx25, h⟩ := bnd h
  refine WL.yld (by decide) (Yld.fieldAddr Try.underlying27 rfl nz_3 rfl rfl) ?_
  refine WL.yld (by decide) (Yld.loadB (k := 122) scal_3 rfl rfl rfl) ?_
  refine WL.yld (by decide) (Yld.subC rfl rfl hx24) ?_
  refine WL.yld (by decide) (Yld.move rfl) ?_
  refine WL.yld (by decide) (Yld.move rfl) ?_
  refine WL.eff (by decide) (Eff.callS 129 rfl Try.func24 nm_24 rfl rfl (fun w hb hh => w_law03_made (Mem.snap w) x24 x03 A06 n06 c06 _ (RdH.sn (RdH.memM (k := 0) rfl hf06) w hb hh) hx25)) ?_
  rintro _ _ ⟨_, ⟨A30, n31, c32, rfl, rfl⟩, rfl⟩
  refine WL.eff (by decide) (Eff.alloc 133 rfl zr_27) ?_
  rintro _ _ ⟨g33, rfl, rfl⟩
  refine WL.eff0 (Eff0.storeBAM 133 agg_27 rfl rfl rfl ⟨rfl, rfl⟩ rfl) ?_
  refine WL.done (hK23 _ _ ?_)
  refine WC.seqRegion fun K34 hK34 => ?_
  obtain ⟨x35, hx35, h⟩ := bnd h
  refine WL.yld (by decide) (Yld.loadBM (k := 111) agg_27 rfl rfl rfl) ?_
  refine WL.yld (by decide) (Yld.loadBM (k := 122) agg_27 rfl rfl rfl) ?_
  refine WL.eff (by decide) (Eff.callS 139 rfl Try.func30 nm_30 rfl rfl (fun w hb hh => w_gfmatrix_Mul (Mem.snap w) x3.1 x3.2.1 A8 n9 c10 _ (RdH.sn (RdH.own (k := 107) rfl) w hb hh) x14.1 x14.2.1 A19 n20 c21 _ (RdH.sn (RdH.own (k := 118) rfl) w hb hh) hx35)) ?_
  rintro _ _ ⟨_, ⟨A40, n41, c42, rfl, rfl⟩, rfl⟩
  refine WL.yld (by decide) (Yld.move rfl) ?_
  refine WL.yld (by decide) (Yld.extract rfl rfl) ?_
  refine WL.yld (by decide) (Yld.extract rfl rfl) ?_
  refine WL.eff (by decide) (Eff.alloc 143 rfl zr_27) ?_
  rintro _ _ ⟨g43, rfl, rfl⟩
  refine WL.eff0 (Eff0.storeBAM 143 agg_27 rfl rfl rfl ⟨rfl, rfl⟩ rfl) ?_
  refine WL.yld (by decide) (Yld.assign rfl) ?_
  refine WL.done (hK34 _ _ ?_)
  refine WC.seqRegion fun K44 hK44 => ?_
  obtain ⟨x45, hx45, h⟩ := bnd h
  refine WL.yld (by decide) (Yld.loadBM (k := 122) agg_27 rfl rfl rfl) ?_
  refine WL.yld (by decide) (Yld.loadBM (k := 133) agg_27 rfl rfl rfl) ?_
  refine WL.eff (by decide) (Eff.callS 149 rfl Try.func30 nm_30 rfl rfl (fun w hb hh => w_gfmatrix_Mul (Mem.snap w) x14.1 x14.2.1 A19 n20 c21 _ (RdH.sn (RdH.own (k := 118) rfl) w hb hh) x25.1 x25.2.1 A30 n31 c32 _ (RdH.sn (RdH.own (k := 129) rfl) w hb hh) hx45)) ?_
  rintro _ _ ⟨_, ⟨A50, n51, c52, rfl, rfl⟩, rfl⟩
  refine WL.yld (by decide) (Yld.move rfl) ?_
  refine WL.yld (by decide) (Yld.extract rfl rfl) ?_
  refine WL.yld (by decide) (Yld.extract rfl rfl) ?_
  refine WL.eff (by decide) (Eff.alloc 153 rfl zr_27) ?_
  rintro _ _ ⟨g53, rfl, rfl⟩
  refine WL.eff0 (Eff0.storeBAM 153 agg_27 rfl rfl rfl ⟨rfl, rfl⟩ rfl) ?_
  refine WL.yld (by decide) (Yld.assign rfl) ?_
  refine WL.done (hK44 _ _ ?_)
  refine WC.seqRegion fun K54 hK54 => ?_
  obtain ⟨x55, hx55, h⟩ := bnd h
  refine WL.yld (by decide) (Yld.loadBM (k := 143) agg_27 rfl rfl rfl) ?_
  refine WL.yld (by decide) (Yld.loadBM (k := 133) agg_27 rfl rfl rfl) ?_
  refine WL.eff (by decide) (Eff.callS 159 rfl Try.func30 nm_30 rfl rfl (fun w hb hh => w_gfmatrix_Mul (Mem.snap w) x35.1 x35.2.1 A40 n41 c42 _ (RdH.sn (RdH.own (k := 139) rfl) w hb hh) x25.1 x25.2.1 A30 n31 c32 _ (RdH.sn (RdH.own (k := 129) rfl) w hb hh) hx55)) ?_
  rintro _ _ ⟨_, ⟨A60, n61, c62, rfl, rfl⟩, rfl⟩
  refine WL.yld (by decide) (Yld.move rfl) ?_
  refine WL.yld (by decide) (Yld.extract rfl rfl) ?_
  refine WL.yld (by decide) (Yld.extract rfl rfl) ?_
  refine WL.eff (by decide) (Eff.alloc 163 rfl zr_27) ?_
  rintro _ _ ⟨g63, rfl, rfl⟩
  refine WL.eff0 (Eff0.storeBAM 163 agg_27 rfl rfl rfl ⟨rfl, rfl⟩ rfl) ?_
  refine WL.yld (by decide) (Yld.assign rfl) ?_
  refine WL.done (hK54 _ _ ?_)
  refine WC.seqRegion fun K64 hK64 => ?_
  obtain ⟨x65, hx65, h⟩ := bnd h
  refine WL.yld (by decide) (Yld.loadBM (k := 111) agg_27 rfl rfl rfl) ?_
  refine WL.yld (by decide) (Yld.loadBM (k := 153) agg_27 rfl rfl rfl) ?_
  refine WL.eff (by decide) (Eff.callS 169 rfl Try.func30 nm_30 rfl rfl (fun w hb hh => w_gfmatrix_Mul (Mem.snap w) x3.1 x3.2.1 A8 n9 c10 _ (RdH.sn (RdH.own (k := 107) rfl) w hb hh) x45.1 x45.2.1 A50 n51 c52 _ (RdH.sn (RdH.own (k := 149) rfl) w hb hh) hx65)) ?_
  rintro _ _ ⟨_, ⟨A70, n71, c72, rfl, rfl⟩, rfl⟩
  refine WL.yld (by decide) (Yld.move rfl) ?_
  refine WL.yld (by decide) (Yld.extract rfl rfl) ?_
  refine WL.yld (by decide) (Yld.extract rfl rfl) ?_
  refine WL.eff (by decide) (Eff.alloc 173 rfl zr_27) ?_
  rintro _ _ ⟨g73, rfl, rfl⟩
  refine WL.eff0 (Eff0.storeBAM 173 agg_27 rfl rfl rfl ⟨rfl, rfl⟩ rfl) ?_
  refine WL.yld (by decide) (Yld.assign rfl) ?_
  refine WL.done (hK64 _ _ ?_)
  refine WC.seqRegion fun K74 hK74 => ?_
  by_cases hc75 : x35.2.2.2 = (0 : Int)
  · replace h := of_t hc75 h
    by_cases hc76 : x45.2.2.2 = (0 : Int)
    · replace h := of_t hc76 h
      by_cases hc77 : x55.2.2.2 = (0 : Int)
      · replace h := of_t hc77 h
        by_cases hc78 : x65.2.2.2 = (0 : Int)
        · replace h := of_t hc78 h
          obtain ⟨x79, hx79, h⟩ := bnd h
          by_cases hc81 : x79 = true
          · replace h := of_t hc81 h
            obtain ⟨x82, hx82, h⟩ := bnd h
            refine WL.yld (by decide) (Yld.move rfl) ?_
            refine WL.yld (by decide) (Yld.eqlI rfl rfl) ?_
            refine WL.yld (by decide) (Yld.move rfl) ?_
            refine WL.new (v' := .bool true) (congrArg Value.bool (beq_iff_eq.2 hc75)) ?_
            refine WL.yldG (by decide) rfl (Yld.move rfl) ?_
            refine WL.yldG (by decide) rfl (Yld.eqlI rfl rfl) ?_
            refine WL.yld (by decide) (Yld.pickT rfl rfl) ?_
            refine WL.yld (by decide) (Yld.move rfl) ?_
            refine WL.new (v' := .bool true) (congrArg Value.bool (beq_iff_eq.2 hc76)) ?_
            refine WL.yldG (by decide) rfl (Yld.move rfl) ?_
            refine WL.yldG (by decide) rfl (Yld.eqlI rfl rfl) ?_
            refine WL.yld (by decide) (Yld.pickT rfl rfl) ?_
            refine WL.yld (by decide) (Yld.move rfl) ?_
            refine WL.new (v' := .bool true) (congrArg Value.bool (beq_iff_eq.2 hc77)) ?_
            refine WL.yldG (by decide) rfl (Yld.move rfl) ?_
            refine WL.yldG (by decide) rfl (Yld.eqlI rfl rfl) ?_
            refine WL.yld (by decide) (Yld.pickT rfl rfl) ?_
            refine WL.yld (by decide) (Yld.move rfl) ?_
            refine WL.new (v' := .bool true) (congrArg Value.bool (beq_iff_eq.2 hc78)) ?_
            refine WL.yldG (by decide) rfl (Yld.loadBM (k := 163) agg_27 rfl rfl rfl) ?_
            refine WL.yldG (by decide) rfl (Yld.loadBM (k := 173) agg_27 rfl rfl rfl) ?_
            refine WL.effG (by decide) rfl (Eff.callS 180 rfl Try.func31 nm_31 rfl rfl (fun w hb hh => w_law03_equal (Mem.snap w) x55.1 x55.2.1 A60 n61 c62 _ (RdH.sn (RdH.own (k := 159) rfl) w hb hh) x65.1 x65.2.1 A70 n71 c72 _ (RdH.sn (RdH.own (k := 169) rfl) w hb hh) hx79)) ?_
            rintro _ _ ⟨_, ⟨rfl, rfl⟩, rfl⟩
            refine WL.yld (by decide) (Yld.pickT rfl rfl) ?_
            refine WL.yld (by decide) (Yld.move rfl) ?_
            refine WL.new (v' := .bool true) (congrArg Value.bool hc81) ?_
            refine WL.effG (by decide) rfl (Eff.callS 183 rfl Try.func13 nm_13 rfl rfl (fun w hb hh => w_law03_awake (Mem.snap w) hx82)) ?_
            rintro _ _ ⟨_, ⟨rfl, rfl⟩, rfl⟩
            refine WL.yld (by decide) (Yld.pickT rfl rfl) ?_
            refine WL.yld (by decide) (Yld.assign rfl) ?_
            refine WL.done (hK74 _ _ ?_)
            refine WC.ret ?_
            injection h with h; subst h
            exact Ret.fn [] (ResIs.one rfl rfl) rfl (Ext.refl _ _) rfl (by decide) rfl rfl ⟨rfl, rfl⟩
          · replace h := of_f hc81 h
            refine WL.yld (by decide) (Yld.move rfl) ?_
            refine WL.yld (by decide) (Yld.eqlI rfl rfl) ?_
            refine WL.yld (by decide) (Yld.move rfl) ?_
            refine WL.new (v' := .bool true) (congrArg Value.bool (beq_iff_eq.2 hc75)) ?_
            refine WL.yldG (by decide) rfl (Yld.move rfl) ?_
            refine WL.yldG (by decide) rfl (Yld.eqlI rfl rfl) ?_
            refine WL.yld (by decide) (Yld.pickT rfl rfl) ?_
            refine WL.yld (by decide) (Yld.move rfl) ?_
            refine WL.new (v' := .bool true) (congrArg Value.bool (beq_iff_eq.2 hc76)) ?_
            refine WL.yldG (by decide) rfl (Yld.move rfl) ?_
            refine WL.yldG (by decide) rfl (Yld.eqlI rfl rfl) ?_
            refine WL.yld (by decide) (Yld.pickT rfl rfl) ?_
            refine WL.yld (by decide) (Yld.move rfl) ?_
            refine WL.new (v' := .bool true) (congrArg Value.bool (beq_iff_eq.2 hc77)) ?_
            refine WL.yldG (by decide) rfl (Yld.move rfl) ?_
            refine WL.yldG (by decide) rfl (Yld.eqlI rfl rfl) ?_
            refine WL.yld (by decide) (Yld.pickT rfl rfl) ?_
            refine WL.yld (by decide) (Yld.move rfl) ?_
            refine WL.new (v' := .bool true) (congrArg Value.bool (beq_iff_eq.2 hc78)) ?_
            refine WL.yldG (by decide) rfl (Yld.loadBM (k := 163) agg_27 rfl rfl rfl) ?_
            refine WL.yldG (by decide) rfl (Yld.loadBM (k := 173) agg_27 rfl rfl rfl) ?_
            refine WL.effG (by decide) rfl (Eff.callS 180 rfl Try.func31 nm_31 rfl rfl (fun w hb hh => w_law03_equal (Mem.snap w) x55.1 x55.2.1 A60 n61 c62 _ (RdH.sn (RdH.own (k := 159) rfl) w hb hh) x65.1 x65.2.1 A70 n71 c72 _ (RdH.sn (RdH.own (k := 169) rfl) w hb hh) hx79)) ?_
            rintro _ _ ⟨_, ⟨rfl, rfl⟩, rfl⟩
            refine WL.yld (by decide) (Yld.pickT rfl rfl) ?_
            refine WL.yld (by decide) (Yld.move rfl) ?_
            refine WL.new (v' := .bool false) (congrArg Value.bool (Bool.eq_false_iff.2 hc81)) ?_
            refine WL.skip (by decide) rfl rfl ?_
            refine WL.yld (by decide) (Yld.pickF rfl rfl) ?_
            refine WL.yld (by decide) (Yld.assign rfl) ?_
            refine WL.done (hK74 _ _ ?_)
            refine WC.ret ?_
            injection h with h; subst h
            exact Ret.fn [] (ResIs.one rfl rfl) rfl (Ext.refl _ _) rfl (by decide) rfl rfl ⟨rfl, rfl⟩
        · replace h := of_f hc78 h
          refine WL.yld (by decide) (Yld.move rfl) ?_
          refine WL.yld (by decide) (Yld.eqlI rfl rfl) ?_
          refine WL.yld (by decide) (Yld.move rfl) ?_
          refine WL.new (v' := .bool true) (congrArg Value.bool (beq_iff_eq.2 hc75)) ?_
          refine WL.yldG (by decide) rfl (Yld.move rfl) ?_
          refine WL.yldG (by decide) rfl (Yld.eqlI rfl rfl) ?_
          refine WL.yld (by decide) (Yld.pickT rfl rfl) ?_
          refine WL.yld (by decide) (Yld.move rfl) ?_
          refine WL.new (v' := .bool true) (congrArg Value.bool (beq_iff_eq.2 hc76)) ?_
          refine WL.yldG (by decide) rfl (Yld.move rfl) ?_
          refine WL.yldG (by decide) rfl (Yld.eqlI rfl rfl) ?_
          refine WL.yld (by decide) (Yld.pickT rfl rfl) ?_
          refine WL.yld (by decide) (Yld.move rfl) ?_
          refine WL.new (v' := .bool true) (congrArg Value.bool (beq_iff_eq.2 hc77)) ?_
          refine WL.yldG (by decide) rfl (Yld.move rfl) ?_
          refine WL.yldG (by decide) rfl (Yld.eqlI rfl rfl) ?_
          refine WL.yld (by decide) (Yld.pickT rfl rfl) ?_
          refine WL.yld (by decide) (Yld.move rfl) ?_
          refine WL.new (v' := .bool false) (congrArg Value.bool (beq_eq_false_iff_ne.2 hc78)) ?_
          refine WL.skip (by decide) rfl rfl ?_
          refine WL.skip (by decide) rfl rfl ?_
          refine WL.skip (by decide) rfl rfl ?_
          refine WL.yld (by decide) (Yld.pickF rfl rfl) ?_
          refine WL.yld (by decide) (Yld.move rfl) ?_
          refine WL.skip (by decide) rfl rfl ?_
          refine WL.yld (by decide) (Yld.pickF rfl rfl) ?_
          refine WL.yld (by decide) (Yld.assign rfl) ?_
          refine WL.done (hK74 _ _ ?_)
          refine WC.ret ?_
          injection h with h; subst h
          exact Ret.fn [] (ResIs.one rfl rfl) rfl (Ext.refl _ _) rfl (by decide) rfl rfl ⟨rfl, rfl⟩
      · replace h := of_f hc77 h
        refine WL.yld (by decide) (Yld.move rfl) ?_
        refine WL.yld (by decide) (Yld.eqlI rfl rfl) ?_
        refine WL.yld (by decide) (Yld.move rfl) ?_
        refine WL.new (v' := .bool true) (congrArg Value.bool (beq_iff_eq.2 hc75)) ?_
        refine WL.yldG (by decide) rfl (Yld.move rfl) ?_
        refine WL.yldG (by decide) rfl (Yld.eqlI rfl rfl) ?_
        refine WL.yld (by decide) (Yld.pickT rfl rfl) ?_
        refine WL.yld (by decide) (Yld.move rfl) ?_
        refine WL.new (v' := .bool true) (congrArg Value.bool (beq_iff_eq.2 hc76)) ?_
        refine WL.yldG (by decide) rfl (Yld.move rfl) ?_
        refine WL.yldG (by decide) rfl (Yld.eqlI rfl rfl) ?_
        refine WL.yld (by decide) (Yld.pickT rfl rfl) ?_
        refine WL.yld (by decide) (Yld.move rfl) ?_
        refine WL.new (v' := .bool false) (congrArg Value.bool (beq_eq_false_iff_ne.2 hc77)) ?_
        refine WL.skip (by decide) rfl rfl ?_
        refine WL.skip (by decide) rfl rfl ?_
        refine WL.yld (by decide) (Yld.pickF rfl rfl) ?_
        refine WL.yld (by decide) (Yld.move rfl) ?_
        refine WL.skip (by decide) rfl rfl ?_
        refine WL.skip (by decide) rfl rfl ?_
        refine WL.skip (by decide) rfl rfl ?_
        refine WL.yld (by decide) (Yld.pickF rfl rfl) ?_
        refine WL.yld (by decide) (Yld.move rfl) ?_
        refine WL.skip (by decide) rfl rfl ?_
        refine WL.yld (by decide) (Yld.pickF rfl rfl) ?_
        refine WL.yld (by decide) (Yld.assign rfl) ?_
        refine WL.done (hK74 _ _ ?_)
        refine WC.ret ?_
        injection h with h; subst h
        exact Ret.fn [] (ResIs.one rfl rfl) rfl (Ext.refl _ _) rfl (by decide) rfl rfl ⟨rfl, rfl⟩
    · replace h := of_f hc76 h
      refine WL.yld (by decide) (Yld.move rfl) ?_
      refine WL.yld (by decide) (Yld.eqlI rfl rfl) ?_
      refine WL.yld (by decide) (Yld.move rfl) ?_
      refine WL.new (v' := .bool true) (congrArg Value.bool (beq_iff_eq.2 hc75)) ?_
      refine WL.yldG (by decide) rfl (Yld.move rfl) ?_
      refine WL.yldG (by decide) rfl (Yld.eqlI rfl rfl) ?_
      refine WL.yld (by decide) (Yld.pickT rfl rfl) ?_
      refine WL.yld (by decide) (Yld.move rfl) ?_
      refine WL.new (v' := .bool false) (congrArg Value.bool (beq_eq_false_iff_ne.2 hc76)) ?_
      refine WL.skip (by decide) rfl rfl ?_
      refine WL.skip (by decide) rfl rfl ?_
      refine WL.yld (by decide) (Yld.pickF rfl rfl) ?_
      refine WL.yld (by decide) (Yld.move rfl) ?_
      refine WL.skip (by decide) rfl rfl ?_
      refine WL.skip (by decide) rfl rfl ?_
      refine WL.yld (by decide) (Yld.pickF rfl rfl) ?_
      refine WL.yld (by decide) (Yld.move rfl) ?_
      refine WL.skip (by decide) rfl rfl ?_
      refine WL.skip (by decide) rfl rfl ?_
      refine WL.skip (by decide) rfl rfl ?_
      refine WL.yld (by decide) (Yld.pickF rfl rfl) ?_
      refine WL.yld (by decide) (Yld.move rfl) ?_
      refine WL.skip (by decide) rfl rfl ?_
      refine WL.yld (by decide) (Yld.pickF rfl rfl) ?_
      refine WL.yld (by decide) (Yld.assign rfl) ?_
      refine WL.done (hK74 _ _ ?_)
      refine WC.ret ?_
      injection h with h; subst h
      exact Ret.fn [] (ResIs.one rfl rfl) rfl (Ext.refl _ _) rfl (by decide) rfl rfl ⟨rfl, rfl⟩
  · replace h := of_f hc75 h
    refine WL.yld (by decide) (Yld.move rfl) ?_
    refine WL.yld (by decide) (Yld.eqlI rfl rfl) ?_
    refine WL.yld (by decide) (Yld.move rfl) ?_
    refine WL.new (v' := .bool false) (congrArg Value.bool (beq_eq_false_iff_ne.2 hc75)) ?_
    refine WL.skip (by decide) rfl rfl ?_
    refine WL.skip (by decide) rfl rfl ?_
    refine WL.yld (by decide) (Yld.pickF rfl rfl) ?_
    refine WL.yld (by decide) (Yld.move rfl) ?_
    refine WL.skip (by decide) rfl rfl ?_
    refine WL.skip (by decide) rfl rfl ?_
    refine WL.yld (by decide) (Yld.pickF rfl rfl) ?_
    refine WL.yld (by decide) (Yld.move rfl) ?_
    refine WL.skip (by decide) rfl rfl ?_
    refine WL.skip (by decide) rfl rfl ?_
    refine WL.yld (by decide) (Yld.pickF rfl rfl) ?_
    refine WL.yld (by decide) (Yld.move rfl) ?_
    refine WL.skip (by decide) rfl rfl ?_
    refine WL.skip (by decide) rfl rfl ?_
    refine WL.skip (by decide) rfl rfl ?_
    refine WL.yld (by decide) (Yld.pickF rfl rfl) ?_
    refine WL.yld (by decide) (Yld.move rfl) ?_
    refine WL.skip (by decide) rfl rfl ?_
    refine WL.yld (by decide) (Yld.pickF rfl rfl) ?_
    refine WL.yld (by decide) (Yld.assign rfl) ?_
    refine WL.done (hK74 _ _ ?_)
    refine WC.ret ?_
    injection h with h; subst h
    exact Ret.fn [] (ResIs.one rfl rfl) rfl (Ext.refl _ _) rfl (by decide) rfl rfl ⟨rfl, rfl⟩

end Go.Proofs.Ytnkahhipochakaa
