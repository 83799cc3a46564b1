/-
  Walks (e0): what a function's model gives, the function returns. Printed by a program of ours (vcm.py) from the function's operations. Conditions: as each theorem says.
-/
import Derived.Test.YtnkahhipochakaaWkc
import Derived.Test.YtnkahhipochakaaWkd
import Derived.Test.YtnkahhipochakaaMde0
namespace Go.Proofs.Ytnkahhipochakaa
open Go Go.RowKit
set_option linter.unusedVariables false

theorem und_4 : Try.prog.underlying 4 = some .bool := by kernel_rfl
theorem nm_12 : (Try.f12.name == "runtime.NumGoroutine") = false := by kernel_rfl
theorem nm_13 : (Try.f13.name == "runtime.NumGoroutine") = false := by kernel_rfl
theorem nm_17 : (Try.f17.name == "runtime.NumGoroutine") = false := by kernel_rfl
theorem nm_19 : (Try.f19.name == "runtime.NumGoroutine") = false := by kernel_rfl
theorem nm_21 : (Try.f21.name == "runtime.NumGoroutine") = false := by kernel_rfl

set_option maxRecDepth 10000 in
theorem w_law03_GfmatrixMakes (M0 : Mem) (x00_0 : Int) (x00_1 : Int) (A00_2 : Option Addr) (n00_2 c00_2 : Nat) (x00_2 : List (BitVec 8)) (hf00_2 : SlT M0 A00_2 n00_2 c00_2 x00_2) (x01 : Int) (x02 : Int) {res : Bool} (h : m_law03_GfmatrixMakes x00_0 x00_1 x00_2 x01 x02 = some res) :
    Fn Try.prog 3 #[.agg ([I64 x00_0, I64 x00_1, .slice A00_2 n00_2 c00_2] : List Value).toArray, I64 x01, I64 x02] M0 fun r M' es => r = .bool res ∧ es = [] := by
  refine Fn.intro (N := 69) Try.func3 rfl rfl (Nat.le_of_ble_eq_true rfl) fun w0 => ?_
  unfold m_law03_GfmatrixMakes at h
  refine WC.seqRegion fun K1 hK1 => ?_
  refine WL.eff (by decide) (Eff.box 102 (us := [I64 x00_0, I64 x00_1, .slice A00_2 n00_2 c00_2]) rfl rfl rfl) ?_
  rintro _ _ ⟨g2, rfl, rfl⟩
  refine WL.yld (by decide) (Yld.assign rfl) ?_
  refine WL.done (hK1 _ _ ?_)
  refine WC.seq fun K3 hK3 => ?_
  refine WC.seqRegion fun K4 hK4 => ?_
  obtain ⟨x5, hx5, h⟩ := bnd h
  refine WL.yld (by decide) (Yld.loadBM (k := 102) agg_24 rfl rfl rfl) ?_
  refine WL.eff (by decide) (Eff.callS 106 rfl Try.func12 nm_12 rfl rfl (fun w hb hh => w_law03_heavy (Mem.snap w) x00_0 x00_1 A00_2 n00_2 c00_2 _ (RdH.sn (RdH.memM (k := 0) rfl hf00_2) w hb hh) hx5)) ?_
  rintro _ _ ⟨_, ⟨rfl, rfl⟩, rfl⟩
  refine WL.done (hK4 _ _ ?_)
  by_cases hc7 : x5 = true
  · replace h := of_t hc7 h
    refine WC.condTe rfl hc7 ?_
    refine WC.seqRegion fun K8 hK8 => ?_
    obtain ⟨x9, hx9, h⟩ := bnd h
    refine WL.eff (by decide) (Eff.callS 110 rfl Try.func13 nm_13 rfl rfl (fun w hb hh => w_law03_awake (Mem.snap w) hx9)) ?_
    rintro _ _ ⟨_, ⟨rfl, rfl⟩, rfl⟩
    refine WL.yld (by decide) (Yld.assign rfl) ?_
    refine WL.done (hK8 _ _ ?_)
    refine WC.ret (QK.thenR ?_)
    injection h with h; subst h
    exact Ret.fn [] (ResIs.one rfl rfl) rfl (Ext.refl _ _) rfl (by decide) rfl rfl ⟨rfl, rfl⟩
  · replace h := of_f hc7 h
    refine WC.condFe rfl (Bool.eq_false_iff.2 hc7) ?_
    refine WC.skip ?_
    refine QK.thenN (hK3 _ _ ?_)
    refine WC.seqRegion fun K11 hK11 => ?_
    obtain ⟨x12, hx12, h⟩ := bnd h
    refine WL.yld (by decide) (Yld.move rfl) ?_
    refine WL.eff (by decide) (Eff.callS 116 rfl Try.func14 nm_14 rfl rfl (fun w hb hh => w_gfmatrix_Identity (Mem.snap w) x01 hx12)) ?_
    rintro _ _ ⟨_, ⟨A17, n18, c19, rfl, rfl⟩, rfl⟩
    refine WL.yld (by decide) (Yld.move rfl) ?_
    refine WL.yld (by decide) (Yld.extract rfl rfl) ?_
    refine WL.yld (by decide) (Yld.extract rfl rfl) ?_
    refine WL.eff (by decide) (Eff.alloc 120 rfl zr_27) ?_
    rintro _ _ ⟨g20, rfl, rfl⟩
    refine WL.eff0 (Eff0.storeBAM 120 agg_27 rfl rfl rfl ⟨rfl, rfl⟩ rfl) ?_
    refine WL.yld (by decide) (Yld.assign rfl) ?_
    refine WL.done (hK11 _ _ ?_)
    refine WC.seqRegion fun K21 hK21 => ?_
    obtain ⟨x22, hx22, h⟩ := bnd h
    refine WL.yld (by decide) (Yld.move rfl) ?_
    refine WL.eff (by decide) (Eff.callS 126 rfl Try.func15 nm_15 rfl rfl (fun w hb hh => w_r03_Identity (Mem.snap w) x01 hx22)) ?_
    rintro _ _ ⟨_, ⟨A27, n28, c29, rfl, rfl⟩, rfl⟩
    refine WL.yld (by decide) (Yld.move rfl) ?_
    refine WL.yld (by decide) (Yld.extract rfl rfl) ?_
    refine WL.yld (by decide) (Yld.extract rfl rfl) ?_
    refine WL.eff (by decide) (Eff.alloc 130 rfl zr_24) ?_
    rintro _ _ ⟨g30, rfl, rfl⟩
    refine WL.eff0 (Eff0.storeBAM 130 agg_24 rfl rfl rfl ⟨rfl, rfl⟩ rfl) ?_
    refine WL.yld (by decide) (Yld.assign rfl) ?_
    refine WL.done (hK21 _ _ ?_)
    refine WC.seqRegion fun K31 hK31 => ?_
    obtain ⟨x32, hx32, h⟩ := bnd h
    refine WL.yld (by decide) (Yld.move rfl) ?_
    refine WL.yld (by decide) (Yld.move rfl) ?_
    refine WL.eff (by decide) (Eff.callS 136 rfl Try.func16 nm_16 rfl rfl (fun w hb hh => w_gfmatrix_Vandermonde (Mem.snap w) x01 x02 hx32)) ?_
    rintro _ _ ⟨_, ⟨A37, n38, c39, rfl, rfl⟩, rfl⟩
    refine WL.yld (by decide) (Yld.move rfl) ?_
    refine WL.yld (by decide) (Yld.extract rfl rfl) ?_
    refine WL.yld (by decide) (Yld.extract rfl rfl) ?_
    refine WL.eff (by decide) (Eff.alloc 140 rfl zr_27) ?_
    rintro _ _ ⟨g40, rfl, rfl⟩
    refine WL.eff0 (Eff0.storeBAM 140 agg_27 rfl rfl rfl ⟨rfl, rfl⟩ rfl) ?_
    refine WL.yld (by decide) (Yld.assign rfl) ?_
    refine WL.done (hK31 _ _ ?_)
    refine WC.seqRegion fun K41 hK41 => ?_
    obtain ⟨x42, hx42, h⟩ := bnd h
    refine WL.yld (by decide) (Yld.move rfl) ?_
    refine WL.yld (by decide) (Yld.move rfl) ?_
    refine WL.eff (by decide) (Eff.callS 146 rfl Try.func17 nm_17 rfl rfl (fun w hb hh => w_r03_Vandermonde (Mem.snap w) x01 x02 hx42)) ?_
    rintro _ _ ⟨_, ⟨A47, n48, c49, rfl, rfl⟩, rfl⟩
    refine WL.yld (by decide) (Yld.move rfl) ?_
    refine WL.yld (by decide) (Yld.extract rfl rfl) ?_
    refine WL.yld (by decide) (Yld.extract rfl rfl) ?_
    refine WL.eff (by decide) (Eff.alloc 150 rfl zr_24) ?_
    rintro _ _ ⟨g50, rfl, rfl⟩
    refine WL.eff0 (Eff0.storeBAM 150 agg_24 rfl rfl rfl ⟨rfl, rfl⟩ rfl) ?_
    refine WL.yld (by decide) (Yld.assign rfl) ?_
    refine WL.done (hK41 _ _ ?_)
    refine WC.seqRegionD (n := 30) [(102, _), (116, _), (120, _), (126, _), (130, _), (136, _), (140, _), (146, _), (150, _)] rfl mixed (Sub.cons rfl (Sub.cons rfl (Sub.cons rfl (Sub.cons rfl (Sub.cons rfl (Sub.cons rfl (Sub.cons rfl (Sub.cons rfl (Sub.cons rfl (Sub.nil _)))))))))) fun K51 hK51 => ?_
    obtain ⟨x52, hx52, h⟩ := bnd h
    obtain ⟨x67, hx67, h⟩ := bnd h
    obtain ⟨x69, hx69, h⟩ := bnd h
    by_cases hc71 : x67 = x69
    · replace h := of_t hc71 h
      by_cases hc72 : x12.2.2.2 = x22.2.2.2
      · replace h := of_t hc72 h
        by_cases hc73 : x32.2.2.2 = x42.2.2.2
        · replace h := of_t hc73 h
          obtain ⟨x74, hx74, h⟩ := bnd h
          by_cases hc76 : x74 = true
          · replace h := of_t hc76 h
            obtain ⟨x77, hx77, h⟩ := bnd h
            by_cases hc79 : x77 = true
            · replace h := of_t hc79 h
              obtain ⟨x80, hx80, h⟩ := bnd h
              refine WD.take 0 rfl (by kernel_rfl) (by kernel_rfl) (by kernel_rfl) (by decide) (Yld.loadBM (k := 102) agg_24 rfl rfl rfl) ?_
              refine WD.take 3 rfl (by kernel_rfl) (by kernel_rfl) (by kernel_rfl) (by decide) (Yld.loadBM (k := 102) agg_24 rfl rfl rfl) ?_
              refine WD.one 1 (by kernel_rfl) ?_
              refine WS.eff rfl (by decide) (Eff.callM 157 rfl Try.func19 nm_19 rfl rfl rfl (w_law03_given _ x00_0 x00_1 A00_2 n00_2 c00_2 _ hf00_2 hx52)) ?_
              rintro _ _ ⟨M62, _, ⟨A63, n64, c65, rfl, rfl, hf66⟩, hm_M62, rfl⟩
              refine ⟨(Sub.cons rfl (Sub.cons rfl (Sub.cons rfl (Sub.cons rfl (Sub.cons rfl (Sub.cons rfl (Sub.cons rfl (Sub.cons rfl (Sub.cons rfl (Sub.nil _)))))))))), ?_⟩
              refine WD.one 2 (by kernel_rfl) ?_
              refine WS.eff rfl (by decide) (Eff.callS 168 rfl Try.func18 nm_18 rfl rfl (fun w hb hh => w_gfmatrix_Valid (Mem.snap w) x52.1 x52.2.1 A63 n64 c65 _ (RdH.sn (RdH.memM (k := 0) rfl hf66) w hb hh) hx67)) ?_
              rintro _ _ ⟨_, ⟨rfl, rfl⟩, rfl⟩
              refine ⟨(Sub.cons rfl (Sub.cons rfl (Sub.cons rfl (Sub.cons rfl (Sub.cons rfl (Sub.cons rfl (Sub.cons rfl (Sub.cons rfl (Sub.cons rfl (Sub.nil _)))))))))), ?_⟩
              refine WD.one 4 (by kernel_rfl) ?_
              refine WS.eff rfl (by decide) (Eff.callS 170 rfl Try.func20 nm_20 rfl rfl (fun w hb hh => w_r03_Valid (Mem.snap w) x00_0 x00_1 A00_2 n00_2 c00_2 _ (RdH.sn (RdH.memM (k := 0) rfl (SlRc.lift hf00_2 hm_M62)) w hb hh) hx69)) ?_
              rintro _ _ ⟨_, ⟨rfl, rfl⟩, rfl⟩
              refine ⟨(Sub.cons rfl (Sub.cons rfl (Sub.cons rfl (Sub.cons rfl (Sub.cons rfl (Sub.cons rfl (Sub.cons rfl (Sub.cons rfl (Sub.cons rfl (Sub.nil _)))))))))), ?_⟩
              refine WD.take 5 rfl (by kernel_rfl) (by kernel_rfl) (by kernel_rfl) (by decide) (Yld.eqlB und_4 rfl rfl) ?_
              refine WD.take 6 rfl (by kernel_rfl) (by kernel_rfl) (by kernel_rfl) (by decide) (Yld.move rfl) ?_
              refine WD.new (v' := .bool true) (congrArg Value.bool (beq_iff_eq.2 hc71)) ?_
              refine WD.takeG 7 rfl (by kernel_rfl) (by kernel_rfl) (by kernel_rfl) (by decide) rfl (Yld.move rfl) ?_
              refine WD.takeG 8 rfl (by kernel_rfl) (by kernel_rfl) (by kernel_rfl) (by decide) rfl (Yld.move rfl) ?_
              refine WD.takeG 9 rfl (by kernel_rfl) (by kernel_rfl) (by kernel_rfl) (by decide) rfl (Yld.eqlI rfl rfl) ?_
              refine WD.take 10 rfl (by kernel_rfl) (by kernel_rfl) (by kernel_rfl) (by decide) (Yld.pickT rfl rfl) ?_
              refine WD.take 11 rfl (by kernel_rfl) (by kernel_rfl) (by kernel_rfl) (by decide) (Yld.move rfl) ?_
              refine WD.new (v' := .bool true) (congrArg Value.bool (beq_iff_eq.2 hc72)) ?_
              refine WD.takeG 12 rfl (by kernel_rfl) (by kernel_rfl) (by kernel_rfl) (by decide) rfl (Yld.move rfl) ?_
              refine WD.takeG 13 rfl (by kernel_rfl) (by kernel_rfl) (by kernel_rfl) (by decide) rfl (Yld.move rfl) ?_
              refine WD.takeG 14 rfl (by kernel_rfl) (by kernel_rfl) (by kernel_rfl) (by decide) rfl (Yld.eqlI rfl rfl) ?_
              refine WD.take 15 rfl (by kernel_rfl) (by kernel_rfl) (by kernel_rfl) (by decide) (Yld.pickT rfl rfl) ?_
              refine WD.take 16 rfl (by kernel_rfl) (by kernel_rfl) (by kernel_rfl) (by decide) (Yld.move rfl) ?_
              refine WD.new (v' := .bool true) (congrArg Value.bool (beq_iff_eq.2 hc73)) ?_
              refine WD.takeG 17 rfl (by kernel_rfl) (by kernel_rfl) (by kernel_rfl) (by decide) rfl (Yld.loadBM (k := 120) agg_27 rfl rfl rfl) ?_
              refine WD.takeG 18 rfl (by kernel_rfl) (by kernel_rfl) (by kernel_rfl) (by decide) rfl (Yld.loadBM (k := 130) agg_24 rfl rfl rfl) ?_
              refine WD.one 19 (by kernel_rfl) ?_
              refine WS.effG rfl (by decide) rfl (Eff.callS 175 rfl Try.func21 nm_21 rfl rfl (fun w hb hh => w_law03_same (Mem.snap w) x12.1 x12.2.1 A17 n18 c19 _ (RdH.sn (RdH.own (k := 116) rfl) w hb hh) x22.1 x22.2.1 A27 n28 c29 _ (RdH.sn (RdH.own (k := 126) rfl) w hb hh) hx74)) ?_
              rintro _ _ ⟨_, ⟨rfl, rfl⟩, rfl⟩
              refine ⟨(Sub.cons rfl (Sub.cons rfl (Sub.cons rfl (Sub.cons rfl (Sub.cons rfl (Sub.cons rfl (Sub.cons rfl (Sub.cons rfl (Sub.cons rfl (Sub.nil _)))))))))), ?_⟩
              refine WD.take 20 rfl (by kernel_rfl) (by kernel_rfl) (by kernel_rfl) (by decide) (Yld.pickT rfl rfl) ?_
              refine WD.take 21 rfl (by kernel_rfl) (by kernel_rfl) (by kernel_rfl) (by decide) (Yld.move rfl) ?_
              refine WD.new (v' := .bool true) (congrArg Value.bool hc76) ?_
              refine WD.takeG 22 rfl (by kernel_rfl) (by kernel_rfl) (by kernel_rfl) (by decide) rfl (Yld.loadBM (k := 140) agg_27 rfl rfl rfl) ?_
              refine WD.takeG 23 rfl (by kernel_rfl) (by kernel_rfl) (by kernel_rfl) (by decide) rfl (Yld.loadBM (k := 150) agg_24 rfl rfl rfl) ?_
              refine WD.one 24 (by kernel_rfl) ?_
              refine WS.effG rfl (by decide) rfl (Eff.callS 178 rfl Try.func21 nm_21 rfl rfl (fun w hb hh => w_law03_same (Mem.snap w) x32.1 x32.2.1 A37 n38 c39 _ (RdH.sn (RdH.own (k := 136) rfl) w hb hh) x42.1 x42.2.1 A47 n48 c49 _ (RdH.sn (RdH.own (k := 146) rfl) w hb hh) hx77)) ?_
              rintro _ _ ⟨_, ⟨rfl, rfl⟩, rfl⟩
              refine ⟨(Sub.cons rfl (Sub.cons rfl (Sub.cons rfl (Sub.cons rfl (Sub.cons rfl (Sub.cons rfl (Sub.cons rfl (Sub.cons rfl (Sub.cons rfl (Sub.nil _)))))))))), ?_⟩
              refine WD.take 25 rfl (by kernel_rfl) (by kernel_rfl) (by kernel_rfl) (by decide) (Yld.pickT rfl rfl) ?_
              refine WD.take 26 rfl (by kernel_rfl) (by kernel_rfl) (by kernel_rfl) (by decide) (Yld.move rfl) ?_
              refine WD.new (v' := .bool true) (congrArg Value.bool hc79) ?_
              refine WD.one 27 (by kernel_rfl) ?_
              refine WS.effG rfl (by decide) rfl (Eff.callS 181 rfl Try.func13 nm_13 rfl rfl (fun w hb hh => w_law03_awake (Mem.snap w) hx80)) ?_
              rintro _ _ ⟨_, ⟨rfl, rfl⟩, rfl⟩
              refine ⟨(Sub.cons rfl (Sub.cons rfl (Sub.cons rfl (Sub.cons rfl (Sub.cons rfl (Sub.cons rfl (Sub.cons rfl (Sub.cons rfl (Sub.cons rfl (Sub.nil _)))))))))), ?_⟩
              refine WD.take 28 rfl (by kernel_rfl) (by kernel_rfl) (by kernel_rfl) (by decide) (Yld.pickT rfl rfl) ?_
              refine WD.take 29 rfl (by kernel_rfl) (by kernel_rfl) (by kernel_rfl) (by decide) (Yld.assign rfl) ?_
              refine WD.done (by kernel_rfl) (hK51 _ _ ?_)
              refine WC.ret ?_
              injection h with h; subst h
              exact Ret.fn [] (ResIs.one rfl rfl) rfl hm_M62 rfl (by decide) rfl rfl ⟨rfl, rfl⟩
            · replace h := of_f hc79 h
              refine WD.take 0 rfl (by kernel_rfl) (by kernel_rfl) (by kernel_rfl) (by decide) (Yld.loadBM (k := 102) agg_24 rfl rfl rfl) ?_
              refine WD.take 3 rfl (by kernel_rfl) (by kernel_rfl) (by kernel_rfl) (by decide) (Yld.loadBM (k := 102) agg_24 rfl rfl rfl) ?_
              refine WD.one 1 (by kernel_rfl) ?_
              refine WS.eff rfl (by decide) (Eff.callM 157 rfl Try.func19 nm_19 rfl rfl rfl (w_law03_given _ x00_0 x00_1 A00_2 n00_2 c00_2 _ hf00_2 hx52)) ?_
              rintro _ _ ⟨M62, _, ⟨A63, n64, c65, rfl, rfl, hf66⟩, hm_M62, rfl⟩
              refine ⟨(Sub.cons rfl (Sub.cons rfl (Sub.cons rfl (Sub.cons rfl (Sub.cons rfl (Sub.cons rfl (Sub.cons rfl (Sub.cons rfl (Sub.cons rfl (Sub.nil _)))))))))), ?_⟩
              refine WD.one 2 (by kernel_rfl) ?_
              refine WS.eff rfl (by decide) (Eff.callS 168 rfl Try.func18 nm_18 rfl rfl (fun w hb hh => w_gfmatrix_Valid (Mem.snap w) x52.1 x52.2.1 A63 n64 c65 _ (RdH.sn (RdH.memM (k := 0) rfl hf66) w hb hh) hx67)) ?_
              rintro _ _ ⟨_, ⟨rfl, rfl⟩, rfl⟩
              refine ⟨(Sub.cons rfl (Sub.cons rfl (Sub.cons rfl (Sub.cons rfl (Sub.cons rfl (Sub.cons rfl (Sub.cons rfl (Sub.cons rfl (Sub.cons rfl (Sub.nil _)))))))))), ?_⟩
              refine WD.one 4 (by kernel_rfl) ?_
              refine WS.eff rfl (by decide) (Eff.callS 170 rfl Try.func20 nm_20 rfl rfl (fun w hb hh => w_r03_Valid (Mem.snap w) x00_0 x00_1 A00_2 n00_2 c00_2 _ (RdH.sn (RdH.memM (k := 0) rfl (SlRc.lift hf00_2 hm_M62)) w hb hh) hx69)) ?_
              rintro _ _ ⟨_, ⟨rfl, rfl⟩, rfl⟩
              refine ⟨(Sub.cons rfl (Sub.cons rfl (Sub.cons rfl (Sub.cons rfl (Sub.cons rfl (Sub.cons rfl (Sub.cons rfl (Sub.cons rfl (Sub.cons rfl (Sub.nil _)))))))))), ?_⟩
              refine WD.take 5 rfl (by kernel_rfl) (by kernel_rfl) (by kernel_rfl) (by decide) (Yld.eqlB und_4 rfl rfl) ?_
              refine WD.take 6 rfl (by kernel_rfl) (by kernel_rfl) (by kernel_rfl) (by decide) (Yld.move rfl) ?_
              refine WD.new (v' := .bool true) (congrArg Value.bool (beq_iff_eq.2 hc71)) ?_
              refine WD.takeG 7 rfl (by kernel_rfl) (by kernel_rfl) (by kernel_rfl) (by decide) rfl (Yld.move rfl) ?_
              refine WD.takeG 8 rfl (by kernel_rfl) (by kernel_rfl) (by kernel_rfl) (by decide) rfl (Yld.move rfl) ?_
              refine WD.takeG 9 rfl (by kernel_rfl) (by kernel_rfl) (by kernel_rfl) (by decide) rfl (Yld.eqlI rfl rfl) ?_
              refine WD.take 10 rfl (by kernel_rfl) (by kernel_rfl) (by kernel_rfl) (by decide) (Yld.pickT rfl rfl) ?_
              refine WD.take 11 rfl (by kernel_rfl) (by kernel_rfl) (by kernel_rfl) (by decide) (Yld.move rfl) ?_
              refine WD.new (v' := .bool true) (congrArg Value.bool (beq_iff_eq.2 hc72)) ?_
              refine WD.takeG 12 rfl (by kernel_rfl) (by kernel_rfl) (by kernel_rfl) (by decide) rfl (Yld.move rfl) ?_
              refine WD.takeG 13 rfl (by kernel_rfl) (by kernel_rfl) (by kernel_rfl) (by decide) rfl (Yld.move rfl) ?_
              refine WD.takeG 14 rfl (by kernel_rfl) (by kernel_rfl) (by kernel_rfl) (by decide) rfl (Yld.eqlI rfl rfl) ?_
              refine WD.take 15 rfl (by kernel_rfl) (by kernel_rfl) (by kernel_rfl) (by decide) (Yld.pickT rfl rfl) ?_
              refine WD.take 16 rfl (by kernel_rfl) (by kernel_rfl) (by kernel_rfl) (by decide) (Yld.move rfl) ?_
              refine WD.new (v' := .bool true) (congrArg Value.bool (beq_iff_eq.2 hc73)) ?_
              refine WD.takeG 17 rfl (by kernel_rfl) (by kernel_rfl) (by kernel_rfl) (by decide) rfl (Yld.loadBM (k := 120) agg_27 rfl rfl rfl) ?_
              refine WD.takeG 18 rfl (by kernel_rfl) (by kernel_rfl) (by kernel_rfl) (by decide) rfl (Yld.loadBM (k := 130) agg_24 rfl rfl rfl) ?_
              refine WD.one 19 (by kernel_rfl) ?_
              refine WS.effG rfl (by decide) rfl (Eff.callS 175 rfl Try.func21 nm_21 rfl rfl (fun w hb hh => w_law03_same (Mem.snap w) x12.1 x12.2.1 A17 n18 c19 _ (RdH.sn (RdH.own (k := 116) rfl) w hb hh) x22.1 x22.2.1 A27 n28 c29 _ (RdH.sn (RdH.own (k := 126) rfl) w hb hh) hx74)) ?_
              rintro _ _ ⟨_, ⟨rfl, rfl⟩, rfl⟩
              refine ⟨(Sub.cons rfl (Sub.cons rfl (Sub.cons rfl (Sub.cons rfl (Sub.cons rfl (Sub.cons rfl (Sub.cons rfl (Sub.cons rfl (Sub.cons rfl (Sub.nil _)))))))))), ?_⟩
              refine WD.take 20 rfl (by kernel_rfl) (by kernel_rfl) (by kernel_rfl) (by decide) (Yld.pickT rfl rfl) ?_
              refine WD.take 21 rfl (by kernel_rfl) (by kernel_rfl) (by kernel_rfl) (by decide) (Yld.move rfl) ?_
              refine WD.new (v' := .bool true) (congrArg Value.bool hc76) ?_
              refine WD.takeG 22 rfl (by kernel_rfl) (by kernel_rfl) (by kernel_rfl) (by decide) rfl (Yld.loadBM (k := 140) agg_27 rfl rfl rfl) ?_
              refine WD.takeG 23 rfl (by kernel_rfl) (by kernel_rfl) (by kernel_rfl) (by decide) rfl (Yld.loadBM (k := 150) agg_24 rfl rfl rfl) ?_
              refine WD.one 24 (by kernel_rfl) ?_
              refine WS.effG rfl (by decide) rfl (Eff.callS 178 rfl Try.func21 nm_21 rfl rfl (fun w hb hh => w_law03_same (Mem.snap w) x32.1 x32.2.1 A37 n38 c39 _ (RdH.sn (RdH.own (k := 136) rfl) w hb hh) x42.1 x42.2.1 A47 n48 c49 _ (RdH.sn (RdH.own (k := 146) rfl) w hb hh) hx77)) ?_
              rintro _ _ ⟨_, ⟨rfl, rfl⟩, rfl⟩
              refine ⟨(Sub.cons rfl (Sub.cons rfl (Sub.cons rfl (Sub.cons rfl (Sub.cons rfl (Sub.cons rfl (Sub.cons rfl (Sub.cons rfl (Sub.cons rfl (Sub.nil _)))))))))), ?_⟩
              refine WD.take 25 rfl (by kernel_rfl) (by kernel_rfl) (by kernel_rfl) (by decide) (Yld.pickT rfl rfl) ?_
              refine WD.take 26 rfl (by kernel_rfl) (by kernel_rfl) (by kernel_rfl) (by decide) (Yld.move rfl) ?_
              refine WD.new (v' := .bool false) (congrArg Value.bool (Bool.eq_false_iff.2 hc79)) ?_
              refine WD.takeS 27 rfl (by kernel_rfl) (by kernel_rfl) (by kernel_rfl) (by decide) rfl rfl ?_
              refine WD.take 28 rfl (by kernel_rfl) (by kernel_rfl) (by kernel_rfl) (by decide) (Yld.pickF rfl rfl) ?_
              refine WD.take 29 rfl (by kernel_rfl) (by kernel_rfl) (by kernel_rfl) (by decide) (Yld.assign rfl) ?_
              refine WD.done (by kernel_rfl) (hK51 _ _ ?_)
              refine WC.ret ?_
              injection h with h; subst h
              exact Ret.fn [] (ResIs.one rfl rfl) rfl hm_M62 rfl (by decide) rfl rfl ⟨rfl, rfl⟩
          · replace h := of_f hc76 h
            refine WD.take 0 rfl (by kernel_rfl) (by kernel_rfl) (by kernel_rfl) (by decide) (Yld.loadBM (k := 102) agg_24 rfl rfl rfl) ?_
            refine WD.take 3 rfl (by kernel_rfl) (by kernel_rfl) (by kernel_rfl) (by decide) (Yld.loadBM (k := 102) agg_24 rfl rfl rfl) ?_
            refine WD.one 1 (by kernel_rfl) ?_
            refine WS.eff rfl (by decide) (Eff.callM 157 rfl Try.func19 nm_19 rfl rfl rfl (w_law03_given _ x00_0 x00_1 A00_2 n00_2 c00_2 _ hf00_2 hx52)) ?_
            rintro _ _ ⟨M62, _, ⟨A63, n64, c65, rfl, rfl, hf66⟩, hm_M62, rfl⟩
            refine ⟨(Sub.cons rfl (Sub.cons rfl (Sub.cons rfl (Sub.cons rfl (Sub.cons rfl (Sub.cons rfl (Sub.cons rfl (Sub.cons rfl (Sub.cons rfl (Sub.nil _)))))))))), ?_⟩
            refine WD.one 2 (by kernel_rfl) ?_
            refine WS.eff rfl (by decide) (Eff.callS 168 rfl Try.func18 nm_18 rfl rfl (fun w hb hh => w_gfmatrix_Valid (Mem.snap w) x52.1 x52.2.1 A63 n64 c65 _ (RdH.sn (RdH.memM (k := 0) rfl hf66) w hb hh) hx67)) ?_
            rintro _ _ ⟨_, ⟨rfl, rfl⟩, rfl⟩
            refine ⟨(Sub.cons rfl (Sub.cons rfl (Sub.cons rfl (Sub.cons rfl (Sub.cons rfl (Sub.cons rfl (Sub.cons rfl (Sub.cons rfl (Sub.cons rfl (Sub.nil _)))))))))), ?_⟩
            refine WD.one 4 (by kernel_rfl) ?_
            refine WS.eff rfl (by decide) (Eff.callS 170 rfl Try.func20 nm_20 rfl rfl (fun w hb hh => w_r03_Valid (Mem.snap w) x00_0 x00_1 A00_2 n00_2 c00_2 _ (RdH.sn (RdH.memM (k := 0) rfl (SlRc.lift hf00_2 hm_M62)) w hb hh) hx69)) ?_
            rintro _ _ ⟨_, ⟨rfl, rfl⟩, rfl⟩
            refine ⟨(Sub.cons rfl (Sub.cons rfl (Sub.cons rfl (Sub.cons rfl (Sub.cons rfl (Sub.cons rfl (Sub.cons rfl (Sub.cons rfl (Sub.cons rfl (Sub.nil _)))))))))), ?_⟩
            refine WD.take 5 rfl (by kernel_rfl) (by kernel_rfl) (by kernel_rfl) (by decide) (Yld.eqlB und_4 rfl rfl) ?_
            refine WD.take 6 rfl (by kernel_rfl) (by kernel_rfl) (by kernel_rfl) (by decide) (Yld.move rfl) ?_
            refine WD.new (v' := .bool true) (congrArg Value.bool (beq_iff_eq.2 hc71)) ?_
            refine WD.takeG 7 rfl (by kernel_rfl) (by kernel_rfl) (by kernel_rfl) (by decide) rfl (Yld.move rfl) ?_
            refine WD.takeG 8 rfl (by kernel_rfl) (by kernel_rfl) (by kernel_rfl) (by decide) rfl (Yld.move rfl) ?_
            refine WD.takeG 9 rfl (by kernel_rfl) (by kernel_rfl) (by kernel_rfl) (by decide) rfl (Yld.eqlI rfl rfl) ?_
            refine WD.take 10 rfl (by kernel_rfl) (by kernel_rfl) (by kernel_rfl) (by decide) (Yld.pickT rfl rfl) ?_
            refine WD.take 11 rfl (by kernel_rfl) (by kernel_rfl) (by kernel_rfl) (by decide) (Yld.move rfl) ?_
            refine WD.new (v' := .bool true) (congrArg Value.bool (beq_iff_eq.2 hc72)) ?_
            refine WD.takeG 12 rfl (by kernel_rfl) (by kernel_rfl) (by kernel_rfl) (by decide) rfl (Yld.move rfl) ?_
            refine WD.takeG 13 rfl (by kernel_rfl) (by kernel_rfl) (by kernel_rfl) (by decide) rfl (Yld.move rfl) ?_
            refine WD.takeG 14 rfl (by kernel_rfl) (by kernel_rfl) (by kernel_rfl) (by decide) rfl (Yld.eqlI rfl rfl) ?_
            refine WD.take 15 rfl (by kernel_rfl) (by kernel_rfl) (by kernel_rfl) (by decide) (Yld.pickT rfl rfl) ?_
            refine WD.take 16 rfl (by kernel_rfl) (by kernel_rfl) (by kernel_rfl) (by decide) (Yld.move rfl) ?_
            refine WD.new (v' := .bool true) (congrArg Value.bool (beq_iff_eq.2 hc73)) ?_
            refine WD.takeG 17 rfl (by kernel_rfl) (by kernel_rfl) (by kernel_rfl) (by decide) rfl (Yld.loadBM (k := 120) agg_27 rfl rfl rfl) ?_
            refine WD.takeG 18 rfl (by kernel_rfl) (by kernel_rfl) (by kernel_rfl) (by decide) rfl (Yld.loadBM (k := 130) agg_24 rfl rfl rfl) ?_
            refine WD.one 19 (by kernel_rfl) ?_
            refine WS.effG rfl (by decide) rfl (Eff.callS 175 rfl Try.func21 nm_21 rfl rfl (fun w hb hh => w_law03_same (Mem.snap w) x12.1 x12.2.1 A17 n18 c19 _ (RdH.sn (RdH.own (k := 116) rfl) w hb hh) x22.1 x22.2.1 A27 n28 c29 _ (RdH.sn (RdH.own (k := 126) rfl) w hb hh) hx74)) ?_
            rintro _ _ ⟨_, ⟨rfl, rfl⟩, rfl⟩
            refine ⟨(Sub.cons rfl (Sub.cons rfl (Sub.cons rfl (Sub.cons rfl (Sub.cons rfl (Sub.cons rfl (Sub.cons rfl (Sub.cons rfl (Sub.cons rfl (Sub.nil _)))))))))), ?_⟩
            refine WD.take 20 rfl (by kernel_rfl) (by kernel_rfl) (by kernel_rfl) (by decide) (Yld.pickT rfl rfl) ?_
            refine WD.take 21 rfl (by kernel_rfl) (by kernel_rfl) (by kernel_rfl) (by decide) (Yld.move rfl) ?_
            refine WD.new (v' := .bool false) (congrArg Value.bool (Bool.eq_false_iff.2 hc76)) ?_
            refine WD.takeS 22 rfl (by kernel_rfl) (by kernel_rfl) (by kernel_rfl) (by decide) rfl rfl ?_
            refine WD.takeS 23 rfl (by kernel_rfl) (by kernel_rfl) (by kernel_rfl) (by decide) rfl rfl ?_
            refine WD.takeS 24 rfl (by kernel_rfl) (by kernel_rfl) (by kernel_rfl) (by decide) rfl rfl ?_
            refine WD.take 25 rfl (by kernel_rfl) (by kernel_rfl) (by kernel_rfl) (by decide) (Yld.pickF rfl rfl) ?_
            refine WD.take 26 rfl (by kernel_rfl) (by kernel_rfl) (by kernel_rfl) (by decide) (Yld.move rfl) ?_
            refine WD.takeS 27 rfl (by kernel_rfl) (by kernel_rfl) (by kernel_rfl) (by decide) rfl rfl ?_
            refine WD.take 28 rfl (by kernel_rfl) (by kernel_rfl) (by kernel_rfl) (by decide) (Yld.pickF rfl rfl) ?_
            refine WD.take 29 rfl (by kernel_rfl) (by kernel_rfl) (by kernel_rfl) (by decide) (Yld.assign rfl) ?_
            refine WD.done (by kernel_rfl) (hK51 _ _ ?_)
            refine WC.ret ?_
            injection h with h; subst h
            exact Ret.fn [] (ResIs.one rfl rfl) rfl hm_M62 rfl (by decide) rfl rfl ⟨rfl, rfl⟩
        · replace h := of_f hc73 h
          refine WD.take 0 rfl (by kernel_rfl) (by kernel_rfl) (by kernel_rfl) (by decide) (Yld.loadBM (k := 102) agg_24 rfl rfl rfl) ?_
          refine WD.take 3 rfl (by kernel_rfl) (by kernel_rfl) (by kernel_rfl) (by decide) (Yld.loadBM (k := 102) agg_24 rfl rfl rfl) ?_
          refine WD.one 1 (by kernel_rfl) ?_
          refine WS.eff rfl (by decide) (Eff.callM 157 rfl Try.func19 nm_19 rfl rfl rfl (w_law03_given _ x00_0 x00_1 A00_2 n00_2 c00_2 _ hf00_2 hx52)) ?_
          rintro _ _ ⟨M62, _, ⟨A63, n64, c65, rfl, rfl, hf66⟩, hm_M62, rfl⟩
          refine ⟨(Sub.cons rfl (Sub.cons rfl (Sub.cons rfl (Sub.cons rfl (Sub.cons rfl (Sub.cons rfl (Sub.cons rfl (Sub.cons rfl (Sub.cons rfl (Sub.nil _)))))))))), ?_⟩
          refine WD.one 2 (by kernel_rfl) ?_
          refine WS.eff rfl (by decide) (Eff.callS 168 rfl Try.func18 nm_18 rfl rfl (fun w hb hh => w_gfmatrix_Valid (Mem.snap w) x52.1 x52.2.1 A63 n64 c65 _ (RdH.sn (RdH.memM (k := 0) rfl hf66) w hb hh) hx67)) ?_
          rintro _ _ ⟨_, ⟨rfl, rfl⟩, rfl⟩
          refine ⟨(Sub.cons rfl (Sub.cons rfl (Sub.cons rfl (Sub.cons rfl (Sub.cons rfl (Sub.cons rfl (Sub.cons rfl (Sub.cons rfl (Sub.cons rfl (Sub.nil _)))))))))), ?_⟩
          refine WD.one 4 (by kernel_rfl) ?_
          refine WS.eff rfl (by decide) (Eff.callS 170 rfl Try.func20 nm_20 rfl rfl (fun w hb hh => w_r03_Valid (Mem.snap w) x00_0 x00_1 A00_2 n00_2 c00_2 _ (RdH.sn (RdH.memM (k := 0) rfl (SlRc.lift hf00_2 hm_M62)) w hb hh) hx69)) ?_
          rintro _ _ ⟨_, ⟨rfl, rfl⟩, rfl⟩
          refine ⟨(Sub.cons rfl (Sub.cons rfl (Sub.cons rfl (Sub.cons rfl (Sub.cons rfl (Sub.cons rfl (Sub.cons rfl (Sub.cons rfl (Sub.cons rfl (Sub.nil _)))))))))), ?_⟩
          refine WD.take 5 rfl (by kernel_rfl) (by kernel_rfl) (by kernel_rfl) (by decide) (Yld.eqlB und_4 rfl rfl) ?_
          refine WD.take 6 rfl (by kernel_rfl) (by kernel_rfl) (by kernel_rfl) (by decide) (Yld.move rfl) ?_
          refine WD.new (v' := .bool true) (congrArg Value.bool (beq_iff_eq.2 hc71)) ?_
          refine WD.takeG 7 rfl (by kernel_rfl) (by kernel_rfl) (by kernel_rfl) (by decide) rfl (Yld.move rfl) ?_
          refine WD.takeG 8 rfl (by kernel_rfl) (by kernel_rfl) (by kernel_rfl) (by decide) rfl (Yld.move rfl) ?_
          refine WD.takeG 9 rfl (by kernel_rfl) (by kernel_rfl) (by kernel_rfl) (by decide) rfl (Yld.eqlI rfl rfl) ?_
          refine WD.take 10 rfl (by kernel_rfl) (by kernel_rfl) (by kernel_rfl) (by decide) (Yld.pickT rfl rfl) ?_
          refine WD.take 11 rfl (by kernel_rfl) (by kernel_rfl) (by kernel_rfl) (by decide) (Yld.move rfl) ?_
          refine WD.new (v' := .bool true) (congrArg Value.bool (beq_iff_eq.2 hc72)) ?_
          refine WD.takeG 12 rfl (by kernel_rfl) (by kernel_rfl) (by kernel_rfl) (by decide) rfl (Yld.move rfl) ?_
          refine WD.takeG 13 rfl (by kernel_rfl) (by kernel_rfl) (by kernel_rfl) (by decide) rfl (Yld.move rfl) ?_
          refine WD.takeG 14 rfl (by kernel_rfl) (by kernel_rfl) (by kernel_rfl) (by decide) rfl (Yld.eqlI rfl rfl) ?_
          refine WD.take 15 rfl (by kernel_rfl) (by kernel_rfl) (by kernel_rfl) (by decide) (Yld.pickT rfl rfl) ?_
          refine WD.take 16 rfl (by kernel_rfl) (by kernel_rfl) (by kernel_rfl) (by decide) (Yld.move rfl) ?_
          refine WD.new (v' := .bool false) (congrArg Value.bool (beq_eq_false_iff_ne.2 hc73)) ?_
          refine WD.takeS 17 rfl (by kernel_rfl) (by kernel_rfl) (by kernel_rfl) (by decide) rfl rfl ?_
          refine WD.takeS 18 rfl (by kernel_rfl) (by kernel_rfl) (by kernel_rfl) (by decide) rfl rfl ?_
          refine WD.takeS 19 rfl (by kernel_rfl) (by kernel_rfl) (by kernel_rfl) (by decide) rfl rfl ?_
          refine WD.take 20 rfl (by kernel_rfl) (by kernel_rfl) (by kernel_rfl) (by decide) (Yld.pickF rfl rfl) ?_
          refine WD.take 21 rfl (by kernel_rfl) (by kernel_rfl) (by kernel_rfl) (by decide) (Yld.move rfl) ?_
          refine WD.takeS 22 rfl (by kernel_rfl) (by kernel_rfl) (by kernel_rfl) (by decide) rfl rfl ?_
          refine WD.takeS 23 rfl (by kernel_rfl) (by kernel_rfl) (by kernel_rfl) (by decide) rfl rfl ?_
          refine WD.takeS 24 rfl (by kernel_rfl) (by kernel_rfl) (by kernel_rfl) (by decide) rfl rfl ?_
          refine WD.take 25 rfl (by kernel_rfl) (by kernel_rfl) (by kernel_rfl) (by decide) (Yld.pickF rfl rfl) ?_
          refine WD.take 26 rfl (by kernel_rfl) (by kernel_rfl) (by kernel_rfl) (by decide) (Yld.move rfl) ?_
          refine WD.takeS 27 rfl (by kernel_rfl) (by kernel_rfl) (by kernel_rfl) (by decide) rfl rfl ?_
          refine WD.take 28 rfl (by kernel_rfl) (by kernel_rfl) (by kernel_rfl) (by decide) (Yld.pickF rfl rfl) ?_
          refine WD.take 29 rfl (by kernel_rfl) (by kernel_rfl) (by kernel_rfl) (by decide) (Yld.assign rfl) ?_
          refine WD.done (by kernel_rfl) (hK51 _ _ ?_)
          refine WC.ret ?_
          injection h with h; subst h
          exact Ret.fn [] (ResIs.one rfl rfl) rfl hm_M62 rfl (by decide) rfl rfl ⟨rfl, rfl⟩
      · replace h := of_f hc72 h
        refine WD.take 0 rfl (by kernel_rfl) (by kernel_rfl) (by kernel_rfl) (by decide) (Yld.loadBM (k := 102) agg_24 rfl rfl rfl) ?_
        refine WD.take 3 rfl (by kernel_rfl) (by kernel_rfl) (by kernel_rfl) (by decide) (Yld.loadBM (k := 102) agg_24 rfl rfl rfl) ?_
        refine WD.one 1 (by kernel_rfl) ?_
        refine WS.eff rfl (by decide) (Eff.callM 157 rfl Try.func19 nm_19 rfl rfl rfl (w_law03_given _ x00_0 x00_1 A00_2 n00_2 c00_2 _ hf00_2 hx52)) ?_
        rintro _ _ ⟨M62, _, ⟨A63, n64, c65, rfl, rfl, hf66⟩, hm_M62, rfl⟩
        refine ⟨(Sub.cons rfl (Sub.cons rfl (Sub.cons rfl (Sub.cons rfl (Sub.cons rfl (Sub.cons rfl (Sub.cons rfl (Sub.cons rfl (Sub.cons rfl (Sub.nil _)))))))))), ?_⟩
        refine WD.one 2 (by kernel_rfl) ?_
        refine WS.eff rfl (by decide) (Eff.callS 168 rfl Try.func18 nm_18 rfl rfl (fun w hb hh => w_gfmatrix_Valid (Mem.snap w) x52.1 x52.2.1 A63 n64 c65 _ (RdH.sn (RdH.memM (k := 0) rfl hf66) w hb hh) hx67)) ?_
        rintro _ _ ⟨_, ⟨rfl, rfl⟩, rfl⟩
        refine ⟨(Sub.cons rfl (Sub.cons rfl (Sub.cons rfl (Sub.cons rfl (Sub.cons rfl (Sub.cons rfl (Sub.cons rfl (Sub.cons rfl (Sub.cons rfl (Sub.nil _)))))))))), ?_⟩
        refine WD.one 4 (by kernel_rfl) ?_
        refine WS.eff rfl (by decide) (Eff.callS 170 rfl Try.func20 nm_20 rfl rfl (fun w hb hh => w_r03_Valid (Mem.snap w) x00_0 x00_1 A00_2 n00_2 c00_2 _ (RdH.sn (RdH.memM (k := 0) rfl (SlRc.lift hf00_2 hm_M62)) w hb hh) hx69)) ?_
        rintro _ _ ⟨_, ⟨rfl, rfl⟩, rfl⟩
        refine ⟨(Sub.cons rfl (Sub.cons rfl (Sub.cons rfl (Sub.cons rfl (Sub.cons rfl (Sub.cons rfl (Sub.cons rfl (Sub.cons rfl (Sub.cons rfl (Sub.nil _)))))))))), ?_⟩
        refine WD.take 5 rfl (by kernel_rfl) (by kernel_rfl) (by kernel_rfl) (by decide) (Yld.eqlB und_4 rfl rfl) ?_
        refine WD.take 6 rfl (by kernel_rfl) (by kernel_rfl) (by kernel_rfl) (by decide) (Yld.move rfl) ?_
        refine WD.new (v' := .bool true) (congrArg Value.bool (beq_iff_eq.2 hc71)) ?_
        refine WD.takeG 7 rfl (by kernel_rfl) (by kernel_rfl) (by kernel_rfl) (by decide) rfl (Yld.move rfl) ?_
        refine WD.takeG 8 rfl (by kernel_rfl) (by kernel_rfl) (by kernel_rfl) (by decide) rfl (Yld.move rfl) ?_
        refine WD.takeG 9 rfl (by kernel_rfl) (by kernel_rfl) (by kernel_rfl) (by decide) rfl (Yld.eqlI rfl rfl) ?_
        refine WD.take 10 rfl (by kernel_rfl) (by kernel_rfl) (by kernel_rfl) (by decide) (Yld.pickT rfl rfl) ?_
        refine WD.take 11 rfl (by kernel_rfl) (by kernel_rfl) (by kernel_rfl) (by decide) (Yld.move rfl) ?_
        refine WD.new (v' := .bool false) (congrArg Value.bool (beq_eq_false_iff_ne.2 hc72)) ?_
        refine WD.takeS 12 rfl (by kernel_rfl) (by kernel_rfl) (by kernel_rfl) (by decide) rfl rfl ?_
        refine WD.takeS 13 rfl (by kernel_rfl) (by kernel_rfl) (by kernel_rfl) (by decide) rfl rfl ?_
        refine WD.takeS 14 rfl (by kernel_rfl) (by kernel_rfl) (by kernel_rfl) (by decide) rfl rfl ?_
        refine WD.take 15 rfl (by kernel_rfl) (by kernel_rfl) (by kernel_rfl) (by decide) (Yld.pickF rfl rfl) ?_
        refine WD.take 16 rfl (by kernel_rfl) (by kernel_rfl) (by kernel_rfl) (by decide) (Yld.move rfl) ?_
        refine WD.takeS 17 rfl (by kernel_rfl) (by kernel_rfl) (by kernel_rfl) (by decide) rfl rfl ?_
        refine WD.takeS 18 rfl (by kernel_rfl) (by kernel_rfl) (by kernel_rfl) (by decide) rfl rfl ?_
        refine WD.takeS 19 rfl (by kernel_rfl) (by kernel_rfl) (by kernel_rfl) (by decide) rfl rfl ?_
        refine WD.take 20 rfl (by kernel_rfl) (by kernel_rfl) (by kernel_rfl) (by decide) (Yld.pickF rfl rfl) ?_
        refine WD.take 21 rfl (by kernel_rfl) (by kernel_rfl) (by kernel_rfl) (by decide) (Yld.move rfl) ?_
        refine WD.takeS 22 rfl (by kernel_rfl) (by kernel_rfl) (by kernel_rfl) (by decide) rfl rfl ?_
        refine WD.takeS 23 rfl (by kernel_rfl) (by kernel_rfl) (by kernel_rfl) (by decide) rfl rfl ?_
        refine WD.takeS 24 rfl (by kernel_rfl) (by kernel_rfl) (by kernel_rfl) (by decide) rfl rfl ?_
        refine WD.take 25 rfl (by kernel_rfl) (by kernel_rfl) (by kernel_rfl) (by decide) (Yld.pickF rfl rfl) ?_
        refine WD.take 26 rfl (by kernel_rfl) (by kernel_rfl) (by kernel_rfl) (by decide) (Yld.move rfl) ?_
        refine WD.takeS 27 rfl (by kernel_rfl) (by kernel_rfl) (by kernel_rfl) (by decide) rfl rfl ?_
        refine WD.take 28 rfl (by kernel_rfl) (by kernel_rfl) (by kernel_rfl) (by decide) (Yld.pickF rfl rfl) ?_
        refine WD.take 29 rfl (by kernel_rfl) (by kernel_rfl) (by kernel_rfl) (by decide) (Yld.assign rfl) ?_
        refine WD.done (by kernel_rfl) (hK51 _ _ ?_)
        refine WC.ret ?_
        injection h with h; subst h
        exact Ret.fn [] (ResIs.one rfl rfl) rfl hm_M62 rfl (by decide) rfl rfl ⟨rfl, rfl⟩
    · replace h := of_f hc71 h
      refine WD.take 0 rfl (by kernel_rfl) (by kernel_rfl) (by kernel_rfl) (by decide) (Yld.loadBM (k := 102) agg_24 rfl rfl rfl) ?_
      refine WD.take 3 rfl (by kernel_rfl) (by kernel_rfl) (by kernel_rfl) (by decide) (Yld.loadBM (k := 102) agg_24 rfl rfl rfl) ?_
      refine WD.one 1 (by kernel_rfl) ?_
      refine WS.eff rfl (by decide) (Eff.callM 157 rfl Try.func19 nm_19 rfl rfl rfl (w_law03_given _ x00_0 x00_1 A00_2 n00_2 c00_2 _ hf00_2 hx52)) ?_
      rintro _ _ ⟨M62, _, ⟨A63, n64, c65, rfl, rfl, hf66⟩, hm_M62, rfl⟩
      refine ⟨(Sub.cons rfl (Sub.cons rfl (Sub.cons rfl (Sub.cons rfl (Sub.cons rfl (Sub.cons rfl (Sub.cons rfl (Sub.cons rfl (Sub.cons rfl (Sub.nil _)))))))))), ?_⟩
      refine WD.one 2 (by kernel_rfl) ?_
      refine WS.eff rfl (by decide) (Eff.callS 168 rfl Try.func18 nm_18 rfl rfl (fun w hb hh => w_gfmatrix_Valid (Mem.snap w) x52.1 x52.2.1 A63 n64 c65 _ (RdH.sn (RdH.memM (k := 0) rfl hf66) w hb hh) hx67)) ?_
      rintro _ _ ⟨_, ⟨rfl, rfl⟩, rfl⟩
      refine ⟨(Sub.cons rfl (Sub.cons rfl (Sub.cons rfl (Sub.cons rfl (Sub.cons rfl (Sub.cons rfl (Sub.cons rfl (Sub.cons rfl (Sub.cons rfl (Sub.nil _)))))))))), ?_⟩
      refine WD.one 4 (by kernel_rfl) ?_
      refine WS.eff rfl (by decide) (Eff.callS 170 rfl Try.func20 nm_20 rfl rfl (fun w hb hh => w_r03_Valid (Mem.snap w) x00_0 x00_1 A00_2 n00_2 c00_2 _ (RdH.sn (RdH.memM (k := 0) rfl (SlRc.lift hf00_2 hm_M62)) w hb hh) hx69)) ?_
      rintro _ _ ⟨_, ⟨rfl, rfl⟩, rfl⟩
      refine ⟨(Sub.cons rfl (Sub.cons rfl (Sub.cons rfl (Sub.cons rfl (Sub.cons rfl (Sub.cons rfl (Sub.cons rfl (Sub.cons rfl (Sub.cons rfl (Sub.nil _)))))))))), ?_⟩
      refine WD.take 5 rfl (by kernel_rfl) (by kernel_rfl) (by kernel_rfl) (by decide) (Yld.eqlB und_4 rfl rfl) ?_
      refine WD.take 6 rfl (by kernel_rfl) (by kernel_rfl) (by kernel_rfl) (by decide) (Yld.move rfl) ?_
      refine WD.new (v' := .bool false) (congrArg Value.bool (beq_eq_false_iff_ne.2 hc71)) ?_
      refine WD.takeS 7 rfl (by kernel_rfl) (by kernel_rfl) (by kernel_rfl) (by decide) rfl rfl ?_
      refine WD.takeS 8 rfl (by kernel_rfl) (by kernel_rfl) (by kernel_rfl) (by decide) rfl rfl ?_
      refine WD.takeS 9 rfl (by kernel_rfl) (by kernel_rfl) (by kernel_rfl) (by decide) rfl rfl ?_
      refine WD.take 10 rfl (by kernel_rfl) (by kernel_rfl) (by kernel_rfl) (by decide) (Yld.pickF rfl rfl) ?_
      refine WD.take 11 rfl (by kernel_rfl) (by kernel_rfl) (by kernel_rfl) (by decide) (Yld.move rfl) ?_
      refine WD.takeS 12 rfl (by kernel_rfl) (by kernel_rfl) (by kernel_rfl) (by decide) rfl rfl ?_
      refine WD.takeS 13 rfl (by kernel_rfl) (by kernel_rfl) (by kernel_rfl) (by decide) rfl rfl ?_
      refine WD.takeS 14 rfl (by kernel_rfl) (by kernel_rfl) (by kernel_rfl) (by decide) rfl rfl ?_
      refine WD.take 15 rfl (by kernel_rfl) (by kernel_rfl) (by kernel_rfl) (by decide) (Yld.pickF rfl rfl) ?_
      refine WD.take 16 rfl (by kernel_rfl) (by kernel_rfl) (by kernel_rfl) (by decide) (Yld.move rfl) ?_
      refine WD.takeS 17 rfl (by kernel_rfl) (by kernel_rfl) (by kernel_rfl) (by decide) rfl rfl ?_
      refine WD.takeS 18 rfl (by kernel_rfl) (by kernel_rfl) (by kernel_rfl) (by decide) rfl rfl ?_
      refine WD.takeS 19 rfl (by kernel_rfl) (by kernel_rfl) (by kernel_rfl) (by decide) rfl rfl ?_
      refine WD.take 20 rfl (by kernel_rfl) (by kernel_rfl) (by kernel_rfl) (by decide) (Yld.pickF rfl rfl) ?_
      refine WD.take 21 rfl (by kernel_rfl) (by kernel_rfl) (by kernel_rfl) (by decide) (Yld.move rfl) ?_
      refine WD.takeS 22 rfl (by kernel_rfl) (by kernel_rfl) (by kernel_rfl) (by decide) rfl rfl ?_
      refine WD.takeS 23 rfl (by kernel_rfl) (by kernel_rfl) (by kernel_rfl) (by decide) rfl rfl ?_
      refine WD.takeS 24 rfl (by kernel_rfl) (by kernel_rfl) (by kernel_rfl) (by decide) rfl rfl ?_
      refine WD.take 25 rfl (by kernel_rfl) (by kernel_rfl) (by kernel_rfl) (by decide) (Yld.pickF rfl rfl) ?_
      refine WD.take 26 rfl (by kernel_rfl) (by kernel_rfl) (by kernel_rfl) (by decide) (Yld.move rfl) ?_
      refine WD.takeS 27 rfl (by kernel_rfl) (by kernel_rfl) (by kernel_rfl) (by decide) rfl rfl ?_
      refine WD.take 28 rfl (by kernel_rfl) (by kernel_rfl) (by kernel_rfl) (by decide) (Yld.pickF rfl rfl) ?_
      refine WD.take 29 rfl (by kernel_rfl) (by kernel_rfl) (by kernel_rfl) (by decide) (Yld.assign rfl) ?_
      refine WD.done (by kernel_rfl) (hK51 _ _ ?_)
      refine WC.ret ?_
      injection h with h; subst h
      exact Ret.fn [] (ResIs.one rfl rfl) rfl hm_M62 rfl (by decide) rfl rfl ⟨rfl, rfl⟩

end Go.Proofs.Ytnkahhipochakaa
