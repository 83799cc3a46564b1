/-
  Walks (c): what a function's model gives, the function returns. Printed by a program of ours (vcm.py) from the function's operations. Conditions: as each theorem says.
-/
import Derived.Test.YtclhepegfmhmjaaWka
import Derived.Test.YtclhepegfmhmjaaWkb
import Derived.Test.YtclhepegfmhmjaaMdc
namespace Go.Proofs.Ytclhepegfmhmjaa
open Go Go.RowKit
set_option linter.unusedVariables false

theorem und_36 : Try.prog.underlying 36 = some (.slice 24) := by kernel_rfl
theorem nm_14 : (Try.f14.name == "runtime.NumGoroutine") = false := by kernel_rfl
theorem nm_15 : (Try.f15.name == "runtime.NumGoroutine") = false := by kernel_rfl
theorem nm_17 : (Try.f17.name == "runtime.NumGoroutine") = false := by kernel_rfl
theorem nm_19 : (Try.f19.name == "runtime.NumGoroutine") = false := by kernel_rfl
theorem nm_20 : (Try.f20.name == "runtime.NumGoroutine") = false := by kernel_rfl
theorem sty_36 : STy Try.prog 36 24 (.slice none 0 0) 1 24 := STy.of und_36 (by kernel_rfl) rfl

set_option maxRecDepth 10000 in
theorem w_law06_NeedleSizes (M0 : Mem) (x00 : Int) (x01_0 : BitVec 64) (x01_1 : BitVec 32) (x01_2 : Bool) (A01_3 : Option Addr) (n01_3 c01_3 : Nat) (x01_3 : List (BitVec 8)) (hf01_3 : SlT M0 A01_3 n01_3 c01_3 x01_3) {res : Bool} (h : m_law06_NeedleSizes x00 x01_0 x01_1 x01_2 x01_3 = some res) :
    Fn Try.prog 3 #[I64 x00, .agg ([U64 x01_0, U32 x01_1, .bool x01_2, .slice A01_3 n01_3 c01_3] : List Value).toArray] M0 fun r M' es => r = .bool res ∧ es = [] := by
  refine Fn.intro (N := 29) Try.func3 rfl rfl (Nat.le_of_ble_eq_true rfl) fun w0 => ?_
  unfold m_law06_NeedleSizes at h
  refine WC.seqRegion fun K1 hK1 => ?_
  refine WL.eff (by decide) (Eff.box 102 (us := [U64 x01_0, U32 x01_1, .bool x01_2, .slice A01_3 n01_3 c01_3]) rfl rfl rfl) ?_
  rintro _ _ ⟨g2, rfl, rfl⟩
  refine WL.yld (by decide) (Yld.assign rfl) ?_
  refine WL.done (hK1 _ _ ?_)
  refine WC.seqRegionD (n := 25) [(0, _), (102, _)] rfl mixed (Sub.cons rfl (Sub.cons rfl (Sub.nil _))) fun K3 hK3 => ?_
  obtain ⟨x4, hx4, h⟩ := bnd h
  obtain ⟨x6, hx6, h⟩ := bnd h
  by_cases hc8 : x4 = x6
  · replace h := of_t hc8 h
    obtain ⟨x9, hx9, h⟩ := bnd h
    obtain ⟨x11, hx11, h⟩ := bnd h
    by_cases hc13 : x9 = x11
    · replace h := of_t hc13 h
      obtain ⟨x14, hx14, h⟩ := bnd h
      obtain ⟨x16, hx16, h⟩ := bnd h
      by_cases hc18 : x14 = x16
      · replace h := of_t hc18 h
        obtain ⟨x19, hx19, h⟩ := bnd h
        refine WD.take 0 rfl (by kernel_rfl) (by kernel_rfl) (by kernel_rfl) (by decide) (Yld.move rfl) ?_
        refine WD.take 2 rfl (by kernel_rfl) (by kernel_rfl) (by kernel_rfl) (by decide) (Yld.move rfl) ?_
        refine WD.one 1 (by kernel_rfl) ?_
        refine WS.eff rfl (by decide) (Eff.callS 105 rfl Try.func10 nm_10 rfl rfl (fun w hb hh => w_needle_Size (Mem.snap w) x00 hx4)) ?_
        rintro _ _ ⟨_, ⟨rfl, rfl⟩, rfl⟩
        refine ⟨(Sub.cons rfl (Sub.cons rfl (Sub.nil _))), ?_⟩
        refine WD.one 3 (by kernel_rfl) ?_
        refine WS.eff rfl (by decide) (Eff.callS 107 rfl Try.func11 nm_11 rfl rfl (fun w hb hh => w_r06_Size (Mem.snap w) x00 hx6)) ?_
        rintro _ _ ⟨_, ⟨rfl, rfl⟩, rfl⟩
        refine ⟨(Sub.cons rfl (Sub.cons rfl (Sub.nil _))), ?_⟩
        refine WD.take 4 rfl (by kernel_rfl) (by kernel_rfl) (by kernel_rfl) (by decide) (Yld.eqlI rfl rfl) ?_
        refine WD.take 5 rfl (by kernel_rfl) (by kernel_rfl) (by kernel_rfl) (by decide) (Yld.move rfl) ?_
        refine WD.new (v' := .bool true) (congrArg Value.bool (beq_iff_eq.2 hc8)) ?_
        refine WD.takeG 6 rfl (by kernel_rfl) (by kernel_rfl) (by kernel_rfl) (by decide) rfl (Yld.move rfl) ?_
        refine WD.takeG 7 rfl (by kernel_rfl) (by kernel_rfl) (by kernel_rfl) (by decide) rfl (Yld.andC rfl rfl) ?_
        refine WD.takeG 9 rfl (by kernel_rfl) (by kernel_rfl) (by kernel_rfl) (by decide) rfl (Yld.move rfl) ?_
        refine WD.takeG 10 rfl (by kernel_rfl) (by kernel_rfl) (by kernel_rfl) (by decide) rfl (Yld.andC rfl rfl) ?_
        refine WD.one 8 (by kernel_rfl) ?_
        refine WS.effG rfl (by decide) rfl (Eff.callS 110 rfl Try.func10 nm_10 rfl rfl (fun w hb hh => w_needle_Size (Mem.snap w) (andi x00 (4095 : Int)) hx9)) ?_
        rintro _ _ ⟨_, ⟨rfl, rfl⟩, rfl⟩
        refine ⟨(Sub.cons rfl (Sub.cons rfl (Sub.nil _))), ?_⟩
        refine WD.one 11 (by kernel_rfl) ?_
        refine WS.effG rfl (by decide) rfl (Eff.callS 112 rfl Try.func11 nm_11 rfl rfl (fun w hb hh => w_r06_Size (Mem.snap w) (andi x00 (4095 : Int)) hx11)) ?_
        rintro _ _ ⟨_, ⟨rfl, rfl⟩, rfl⟩
        refine ⟨(Sub.cons rfl (Sub.cons rfl (Sub.nil _))), ?_⟩
        refine WD.takeG 12 rfl (by kernel_rfl) (by kernel_rfl) (by kernel_rfl) (by decide) rfl (Yld.eqlI rfl rfl) ?_
        refine WD.take 13 rfl (by kernel_rfl) (by kernel_rfl) (by kernel_rfl) (by decide) (Yld.pickT rfl rfl) ?_
        refine WD.take 14 rfl (by kernel_rfl) (by kernel_rfl) (by kernel_rfl) (by decide) (Yld.move rfl) ?_
        refine WD.new (v' := .bool true) (congrArg Value.bool (beq_iff_eq.2 hc13)) ?_
        refine WD.takeG 15 rfl (by kernel_rfl) (by kernel_rfl) (by kernel_rfl) (by decide) rfl (Yld.loadBM (k := 102) agg_26 rfl rfl rfl) ?_
        refine WD.takeG 17 rfl (by kernel_rfl) (by kernel_rfl) (by kernel_rfl) (by decide) rfl (Yld.loadBM (k := 102) agg_26 rfl rfl rfl) ?_
        refine WD.one 16 (by kernel_rfl) ?_
        refine WS.effG rfl (by decide) rfl (Eff.callS 115 rfl Try.func12 nm_12 rfl rfl (fun w hb hh => w_needle_Valid (Mem.snap w) x01_0 x01_1 x01_2 A01_3 n01_3 c01_3 _ (RdH.sn (RdH.memM (k := 0) rfl hf01_3) w hb hh) hx14)) ?_
        rintro _ _ ⟨_, ⟨rfl, rfl⟩, rfl⟩
        refine ⟨(Sub.cons rfl (Sub.cons rfl (Sub.nil _))), ?_⟩
        refine WD.one 18 (by kernel_rfl) ?_
        refine WS.effG rfl (by decide) rfl (Eff.callS 117 rfl Try.func13 nm_13 rfl rfl (fun w hb hh => w_r06_Valid (Mem.snap w) x01_0 x01_1 x01_2 A01_3 n01_3 c01_3 _ (RdH.sn (RdH.memM (k := 0) rfl hf01_3) w hb hh) hx16)) ?_
        rintro _ _ ⟨_, ⟨rfl, rfl⟩, rfl⟩
        refine ⟨(Sub.cons rfl (Sub.cons rfl (Sub.nil _))), ?_⟩
        refine WD.takeG 19 rfl (by kernel_rfl) (by kernel_rfl) (by kernel_rfl) (by decide) rfl (Yld.eqlB und_4 rfl rfl) ?_
        refine WD.take 20 rfl (by kernel_rfl) (by kernel_rfl) (by kernel_rfl) (by decide) (Yld.pickT rfl rfl) ?_
        refine WD.take 21 rfl (by kernel_rfl) (by kernel_rfl) (by kernel_rfl) (by decide) (Yld.move rfl) ?_
        refine WD.new (v' := .bool true) (congrArg Value.bool (beq_iff_eq.2 hc18)) ?_
        refine WD.one 22 (by kernel_rfl) ?_
        refine WS.effG rfl (by decide) rfl (Eff.callS 120 rfl Try.func14 nm_14 rfl rfl (fun w hb hh => w_law06_awake (Mem.snap w) hx19)) ?_
        rintro _ _ ⟨_, ⟨rfl, rfl⟩, rfl⟩
        refine ⟨(Sub.cons rfl (Sub.cons rfl (Sub.nil _))), ?_⟩
        refine WD.take 23 rfl (by kernel_rfl) (by kernel_rfl) (by kernel_rfl) (by decide) (Yld.pickT rfl rfl) ?_
        refine WD.take 24 rfl (by kernel_rfl) (by kernel_rfl) (by kernel_rfl) (by decide) (Yld.assign rfl) ?_
        refine WD.done (by kernel_rfl) (hK3 _ _ ?_)
        refine WC.ret ?_
        injection h with h; subst h
        exact Ret.fn [] (ResIs.one rfl rfl) rfl (Ext.refl _ _) rfl (by decide) rfl rfl ⟨rfl, rfl⟩
      · replace h := of_f hc18 h
        refine WD.take 0 rfl (by kernel_rfl) (by kernel_rfl) (by kernel_rfl) (by decide) (Yld.move rfl) ?_
        refine WD.take 2 rfl (by kernel_rfl) (by kernel_rfl) (by kernel_rfl) (by decide) (Yld.move rfl) ?_
        refine WD.one 1 (by kernel_rfl) ?_
        refine WS.eff rfl (by decide) (Eff.callS 105 rfl Try.func10 nm_10 rfl rfl (fun w hb hh => w_needle_Size (Mem.snap w) x00 hx4)) ?_
        rintro _ _ ⟨_, ⟨rfl, rfl⟩, rfl⟩
        refine ⟨(Sub.cons rfl (Sub.cons rfl (Sub.nil _))), ?_⟩
        refine WD.one 3 (by kernel_rfl) ?_
        refine WS.eff rfl (by decide) (Eff.callS 107 rfl Try.func11 nm_11 rfl rfl (fun w hb hh => w_r06_Size (Mem.snap w) x00 hx6)) ?_
        rintro _ _ ⟨_, ⟨rfl, rfl⟩, rfl⟩
        refine ⟨(Sub.cons rfl (Sub.cons rfl (Sub.nil _))), ?_⟩
        refine WD.take 4 rfl (by kernel_rfl) (by kernel_rfl) (by kernel_rfl) (by decide) (Yld.eqlI rfl rfl) ?_
        refine WD.take 5 rfl (by kernel_rfl) (by kernel_rfl) (by kernel_rfl) (by decide) (Yld.move rfl) ?_
        refine WD.new (v' := .bool true) (congrArg Value.bool (beq_iff_eq.2 hc8)) ?_
        refine WD.takeG 6 rfl (by kernel_rfl) (by kernel_rfl) (by kernel_rfl) (by decide) rfl (Yld.move rfl) ?_
        refine WD.takeG 7 rfl (by kernel_rfl) (by kernel_rfl) (by kernel_rfl) (by decide) rfl (Yld.andC rfl rfl) ?_
        refine WD.takeG 9 rfl (by kernel_rfl) (by kernel_rfl) (by kernel_rfl) (by decide) rfl (Yld.move rfl) ?_
        refine WD.takeG 10 rfl (by kernel_rfl) (by kernel_rfl) (by kernel_rfl) (by decide) rfl (Yld.andC rfl rfl) ?_
        refine WD.one 8 (by kernel_rfl) ?_
        refine WS.effG rfl (by decide) rfl (Eff.callS 110 rfl Try.func10 nm_10 rfl rfl (fun w hb hh => w_needle_Size (Mem.snap w) (andi x00 (4095 : Int)) hx9)) ?_
        rintro _ _ ⟨_, ⟨rfl, rfl⟩, rfl⟩
        refine ⟨(Sub.cons rfl (Sub.cons rfl (Sub.nil _))), ?_⟩
        refine WD.one 11 (by kernel_rfl) ?_
        refine WS.effG rfl (by decide) rfl (Eff.callS 112 rfl Try.func11 nm_11 rfl rfl (fun w hb hh => w_r06_Size (Mem.snap w) (andi x00 (4095 : Int)) hx11)) ?_
        rintro _ _ ⟨_, ⟨rfl, rfl⟩, rfl⟩
        refine ⟨(Sub.cons rfl (Sub.cons rfl (Sub.nil _))), ?_⟩
        refine WD.takeG 12 rfl (by kernel_rfl) (by kernel_rfl) (by kernel_rfl) (by decide) rfl (Yld.eqlI rfl rfl) ?_
        refine WD.take 13 rfl (by kernel_rfl) (by kernel_rfl) (by kernel_rfl) (by decide) (Yld.pickT rfl rfl) ?_
        refine WD.take 14 rfl (by kernel_rfl) (by kernel_rfl) (by kernel_rfl) (by decide) (Yld.move rfl) ?_
        refine WD.new (v' := .bool true) (congrArg Value.bool (beq_iff_eq.2 hc13)) ?_
        refine WD.takeG 15 rfl (by kernel_rfl) (by kernel_rfl) (by kernel_rfl) (by decide) rfl (Yld.loadBM (k := 102) agg_26 rfl rfl rfl) ?_
        refine WD.takeG 17 rfl (by kernel_rfl) (by kernel_rfl) (by kernel_rfl) (by decide) rfl (Yld.loadBM (k := 102) agg_26 rfl rfl rfl) ?_
        refine WD.one 16 (by kernel_rfl) ?_
        refine WS.effG rfl (by decide) rfl (Eff.callS 115 rfl Try.func12 nm_12 rfl rfl (fun w hb hh => w_needle_Valid (Mem.snap w) x01_0 x01_1 x01_2 A01_3 n01_3 c01_3 _ (RdH.sn (RdH.memM (k := 0) rfl hf01_3) w hb hh) hx14)) ?_
        rintro _ _ ⟨_, ⟨rfl, rfl⟩, rfl⟩
        refine ⟨(Sub.cons rfl (Sub.cons rfl (Sub.nil _))), ?_⟩
        refine WD.one 18 (by kernel_rfl) ?_
        refine WS.effG rfl (by decide) rfl (Eff.callS 117 rfl Try.func13 nm_13 rfl rfl (fun w hb hh => w_r06_Valid (Mem.snap w) x01_0 x01_1 x01_2 A01_3 n01_3 c01_3 _ (RdH.sn (RdH.memM (k := 0) rfl hf01_3) w hb hh) hx16)) ?_
        rintro _ _ ⟨_, ⟨rfl, rfl⟩, rfl⟩
        refine ⟨(Sub.cons rfl (Sub.cons rfl (Sub.nil _))), ?_⟩
        refine WD.takeG 19 rfl (by kernel_rfl) (by kernel_rfl) (by kernel_rfl) (by decide) rfl (Yld.eqlB und_4 rfl rfl) ?_
        refine WD.take 20 rfl (by kernel_rfl) (by kernel_rfl) (by kernel_rfl) (by decide) (Yld.pickT rfl rfl) ?_
        refine WD.take 21 rfl (by kernel_rfl) (by kernel_rfl) (by kernel_rfl) (by decide) (Yld.move rfl) ?_
        refine WD.new (v' := .bool false) (congrArg Value.bool (beq_eq_false_iff_ne.2 hc18)) ?_
        refine WD.takeS 22 rfl (by kernel_rfl) (by kernel_rfl) (by kernel_rfl) (by decide) rfl rfl ?_
        refine WD.take 23 rfl (by kernel_rfl) (by kernel_rfl) (by kernel_rfl) (by decide) (Yld.pickF rfl rfl) ?_
        refine WD.take 24 rfl (by kernel_rfl) (by kernel_rfl) (by kernel_rfl) (by decide) (Yld.assign rfl) ?_
        refine WD.done (by kernel_rfl) (hK3 _ _ ?_)
        refine WC.ret ?_
        injection h with h; subst h
        exact Ret.fn [] (ResIs.one rfl rfl) rfl (Ext.refl _ _) rfl (by decide) rfl rfl ⟨rfl, rfl⟩
    · replace h := of_f hc13 h
      refine WD.take 0 rfl (by kernel_rfl) (by kernel_rfl) (by kernel_rfl) (by decide) (Yld.move rfl) ?_
      refine WD.take 2 rfl (by kernel_rfl) (by kernel_rfl) (by kernel_rfl) (by decide) (Yld.move rfl) ?_
      refine WD.one 1 (by kernel_rfl) ?_
      refine WS.eff rfl (by decide) (Eff.callS 105 rfl Try.func10 nm_10 rfl rfl (fun w hb hh => w_needle_Size (Mem.snap w) x00 hx4)) ?_
      rintro _ _ ⟨_, ⟨rfl, rfl⟩, rfl⟩
      refine ⟨(Sub.cons rfl (Sub.cons rfl (Sub.nil _))), ?_⟩
      refine WD.one 3 (by kernel_rfl) ?_
      refine WS.eff rfl (by decide) (Eff.callS 107 rfl Try.func11 nm_11 rfl rfl (fun w hb hh => w_r06_Size (Mem.snap w) x00 hx6)) ?_
      rintro _ _ ⟨_, ⟨rfl, rfl⟩, rfl⟩
      refine ⟨(Sub.cons rfl (Sub.cons rfl (Sub.nil _))), ?_⟩
      refine WD.take 4 rfl (by kernel_rfl) (by kernel_rfl) (by kernel_rfl) (by decide) (Yld.eqlI rfl rfl) ?_
      refine WD.take 5 rfl (by kernel_rfl) (by kernel_rfl) (by kernel_rfl) (by decide) (Yld.move rfl) ?_
      refine WD.new (v' := .bool true) (congrArg Value.bool (beq_iff_eq.2 hc8)) ?_
      refine WD.takeG 6 rfl (by kernel_rfl) (by kernel_rfl) (by kernel_rfl) (by decide) rfl (Yld.move rfl) ?_
      refine WD.takeG 7 rfl (by kernel_rfl) (by kernel_rfl) (by kernel_rfl) (by decide) rfl (Yld.andC rfl rfl) ?_
      refine WD.takeG 9 rfl (by kernel_rfl) (by kernel_rfl) (by kernel_rfl) (by decide) rfl (Yld.move rfl) ?_
      refine WD.takeG 10 rfl (by kernel_rfl) (by kernel_rfl) (by kernel_rfl) (by decide) rfl (Yld.andC rfl rfl) ?_
      refine WD.one 8 (by kernel_rfl) ?_
      refine WS.effG rfl (by decide) rfl (Eff.callS 110 rfl Try.func10 nm_10 rfl rfl (fun w hb hh => w_needle_Size (Mem.snap w) (andi x00 (4095 : Int)) hx9)) ?_
      rintro _ _ ⟨_, ⟨rfl, rfl⟩, rfl⟩
      refine ⟨(Sub.cons rfl (Sub.cons rfl (Sub.nil _))), ?_⟩
      refine WD.one 11 (by kernel_rfl) ?_
      refine WS.effG rfl (by decide) rfl (Eff.callS 112 rfl Try.func11 nm_11 rfl rfl (fun w hb hh => w_r06_Size (Mem.snap w) (andi x00 (4095 : Int)) hx11)) ?_
      rintro _ _ ⟨_, ⟨rfl, rfl⟩, rfl⟩
      refine ⟨(Sub.cons rfl (Sub.cons rfl (Sub.nil _))), ?_⟩
      refine WD.takeG 12 rfl (by kernel_rfl) (by kernel_rfl) (by kernel_rfl) (by decide) rfl (Yld.eqlI rfl rfl) ?_
      refine WD.take 13 rfl (by kernel_rfl) (by kernel_rfl) (by kernel_rfl) (by decide) (Yld.pickT rfl rfl) ?_
      refine WD.take 14 rfl (by kernel_rfl) (by kernel_rfl) (by kernel_rfl) (by decide) (Yld.move rfl) ?_
      refine WD.new (v' := .bool false) (congrArg Value.bool (beq_eq_false_iff_ne.2 hc13)) ?_
      refine WD.takeS 15 rfl (by kernel_rfl) (by kernel_rfl) (by kernel_rfl) (by decide) rfl rfl ?_
      refine WD.takeS 16 rfl (by kernel_rfl) (by kernel_rfl) (by kernel_rfl) (by decide) rfl rfl ?_
      refine WD.takeS 17 rfl (by kernel_rfl) (by kernel_rfl) (by kernel_rfl) (by decide) rfl rfl ?_
      refine WD.takeS 18 rfl (by kernel_rfl) (by kernel_rfl) (by kernel_rfl) (by decide) rfl rfl ?_
      refine WD.takeS 19 rfl (by kernel_rfl) (by kernel_rfl) (by kernel_rfl) (by decide) rfl rfl ?_
      refine WD.take 20 rfl (by kernel_rfl) (by kernel_rfl) (by kernel_rfl) (by decide) (Yld.pickF rfl rfl) ?_
      refine WD.take 21 rfl (by kernel_rfl) (by kernel_rfl) (by kernel_rfl) (by decide) (Yld.move rfl) ?_
      refine WD.takeS 22 rfl (by kernel_rfl) (by kernel_rfl) (by kernel_rfl) (by decide) rfl rfl ?_
      refine WD.take 23 rfl (by kernel_rfl) (by kernel_rfl) (by kernel_rfl) (by decide) (Yld.pickF rfl rfl) ?_
      refine WD.take 24 rfl (by kernel_rfl) (by kernel_rfl) (by kernel_rfl) (by decide) (Yld.assign rfl) ?_
      refine WD.done (by kernel_rfl) (hK3 _ _ ?_)
      refine WC.ret ?_
      injection h with h; subst h
      exact Ret.fn [] (ResIs.one rfl rfl) rfl (Ext.refl _ _) rfl (by decide) rfl rfl ⟨rfl, rfl⟩
  · replace h := of_f hc8 h
    refine WD.take 0 rfl (by kernel_rfl) (by kernel_rfl) (by kernel_rfl) (by decide) (Yld.move rfl) ?_
    refine WD.take 2 rfl (by kernel_rfl) (by kernel_rfl) (by kernel_rfl) (by decide) (Yld.move rfl) ?_
    refine WD.one 1 (by kernel_rfl) ?_
    refine WS.eff rfl (by decide) (Eff.callS 105 rfl Try.func10 nm_10 rfl rfl (fun w hb hh => w_needle_Size (Mem.snap w) x00 hx4)) ?_
    rintro _ _ ⟨_, ⟨rfl, rfl⟩, rfl⟩
    refine ⟨(Sub.cons rfl (Sub.cons rfl (Sub.nil _))), ?_⟩
    refine WD.one 3 (by kernel_rfl) ?_
    refine WS.eff rfl (by decide) (Eff.callS 107 rfl Try.func11 nm_11 rfl rfl (fun w hb hh => w_r06_Size (Mem.snap w) x00 hx6)) ?_
    rintro _ _ ⟨_, ⟨rfl, rfl⟩, rfl⟩
    refine ⟨(Sub.cons rfl (Sub.cons rfl (Sub.nil _))), ?_⟩
    refine WD.take 4 rfl (by kernel_rfl) (by kernel_rfl) (by kernel_rfl) (by decide) (Yld.eqlI rfl rfl) ?_
    refine WD.take 5 rfl (by kernel_rfl) (by kernel_rfl) (by kernel_rfl) (by decide) (Yld.move rfl) ?_
    refine WD.new (v' := .bool false) (congrArg Value.bool (beq_eq_false_iff_ne.2 hc8)) ?_
    refine WD.takeS 6 rfl (by kernel_rfl) (by kernel_rfl) (by kernel_rfl) (by decide) rfl rfl ?_
    refine WD.takeS 7 rfl (by kernel_rfl) (by kernel_rfl) (by kernel_rfl) (by decide) rfl rfl ?_
    refine WD.takeS 8 rfl (by kernel_rfl) (by kernel_rfl) (by kernel_rfl) (by decide) rfl rfl ?_
    refine WD.takeS 9 rfl (by kernel_rfl) (by kernel_rfl) (by kernel_rfl) (by decide) rfl rfl ?_
    refine WD.takeS 10 rfl (by kernel_rfl) (by kernel_rfl) (by kernel_rfl) (by decide) rfl rfl ?_
    refine WD.takeS 11 rfl (by kernel_rfl) (by kernel_rfl) (by kernel_rfl) (by decide) rfl rfl ?_
    refine WD.takeS 12 rfl (by kernel_rfl) (by kernel_rfl) (by kernel_rfl) (by decide) rfl rfl ?_
    refine WD.take 13 rfl (by kernel_rfl) (by kernel_rfl) (by kernel_rfl) (by decide) (Yld.pickF rfl rfl) ?_
    refine WD.take 14 rfl (by kernel_rfl) (by kernel_rfl) (by kernel_rfl) (by decide) (Yld.move rfl) ?_
    refine WD.takeS 15 rfl (by kernel_rfl) (by kernel_rfl) (by kernel_rfl) (by decide) rfl rfl ?_
    refine WD.takeS 16 rfl (by kernel_rfl) (by kernel_rfl) (by kernel_rfl) (by decide) rfl rfl ?_
    refine WD.takeS 17 rfl (by kernel_rfl) (by kernel_rfl) (by kernel_rfl) (by decide) rfl rfl ?_
    refine WD.takeS 18 rfl (by kernel_rfl) (by kernel_rfl) (by kernel_rfl) (by decide) rfl rfl ?_
    refine WD.takeS 19 rfl (by kernel_rfl) (by kernel_rfl) (by kernel_rfl) (by decide) rfl rfl ?_
    refine WD.take 20 rfl (by kernel_rfl) (by kernel_rfl) (by kernel_rfl) (by decide) (Yld.pickF rfl rfl) ?_
    refine WD.take 21 rfl (by kernel_rfl) (by kernel_rfl) (by kernel_rfl) (by decide) (Yld.move rfl) ?_
    refine WD.takeS 22 rfl (by kernel_rfl) (by kernel_rfl) (by kernel_rfl) (by decide) rfl rfl ?_
    refine WD.take 23 rfl (by kernel_rfl) (by kernel_rfl) (by kernel_rfl) (by decide) (Yld.pickF rfl rfl) ?_
    refine WD.take 24 rfl (by kernel_rfl) (by kernel_rfl) (by kernel_rfl) (by decide) (Yld.assign rfl) ?_
    refine WD.done (by kernel_rfl) (hK3 _ _ ?_)
    refine WC.ret ?_
    injection h with h; subst h
    exact Ret.fn [] (ResIs.one rfl rfl) rfl (Ext.refl _ _) rfl (by decide) rfl rfl ⟨rfl, rfl⟩

set_option maxRecDepth 10000 in
theorem w_law06_NeedleEncodes (M0 : Mem) (x00_0 : BitVec 64) (x00_1 : BitVec 32) (x00_2 : Bool) (A00_3 : Option Addr) (n00_3 c00_3 : Nat) (x00_3 : List (BitVec 8)) (hf00_3 : SlT M0 A00_3 n00_3 c00_3 x00_3) (x01 : Bool) {res : Bool} (h : m_law06_NeedleEncodes x00_0 x00_1 x00_2 x00_3 x01 = some res) :
    Fn Try.prog 4 #[.agg ([U64 x00_0, U32 x00_1, .bool x00_2, .slice A00_3 n00_3 c00_3] : List Value).toArray, .bool x01] M0 fun r M' es => r = .bool res ∧ es = [] := by
  refine Fn.intro (N := 40) Try.func4 rfl rfl (Nat.le_of_ble_eq_true rfl) fun w0 => ?_
  unfold m_law06_NeedleEncodes at h
  refine WC.seqRegion fun K1 hK1 => ?_
  refine WL.eff (by decide) (Eff.box 102 (us := [U64 x00_0, U32 x00_1, .bool x00_2, .slice A00_3 n00_3 c00_3]) rfl rfl rfl) ?_
  rintro _ _ ⟨g2, rfl, rfl⟩
  refine WL.yld (by decide) (Yld.assign rfl) ?_
  refine WL.done (hK1 _ _ ?_)
  refine WC.seqRegion fun K3 hK3 => ?_
  obtain ⟨x4, hx4, h⟩ := bnd h
  refine WL.yld (by decide) (Yld.loadBM (k := 102) agg_26 rfl rfl rfl) ?_
  refine WL.eff (by decide) (Eff.callM 109 rfl Try.func15 nm_15 rfl rfl rfl (w_law06_cut _ x00_0 x00_1 x00_2 A00_3 n00_3 c00_3 _ hf00_3 hx4)) ?_
  rintro _ _ ⟨M14, _, ⟨A15, n16, c17, rfl, rfl, hf18⟩, hm_M14, rfl⟩
  refine WL.eff0 (Eff0.storeBAM 102 agg_26 rfl rfl rfl ⟨rfl, rfl⟩ rfl) ?_
  refine WL.done (hK3 _ _ ?_)
  refine WC.seqCut (σ := Mem × (Option Addr) × Nat × Nat × (List (BitVec 8))) (fun ⟨M19, A20, n21, c22, x23⟩ => [(2, .pointer (some ⟨g2, 0, none⟩))]) (fun ⟨M19, A20, n21, c22, x23⟩ => [(0, .mem M19), (102, .blk g2 26 [U64 x4.1, U32 x4.2.1, .bool x4.2.2.1, .slice A20 n21 c22])]) (fun ⟨M19, A20, n21, c22, x23⟩ => m_law06_NeedleEncodes_j0 x4 x23 = some res ∧ Ext w0.heap.size M14 M19 ∧ SlT M19 A20 n21 c22 x23) (fun K25 hK25 => ?_) ?_
  · skip
    refine WC.seqRegion fun K26 hK26 => ?_
    refine WL.yld (by decide) (Yld.move rfl) ?_
    refine WL.done (hK26 _ _ ?_)
    by_cases hc27 : x01 = true
    · replace h := of_t hc27 h
      refine WC.condTe rfl hc27 ?_
      refine WC.regionD (n := 6) [] rfl mixed (Sub.nil _) fun K28 hK28 => ?_
      obtain ⟨x30, hx30, h⟩ := bnd h
      obtain ⟨x31, hx31, h⟩ := bnd h
      refine WD.take 1 rfl (by kernel_rfl) (by kernel_rfl) (by kernel_rfl) (by decide) (Yld.fieldAddr Try.underlying26 rfl nz_24 rfl rfl) ?_
      refine WD.two 0 2 (by kernel_rfl) ?_ ?_
      · skip
        refine WS.eff rfl (by decide) (Eff.makeC 129 0#8 sty_24 rfl rfl rfl rfl rfl rfl hx30) ?_
        rintro _ _ ⟨g29, rfl, rfl⟩
        refine ⟨(Sub.nil _), ?_⟩
        refine WD.one 2 (by kernel_rfl) ?_
        refine WS.yld rfl (by decide) (Yld.loadB (k := 102) scal_24 rfl rfl rfl) ?_
        refine WD.one 3 (by kernel_rfl) ?_
        refine WS.eff rfl (by decide) (Eff.appendC 129 (xs := x30) (ys := x4.2.2.2) sty_24 rfl rfl rfl (RdH.memM (k := 0) rfl hf18) hx31) ?_
        rintro _ _ ⟨A32, c33, rfl, rfl⟩
        refine ⟨(Sub.nil _), ?_⟩
        refine WD.take 4 rfl (by kernel_rfl) (by kernel_rfl) (by kernel_rfl) (by decide) (Yld.fieldAddr Try.underlying26 rfl nz_24 rfl rfl) ?_
        refine WD.one 5 (by kernel_rfl) ?_
        refine WS.eff0 rfl (Eff0.storeB 102 siz_24 rfl rfl rfl rfl (Nat.le_of_ble_eq_true rfl)) (Sub.nil _) ?_
        refine WD.done (by kernel_rfl) (hK28 _ _ ?_)
        refine QK.thenN ?_
        refine KK.freeze 129 rfl rfl rfl fun M34 hm_M34 hf35 => ?_
        refine hK25 ⟨M34, A32, x31.length, c33, x31⟩ _ _ ?_ (Sub.cons rfl (Sub.nil _)) (Sub.cons rfl (Sub.cons rfl (Sub.nil _)))
        exact ⟨h, hm_M34, hf35⟩
      · skip
        refine WS.yld rfl (by decide) (Yld.loadB (k := 102) scal_24 rfl rfl rfl) ?_
        refine WD.one 0 (by kernel_rfl) ?_
        refine WS.eff rfl (by decide) (Eff.makeC 129 0#8 sty_24 rfl rfl rfl rfl rfl rfl hx30) ?_
        rintro _ _ ⟨g29, rfl, rfl⟩
        refine ⟨(Sub.nil _), ?_⟩
        refine WD.one 3 (by kernel_rfl) ?_
        refine WS.eff rfl (by decide) (Eff.appendC 129 (xs := x30) (ys := x4.2.2.2) sty_24 rfl rfl rfl (RdH.memM (k := 0) rfl hf18) hx31) ?_
        rintro _ _ ⟨A32, c33, rfl, rfl⟩
        refine ⟨(Sub.nil _), ?_⟩
        refine WD.take 4 rfl (by kernel_rfl) (by kernel_rfl) (by kernel_rfl) (by decide) (Yld.fieldAddr Try.underlying26 rfl nz_24 rfl rfl) ?_
        refine WD.one 5 (by kernel_rfl) ?_
        refine WS.eff0 rfl (Eff0.storeB 102 siz_24 rfl rfl rfl rfl (Nat.le_of_ble_eq_true rfl)) (Sub.nil _) ?_
        refine WD.done (by kernel_rfl) (hK28 _ _ ?_)
        refine QK.thenN ?_
        refine KK.freeze 129 rfl rfl rfl fun M36 hm_M36 hf37 => ?_
        refine hK25 ⟨M36, A32, x31.length, c33, x31⟩ _ _ ?_ (Sub.cons rfl (Sub.nil _)) (Sub.cons rfl (Sub.cons rfl (Sub.nil _)))
        exact ⟨h, hm_M36, hf37⟩
    · replace h := of_f hc27 h
      refine WC.condFe rfl (Bool.eq_false_iff.2 hc27) ?_
      refine WC.skip ?_
      refine QK.thenN ?_
      refine hK25 ⟨M14, A15, n16, c17, x4.2.2.2⟩ _ _ ?_ (Sub.cons rfl (Sub.nil _)) (Sub.cons rfl (Sub.cons rfl (Sub.nil _)))
      exact ⟨h, (Ext.refl _ _), hf18⟩
  · rintro ⟨M19, A20, n21, c22, x23⟩ ⟨h, hm_M19, hf24⟩
    unfold m_law06_NeedleEncodes_j0 at h
    refine WC.seqRegion fun K38 hK38 => ?_
    obtain ⟨x39, hx39, h⟩ := bnd h
    refine WL.yld (by decide) (Yld.loadBM (k := 102) agg_26 rfl rfl rfl) ?_
    refine WL.eff (by decide) (Eff.callS 143 rfl Try.func16 nm_16 rfl rfl (fun w hb hh => w_needle_Encode (Mem.snap w) x4.1 x4.2.1 x4.2.2.1 A20 n21 c22 _ (RdH.sn (RdH.memM (k := 0) rfl hf24) w hb hh) hx39)) ?_
    rintro _ _ ⟨_, ⟨A44, n45, c46, rfl, rfl⟩, rfl⟩
    refine WL.yld (by decide) (Yld.move rfl) ?_
    refine WL.yld (by decide) (Yld.extract rfl rfl) ?_
    refine WL.yld (by decide) (Yld.extract rfl rfl) ?_
    refine WL.yld (by decide) (Yld.assign rfl) ?_
    refine WL.yld (by decide) (Yld.assign rfl) ?_
    refine WL.done (hK38 _ _ ?_)
    refine WC.seqRegion fun K47 hK47 => ?_
    obtain ⟨x48, hx48, h⟩ := bnd h
    refine WL.yld (by decide) (Yld.loadBM (k := 102) agg_26 rfl rfl rfl) ?_
    refine WL.eff (by decide) (Eff.callS 152 rfl Try.func17 nm_17 rfl rfl (fun w hb hh => w_r06_Encode (Mem.snap w) x4.1 x4.2.1 x4.2.2.1 A20 n21 c22 _ (RdH.sn (RdH.memM (k := 0) rfl hf24) w hb hh) hx48)) ?_
    rintro _ _ ⟨_, ⟨A53, n54, c55, rfl, rfl⟩, rfl⟩
    refine WL.yld (by decide) (Yld.move rfl) ?_
    refine WL.yld (by decide) (Yld.extract rfl rfl) ?_
    refine WL.yld (by decide) (Yld.extract rfl rfl) ?_
    refine WL.yld (by decide) (Yld.assign rfl) ?_
    refine WL.yld (by decide) (Yld.assign rfl) ?_
    refine WL.done (hK47 _ _ ?_)
    refine WC.seqRegion fun K56 hK56 => ?_
    by_cases hc57 : x39.2 = x48.2
    · replace h := of_t hc57 h
      by_cases hc58 : x39.1 = x48.1
      · replace h := of_t hc58 h
        obtain ⟨x59, hx59, h⟩ := bnd h
        refine WL.yld (by decide) (Yld.move rfl) ?_
        refine WL.yld (by decide) (Yld.move rfl) ?_
        refine WL.yld (by decide) (Yld.eqlI rfl rfl) ?_
        refine WL.yld (by decide) (Yld.move rfl) ?_
        refine WL.new (v' := .bool true) (congrArg Value.bool (beq_iff_eq.2 hc57)) ?_
        refine WL.yldG (by decide) rfl (Yld.move rfl) ?_
        refine WL.yldG (by decide) rfl (Yld.b2sC (xs := x39.1) und_24 und_5 und_9 rfl (RdH.own (k := 143) rfl)) ?_
        refine WL.yldG (by decide) rfl (Yld.move rfl) ?_
        refine WL.yldG (by decide) rfl (Yld.b2sC (xs := x48.1) und_24 und_5 und_9 rfl (RdH.own (k := 152) rfl)) ?_
        refine WL.yldG (by decide) rfl (Yld.eqlStr (a := x39.1) (b := x48.1) rfl rfl) ?_
        refine WL.yld (by decide) (Yld.pickT rfl rfl) ?_
        refine WL.yld (by decide) (Yld.move rfl) ?_
        refine WL.new (v' := .bool true) (congrArg Value.bool (beq_iff_eq.2 hc58)) ?_
        refine WL.effG (by decide) rfl (Eff.callS 160 rfl Try.func14 nm_14 rfl rfl (fun w hb hh => w_law06_awake (Mem.snap w) hx59)) ?_
        rintro _ _ ⟨_, ⟨rfl, rfl⟩, rfl⟩
        refine WL.yld (by decide) (Yld.pickT rfl rfl) ?_
        refine WL.yld (by decide) (Yld.assign rfl) ?_
        refine WL.done (hK56 _ _ ?_)
        refine WC.ret ?_
        injection h with h; subst h
        exact Ret.fn [] (ResIs.one rfl rfl) rfl (Ext.trans hm_M14 hm_M19) rfl (by decide) rfl rfl ⟨rfl, rfl⟩
      · replace h := of_f hc58 h
        refine WL.yld (by decide) (Yld.move rfl) ?_
        refine WL.yld (by decide) (Yld.move rfl) ?_
        refine WL.yld (by decide) (Yld.eqlI rfl rfl) ?_
        refine WL.yld (by decide) (Yld.move rfl) ?_
        refine WL.new (v' := .bool true) (congrArg Value.bool (beq_iff_eq.2 hc57)) ?_
        refine WL.yldG (by decide) rfl (Yld.move rfl) ?_
        refine WL.yldG (by decide) rfl (Yld.b2sC (xs := x39.1) und_24 und_5 und_9 rfl (RdH.own (k := 143) rfl)) ?_
        refine WL.yldG (by decide) rfl (Yld.move rfl) ?_
        refine WL.yldG (by decide) rfl (Yld.b2sC (xs := x48.1) und_24 und_5 und_9 rfl (RdH.own (k := 152) rfl)) ?_
        refine WL.yldG (by decide) rfl (Yld.eqlStr (a := x39.1) (b := x48.1) rfl rfl) ?_
        refine WL.yld (by decide) (Yld.pickT rfl rfl) ?_
        refine WL.yld (by decide) (Yld.move rfl) ?_
        refine WL.new (v' := .bool false) (congrArg Value.bool (beq_eq_false_iff_ne.2 hc58)) ?_
        refine WL.skip (by decide) rfl rfl ?_
        refine WL.yld (by decide) (Yld.pickF rfl rfl) ?_
        refine WL.yld (by decide) (Yld.assign rfl) ?_
        refine WL.done (hK56 _ _ ?_)
        refine WC.ret ?_
        injection h with h; subst h
        exact Ret.fn [] (ResIs.one rfl rfl) rfl (Ext.trans hm_M14 hm_M19) rfl (by decide) rfl rfl ⟨rfl, rfl⟩
    · replace h := of_f hc57 h
      refine WL.yld (by decide) (Yld.move rfl) ?_
      refine WL.yld (by decide) (Yld.move rfl) ?_
      refine WL.yld (by decide) (Yld.eqlI rfl rfl) ?_
      refine WL.yld (by decide) (Yld.move rfl) ?_
      refine WL.new (v' := .bool false) (congrArg Value.bool (beq_eq_false_iff_ne.2 hc57)) ?_
      refine WL.skip (by decide) rfl rfl ?_
      refine WL.skip (by decide) rfl rfl ?_
      refine WL.skip (by decide) rfl rfl ?_
      refine WL.skip (by decide) rfl rfl ?_
      refine WL.skip (by decide) rfl rfl ?_
      refine WL.yld (by decide) (Yld.pickF rfl rfl) ?_
      refine WL.yld (by decide) (Yld.move rfl) ?_
      refine WL.skip (by decide) rfl rfl ?_
      refine WL.yld (by decide) (Yld.pickF rfl rfl) ?_
      refine WL.yld (by decide) (Yld.assign rfl) ?_
      refine WL.done (hK56 _ _ ?_)
      refine WC.ret ?_
      injection h with h; subst h
      exact Ret.fn [] (ResIs.one rfl rfl) rfl (Ext.trans hm_M14 hm_M19) rfl (by decide) rfl rfl ⟨rfl, rfl⟩

set_option maxRecDepth 10000 in
theorem w_law06_NeedleDecodes (M0 : Mem) (A00 : Option Addr) (n00 c00 : Nat) (x00 : List (BitVec 8)) (hf00 : SlT M0 A00 n00 c00 x00) (x01_0 : BitVec 64) (x01_1 : BitVec 32) (x01_2 : Bool) (A01_3 : Option Addr) (n01_3 c01_3 : Nat) (x01_3 : List (BitVec 8)) (hf01_3 : SlT M0 A01_3 n01_3 c01_3 x01_3) (x02 : Int) (x03 : BitVec 8) (x04 : Int) {res : Bool} (h : m_law06_NeedleDecodes x00 x01_0 x01_1 x01_2 x01_3 x02 x03 x04 = some res) :
    Fn Try.prog 5 #[.slice A00 n00 c00, .agg ([U64 x01_0, U32 x01_1, .bool x01_2, .slice A01_3 n01_3 c01_3] : List Value).toArray, I64 x02, U8 x03, I64 x04] M0 fun r M' es => r = .bool res ∧ es = [] := by
  refine Fn.intro (N := 106) Try.func5 rfl rfl (Nat.le_of_ble_eq_true rfl) fun w0 => ?_
  unfold m_law06_NeedleDecodes at h
  refine WC.seqRegion fun K1 hK1 => ?_
  refine WL.eff (by decide) (Eff.box 102 (us := [U64 x01_0, U32 x01_1, .bool x01_2, .slice A01_3 n01_3 c01_3]) rfl rfl rfl) ?_
  rintro _ _ ⟨g2, rfl, rfl⟩
  refine WL.yld (by decide) (Yld.assign rfl) ?_
  refine WL.done (hK1 _ _ ?_)
  refine WC.seqCut (σ := (Option Addr) × Nat × Nat × (List (BitVec 8)) × (BitVec 8) × Int) (fun ⟨A3, n4, c5, x6, x8, x9⟩ => [(0, .slice A3 n4 c5), (2, I64 x02), (3, U8 x8), (4, I64 x9), (6, .pointer (some ⟨g2, 0, none⟩))]) (fun ⟨A3, n4, c5, x6, x8, x9⟩ => [(0, .mem M0), (102, .blk g2 26 [U64 x01_0, U32 x01_1, .bool x01_2, .slice A01_3 n01_3 c01_3])]) (fun ⟨A3, n4, c5, x6, x8, x9⟩ => m_law06_NeedleDecodes_j0 x01_0 x01_1 x01_2 x01_3 x02 x6 x8 x9 = some res ∧ SlT M0 A3 n4 c5 x6) (fun K10 hK10 => ?_) ?_
  · skip
    refine WC.seqRegion fun K11 hK11 => ?_
    refine WL.yld (by decide) (Yld.move rfl) ?_
    refine WL.yld (by decide) (Yld.lenC (xs := x00) und_24 rfl (RdH.memM (k := 0) rfl hf00)) ?_
    refine WL.yld (by decide) (Yld.gtr rfl rfl) ?_
    refine WL.done (hK11 _ _ ?_)
    by_cases hc12 : (6000 : Int) < (x00.length : Int)
    · replace h := of_t hc12 h
      refine WC.condTe rfl (decide_eq_true hc12) ?_
      refine WC.region fun K13 hK13 => ?_
      obtain ⟨x14, hx14, h⟩ := bnd h
      refine WL.yld (by decide) (Yld.move rfl) ?_
      refine WL.yld (by decide) (Yld.sliceHC (xs := x00) sty_24 rfl rfl (RdH.memM (k := 0) rfl hf00) hx14) ?_
      refine WL.yld (by decide) (Yld.assign rfl) ?_
      refine WL.done (hK13 _ _ ?_)
      refine QK.thenN ?_
      refine hK10 ⟨A00, x14.length, c00, x14, x03, x04⟩ _ _ ?_ (Sub.cons rfl (Sub.cons rfl (Sub.cons rfl (Sub.cons rfl (Sub.cons rfl (Sub.nil _)))))) (Sub.cons rfl (Sub.cons rfl (Sub.nil _)))
      exact ⟨h, (SlT.slc0 hf00 hx14)⟩
    · replace h := of_f hc12 h
      refine WC.condFe rfl (decide_eq_false hc12) ?_
      refine WC.skip ?_
      refine QK.thenN ?_
      refine hK10 ⟨A00, n00, c00, x00, x03, x04⟩ _ _ ?_ (Sub.cons rfl (Sub.cons rfl (Sub.cons rfl (Sub.cons rfl (Sub.cons rfl (Sub.nil _)))))) (Sub.cons rfl (Sub.cons rfl (Sub.nil _)))
      exact ⟨h, hf00⟩
  · rintro ⟨A3, n4, c5, x6, x8, x9⟩ ⟨h, hf7⟩
    unfold m_law06_NeedleDecodes_j0 at h
    refine WC.seqRegion fun K15 hK15 => ?_
    obtain ⟨x16, hx16, h⟩ := bnd h
    obtain ⟨x31, hx31, h⟩ := bnd h
    refine WL.yld (by decide) (Yld.loadBM (k := 102) agg_26 rfl rfl rfl) ?_
    refine WL.eff (by decide) (Eff.callM 121 rfl Try.func15 nm_15 rfl rfl rfl (w_law06_cut _ x01_0 x01_1 x01_2 A01_3 n01_3 c01_3 _ hf01_3 hx16)) ?_
    rintro _ _ ⟨M26, _, ⟨A27, n28, c29, rfl, rfl, hf30⟩, hm_M26, rfl⟩
    refine WL.eff (by decide) (Eff.callS 135 rfl Try.func17 nm_17 rfl rfl (fun w hb hh => w_r06_Encode (Mem.snap w) x16.1 x16.2.1 x16.2.2.1 A27 n28 c29 _ (RdH.sn (RdH.memM (k := 0) rfl hf30) w hb hh) hx31)) ?_
    rintro _ _ ⟨_, ⟨A36, n37, c38, rfl, rfl⟩, rfl⟩
    refine WL.yld (by decide) (Yld.move rfl) ?_
    refine WL.yld (by decide) (Yld.extract rfl rfl) ?_
    refine WL.yld (by decide) (Yld.extract rfl rfl) ?_
    refine WL.yld (by decide) (Yld.assign rfl) ?_
    refine WL.yld (by decide) (Yld.assign rfl) ?_
    refine WL.done (hK15 _ _ ?_)
    refine WC.seqCut (σ := (Option Addr) × Nat × Nat × (List (BitVec 8))) (fun ⟨A41, n42, c43, x44⟩ => [(0, .slice A3 n4 c5), (2, I64 x02), (3, U8 x8), (4, I64 x9), (11, .slice A41 n42 c43)]) (fun ⟨A41, n42, c43, x44⟩ => [(0, .mem M26), (140, .own 5 (Lay.sz (BitVec 8)) A41 n42 c43 (cel x44))]) (fun ⟨A41, n42, c43, x44⟩ => m_law06_NeedleDecodes_j1 x02 x6 x8 x9 x44 = some res) (fun K45 hK45 => ?_) ?_
    · skip
      refine WC.seqRegion fun K46 hK46 => ?_
      refine WL.yld (by decide) (Yld.move rfl) ?_
      refine WL.yld (by decide) (Yld.neqI rfl rfl) ?_
      refine WL.done (hK46 _ _ ?_)
      by_cases hc47 : x31.2 = (0 : Int)
      · replace h := of_t hc47 h
        refine WC.condFe rfl (bne_eq_false_iff_eq.2 hc47) ?_
        refine WC.skip ?_
        refine QK.thenN ?_
        refine KK.move 135 140 rfl rfl ?_
        refine hK45 ⟨A36, n37, c38, x31.1⟩ _ _ ?_ (Sub.cons rfl (Sub.cons rfl (Sub.cons rfl (Sub.cons rfl (Sub.cons rfl (Sub.nil _)))))) (Sub.cons rfl (Sub.cons rfl (Sub.nil _)))
        exact h
      · replace h := of_f hc47 h
        refine WC.condTe rfl (bne_iff_ne.2 hc47) ?_
        refine WC.region fun K48 hK48 => ?_
        refine WL.eff (by decide) (Eff.buildC 149 ([0#8] : List (BitVec 8)) sty_24 rfl rfl rfl rfl rfl (by decide)) ?_
        rintro _ _ ⟨g49, rfl, rfl⟩
        refine WL.yld (by decide) (Yld.assign rfl) ?_
        refine WL.done (hK48 _ _ ?_)
        refine QK.thenN ?_
        refine KK.move 149 140 rfl rfl ?_
        refine hK45 ⟨(some ⟨g49, 0, none⟩), ([0#8] : List (BitVec 8)).length, ([0#8] : List (BitVec 8)).length, ([0#8] : List (BitVec 8))⟩ _ _ ?_ (Sub.cons rfl (Sub.cons rfl (Sub.cons rfl (Sub.cons rfl (Sub.cons rfl (Sub.nil _)))))) (Sub.cons rfl (Sub.cons rfl (Sub.nil _)))
        exact h
    · rintro ⟨A41, n42, c43, x44⟩ h
      unfold m_law06_NeedleDecodes_j1 at h
      refine WC.seqRegion fun K50 hK50 => ?_
      obtain ⟨x52, hx52, h⟩ := bnd h
      refine WL.eff (by decide) (Eff.buildC 151 ([] : List (BitVec 8)) sty_24 rfl rfl rfl rfl rfl (by decide)) ?_
      rintro _ _ ⟨g51, rfl, rfl⟩
      refine WL.yld (by decide) (Yld.move rfl) ?_
      refine WL.eff (by decide) (Eff.appendC 151 (xs := ([] : List (BitVec 8))) (ys := x44) sty_24 rfl rfl rfl (RdH.own (k := 140) rfl) hx52) ?_
      rintro _ _ ⟨A53, c54, rfl, rfl⟩
      refine WL.yld (by decide) (Yld.assign rfl) ?_
      refine WL.done (hK50 _ _ ?_)
      refine WC.seqRegion fun K55 hK55 => ?_
      obtain ⟨x56, hx56, h⟩ := bnd h
      obtain ⟨x57, hx57, h⟩ := bnd h
      obtain ⟨x58, hx58, h⟩ := bnd h
      obtain ⟨x59, hx59, h⟩ := bnd h
      obtain ⟨x60, hx60, h⟩ := bnd h
      refine WL.yld (by decide) (Yld.move rfl) ?_
      refine WL.yld (by decide) (Yld.move rfl) ?_
      refine WL.yld (by decide) (Yld.move rfl) ?_
      refine WL.yld (by decide) (Yld.lenC (xs := x44) und_24 rfl (RdH.own (k := 140) rfl)) ?_
      refine WL.yld (by decide) (Yld.remC rfl rfl hx56) ?_
      refine WL.yld (by decide) (Yld.move rfl) ?_
      refine WL.yld (by decide) (Yld.lenC (xs := x44) und_24 rfl (RdH.own (k := 140) rfl)) ?_
      refine WL.yld (by decide) (Yld.addC rfl rfl hx57) ?_
      refine WL.yld (by decide) (Yld.move rfl) ?_
      refine WL.yld (by decide) (Yld.lenC (xs := x44) und_24 rfl (RdH.own (k := 140) rfl)) ?_
      refine WL.yld (by decide) (Yld.remC rfl rfl hx58) ?_
      refine WL.yld (by decide) (Yld.move rfl) ?_
      refine WL.yld (by decide) (Yld.idxC (xs := x52) sty_24 rfl rfl (RdH.own (k := 151) rfl) hx59) ?_
      refine WL.eff0 (Eff0.storeC1 151 (xs := x52) (a' := x8) siz_5 rfl rfl rfl rfl rfl rfl hx60) ?_
      refine WL.done (hK55 _ _ ?_)
      refine WC.seqCut (σ := Mem) (fun M61 => []) (fun M61 => [(0, .mem M61)]) (fun M61 => m_law06_NeedleDecodes_j2 = some res ∧ Ext w0.heap.size M26 M61) (fun K62 hK62 => ?_) ?_
      · skip
        refine WC.seqRegionD (n := 23) [(0, _), (140, _), (151, _)] rfl mixed (Sub.cons rfl (Sub.cons rfl (Sub.cons rfl (Sub.nil _)))) fun K63 hK63 => ?_
        obtain ⟨x64, hx64, h⟩ := bnd h
        obtain ⟨x65, hx65, h⟩ := bnd h
        obtain ⟨x66, hx66, h⟩ := bnd h
        obtain ⟨x67, hx67, h⟩ := bnd h
        obtain ⟨x69, hx69, h⟩ := bnd h
        obtain ⟨x72, hx72, h⟩ := bnd h
        refine WD.take 0 rfl (by kernel_rfl) (by kernel_rfl) (by kernel_rfl) (by decide) (Yld.move rfl) ?_
        refine WD.take 1 rfl (by kernel_rfl) (by kernel_rfl) (by kernel_rfl) (by decide) (Yld.move rfl) ?_
        refine WD.take 2 rfl (by kernel_rfl) (by kernel_rfl) (by kernel_rfl) (by decide) (Yld.move rfl) ?_
        refine WD.take 3 rfl (by kernel_rfl) (by kernel_rfl) (by kernel_rfl) (by decide) (Yld.move rfl) ?_
        refine WD.take 4 rfl (by kernel_rfl) (by kernel_rfl) (by kernel_rfl) (by decide) (Yld.move rfl) ?_
        refine WD.take 5 rfl (by kernel_rfl) (by kernel_rfl) (by kernel_rfl) (by decide) (Yld.move rfl) ?_
        refine WD.take 6 rfl (by kernel_rfl) (by kernel_rfl) (by kernel_rfl) (by decide) (Yld.lenC (xs := x44) und_24 rfl (RdH.own (k := 140) rfl)) ?_
        refine WD.take 7 rfl (by kernel_rfl) (by kernel_rfl) (by kernel_rfl) (by decide) (Yld.remC rfl rfl hx64) ?_
        refine WD.take 8 rfl (by kernel_rfl) (by kernel_rfl) (by kernel_rfl) (by decide) (Yld.move rfl) ?_
        refine WD.take 9 rfl (by kernel_rfl) (by kernel_rfl) (by kernel_rfl) (by decide) (Yld.lenC (xs := x44) und_24 rfl (RdH.own (k := 140) rfl)) ?_
        refine WD.take 10 rfl (by kernel_rfl) (by kernel_rfl) (by kernel_rfl) (by decide) (Yld.addC rfl rfl hx65) ?_
        refine WD.take 11 rfl (by kernel_rfl) (by kernel_rfl) (by kernel_rfl) (by decide) (Yld.move rfl) ?_
        refine WD.take 12 rfl (by kernel_rfl) (by kernel_rfl) (by kernel_rfl) (by decide) (Yld.lenC (xs := x44) und_24 rfl (RdH.own (k := 140) rfl)) ?_
        refine WD.take 13 rfl (by kernel_rfl) (by kernel_rfl) (by kernel_rfl) (by decide) (Yld.remC rfl rfl hx66) ?_
        refine WD.take 14 rfl (by kernel_rfl) (by kernel_rfl) (by kernel_rfl) (by decide) (Yld.sliceHC (xs := x44) sty_24 rfl rfl (RdH.own (k := 140) rfl) hx67) ?_
        refine WD.take 16 rfl (by kernel_rfl) (by kernel_rfl) (by kernel_rfl) (by decide) (Yld.move rfl) ?_
        refine WD.take 18 rfl (by kernel_rfl) (by kernel_rfl) (by kernel_rfl) (by decide) (Yld.move rfl) ?_
        refine WD.take 22 rfl (by kernel_rfl) (by kernel_rfl) (by kernel_rfl) (by decide) (Yld.move rfl) ?_
        refine WD.one 15 (by kernel_rfl) ?_
        refine WS.eff rfl (by decide) (Eff.buildC 168 ([] : List (BitVec 8)) sty_24 rfl rfl rfl rfl rfl (by decide)) ?_
        rintro _ _ ⟨g68, rfl, rfl⟩
        refine ⟨(Sub.cons rfl (Sub.cons rfl (Sub.cons rfl (Sub.nil _)))), ?_⟩
        refine WD.one 17 (by kernel_rfl) ?_
        refine WS.eff rfl (by decide) (Eff.appendC 168 (xs := ([] : List (BitVec 8))) (ys := x44) sty_24 rfl rfl rfl (RdH.own (k := 140) rfl) hx69) ?_
        rintro _ _ ⟨A70, c71, rfl, rfl⟩
        refine ⟨(Sub.cons rfl (Sub.cons rfl (Sub.cons rfl (Sub.nil _)))), ?_⟩
        refine WD.one 19 (by kernel_rfl) ?_
        refine WS.eff rfl (by decide) (Eff.appendC 168 (xs := x69) (ys := x6) sty_24 rfl rfl rfl (RdH.memM (k := 0) rfl (SlRc.lift hf7 hm_M26)) hx72) ?_
        rintro _ _ ⟨A73, c74, rfl, rfl⟩
        refine ⟨(Sub.cons rfl (Sub.cons rfl (Sub.cons rfl (Sub.nil _)))), ?_⟩
        refine WD.one 20 (by kernel_rfl) ?_
        refine WS.eff rfl (by decide) (Eff.buildC 175 ([(⟨A3, n4, c5⟩ : Hdr), (⟨A41, n42, c43⟩ : Hdr), (⟨A53, x52.length, c54⟩ : Hdr), (⟨A41, x67.length, c43⟩ : Hdr), (⟨A73, x72.length, c74⟩ : Hdr)] : List Hdr) sty_36 rfl rfl rfl rfl rfl (by decide)) ?_
        rintro _ _ ⟨g75, rfl, rfl⟩
        refine ⟨(Sub.cons rfl (Sub.cons rfl (Sub.cons rfl (Sub.nil _)))), ?_⟩
        refine WD.one 21 (by kernel_rfl) ?_
        refine WS.yld rfl (by decide) (Yld.lenD (rs := ([(⟨A3, n4, c5⟩ : Hdr), (⟨A41, n42, c43⟩ : Hdr), (⟨A53, x52.length, c54⟩ : Hdr), (⟨A41, x67.length, c43⟩ : Hdr), (⟨A73, x72.length, c74⟩ : Hdr)] : List Hdr)) (xs := ([x6, x44, x60, x67, x72] : List (List (BitVec 8)))) rfl und_36 rfl (RdH.own (k := 175) rfl)) ?_
        refine WD.done (by kernel_rfl) ?_
        refine KK.freeze 140 rfl rfl rfl fun M76 hm_M76 hf77 => ?_
        refine KK.freeze 151 rfl rfl rfl fun M78 hm_M78 hf79 => ?_
        refine KK.freeze 168 rfl rfl rfl fun M80 hm_M80 hf81 => ?_
        have hq82 : Rels ((RelB (α := BitVec 8)) M80) ([(⟨A3, n4, c5⟩ : Hdr), (⟨A41, n42, c43⟩ : Hdr), (⟨A53, x52.length, c54⟩ : Hdr), (⟨A41, x67.length, c43⟩ : Hdr), (⟨A73, x72.length, c74⟩ : Hdr)] : List Hdr) ([x6, x44, x60, x67, x72] : List (List (BitVec 8))) := (Rels.cons (SlRc.lift (SlRc.lift (SlRc.lift (SlRc.lift hf7 hm_M26) hm_M76) hm_M78) hm_M80) (Rels.cons (SlRc.lift (SlRc.lift hf77 hm_M78) hm_M80) (Rels.cons (SlRc.lift hf79 hm_M80) (Rels.cons (SlT.slc0 (SlRc.lift (SlRc.lift hf77 hm_M78) hm_M80) hx67) (Rels.cons hf81 Rels.nil)))))
        refine hK63 _ _ ?_
        refine WC.block ?_
        refine WC.loop (σ := Nat × Int) (fun ⟨q84, x83⟩ => [(72, .slice (some ⟨g75, 0, none⟩) (([(⟨A3, n4, c5⟩ : Hdr), (⟨A41, n42, c43⟩ : Hdr), (⟨A53, x52.length, c54⟩ : Hdr), (⟨A41, x67.length, c43⟩ : Hdr), (⟨A73, x72.length, c74⟩ : Hdr)] : List Hdr).length) (([(⟨A3, n4, c5⟩ : Hdr), (⟨A41, n42, c43⟩ : Hdr), (⟨A53, x52.length, c54⟩ : Hdr), (⟨A41, x67.length, c43⟩ : Hdr), (⟨A73, x72.length, c74⟩ : Hdr)] : List Hdr).length)), (73, I64 (([x6, x44, x60, x67, x72] : List (List (BitVec 8))).length : Int)), (74, I64 x83)]) (fun ⟨q84, x83⟩ => [(0, .mem M80), (175, .own 24 (Lay.sz Hdr) (some ⟨g75, 0, none⟩) (([(⟨A3, n4, c5⟩ : Hdr), (⟨A41, n42, c43⟩ : Hdr), (⟨A53, x52.length, c54⟩ : Hdr), (⟨A41, x67.length, c43⟩ : Hdr), (⟨A73, x72.length, c74⟩ : Hdr)] : List Hdr).length) (([(⟨A3, n4, c5⟩ : Hdr), (⟨A41, n42, c43⟩ : Hdr), (⟨A53, x52.length, c54⟩ : Hdr), (⟨A41, x67.length, c43⟩ : Hdr), (⟨A73, x72.length, c74⟩ : Hdr)] : List Hdr).length) (cel ([(⟨A3, n4, c5⟩ : Hdr), (⟨A41, n42, c43⟩ : Hdr), (⟨A53, x52.length, c54⟩ : Hdr), (⟨A41, x67.length, c43⟩ : Hdr), (⟨A73, x72.length, c74⟩ : Hdr)] : List Hdr)))]) (fun ⟨q84, x83⟩ => m_law06_NeedleDecodes_l3 x6 x44 x60 x67 x72 q84 x83 = some res) (fun ⟨q84, x83⟩ => q84) ⟨forever, (0 : Int)⟩ ?_ (Sub.cons rfl (Sub.cons rfl (Sub.cons rfl (Sub.nil _)))) (Sub.cons rfl (Sub.cons rfl (Sub.nil _))) ?_
        · exact h
        rintro ⟨q84, x83⟩ h K85 hK85
        cases q84 with
        | zero => exact absurd h (by simp [m_law06_NeedleDecodes_l3])
        | succ q84 =>
          unfold m_law06_NeedleDecodes_l3 at h
          refine WC.seqRegion fun K86 hK86 => ?_
          refine WL.yld (by decide) (Yld.lss rfl rfl) ?_
          refine WL.done (hK86 _ _ ?_)
          refine WC.seq fun K87 hK87 => ?_
          by_cases hc88 : x83 < (([x6, x44, x60, x67, x72] : List (List (BitVec 8))).length : Int)
          · replace h := of_t hc88 h
            refine WC.condTe rfl (decide_eq_true hc88) ?_
            refine WC.skip ?_
            refine QK.thenN (hK87 _ _ ?_)
            refine WC.seq fun K89 hK89 => ?_
            refine WC.block ?_
            refine WC.seqRegion fun K90 hK90 => ?_
            obtain ⟨x91, hx91, h⟩ := bnd h
            obtain ⟨r_92, hr93, hq94⟩ := Rels.idx hq82 hx91
            refine WL.yld (by decide) (Yld.idxC (xs := ([(⟨A3, n4, c5⟩ : Hdr), (⟨A41, n42, c43⟩ : Hdr), (⟨A53, x52.length, c54⟩ : Hdr), (⟨A41, x67.length, c43⟩ : Hdr), (⟨A73, x72.length, c74⟩ : Hdr)] : List Hdr)) sty_36 rfl rfl (RdH.own (k := 175) rfl) hr93) ?_
            refine WL.yld (by decide) (Yld.loadC0 (xs := ([(⟨A3, n4, c5⟩ : Hdr), (⟨A41, n42, c43⟩ : Hdr), (⟨A53, x52.length, c54⟩ : Hdr), (⟨A41, x67.length, c43⟩ : Hdr), (⟨A73, x72.length, c74⟩ : Hdr)] : List Hdr)) scal_24 rfl (RdH.own (k := 175) rfl) hr93 rfl) ?_
            refine WL.yld (by decide) (Yld.assign rfl) ?_
            refine WL.done (hK90 _ _ ?_)
            refine WC.seqRegion fun K95 hK95 => ?_
            obtain ⟨x96, hx96, h⟩ := bnd h
            refine WL.yld (by decide) (Yld.move rfl) ?_
            refine WL.eff (by decide) (Eff.callS 200 rfl Try.func18 nm_18 rfl rfl (fun w hb hh => w_needle_Decode (Mem.snap w) r_92.A r_92.n r_92.c _ (RdH.sn (RdH.memM (k := 0) rfl hq94) w hb hh) hx96)) ?_
            rintro _ _ ⟨_, ⟨A101, n102, c103, rfl, rfl⟩, rfl⟩
            refine WL.yld (by decide) (Yld.move rfl) ?_
            refine WL.yld (by decide) (Yld.extract rfl rfl) ?_
            refine WL.yld (by decide) (Yld.extract rfl rfl) ?_
            refine WL.yld (by decide) (Yld.extract rfl rfl) ?_
            refine WL.eff (by decide) (Eff.alloc 204 rfl zr_26) ?_
            rintro _ _ ⟨g104, rfl, rfl⟩
            refine WL.eff0 (Eff0.storeBAM 204 agg_26 rfl rfl rfl ⟨rfl, rfl⟩ rfl) ?_
            refine WL.yld (by decide) (Yld.assign rfl) ?_
            refine WL.yld (by decide) (Yld.assign rfl) ?_
            refine WL.done (hK95 _ _ ?_)
            refine WC.seqRegion fun K105 hK105 => ?_
            obtain ⟨x106, hx106, h⟩ := bnd h
            refine WL.yld (by decide) (Yld.move rfl) ?_
            refine WL.eff (by decide) (Eff.callS 210 rfl Try.func19 nm_19 rfl rfl (fun w hb hh => w_r06_Decode (Mem.snap w) r_92.A r_92.n r_92.c _ (RdH.sn (RdH.memM (k := 0) rfl hq94) w hb hh) hx106)) ?_
            rintro _ _ ⟨_, ⟨A111, n112, c113, rfl, rfl⟩, rfl⟩
            refine WL.yld (by decide) (Yld.move rfl) ?_
            refine WL.yld (by decide) (Yld.extract rfl rfl) ?_
            refine WL.yld (by decide) (Yld.extract rfl rfl) ?_
            refine WL.yld (by decide) (Yld.extract rfl rfl) ?_
            refine WL.eff (by decide) (Eff.alloc 214 rfl zr_26) ?_
            rintro _ _ ⟨g114, rfl, rfl⟩
            refine WL.eff0 (Eff0.storeBAM 214 agg_26 rfl rfl rfl ⟨rfl, rfl⟩ rfl) ?_
            refine WL.yld (by decide) (Yld.assign rfl) ?_
            refine WL.yld (by decide) (Yld.assign rfl) ?_
            refine WL.done (hK105 _ _ ?_)
            refine WC.seqRegion fun K115 hK115 => ?_
            by_cases hc116 : x96.2.2.2.2.2 = x106.2.2.2.2.2
            · replace h := of_t hc116 h
              by_cases hc117 : x96.2.2.2.2.1 = x106.2.2.2.2.1
              · replace h := of_t hc117 h
                obtain ⟨x118, hx118, h⟩ := bnd h
                refine WL.yld (by decide) (Yld.move rfl) ?_
                refine WL.yld (by decide) (Yld.move rfl) ?_
                refine WL.yld (by decide) (Yld.neqI rfl rfl) ?_
                refine WL.yld (by decide) (Yld.move rfl) ?_
                refine WL.new (v' := .bool false) (congrArg Value.bool (bne_eq_false_iff_eq.2 hc116)) ?_
                refine WL.yldG (by decide) rfl (Yld.move rfl) ?_
                refine WL.yldG (by decide) rfl (Yld.move rfl) ?_
                refine WL.yldG (by decide) rfl (Yld.neqI rfl rfl) ?_
                refine WL.yld (by decide) (Yld.pickF rfl rfl) ?_
                refine WL.yld (by decide) (Yld.move rfl) ?_
                refine WL.new (v' := .bool false) (congrArg Value.bool (bne_eq_false_iff_eq.2 hc117)) ?_
                refine WL.yldG (by decide) rfl (Yld.loadBM (k := 204) agg_26 rfl rfl rfl) ?_
                refine WL.yldG (by decide) rfl (Yld.loadBM (k := 214) agg_26 rfl rfl rfl) ?_
                refine WL.effG (by decide) rfl (Eff.callS 219 rfl Try.func20 nm_20 rfl rfl (fun w hb hh => w_r06_Same (Mem.snap w) x96.1 x96.2.1 x96.2.2.1 A101 n102 c103 _ (RdH.sn (RdH.own (k := 200) rfl) w hb hh) x106.1 x106.2.1 x106.2.2.1 A111 n112 c113 _ (RdH.sn (RdH.own (k := 210) rfl) w hb hh) hx118)) ?_
                rintro _ _ ⟨_, ⟨rfl, rfl⟩, rfl⟩
                refine WL.yldG (by decide) rfl (Yld.notB rfl) ?_
                refine WL.yld (by decide) (Yld.pickF rfl rfl) ?_
                refine WL.done (hK115 _ _ ?_)
                by_cases hc120 : x118 = true
                · replace h := of_t hc120 h
                  refine WC.condFe rfl (not_f hc120) ?_
                  refine WC.skip ?_
                  refine QK.blockN ?_
                  refine QK.thenN (hK89 _ _ ?_)
                  refine WC.region fun K121 hK121 => ?_
                  obtain ⟨x122, hx122, h⟩ := bnd h
                  refine WL.yld (by decide) (Yld.addC rfl rfl hx122) ?_
                  refine WL.yld (by decide) (Yld.move rfl) ?_
                  refine WL.done (hK121 _ _ ?_)
                  refine QK.thenN ?_
                  refine hK85 ⟨q84, x122⟩ _ _ ?_ (Nat.lt_succ_self _) (Sub.cons rfl (Sub.cons rfl (Sub.cons rfl (Sub.nil _)))) (Sub.cons rfl (Sub.cons rfl (Sub.nil _)))
                  exact h
                · replace h := of_f hc120 h
                  refine WC.condTe rfl (not_t (Bool.eq_false_iff.2 hc120)) ?_
                  refine WC.seqRegion fun K123 hK123 => ?_
                  refine WL.yld (by decide) (Yld.assign rfl) ?_
                  refine WL.done (hK123 _ _ ?_)
                  refine WC.ret (QK.blockR (QK.thenR (QK.thenR (QK.blockR (QK.thenR ?_)))))
                  injection h with h; subst h
                  exact Ret.fn [] (ResIs.one rfl rfl) rfl (Ext.trans (Ext.trans (Ext.trans hm_M26 hm_M76) hm_M78) hm_M80) rfl (by decide) rfl rfl ⟨rfl, rfl⟩
              · replace h := of_f hc117 h
                refine WL.yld (by decide) (Yld.move rfl) ?_
                refine WL.yld (by decide) (Yld.move rfl) ?_
                refine WL.yld (by decide) (Yld.neqI rfl rfl) ?_
                refine WL.yld (by decide) (Yld.move rfl) ?_
                refine WL.new (v' := .bool false) (congrArg Value.bool (bne_eq_false_iff_eq.2 hc116)) ?_
                refine WL.yldG (by decide) rfl (Yld.move rfl) ?_
                refine WL.yldG (by decide) rfl (Yld.move rfl) ?_
                refine WL.yldG (by decide) rfl (Yld.neqI rfl rfl) ?_
                refine WL.yld (by decide) (Yld.pickF rfl rfl) ?_
                refine WL.yld (by decide) (Yld.move rfl) ?_
                refine WL.new (v' := .bool true) (congrArg Value.bool (bne_iff_ne.2 hc117)) ?_
                refine WL.skip (by decide) rfl rfl ?_
                refine WL.skip (by decide) rfl rfl ?_
                refine WL.skip (by decide) rfl rfl ?_
                refine WL.skip (by decide) rfl rfl ?_
                refine WL.yld (by decide) (Yld.pickT rfl rfl) ?_
                refine WL.done (hK115 _ _ ?_)
                refine WC.condT rfl ?_
                refine WC.seqRegion fun K124 hK124 => ?_
                refine WL.yld (by decide) (Yld.assign rfl) ?_
                refine WL.done (hK124 _ _ ?_)
                refine WC.ret (QK.blockR (QK.thenR (QK.thenR (QK.blockR (QK.thenR ?_)))))
                injection h with h; subst h
                exact Ret.fn [] (ResIs.one rfl rfl) rfl (Ext.trans (Ext.trans (Ext.trans hm_M26 hm_M76) hm_M78) hm_M80) rfl (by decide) rfl rfl ⟨rfl, rfl⟩
            · replace h := of_f hc116 h
              refine WL.yld (by decide) (Yld.move rfl) ?_
              refine WL.yld (by decide) (Yld.move rfl) ?_
              refine WL.yld (by decide) (Yld.neqI rfl rfl) ?_
              refine WL.yld (by decide) (Yld.move rfl) ?_
              refine WL.new (v' := .bool true) (congrArg Value.bool (bne_iff_ne.2 hc116)) ?_
              refine WL.skip (by decide) rfl rfl ?_
              refine WL.skip (by decide) rfl rfl ?_
              refine WL.skip (by decide) rfl rfl ?_
              refine WL.yld (by decide) (Yld.pickT rfl rfl) ?_
              refine WL.yld (by decide) (Yld.move rfl) ?_
              refine WL.skip (by decide) rfl rfl ?_
              refine WL.skip (by decide) rfl rfl ?_
              refine WL.skip (by decide) rfl rfl ?_
              refine WL.skip (by decide) rfl rfl ?_
              refine WL.yld (by decide) (Yld.pickT rfl rfl) ?_
              refine WL.done (hK115 _ _ ?_)
              refine WC.condT rfl ?_
              refine WC.seqRegion fun K125 hK125 => ?_
              refine WL.yld (by decide) (Yld.assign rfl) ?_
              refine WL.done (hK125 _ _ ?_)
              refine WC.ret (QK.blockR (QK.thenR (QK.thenR (QK.blockR (QK.thenR ?_)))))
              injection h with h; subst h
              exact Ret.fn [] (ResIs.one rfl rfl) rfl (Ext.trans (Ext.trans (Ext.trans hm_M26 hm_M76) hm_M78) hm_M80) rfl (by decide) rfl rfl ⟨rfl, rfl⟩
          · replace h := of_f hc88 h
            refine WC.condFe rfl (decide_eq_false hc88) ?_
            refine WC.exit (QK.thenE (QK.thenE (QK.blockX ?_)))
            refine QK.thenN ?_
            refine hK62 M80 _ _ ?_ (Sub.nil _) (Sub.cons rfl (Sub.nil _))
            exact ⟨h, (Ext.trans (Ext.trans hm_M76 hm_M78) hm_M80)⟩
      · rintro M61 ⟨h, hm_M61⟩
        unfold m_law06_NeedleDecodes_j2 at h
        refine WC.seqRegion fun K126 hK126 => ?_
        obtain ⟨x127, hx127, h⟩ := bnd h
        refine WL.eff (by decide) (Eff.callS 228 rfl Try.func14 nm_14 rfl rfl (fun w hb hh => w_law06_awake (Mem.snap w) hx127)) ?_
        rintro _ _ ⟨_, ⟨rfl, rfl⟩, rfl⟩
        refine WL.yld (by decide) (Yld.assign rfl) ?_
        refine WL.done (hK126 _ _ ?_)
        refine WC.ret ?_
        injection h with h; subst h
        exact Ret.fn [] (ResIs.one rfl rfl) rfl (Ext.trans hm_M26 hm_M61) rfl (by decide) rfl rfl ⟨rfl, rfl⟩

set_option maxRecDepth 10000 in
theorem w_law06_NeedleBack (M0 : Mem) (x00_0 : BitVec 64) (x00_1 : BitVec 32) (x00_2 : Bool) (A00_3 : Option Addr) (n00_3 c00_3 : Nat) (x00_3 : List (BitVec 8)) (hf00_3 : SlT M0 A00_3 n00_3 c00_3 x00_3) (A01 : Option Addr) (n01 c01 : Nat) (x01 : List (BitVec 8)) (hf01 : SlT M0 A01 n01 c01 x01) {res : Bool} (h : m_law06_NeedleBack x00_0 x00_1 x00_2 x00_3 x01 = some res) :
    Fn Try.prog 6 #[.agg ([U64 x00_0, U32 x00_1, .bool x00_2, .slice A00_3 n00_3 c00_3] : List Value).toArray, .slice A01 n01 c01] M0 fun r M' es => r = .bool res ∧ es = [] := by
  refine Fn.intro (N := 98) Try.func6 rfl rfl (Nat.le_of_ble_eq_true rfl) fun w0 => ?_
  unfold m_law06_NeedleBack at h
  refine WC.seqRegion fun K1 hK1 => ?_
  refine WL.eff (by decide) (Eff.box 102 (us := [U64 x00_0, U32 x00_1, .bool x00_2, .slice A00_3 n00_3 c00_3]) rfl rfl rfl) ?_
  rintro _ _ ⟨g2, rfl, rfl⟩
  refine WL.yld (by decide) (Yld.assign rfl) ?_
  refine WL.done (hK1 _ _ ?_)
  refine WC.seqRegion fun K3 hK3 => ?_
  obtain ⟨x4, hx4, h⟩ := bnd h
  refine WL.yld (by decide) (Yld.loadBM (k := 102) agg_26 rfl rfl rfl) ?_
  refine WL.eff (by decide) (Eff.callM 109 rfl Try.func15 nm_15 rfl rfl rfl (w_law06_cut _ x00_0 x00_1 x00_2 A00_3 n00_3 c00_3 _ hf00_3 hx4)) ?_
  rintro _ _ ⟨M14, _, ⟨A15, n16, c17, rfl, rfl, hf18⟩, hm_M14, rfl⟩
  refine WL.eff0 (Eff0.storeBAM 102 agg_26 rfl rfl rfl ⟨rfl, rfl⟩ rfl) ?_
  refine WL.done (hK3 _ _ ?_)
  refine WC.seqRegion fun K19 hK19 => ?_
  obtain ⟨x20, hx20, h⟩ := bnd h
  refine WL.yld (by decide) (Yld.loadBM (k := 102) agg_26 rfl rfl rfl) ?_
  refine WL.eff (by decide) (Eff.callS 124 rfl Try.func16 nm_16 rfl rfl (fun w hb hh => w_needle_Encode (Mem.snap w) x4.1 x4.2.1 x4.2.2.1 A15 n16 c17 _ (RdH.sn (RdH.memM (k := 0) rfl hf18) w hb hh) hx20)) ?_
  rintro _ _ ⟨_, ⟨A25, n26, c27, rfl, rfl⟩, rfl⟩
  refine WL.yld (by decide) (Yld.move rfl) ?_
  refine WL.yld (by decide) (Yld.extract rfl rfl) ?_
  refine WL.yld (by decide) (Yld.extract rfl rfl) ?_
  refine WL.yld (by decide) (Yld.assign rfl) ?_
  refine WL.yld (by decide) (Yld.assign rfl) ?_
  refine WL.done (hK19 _ _ ?_)
  refine WC.seq fun K28 hK28 => ?_
  refine WC.seqRegion fun K29 hK29 => ?_
  obtain ⟨x30, hx30, h⟩ := bnd h
  refine WL.yld (by decide) (Yld.loadBM (k := 102) agg_26 rfl rfl rfl) ?_
  refine WL.eff (by decide) (Eff.callS 131 rfl Try.func12 nm_12 rfl rfl (fun w hb hh => w_needle_Valid (Mem.snap w) x4.1 x4.2.1 x4.2.2.1 A15 n16 c17 _ (RdH.sn (RdH.memM (k := 0) rfl hf18) w hb hh) hx30)) ?_
  rintro _ _ ⟨_, ⟨rfl, rfl⟩, rfl⟩
  refine WL.yld (by decide) (Yld.notB rfl) ?_
  refine WL.done (hK29 _ _ ?_)
  by_cases hc32 : x30 = true
  · replace h := of_t hc32 h
    refine WC.condFe rfl (not_f hc32) ?_
    refine WC.skip ?_
    refine QK.thenN (hK28 _ _ ?_)
    refine WC.seqRegion fun K33 hK33 => ?_
    obtain ⟨x35, hx35, h⟩ := bnd h
    obtain ⟨x38, hx38, h⟩ := bnd h
    obtain ⟨x41, hx41, h⟩ := bnd h
    refine WL.eff (by decide) (Eff.buildC 134 ([] : List (BitVec 8)) sty_24 rfl rfl rfl rfl rfl (by decide)) ?_
    rintro _ _ ⟨g34, rfl, rfl⟩
    refine WL.yld (by decide) (Yld.move rfl) ?_
    refine WL.eff (by decide) (Eff.appendC 134 (xs := ([] : List (BitVec 8))) (ys := x20.1) sty_24 rfl rfl rfl (RdH.own (k := 124) rfl) hx35) ?_
    rintro _ _ ⟨A36, c37, rfl, rfl⟩
    refine WL.yld (by decide) (Yld.move rfl) ?_
    refine WL.eff (by decide) (Eff.appendC 134 (xs := x35) (ys := x01) sty_24 rfl rfl rfl (RdH.memM (k := 0) rfl (SlRc.lift hf01 hm_M14)) hx38) ?_
    rintro _ _ ⟨A39, c40, rfl, rfl⟩
    refine WL.eff (by decide) (Eff.callS 145 rfl Try.func18 nm_18 rfl rfl (fun w hb hh => w_needle_Decode (Mem.snap w) A39 x38.length c40 _ (RdH.sn (RdH.own (k := 134) rfl) w hb hh) hx41)) ?_
    rintro _ _ ⟨_, ⟨A46, n47, c48, rfl, rfl⟩, rfl⟩
    refine WL.yld (by decide) (Yld.move rfl) ?_
    refine WL.yld (by decide) (Yld.extract rfl rfl) ?_
    refine WL.yld (by decide) (Yld.extract rfl rfl) ?_
    refine WL.yld (by decide) (Yld.extract rfl rfl) ?_
    refine WL.eff (by decide) (Eff.alloc 149 rfl zr_26) ?_
    rintro _ _ ⟨g49, rfl, rfl⟩
    refine WL.eff0 (Eff0.storeBAM 149 agg_26 rfl rfl rfl ⟨rfl, rfl⟩ rfl) ?_
    refine WL.yld (by decide) (Yld.assign rfl) ?_
    refine WL.yld (by decide) (Yld.assign rfl) ?_
    refine WL.done (hK33 _ _ ?_)
    refine WC.seqRegion fun K50 hK50 => ?_
    by_cases hc51 : x20.2 = (0 : Int)
    · replace h := of_t hc51 h
      by_cases hc52 : x41.2.2.2.2.2 = (0 : Int)
      · replace h := of_t hc52 h
        by_cases hc53 : x41.2.2.2.2.1 = (x20.1.length : Int)
        · replace h := of_t hc53 h
          obtain ⟨x54, hx54, h⟩ := bnd h
          by_cases hc56 : x41.2.2.2.2.1 = x54
          · replace h := of_t hc56 h
            obtain ⟨x57, hx57, h⟩ := bnd h
            by_cases hc58 : x57 = (0 : Int)
            · replace h := of_t hc58 h
              by_cases hc59 : x41.1 = x4.1
              · replace h := of_t hc59 h
                by_cases hc60 : x41.2.1 = x4.2.1
                · replace h := of_t hc60 h
                  by_cases hc61 : x41.2.2.1 = x4.2.2.1
                  · replace h := of_t hc61 h
                    by_cases hc62 : x41.2.2.2.1 = x4.2.2.2
                    · replace h := of_t hc62 h
                      obtain ⟨x63, hx63, h⟩ := bnd h
                      refine WL.yld (by decide) (Yld.move rfl) ?_
                      refine WL.yld (by decide) (Yld.eqlI rfl rfl) ?_
                      refine WL.yld (by decide) (Yld.move rfl) ?_
                      refine WL.new (v' := .bool true) (congrArg Value.bool (beq_iff_eq.2 hc51)) ?_
                      refine WL.yldG (by decide) rfl (Yld.move rfl) ?_
                      refine WL.yldG (by decide) rfl (Yld.eqlI rfl rfl) ?_
                      refine WL.yld (by decide) (Yld.pickT rfl rfl) ?_
                      refine WL.yld (by decide) (Yld.move rfl) ?_
                      refine WL.new (v' := .bool true) (congrArg Value.bool (beq_iff_eq.2 hc52)) ?_
                      refine WL.yldG (by decide) rfl (Yld.move rfl) ?_
                      refine WL.yldG (by decide) rfl (Yld.move rfl) ?_
                      refine WL.yldG (by decide) rfl (Yld.lenC (xs := x20.1) und_24 rfl (RdH.own (k := 124) rfl)) ?_
                      refine WL.yldG (by decide) rfl (Yld.eqlI rfl rfl) ?_
                      refine WL.yld (by decide) (Yld.pickT rfl rfl) ?_
                      refine WL.yld (by decide) (Yld.move rfl) ?_
                      refine WL.new (v' := .bool true) (congrArg Value.bool (beq_iff_eq.2 hc53)) ?_
                      refine WL.yldG (by decide) rfl (Yld.move rfl) ?_
                      refine WL.yldG (by decide) rfl (Yld.fieldAddr Try.underlying26 rfl nz_24 rfl rfl) ?_
                      refine WL.yldG (by decide) rfl (Yld.loadB (k := 102) scal_24 rfl rfl rfl) ?_
                      refine WL.yldG (by decide) rfl (Yld.lenC (xs := x4.2.2.2) und_24 rfl (RdH.memM (k := 0) rfl hf18)) ?_
                      refine WL.effG (by decide) rfl (Eff.callS 155 rfl Try.func10 nm_10 rfl rfl (fun w hb hh => w_needle_Size (Mem.snap w) (x4.2.2.2.length : Int) hx54)) ?_
                      rintro _ _ ⟨_, ⟨rfl, rfl⟩, rfl⟩
                      refine WL.yldG (by decide) rfl (Yld.eqlI rfl rfl) ?_
                      refine WL.yld (by decide) (Yld.pickT rfl rfl) ?_
                      refine WL.yld (by decide) (Yld.move rfl) ?_
                      refine WL.new (v' := .bool true) (congrArg Value.bool (beq_iff_eq.2 hc56)) ?_
                      refine WL.yldG (by decide) rfl (Yld.move rfl) ?_
                      refine WL.yldG (by decide) rfl (Yld.remC rfl rfl hx57) ?_
                      refine WL.yldG (by decide) rfl (Yld.eqlI rfl rfl) ?_
                      refine WL.yld (by decide) (Yld.pickT rfl rfl) ?_
                      refine WL.yld (by decide) (Yld.move rfl) ?_
                      refine WL.new (v' := .bool true) (congrArg Value.bool (beq_iff_eq.2 hc58)) ?_
                      refine WL.yldG (by decide) rfl (Yld.fieldAddr Try.underlying26 rfl nz_22 rfl rfl) ?_
                      refine WL.yldG (by decide) rfl (Yld.loadB (k := 149) scal_22 rfl rfl rfl) ?_
                      refine WL.yldG (by decide) rfl (Yld.fieldAddr Try.underlying26 rfl nz_22 rfl rfl) ?_
                      refine WL.yldG (by decide) rfl (Yld.loadB (k := 102) scal_22 rfl rfl rfl) ?_
                      refine WL.yldG (by decide) rfl (Yld.eql_u64 (a := x41.1) (b := x4.1) rfl rfl) ?_
                      refine WL.yld (by decide) (Yld.pickT rfl rfl) ?_
                      refine WL.yld (by decide) (Yld.move rfl) ?_
                      refine WL.new (v' := .bool true) (congrArg Value.bool (beq_iff_eq.2 hc59)) ?_
                      refine WL.yldG (by decide) rfl (Yld.fieldAddr Try.underlying26 rfl nz_23 rfl rfl) ?_
                      refine WL.yldG (by decide) rfl (Yld.loadB (k := 149) scal_23 rfl rfl rfl) ?_
                      refine WL.yldG (by decide) rfl (Yld.fieldAddr Try.underlying26 rfl nz_23 rfl rfl) ?_
                      refine WL.yldG (by decide) rfl (Yld.loadB (k := 102) scal_23 rfl rfl rfl) ?_
                      refine WL.yldG (by decide) rfl (Yld.eql_u32 (a := x41.2.1) (b := x4.2.1) rfl rfl) ?_
                      refine WL.yld (by decide) (Yld.pickT rfl rfl) ?_
                      refine WL.yld (by decide) (Yld.move rfl) ?_
                      refine WL.new (v' := .bool true) (congrArg Value.bool (beq_iff_eq.2 hc60)) ?_
                      refine WL.yldG (by decide) rfl (Yld.fieldAddr Try.underlying26 rfl nz_4 rfl rfl) ?_
                      refine WL.yldG (by decide) rfl (Yld.loadB (k := 149) scal_4 rfl rfl rfl) ?_
                      refine WL.yldG (by decide) rfl (Yld.fieldAddr Try.underlying26 rfl nz_4 rfl rfl) ?_
                      refine WL.yldG (by decide) rfl (Yld.loadB (k := 102) scal_4 rfl rfl rfl) ?_
                      refine WL.yldG (by decide) rfl (Yld.eqlB und_4 rfl rfl) ?_
                      refine WL.yld (by decide) (Yld.pickT rfl rfl) ?_
                      refine WL.yld (by decide) (Yld.move rfl) ?_
                      refine WL.new (v' := .bool true) (congrArg Value.bool (beq_iff_eq.2 hc61)) ?_
                      refine WL.yldG (by decide) rfl (Yld.fieldAddr Try.underlying26 rfl nz_24 rfl rfl) ?_
                      refine WL.yldG (by decide) rfl (Yld.loadB (k := 149) scal_24 rfl rfl rfl) ?_
                      refine WL.yldG (by decide) rfl (Yld.b2sC (xs := x41.2.2.2.1) und_24 und_5 und_9 rfl (RdH.own (k := 145) rfl)) ?_
                      refine WL.yldG (by decide) rfl (Yld.fieldAddr Try.underlying26 rfl nz_24 rfl rfl) ?_
                      refine WL.yldG (by decide) rfl (Yld.loadB (k := 102) scal_24 rfl rfl rfl) ?_
                      refine WL.yldG (by decide) rfl (Yld.b2sC (xs := x4.2.2.2) und_24 und_5 und_9 rfl (RdH.memM (k := 0) rfl hf18)) ?_
                      refine WL.yldG (by decide) rfl (Yld.eqlStr (a := x41.2.2.2.1) (b := x4.2.2.2) rfl rfl) ?_
                      refine WL.yld (by decide) (Yld.pickT rfl rfl) ?_
                      refine WL.yld (by decide) (Yld.move rfl) ?_
                      refine WL.new (v' := .bool true) (congrArg Value.bool (beq_iff_eq.2 hc62)) ?_
                      refine WL.effG (by decide) rfl (Eff.callS 164 rfl Try.func14 nm_14 rfl rfl (fun w hb hh => w_law06_awake (Mem.snap w) hx63)) ?_
                      rintro _ _ ⟨_, ⟨rfl, rfl⟩, rfl⟩
                      refine WL.yld (by decide) (Yld.pickT rfl rfl) ?_
                      refine WL.yld (by decide) (Yld.assign rfl) ?_
                      refine WL.done (hK50 _ _ ?_)
                      refine WC.ret ?_
                      injection h with h; subst h
                      exact Ret.fn [] (ResIs.one rfl rfl) rfl hm_M14 rfl (by decide) rfl rfl ⟨rfl, rfl⟩
                    · replace h := of_f hc62 h
                      refine WL.yld (by decide) (Yld.move rfl) ?_
                      refine WL.yld (by decide) (Yld.eqlI rfl rfl) ?_
                      refine WL.yld (by decide) (Yld.move rfl) ?_
                      refine WL.new (v' := .bool true) (congrArg Value.bool (beq_iff_eq.2 hc51)) ?_
                      refine WL.yldG (by decide) rfl (Yld.move rfl) ?_
                      refine WL.yldG (by decide) rfl (Yld.eqlI rfl rfl) ?_
                      refine WL.yld (by decide) (Yld.pickT rfl rfl) ?_
                      refine WL.yld (by decide) (Yld.move rfl) ?_
                      refine WL.new (v' := .bool true) (congrArg Value.bool (beq_iff_eq.2 hc52)) ?_
                      refine WL.yldG (by decide) rfl (Yld.move rfl) ?_
                      refine WL.yldG (by decide) rfl (Yld.move rfl) ?_
                      refine WL.yldG (by decide) rfl (Yld.lenC (xs := x20.1) und_24 rfl (RdH.own (k := 124) rfl)) ?_
                      refine WL.yldG (by decide) rfl (Yld.eqlI rfl rfl) ?_
                      refine WL.yld (by decide) (Yld.pickT rfl rfl) ?_
                      refine WL.yld (by decide) (Yld.move rfl) ?_
                      refine WL.new (v' := .bool true) (congrArg Value.bool (beq_iff_eq.2 hc53)) ?_
                      refine WL.yldG (by decide) rfl (Yld.move rfl) ?_
                      refine WL.yldG (by decide) rfl (Yld.fieldAddr Try.underlying26 rfl nz_24 rfl rfl) ?_
                      refine WL.yldG (by decide) rfl (Yld.loadB (k := 102) scal_24 rfl rfl rfl) ?_
                      refine WL.yldG (by decide) rfl (Yld.lenC (xs := x4.2.2.2) und_24 rfl (RdH.memM (k := 0) rfl hf18)) ?_
                      refine WL.effG (by decide) rfl (Eff.callS 155 rfl Try.func10 nm_10 rfl rfl (fun w hb hh => w_needle_Size (Mem.snap w) (x4.2.2.2.length : Int) hx54)) ?_
                      rintro _ _ ⟨_, ⟨rfl, rfl⟩, rfl⟩
                      refine WL.yldG (by decide) rfl (Yld.eqlI rfl rfl) ?_
                      refine WL.yld (by decide) (Yld.pickT rfl rfl) ?_
                      refine WL.yld (by decide) (Yld.move rfl) ?_
                      refine WL.new (v' := .bool true) (congrArg Value.bool (beq_iff_eq.2 hc56)) ?_
                      refine WL.yldG (by decide) rfl (Yld.move rfl) ?_
                      refine WL.yldG (by decide) rfl (Yld.remC rfl rfl hx57) ?_
                      refine WL.yldG (by decide) rfl (Yld.eqlI rfl rfl) ?_
                      refine WL.yld (by decide) (Yld.pickT rfl rfl) ?_
                      refine WL.yld (by decide) (Yld.move rfl) ?_
                      refine WL.new (v' := .bool true) (congrArg Value.bool (beq_iff_eq.2 hc58)) ?_
                      refine WL.yldG (by decide) rfl (Yld.fieldAddr Try.underlying26 rfl nz_22 rfl rfl) ?_
                      refine WL.yldG (by decide) rfl (Yld.loadB (k := 149) scal_22 rfl rfl rfl) ?_
                      refine WL.yldG (by decide) rfl (Yld.fieldAddr Try.underlying26 rfl nz_22 rfl rfl) ?_
                      refine WL.yldG (by decide) rfl (Yld.loadB (k := 102) scal_22 rfl rfl rfl) ?_
                      refine WL.yldG (by decide) rfl (Yld.eql_u64 (a := x41.1) (b := x4.1) rfl rfl) ?_
                      refine WL.yld (by decide) (Yld.pickT rfl rfl) ?_
                      refine WL.yld (by decide) (Yld.move rfl) ?_
                      refine WL.new (v' := .bool true) (congrArg Value.bool (beq_iff_eq.2 hc59)) ?_
                      refine WL.yldG (by decide) rfl (Yld.fieldAddr Try.underlying26 rfl nz_23 rfl rfl) ?_
                      refine WL.yldG (by decide) rfl (Yld.loadB (k := 149) scal_23 rfl rfl rfl) ?_
                      refine WL.yldG (by decide) rfl (Yld.fieldAddr Try.underlying26 rfl nz_23 rfl rfl) ?_
                      refine WL.yldG (by decide) rfl (Yld.loadB (k := 102) scal_23 rfl rfl rfl) ?_
                      refine WL.yldG (by decide) rfl (Yld.eql_u32 (a := x41.2.1) (b := x4.2.1) rfl rfl) ?_
                      refine WL.yld (by decide) (Yld.pickT rfl rfl) ?_
                      refine WL.yld (by decide) (Yld.move rfl) ?_
                      refine WL.new (v' := .bool true) (congrArg Value.bool (beq_iff_eq.2 hc60)) ?_
                      refine WL.yldG (by decide) rfl (Yld.fieldAddr Try.underlying26 rfl nz_4 rfl rfl) ?_
                      refine WL.yldG (by decide) rfl (Yld.loadB (k := 149) scal_4 rfl rfl rfl) ?_
                      refine WL.yldG (by decide) rfl (Yld.fieldAddr Try.underlying26 rfl nz_4 rfl rfl) ?_
                      refine WL.yldG (by decide) rfl (Yld.loadB (k := 102) scal_4 rfl rfl rfl) ?_
                      refine WL.yldG (by decide) rfl (Yld.eqlB und_4 rfl rfl) ?_
                      refine WL.yld (by decide) (Yld.pickT rfl rfl) ?_
                      refine WL.yld (by decide) (Yld.move rfl) ?_
                      refine WL.new (v' := .bool true) (congrArg Value.bool (beq_iff_eq.2 hc61)) ?_
                      refine WL.yldG (by decide) rfl (Yld.fieldAddr Try.underlying26 rfl nz_24 rfl rfl) ?_
                      refine WL.yldG (by decide) rfl (Yld.loadB (k := 149) scal_24 rfl rfl rfl) ?_
                      refine WL.yldG (by decide) rfl (Yld.b2sC (xs := x41.2.2.2.1) und_24 und_5 und_9 rfl (RdH.own (k := 145) rfl)) ?_
                      refine WL.yldG (by decide) rfl (Yld.fieldAddr Try.underlying26 rfl nz_24 rfl rfl) ?_
                      refine WL.yldG (by decide) rfl (Yld.loadB (k := 102) scal_24 rfl rfl rfl) ?_
                      refine WL.yldG (by decide) rfl (Yld.b2sC (xs := x4.2.2.2) und_24 und_5 und_9 rfl (RdH.memM (k := 0) rfl hf18)) ?_
                      refine WL.yldG (by decide) rfl (Yld.eqlStr (a := x41.2.2.2.1) (b := x4.2.2.2) rfl rfl) ?_
                      refine WL.yld (by decide) (Yld.pickT rfl rfl) ?_
                      refine WL.yld (by decide) (Yld.move rfl) ?_
                      refine WL.new (v' := .bool false) (congrArg Value.bool (beq_eq_false_iff_ne.2 hc62)) ?_
                      refine WL.skip (by decide) rfl rfl ?_
                      refine WL.yld (by decide) (Yld.pickF rfl rfl) ?_
                      refine WL.yld (by decide) (Yld.assign rfl) ?_
                      refine WL.done (hK50 _ _ ?_)
                      refine WC.ret ?_
                      injection h with h; subst h
                      exact Ret.fn [] (ResIs.one rfl rfl) rfl hm_M14 rfl (by decide) rfl rfl ⟨rfl, rfl⟩
                  · replace h := of_f hc61 h
                    refine WL.yld (by decide) (Yld.move rfl) ?_
                    refine WL.yld (by decide) (Yld.eqlI rfl rfl) ?_
                    refine WL.yld (by decide) (Yld.move rfl) ?_
                    refine WL.new (v' := .bool true) (congrArg Value.bool (beq_iff_eq.2 hc51)) ?_
                    refine WL.yldG (by decide) rfl (Yld.move rfl) ?_
                    refine WL.yldG (by decide) rfl (Yld.eqlI rfl rfl) ?_
                    refine WL.yld (by decide) (Yld.pickT rfl rfl) ?_
                    refine WL.yld (by decide) (Yld.move rfl) ?_
                    refine WL.new (v' := .bool true) (congrArg Value.bool (beq_iff_eq.2 hc52)) ?_
                    refine WL.yldG (by decide) rfl (Yld.move rfl) ?_
                    refine WL.yldG (by decide) rfl (Yld.move rfl) ?_
                    refine WL.yldG (by decide) rfl (Yld.lenC (xs := x20.1) und_24 rfl (RdH.own (k := 124) rfl)) ?_
                    refine WL.yldG (by decide) rfl (Yld.eqlI rfl rfl) ?_
                    refine WL.yld (by decide) (Yld.pickT rfl rfl) ?_
                    refine WL.yld (by decide) (Yld.move rfl) ?_
                    refine WL.new (v' := .bool true) (congrArg Value.bool (beq_iff_eq.2 hc53)) ?_
                    refine WL.yldG (by decide) rfl (Yld.move rfl) ?_
                    refine WL.yldG (by decide) rfl (Yld.fieldAddr Try.underlying26 rfl nz_24 rfl rfl) ?_
                    refine WL.yldG (by decide) rfl (Yld.loadB (k := 102) scal_24 rfl rfl rfl) ?_
                    refine WL.yldG (by decide) rfl (Yld.lenC (xs := x4.2.2.2) und_24 rfl (RdH.memM (k := 0) rfl hf18)) ?_
                    refine WL.effG (by decide) rfl (Eff.callS 155 rfl Try.func10 nm_10 rfl rfl (fun w hb hh => w_needle_Size (Mem.snap w) (x4.2.2.2.length : Int) hx54)) ?_
                    rintro _ _ ⟨_, ⟨rfl, rfl⟩, rfl⟩
                    refine WL.yldG (by decide) rfl (Yld.eqlI rfl rfl) ?_
                    refine WL.yld (by decide) (Yld.pickT rfl rfl) ?_
                    refine WL.yld (by decide) (Yld.move rfl) ?_
                    refine WL.new (v' := .bool true) (congrArg Value.bool (beq_iff_eq.2 hc56)) ?_
                    refine WL.yldG (by decide) rfl (Yld.move rfl) ?_
                    refine WL.yldG (by decide) rfl (Yld.remC rfl rfl hx57) ?_
                    refine WL.yldG (by decide) rfl (Yld.eqlI rfl rfl) ?_
                    refine WL.yld (by decide) (Yld.pickT rfl rfl) ?_
                    refine WL.yld (by decide) (Yld.move rfl) ?_
                    refine WL.new (v' := .bool true) (congrArg Value.bool (beq_iff_eq.2 hc58)) ?_
                    refine WL.yldG (by decide) rfl (Yld.fieldAddr Try.underlying26 rfl nz_22 rfl rfl) ?_
                    refine WL.yldG (by decide) rfl (Yld.loadB (k := 149) scal_22 rfl rfl rfl) ?_
                    refine WL.yldG (by decide) rfl (Yld.fieldAddr Try.underlying26 rfl nz_22 rfl rfl) ?_
                    refine WL.yldG (by decide) rfl (Yld.loadB (k := 102) scal_22 rfl rfl rfl) ?_
                    refine WL.yldG (by decide) rfl (Yld.eql_u64 (a := x41.1) (b := x4.1) rfl rfl) ?_
                    refine WL.yld (by decide) (Yld.pickT rfl rfl) ?_
                    refine WL.yld (by decide) (Yld.move rfl) ?_
                    refine WL.new (v' := .bool true) (congrArg Value.bool (beq_iff_eq.2 hc59)) ?_
                    refine WL.yldG (by decide) rfl (Yld.fieldAddr Try.underlying26 rfl nz_23 rfl rfl) ?_
                    refine WL.yldG (by decide) rfl (Yld.loadB (k := 149) scal_23 rfl rfl rfl) ?_
                    refine WL.yldG (by decide) rfl (Yld.fieldAddr Try.underlying26 rfl nz_23 rfl rfl) ?_
                    refine WL.yldG (by decide) rfl (Yld.loadB (k := 102) scal_23 rfl rfl rfl) ?_
                    refine WL.yldG (by decide) rfl (Yld.eql_u32 (a := x41.2.1) (b := x4.2.1) rfl rfl) ?_
                    refine WL.yld (by decide) (Yld.pickT rfl rfl) ?_
                    refine WL.yld (by decide) (Yld.move rfl) ?_
                    refine WL.new (v' := .bool true) (congrArg Value.bool (beq_iff_eq.2 hc60)) ?_
                    refine WL.yldG (by decide) rfl (Yld.fieldAddr Try.underlying26 rfl nz_4 rfl rfl) ?_
                    refine WL.yldG (by decide) rfl (Yld.loadB (k := 149) scal_4 rfl rfl rfl) ?_
                    refine WL.yldG (by decide) rfl (Yld.fieldAddr Try.underlying26 rfl nz_4 rfl rfl) ?_
                    refine WL.yldG (by decide) rfl (Yld.loadB (k := 102) scal_4 rfl rfl rfl) ?_
                    refine WL.yldG (by decide) rfl (Yld.eqlB und_4 rfl rfl) ?_
                    refine WL.yld (by decide) (Yld.pickT rfl rfl) ?_
                    refine WL.yld (by decide) (Yld.move rfl) ?_
                    refine WL.new (v' := .bool false) (congrArg Value.bool (beq_eq_false_iff_ne.2 hc61)) ?_
                    refine WL.skip (by decide) rfl rfl ?_
                    refine WL.skip (by decide) rfl rfl ?_
                    refine WL.skip (by decide) rfl rfl ?_
                    refine WL.skip (by decide) rfl rfl ?_
                    refine WL.skip (by decide) rfl rfl ?_
                    refine WL.skip (by decide) rfl rfl ?_
                    refine WL.skip (by decide) rfl rfl ?_
                    refine WL.yld (by decide) (Yld.pickF rfl rfl) ?_
                    refine WL.yld (by decide) (Yld.move rfl) ?_
                    refine WL.skip (by decide) rfl rfl ?_
                    refine WL.yld (by decide) (Yld.pickF rfl rfl) ?_
                    refine WL.yld (by decide) (Yld.assign rfl) ?_
                    refine WL.done (hK50 _ _ ?_)
                    refine WC.ret ?_
                    injection h with h; subst h
                    exact Ret.fn [] (ResIs.one rfl rfl) rfl hm_M14 rfl (by decide) rfl rfl ⟨rfl, rfl⟩
                · replace h := of_f hc60 h
                  refine WL.yld (by decide) (Yld.move rfl) ?_
                  refine WL.yld (by decide) (Yld.eqlI rfl rfl) ?_
                  refine WL.yld (by decide) (Yld.move rfl) ?_
                  refine WL.new (v' := .bool true) (congrArg Value.bool (beq_iff_eq.2 hc51)) ?_
                  refine WL.yldG (by decide) rfl (Yld.move rfl) ?_
                  refine WL.yldG (by decide) rfl (Yld.eqlI rfl rfl) ?_
                  refine WL.yld (by decide) (Yld.pickT rfl rfl) ?_
                  refine WL.yld (by decide) (Yld.move rfl) ?_
                  refine WL.new (v' := .bool true) (congrArg Value.bool (beq_iff_eq.2 hc52)) ?_
                  refine WL.yldG (by decide) rfl (Yld.move rfl) ?_
                  refine WL.yldG (by decide) rfl (Yld.move rfl) ?_
                  refine WL.yldG (by decide) rfl (Yld.lenC (xs := x20.1) und_24 rfl (RdH.own (k := 124) rfl)) ?_
                  refine WL.yldG (by decide) rfl (Yld.eqlI rfl rfl) ?_
                  refine WL.yld (by decide) (Yld.pickT rfl rfl) ?_
                  refine WL.yld (by decide) (Yld.move rfl) ?_
                  refine WL.new (v' := .bool true) (congrArg Value.bool (beq_iff_eq.2 hc53)) ?_
                  refine WL.yldG (by decide) rfl (Yld.move rfl) ?_
                  refine WL.yldG (by decide) rfl (Yld.fieldAddr Try.underlying26 rfl nz_24 rfl rfl) ?_
                  refine WL.yldG (by decide) rfl (Yld.loadB (k := 102) scal_24 rfl rfl rfl) ?_
                  refine WL.yldG (by decide) rfl (Yld.lenC (xs := x4.2.2.2) und_24 rfl (RdH.memM (k := 0) rfl hf18)) ?_
                  refine WL.effG (by decide) rfl (Eff.callS 155 rfl Try.func10 nm_10 rfl rfl (fun w hb hh => w_needle_Size (Mem.snap w) (x4.2.2.2.length : Int) hx54)) ?_
                  rintro _ _ ⟨_, ⟨rfl, rfl⟩, rfl⟩
                  refine WL.yldG (by decide) rfl (Yld.eqlI rfl rfl) ?_
                  refine WL.yld (by decide) (Yld.pickT rfl rfl) ?_
                  refine WL.yld (by decide) (Yld.move rfl) ?_
                  refine WL.new (v' := .bool true) (congrArg Value.bool (beq_iff_eq.2 hc56)) ?_
                  refine WL.yldG (by decide) rfl (Yld.move rfl) ?_
                  refine WL.yldG (by decide) rfl (Yld.remC rfl rfl hx57) ?_
                  refine WL.yldG (by decide) rfl (Yld.eqlI rfl rfl) ?_
                  refine WL.yld (by decide) (Yld.pickT rfl rfl) ?_
                  refine WL.yld (by decide) (Yld.move rfl) ?_
                  refine WL.new (v' := .bool true) (congrArg Value.bool (beq_iff_eq.2 hc58)) ?_
                  refine WL.yldG (by decide) rfl (Yld.fieldAddr Try.underlying26 rfl nz_22 rfl rfl) ?_
                  refine WL.yldG (by decide) rfl (Yld.loadB (k := 149) scal_22 rfl rfl rfl) ?_
                  refine WL.yldG (by decide) rfl (Yld.fieldAddr Try.underlying26 rfl nz_22 rfl rfl) ?_
                  refine WL.yldG (by decide) rfl (Yld.loadB (k := 102) scal_22 rfl rfl rfl) ?_
                  refine WL.yldG (by decide) rfl (Yld.eql_u64 (a := x41.1) (b := x4.1) rfl rfl) ?_
                  refine WL.yld (by decide) (Yld.pickT rfl rfl) ?_
                  refine WL.yld (by decide) (Yld.move rfl) ?_
                  refine WL.new (v' := .bool true) (congrArg Value.bool (beq_iff_eq.2 hc59)) ?_
                  refine WL.yldG (by decide) rfl (Yld.fieldAddr Try.underlying26 rfl nz_23 rfl rfl) ?_
                  refine WL.yldG (by decide) rfl (Yld.loadB (k := 149) scal_23 rfl rfl rfl) ?_
                  refine WL.yldG (by decide) rfl (Yld.fieldAddr Try.underlying26 rfl nz_23 rfl rfl) ?_
                  refine WL.yldG (by decide) rfl (Yld.loadB (k := 102) scal_23 rfl rfl rfl) ?_
                  refine WL.yldG (by decide) rfl (Yld.eql_u32 (a := x41.2.1) (b := x4.2.1) rfl rfl) ?_
                  refine WL.yld (by decide) (Yld.pickT rfl rfl) ?_
                  refine WL.yld (by decide) (Yld.move rfl) ?_
                  refine WL.new (v' := .bool false) (congrArg Value.bool (beq_eq_false_iff_ne.2 hc60)) ?_
                  refine WL.skip (by decide) rfl rfl ?_
                  refine WL.skip (by decide) rfl rfl ?_
                  refine WL.skip (by decide) rfl rfl ?_
                  refine WL.skip (by decide) rfl rfl ?_
                  refine WL.skip (by decide) rfl rfl ?_
                  refine WL.yld (by decide) (Yld.pickF rfl rfl) ?_
                  refine WL.yld (by decide) (Yld.move rfl) ?_
                  refine WL.skip (by decide) rfl rfl ?_
                  refine WL.skip (by decide) rfl rfl ?_
                  refine WL.skip (by decide) rfl rfl ?_
                  refine WL.skip (by decide) rfl rfl ?_
                  refine WL.skip (by decide) rfl rfl ?_
                  refine WL.skip (by decide) rfl rfl ?_
                  refine WL.skip (by decide) rfl rfl ?_
                  refine WL.yld (by decide) (Yld.pickF rfl rfl) ?_
                  refine WL.yld (by decide) (Yld.move rfl) ?_
                  refine WL.skip (by decide) rfl rfl ?_
                  refine WL.yld (by decide) (Yld.pickF rfl rfl) ?_
                  refine WL.yld (by decide) (Yld.assign rfl) ?_
                  refine WL.done (hK50 _ _ ?_)
                  refine WC.ret ?_
                  injection h with h; subst h
                  exact Ret.fn [] (ResIs.one rfl rfl) rfl hm_M14 rfl (by decide) rfl rfl ⟨rfl, rfl⟩
              · replace h := of_f hc59 h
                refine WL.yld (by decide) (Yld.move rfl) ?_
                refine WL.yld (by decide) (Yld.eqlI rfl rfl) ?_
                refine WL.yld (by decide) (Yld.move rfl) ?_
                refine WL.new (v' := .bool true) (congrArg Value.bool (beq_iff_eq.2 hc51)) ?_
                refine WL.yldG (by decide) rfl (Yld.move rfl) ?_
                refine WL.yldG (by decide) rfl (Yld.eqlI rfl rfl) ?_
                refine WL.yld (by decide) (Yld.pickT rfl rfl) ?_
                refine WL.yld (by decide) (Yld.move rfl) ?_
                refine WL.new (v' := .bool true) (congrArg Value.bool (beq_iff_eq.2 hc52)) ?_
                refine WL.yldG (by decide) rfl (Yld.move rfl) ?_
                refine WL.yldG (by decide) rfl (Yld.move rfl) ?_
                refine WL.yldG (by decide) rfl (Yld.lenC (xs := x20.1) und_24 rfl (RdH.own (k := 124) rfl)) ?_
                refine WL.yldG (by decide) rfl (Yld.eqlI rfl rfl) ?_
                refine WL.yld (by decide) (Yld.pickT rfl rfl) ?_
                refine WL.yld (by decide) (Yld.move rfl) ?_
                refine WL.new (v' := .bool true) (congrArg Value.bool (beq_iff_eq.2 hc53)) ?_
                refine WL.yldG (by decide) rfl (Yld.move rfl) ?_
                refine WL.yldG (by decide) rfl (Yld.fieldAddr Try.underlying26 rfl nz_24 rfl rfl) ?_
                refine WL.yldG (by decide) rfl (Yld.loadB (k := 102) scal_24 rfl rfl rfl) ?_
                refine WL.yldG (by decide) rfl (Yld.lenC (xs := x4.2.2.2) und_24 rfl (RdH.memM (k := 0) rfl hf18)) ?_
                refine WL.effG (by decide) rfl (Eff.callS 155 rfl Try.func10 nm_10 rfl rfl (fun w hb hh => w_needle_Size (Mem.snap w) (x4.2.2.2.length : Int) hx54)) ?_
                rintro _ _ ⟨_, ⟨rfl, rfl⟩, rfl⟩
                refine WL.yldG (by decide) rfl (Yld.eqlI rfl rfl) ?_
                refine WL.yld (by decide) (Yld.pickT rfl rfl) ?_
                refine WL.yld (by decide) (Yld.move rfl) ?_
                refine WL.new (v' := .bool true) (congrArg Value.bool (beq_iff_eq.2 hc56)) ?_
                refine WL.yldG (by decide) rfl (Yld.move rfl) ?_
                refine WL.yldG (by decide) rfl (Yld.remC rfl rfl hx57) ?_
                refine WL.yldG (by decide) rfl (Yld.eqlI rfl rfl) ?_
                refine WL.yld (by decide) (Yld.pickT rfl rfl) ?_
                refine WL.yld (by decide) (Yld.move rfl) ?_
                refine WL.new (v' := .bool true) (congrArg Value.bool (beq_iff_eq.2 hc58)) ?_
                refine WL.yldG (by decide) rfl (Yld.fieldAddr Try.underlying26 rfl nz_22 rfl rfl) ?_
                refine WL.yldG (by decide) rfl (Yld.loadB (k := 149) scal_22 rfl rfl rfl) ?_
                refine WL.yldG (by decide) rfl (Yld.fieldAddr Try.underlying26 rfl nz_22 rfl rfl) ?_
                refine WL.yldG (by decide) rfl (Yld.loadB (k := 102) scal_22 rfl rfl rfl) ?_
                refine WL.yldG (by decide) rfl (Yld.eql_u64 (a := x41.1) (b := x4.1) rfl rfl) ?_
                refine WL.yld (by decide) (Yld.pickT rfl rfl) ?_
                refine WL.yld (by decide) (Yld.move rfl) ?_
                refine WL.new (v' := .bool false) (congrArg Value.bool (beq_eq_false_iff_ne.2 hc59)) ?_
                refine WL.skip (by decide) rfl rfl ?_
                refine WL.skip (by decide) rfl rfl ?_
                refine WL.skip (by decide) rfl rfl ?_
                refine WL.skip (by decide) rfl rfl ?_
                refine WL.skip (by decide) rfl rfl ?_
                refine WL.yld (by decide) (Yld.pickF rfl rfl) ?_
                refine WL.yld (by decide) (Yld.move rfl) ?_
                refine WL.skip (by decide) rfl rfl ?_
                refine WL.skip (by decide) rfl rfl ?_
                refine WL.skip (by decide) rfl rfl ?_
                refine WL.skip (by decide) rfl rfl ?_
                refine WL.skip (by decide) rfl rfl ?_
                refine WL.yld (by decide) (Yld.pickF rfl rfl) ?_
                refine WL.yld (by decide) (Yld.move rfl) ?_
                refine WL.skip (by decide) rfl rfl ?_
                refine WL.skip (by decide) rfl rfl ?_
                refine WL.skip (by decide) rfl rfl ?_
                refine WL.skip (by decide) rfl rfl ?_
                refine WL.skip (by decide) rfl rfl ?_
                refine WL.skip (by decide) rfl rfl ?_
                refine WL.skip (by decide) rfl rfl ?_
                refine WL.yld (by decide) (Yld.pickF rfl rfl) ?_
                refine WL.yld (by decide) (Yld.move rfl) ?_
                refine WL.skip (by decide) rfl rfl ?_
                refine WL.yld (by decide) (Yld.pickF rfl rfl) ?_
                refine WL.yld (by decide) (Yld.assign rfl) ?_
                refine WL.done (hK50 _ _ ?_)
                refine WC.ret ?_
                injection h with h; subst h
                exact Ret.fn [] (ResIs.one rfl rfl) rfl hm_M14 rfl (by decide) rfl rfl ⟨rfl, rfl⟩
            · replace h := of_f hc58 h
              refine WL.yld (by decide) (Yld.move rfl) ?_
              refine WL.yld (by decide) (Yld.eqlI rfl rfl) ?_
              refine WL.yld (by decide) (Yld.move rfl) ?_
              refine WL.new (v' := .bool true) (congrArg Value.bool (beq_iff_eq.2 hc51)) ?_
              refine WL.yldG (by decide) rfl (Yld.move rfl) ?_
              refine WL.yldG (by decide) rfl (Yld.eqlI rfl rfl) ?_
              refine WL.yld (by decide) (Yld.pickT rfl rfl) ?_
              refine WL.yld (by decide) (Yld.move rfl) ?_
              refine WL.new (v' := .bool true) (congrArg Value.bool (beq_iff_eq.2 hc52)) ?_
              refine WL.yldG (by decide) rfl (Yld.move rfl) ?_
              refine WL.yldG (by decide) rfl (Yld.move rfl) ?_
              refine WL.yldG (by decide) rfl (Yld.lenC (xs := x20.1) und_24 rfl (RdH.own (k := 124) rfl)) ?_
              refine WL.yldG (by decide) rfl (Yld.eqlI rfl rfl) ?_
              refine WL.yld (by decide) (Yld.pickT rfl rfl) ?_
              refine WL.yld (by decide) (Yld.move rfl) ?_
              refine WL.new (v' := .bool true) (congrArg Value.bool (beq_iff_eq.2 hc53)) ?_
              refine WL.yldG (by decide) rfl (Yld.move rfl) ?_
              refine WL.yldG (by decide) rfl (Yld.fieldAddr Try.underlying26 rfl nz_24 rfl rfl) ?_
              refine WL.yldG (by decide) rfl (Yld.loadB (k := 102) scal_24 rfl rfl rfl) ?_
              refine WL.yldG (by decide) rfl (Yld.lenC (xs := x4.2.2.2) und_24 rfl (RdH.memM (k := 0) rfl hf18)) ?_
              refine WL.effG (by decide) rfl (Eff.callS 155 rfl Try.func10 nm_10 rfl rfl (fun w hb hh => w_needle_Size (Mem.snap w) (x4.2.2.2.length : Int) hx54)) ?_
              rintro _ _ ⟨_, ⟨rfl, rfl⟩, rfl⟩
              refine WL.yldG (by decide) rfl (Yld.eqlI rfl rfl) ?_
              refine WL.yld (by decide) (Yld.pickT rfl rfl) ?_
              refine WL.yld (by decide) (Yld.move rfl) ?_
              refine WL.new (v' := .bool true) (congrArg Value.bool (beq_iff_eq.2 hc56)) ?_
              refine WL.yldG (by decide) rfl (Yld.move rfl) ?_
              refine WL.yldG (by decide) rfl (Yld.remC rfl rfl hx57) ?_
              refine WL.yldG (by decide) rfl (Yld.eqlI rfl rfl) ?_
              refine WL.yld (by decide) (Yld.pickT rfl rfl) ?_
              refine WL.yld (by decide) (Yld.move rfl) ?_
              refine WL.new (v' := .bool false) (congrArg Value.bool (beq_eq_false_iff_ne.2 hc58)) ?_
              refine WL.skip (by decide) rfl rfl ?_
              refine WL.skip (by decide) rfl rfl ?_
              refine WL.skip (by decide) rfl rfl ?_
              refine WL.skip (by decide) rfl rfl ?_
              refine WL.skip (by decide) rfl rfl ?_
              refine WL.yld (by decide) (Yld.pickF rfl rfl) ?_
              refine WL.yld (by decide) (Yld.move rfl) ?_
              refine WL.skip (by decide) rfl rfl ?_
              refine WL.skip (by decide) rfl rfl ?_
              refine WL.skip (by decide) rfl rfl ?_
              refine WL.skip (by decide) rfl rfl ?_
              refine WL.skip (by decide) rfl rfl ?_
              refine WL.yld (by decide) (Yld.pickF rfl rfl) ?_
              refine WL.yld (by decide) (Yld.move rfl) ?_
              refine WL.skip (by decide) rfl rfl ?_
              refine WL.skip (by decide) rfl rfl ?_
              refine WL.skip (by decide) rfl rfl ?_
              refine WL.skip (by decide) rfl rfl ?_
              refine WL.skip (by decide) rfl rfl ?_
              refine WL.yld (by decide) (Yld.pickF rfl rfl) ?_
              refine WL.yld (by decide) (Yld.move rfl) ?_
              refine WL.skip (by decide) rfl rfl ?_
              refine WL.skip (by decide) rfl rfl ?_
              refine WL.skip (by decide) rfl rfl ?_
              refine WL.skip (by decide) rfl rfl ?_
              refine WL.skip (by decide) rfl rfl ?_
              refine WL.skip (by decide) rfl rfl ?_
              refine WL.skip (by decide) rfl rfl ?_
              refine WL.yld (by decide) (Yld.pickF rfl rfl) ?_
              refine WL.yld (by decide) (Yld.move rfl) ?_
              refine WL.skip (by decide) rfl rfl ?_
              refine WL.yld (by decide) (Yld.pickF rfl rfl) ?_
              refine WL.yld (by decide) (Yld.assign rfl) ?_
              refine WL.done (hK50 _ _ ?_)
              refine WC.ret ?_
              injection h with h; subst h
              exact Ret.fn [] (ResIs.one rfl rfl) rfl hm_M14 rfl (by decide) rfl rfl ⟨rfl, rfl⟩
          · replace h := of_f hc56 h
            refine WL.yld (by decide) (Yld.move rfl) ?_
            refine WL.yld (by decide) (Yld.eqlI rfl rfl) ?_
            refine WL.yld (by decide) (Yld.move rfl) ?_
            refine WL.new (v' := .bool true) (congrArg Value.bool (beq_iff_eq.2 hc51)) ?_
            refine WL.yldG (by decide) rfl (Yld.move rfl) ?_
            refine WL.yldG (by decide) rfl (Yld.eqlI rfl rfl) ?_
            refine WL.yld (by decide) (Yld.pickT rfl rfl) ?_
            refine WL.yld (by decide) (Yld.move rfl) ?_
            refine WL.new (v' := .bool true) (congrArg Value.bool (beq_iff_eq.2 hc52)) ?_
            refine WL.yldG (by decide) rfl (Yld.move rfl) ?_
            refine WL.yldG (by decide) rfl (Yld.move rfl) ?_
            refine WL.yldG (by decide) rfl (Yld.lenC (xs := x20.1) und_24 rfl (RdH.own (k := 124) rfl)) ?_
            refine WL.yldG (by decide) rfl (Yld.eqlI rfl rfl) ?_
            refine WL.yld (by decide) (Yld.pickT rfl rfl) ?_
            refine WL.yld (by decide) (Yld.move rfl) ?_
            refine WL.new (v' := .bool true) (congrArg Value.bool (beq_iff_eq.2 hc53)) ?_
            refine WL.yldG (by decide) rfl (Yld.move rfl) ?_
            refine WL.yldG (by decide) rfl (Yld.fieldAddr Try.underlying26 rfl nz_24 rfl rfl) ?_
            refine WL.yldG (by decide) rfl (Yld.loadB (k := 102) scal_24 rfl rfl rfl) ?_
            refine WL.yldG (by decide) rfl (Yld.lenC (xs := x4.2.2.2) und_24 rfl (RdH.memM (k := 0) rfl hf18)) ?_
            refine WL.effG (by decide) rfl (Eff.callS 155 rfl Try.func10 nm_10 rfl rfl (fun w hb hh => w_needle_Size (Mem.snap w) (x4.2.2.2.length : Int) hx54)) ?_
            rintro _ _ ⟨_, ⟨rfl, rfl⟩, rfl⟩
            refine WL.yldG (by decide) rfl (Yld.eqlI rfl rfl) ?_
            refine WL.yld (by decide) (Yld.pickT rfl rfl) ?_
            refine WL.yld (by decide) (Yld.move rfl) ?_
            refine WL.new (v' := .bool false) (congrArg Value.bool (beq_eq_false_iff_ne.2 hc56)) ?_
            refine WL.skip (by decide) rfl rfl ?_
            refine WL.skip (by decide) rfl rfl ?_
            refine WL.skip (by decide) rfl rfl ?_
            refine WL.yld (by decide) (Yld.pickF rfl rfl) ?_
            refine WL.yld (by decide) (Yld.move rfl) ?_
            refine WL.skip (by decide) rfl rfl ?_
            refine WL.skip (by decide) rfl rfl ?_
            refine WL.skip (by decide) rfl rfl ?_
            refine WL.skip (by decide) rfl rfl ?_
            refine WL.skip (by decide) rfl rfl ?_
            refine WL.yld (by decide) (Yld.pickF rfl rfl) ?_
            refine WL.yld (by decide) (Yld.move rfl) ?_
            refine WL.skip (by decide) rfl rfl ?_
            refine WL.skip (by decide) rfl rfl ?_
            refine WL.skip (by decide) rfl rfl ?_
            refine WL.skip (by decide) rfl rfl ?_
            refine WL.skip (by decide) rfl rfl ?_
            refine WL.yld (by decide) (Yld.pickF rfl rfl) ?_
            refine WL.yld (by decide) (Yld.move rfl) ?_
            refine WL.skip (by decide) rfl rfl ?_
            refine WL.skip (by decide) rfl rfl ?_
            refine WL.skip (by decide) rfl rfl ?_
            refine WL.skip (by decide) rfl rfl ?_
            refine WL.skip (by decide) rfl rfl ?_
            refine WL.yld (by decide) (Yld.pickF rfl rfl) ?_
            refine WL.yld (by decide) (Yld.move rfl) ?_
            refine WL.skip (by decide) rfl rfl ?_
            refine WL.skip (by decide) rfl rfl ?_
            refine WL.skip (by decide) rfl rfl ?_
            refine WL.skip (by decide) rfl rfl ?_
            refine WL.skip (by decide) rfl rfl ?_
            refine WL.skip (by decide) rfl rfl ?_
            refine WL.skip (by decide) rfl rfl ?_
            refine WL.yld (by decide) (Yld.pickF rfl rfl) ?_
            refine WL.yld (by decide) (Yld.move rfl) ?_
            refine WL.skip (by decide) rfl rfl ?_
            refine WL.yld (by decide) (Yld.pickF rfl rfl) ?_
            refine WL.yld (by decide) (Yld.assign rfl) ?_
            refine WL.done (hK50 _ _ ?_)
            refine WC.ret ?_
            injection h with h; subst h
            exact Ret.fn [] (ResIs.one rfl rfl) rfl hm_M14 rfl (by decide) rfl rfl ⟨rfl, rfl⟩
        · replace h := of_f hc53 h
          refine WL.yld (by decide) (Yld.move rfl) ?_
          refine WL.yld (by decide) (Yld.eqlI rfl rfl) ?_
          refine WL.yld (by decide) (Yld.move rfl) ?_
          refine WL.new (v' := .bool true) (congrArg Value.bool (beq_iff_eq.2 hc51)) ?_
          refine WL.yldG (by decide) rfl (Yld.move rfl) ?_
          refine WL.yldG (by decide) rfl (Yld.eqlI rfl rfl) ?_
          refine WL.yld (by decide) (Yld.pickT rfl rfl) ?_
          refine WL.yld (by decide) (Yld.move rfl) ?_
          refine WL.new (v' := .bool true) (congrArg Value.bool (beq_iff_eq.2 hc52)) ?_
          refine WL.yldG (by decide) rfl (Yld.move rfl) ?_
          refine WL.yldG (by decide) rfl (Yld.move rfl) ?_
          refine WL.yldG (by decide) rfl (Yld.lenC (xs := x20.1) und_24 rfl (RdH.own (k := 124) rfl)) ?_
          refine WL.yldG (by decide) rfl (Yld.eqlI rfl rfl) ?_
          refine WL.yld (by decide) (Yld.pickT rfl rfl) ?_
          refine WL.yld (by decide) (Yld.move rfl) ?_
          refine WL.new (v' := .bool false) (congrArg Value.bool (beq_eq_false_iff_ne.2 hc53)) ?_
          refine WL.skip (by decide) rfl rfl ?_
          refine WL.skip (by decide) rfl rfl ?_
          refine WL.skip (by decide) rfl rfl ?_
          refine WL.skip (by decide) rfl rfl ?_
          refine WL.skip (by decide) rfl rfl ?_
          refine WL.skip (by decide) rfl rfl ?_
          refine WL.yld (by decide) (Yld.pickF rfl rfl) ?_
          refine WL.yld (by decide) (Yld.move rfl) ?_
          refine WL.skip (by decide) rfl rfl ?_
          refine WL.skip (by decide) rfl rfl ?_
          refine WL.skip (by decide) rfl rfl ?_
          refine WL.yld (by decide) (Yld.pickF rfl rfl) ?_
          refine WL.yld (by decide) (Yld.move rfl) ?_
          refine WL.skip (by decide) rfl rfl ?_
          refine WL.skip (by decide) rfl rfl ?_
          refine WL.skip (by decide) rfl rfl ?_
          refine WL.skip (by decide) rfl rfl ?_
          refine WL.skip (by decide) rfl rfl ?_
          refine WL.yld (by decide) (Yld.pickF rfl rfl) ?_
          refine WL.yld (by decide) (Yld.move rfl) ?_
          refine WL.skip (by decide) rfl rfl ?_
          refine WL.skip (by decide) rfl rfl ?_
          refine WL.skip (by decide) rfl rfl ?_
          refine WL.skip (by decide) rfl rfl ?_
          refine WL.skip (by decide) rfl rfl ?_
          refine WL.yld (by decide) (Yld.pickF rfl rfl) ?_
          refine WL.yld (by decide) (Yld.move rfl) ?_
          refine WL.skip (by decide) rfl rfl ?_
          refine WL.skip (by decide) rfl rfl ?_
          refine WL.skip (by decide) rfl rfl ?_
          refine WL.skip (by decide) rfl rfl ?_
          refine WL.skip (by decide) rfl rfl ?_
          refine WL.yld (by decide) (Yld.pickF rfl rfl) ?_
          refine WL.yld (by decide) (Yld.move rfl) ?_
          refine WL.skip (by decide) rfl rfl ?_
          refine WL.skip (by decide) rfl rfl ?_
          refine WL.skip (by decide) rfl rfl ?_
          refine WL.skip (by decide) rfl rfl ?_
          refine WL.skip (by decide) rfl rfl ?_
          refine WL.skip (by decide) rfl rfl ?_
          refine WL.skip (by decide) rfl rfl ?_
          refine WL.yld (by decide) (Yld.pickF rfl rfl) ?_
          refine WL.yld (by decide) (Yld.move rfl) ?_
          refine WL.skip (by decide) rfl rfl ?_
          refine WL.yld (by decide) (Yld.pickF rfl rfl) ?_
          refine WL.yld (by decide) (Yld.assign rfl) ?_
          refine WL.done (hK50 _ _ ?_)
          refine WC.ret ?_
          injection h with h; subst h
          exact Ret.fn [] (ResIs.one rfl rfl) rfl hm_M14 rfl (by decide) rfl rfl ⟨rfl, rfl⟩
      · replace h := of_f hc52 h
        refine WL.yld (by decide) (Yld.move rfl) ?_
        refine WL.yld (by decide) (Yld.eqlI rfl rfl) ?_
        refine WL.yld (by decide) (Yld.move rfl) ?_
        refine WL.new (v' := .bool true) (congrArg Value.bool (beq_iff_eq.2 hc51)) ?_
        refine WL.yldG (by decide) rfl (Yld.move rfl) ?_
        refine WL.yldG (by decide) rfl (Yld.eqlI rfl rfl) ?_
        refine WL.yld (by decide) (Yld.pickT rfl rfl) ?_
        refine WL.yld (by decide) (Yld.move rfl) ?_
        refine WL.new (v' := .bool false) (congrArg Value.bool (beq_eq_false_iff_ne.2 hc52)) ?_
        refine WL.skip (by decide) rfl rfl ?_
        refine WL.skip (by decide) rfl rfl ?_
        refine WL.skip (by decide) rfl rfl ?_
        refine WL.skip (by decide) rfl rfl ?_
        refine WL.yld (by decide) (Yld.pickF rfl rfl) ?_
        refine WL.yld (by decide) (Yld.move rfl) ?_
        refine WL.skip (by decide) rfl rfl ?_
        refine WL.skip (by decide) rfl rfl ?_
        refine WL.skip (by decide) rfl rfl ?_
        refine WL.skip (by decide) rfl rfl ?_
        refine WL.skip (by decide) rfl rfl ?_
        refine WL.skip (by decide) rfl rfl ?_
        refine WL.yld (by decide) (Yld.pickF rfl rfl) ?_
        refine WL.yld (by decide) (Yld.move rfl) ?_
        refine WL.skip (by decide) rfl rfl ?_
        refine WL.skip (by decide) rfl rfl ?_
        refine WL.skip (by decide) rfl rfl ?_
        refine WL.yld (by decide) (Yld.pickF rfl rfl) ?_
        refine WL.yld (by decide) (Yld.move rfl) ?_
        refine WL.skip (by decide) rfl rfl ?_
        refine WL.skip (by decide) rfl rfl ?_
        refine WL.skip (by decide) rfl rfl ?_
        refine WL.skip (by decide) rfl rfl ?_
        refine WL.skip (by decide) rfl rfl ?_
        refine WL.yld (by decide) (Yld.pickF rfl rfl) ?_
        refine WL.yld (by decide) (Yld.move rfl) ?_
        refine WL.skip (by decide) rfl rfl ?_
        refine WL.skip (by decide) rfl rfl ?_
        refine WL.skip (by decide) rfl rfl ?_
        refine WL.skip (by decide) rfl rfl ?_
        refine WL.skip (by decide) rfl rfl ?_
        refine WL.yld (by decide) (Yld.pickF rfl rfl) ?_
        refine WL.yld (by decide) (Yld.move rfl) ?_
        refine WL.skip (by decide) rfl rfl ?_
        refine WL.skip (by decide) rfl rfl ?_
        refine WL.skip (by decide) rfl rfl ?_
        refine WL.skip (by decide) rfl rfl ?_
        refine WL.skip (by decide) rfl rfl ?_
        refine WL.yld (by decide) (Yld.pickF rfl rfl) ?_
        refine WL.yld (by decide) (Yld.move rfl) ?_
        refine WL.skip (by decide) rfl rfl ?_
        refine WL.skip (by decide) rfl rfl ?_
        refine WL.skip (by decide) rfl rfl ?_
        refine WL.skip (by decide) rfl rfl ?_
        refine WL.skip (by decide) rfl rfl ?_
        refine WL.skip (by decide) rfl rfl ?_
        refine WL.skip (by decide) rfl rfl ?_
        refine WL.yld (by decide) (Yld.pickF rfl rfl) ?_
        refine WL.yld (by decide) (Yld.move rfl) ?_
        refine WL.skip (by decide) rfl rfl ?_
        refine WL.yld (by decide) (Yld.pickF rfl rfl) ?_
        refine WL.yld (by decide) (Yld.assign rfl) ?_
        refine WL.done (hK50 _ _ ?_)
        refine WC.ret ?_
        injection h with h; subst h
        exact Ret.fn [] (ResIs.one rfl rfl) rfl hm_M14 rfl (by decide) rfl rfl ⟨rfl, rfl⟩
    · replace h := of_f hc51 h
      refine WL.yld (by decide) (Yld.move rfl) ?_
      refine WL.yld (by decide) (Yld.eqlI rfl rfl) ?_
      refine WL.yld (by decide) (Yld.move rfl) ?_
      refine WL.new (v' := .bool false) (congrArg Value.bool (beq_eq_false_iff_ne.2 hc51)) ?_
      refine WL.skip (by decide) rfl rfl ?_
      refine WL.skip (by decide) rfl rfl ?_
      refine WL.yld (by decide) (Yld.pickF rfl rfl) ?_
      refine WL.yld (by decide) (Yld.move rfl) ?_
      refine WL.skip (by decide) rfl rfl ?_
      refine WL.skip (by decide) rfl rfl ?_
      refine WL.skip (by decide) rfl rfl ?_
      refine WL.skip (by decide) rfl rfl ?_
      refine WL.yld (by decide) (Yld.pickF rfl rfl) ?_
      refine WL.yld (by decide) (Yld.move rfl) ?_
      refine WL.skip (by decide) rfl rfl ?_
      refine WL.skip (by decide) rfl rfl ?_
      refine WL.skip (by decide) rfl rfl ?_
      refine WL.skip (by decide) rfl rfl ?_
      refine WL.skip (by decide) rfl rfl ?_
      refine WL.skip (by decide) rfl rfl ?_
      refine WL.yld (by decide) (Yld.pickF rfl rfl) ?_
      refine WL.yld (by decide) (Yld.move rfl) ?_
      refine WL.skip (by decide) rfl rfl ?_
      refine WL.skip (by decide) rfl rfl ?_
      refine WL.skip (by decide) rfl rfl ?_
      refine WL.yld (by decide) (Yld.pickF rfl rfl) ?_
      refine WL.yld (by decide) (Yld.move rfl) ?_
      refine WL.skip (by decide) rfl rfl ?_
      refine WL.skip (by decide) rfl rfl ?_
      refine WL.skip (by decide) rfl rfl ?_
      refine WL.skip (by decide) rfl rfl ?_
      refine WL.skip (by decide) rfl rfl ?_
      refine WL.yld (by decide) (Yld.pickF rfl rfl) ?_
      refine WL.yld (by decide) (Yld.move rfl) ?_
      refine WL.skip (by decide) rfl rfl ?_
      refine WL.skip (by decide) rfl rfl ?_
      refine WL.skip (by decide) rfl rfl ?_
      refine WL.skip (by decide) rfl rfl ?_
      refine WL.skip (by decide) rfl rfl ?_
      refine WL.yld (by decide) (Yld.pickF rfl rfl) ?_
      refine WL.yld (by decide) (Yld.move rfl) ?_
      refine WL.skip (by decide) rfl rfl ?_
      refine WL.skip (by decide) rfl rfl ?_
      refine WL.skip (by decide) rfl rfl ?_
      refine WL.skip (by decide) rfl rfl ?_
      refine WL.skip (by decide) rfl rfl ?_
      refine WL.yld (by decide) (Yld.pickF rfl rfl) ?_
      refine WL.yld (by decide) (Yld.move rfl) ?_
      refine WL.skip (by decide) rfl rfl ?_
      refine WL.skip (by decide) rfl rfl ?_
      refine WL.skip (by decide) rfl rfl ?_
      refine WL.skip (by decide) rfl rfl ?_
      refine WL.skip (by decide) rfl rfl ?_
      refine WL.skip (by decide) rfl rfl ?_
      refine WL.skip (by decide) rfl rfl ?_
      refine WL.yld (by decide) (Yld.pickF rfl rfl) ?_
      refine WL.yld (by decide) (Yld.move rfl) ?_
      refine WL.skip (by decide) rfl rfl ?_
      refine WL.yld (by decide) (Yld.pickF rfl rfl) ?_
      refine WL.yld (by decide) (Yld.assign rfl) ?_
      refine WL.done (hK50 _ _ ?_)
      refine WC.ret ?_
      injection h with h; subst h
      exact Ret.fn [] (ResIs.one rfl rfl) rfl hm_M14 rfl (by decide) rfl rfl ⟨rfl, rfl⟩
  · replace h := of_f hc32 h
    refine WC.condTe rfl (not_t (Bool.eq_false_iff.2 hc32)) ?_
    refine WC.seqRegion fun K65 hK65 => ?_
    by_cases hc66 : x20.2 = (0 : Int)
    · replace h := of_t hc66 h
      refine WL.yld (by decide) (Yld.move rfl) ?_
      refine WL.yld (by decide) (Yld.neqI rfl rfl) ?_
      refine WL.yld (by decide) (Yld.move rfl) ?_
      refine WL.new (v' := .bool false) (congrArg Value.bool (bne_eq_false_iff_eq.2 hc66)) ?_
      refine WL.skip (by decide) rfl rfl ?_
      refine WL.skip (by decide) rfl rfl ?_
      refine WL.skip (by decide) rfl rfl ?_
      refine WL.yld (by decide) (Yld.pickF rfl rfl) ?_
      refine WL.yld (by decide) (Yld.move rfl) ?_
      refine WL.skip (by decide) rfl rfl ?_
      refine WL.yld (by decide) (Yld.pickF rfl rfl) ?_
      refine WL.yld (by decide) (Yld.assign rfl) ?_
      refine WL.done (hK65 _ _ ?_)
      refine WC.ret (QK.thenR ?_)
      injection h with h; subst h
      exact Ret.fn [] (ResIs.one rfl rfl) rfl hm_M14 rfl (by decide) rfl rfl ⟨rfl, rfl⟩
    · replace h := of_f hc66 h
      by_cases hc67 : (x20.1.length : Int) = (0 : Int)
      · replace h := of_t hc67 h
        obtain ⟨x68, hx68, h⟩ := bnd h
        refine WL.yld (by decide) (Yld.move rfl) ?_
        refine WL.yld (by decide) (Yld.neqI rfl rfl) ?_
        refine WL.yld (by decide) (Yld.move rfl) ?_
        refine WL.new (v' := .bool true) (congrArg Value.bool (bne_iff_ne.2 hc66)) ?_
        refine WL.yldG (by decide) rfl (Yld.move rfl) ?_
        refine WL.yldG (by decide) rfl (Yld.lenC (xs := x20.1) und_24 rfl (RdH.own (k := 124) rfl)) ?_
        refine WL.yldG (by decide) rfl (Yld.eqlI rfl rfl) ?_
        refine WL.yld (by decide) (Yld.pickT rfl rfl) ?_
        refine WL.yld (by decide) (Yld.move rfl) ?_
        refine WL.new (v' := .bool true) (congrArg Value.bool (beq_iff_eq.2 hc67)) ?_
        refine WL.effG (by decide) rfl (Eff.callS 169 rfl Try.func14 nm_14 rfl rfl (fun w hb hh => w_law06_awake (Mem.snap w) hx68)) ?_
        rintro _ _ ⟨_, ⟨rfl, rfl⟩, rfl⟩
        refine WL.yld (by decide) (Yld.pickT rfl rfl) ?_
        refine WL.yld (by decide) (Yld.assign rfl) ?_
        refine WL.done (hK65 _ _ ?_)
        refine WC.ret (QK.thenR ?_)
        injection h with h; subst h
        exact Ret.fn [] (ResIs.one rfl rfl) rfl hm_M14 rfl (by decide) rfl rfl ⟨rfl, rfl⟩
      · replace h := of_f hc67 h
        refine WL.yld (by decide) (Yld.move rfl) ?_
        refine WL.yld (by decide) (Yld.neqI rfl rfl) ?_
        refine WL.yld (by decide) (Yld.move rfl) ?_
        refine WL.new (v' := .bool true) (congrArg Value.bool (bne_iff_ne.2 hc66)) ?_
        refine WL.yldG (by decide) rfl (Yld.move rfl) ?_
        refine WL.yldG (by decide) rfl (Yld.lenC (xs := x20.1) und_24 rfl (RdH.own (k := 124) rfl)) ?_
        refine WL.yldG (by decide) rfl (Yld.eqlI rfl rfl) ?_
        refine WL.yld (by decide) (Yld.pickT rfl rfl) ?_
        refine WL.yld (by decide) (Yld.move rfl) ?_
        refine WL.new (v' := .bool false) (congrArg Value.bool (beq_eq_false_iff_ne.2 hc67)) ?_
        refine WL.skip (by decide) rfl rfl ?_
        refine WL.yld (by decide) (Yld.pickF rfl rfl) ?_
        refine WL.yld (by decide) (Yld.assign rfl) ?_
        refine WL.done (hK65 _ _ ?_)
        refine WC.ret (QK.thenR ?_)
        injection h with h; subst h
        exact Ret.fn [] (ResIs.one rfl rfl) rfl hm_M14 rfl (by decide) rfl rfl ⟨rfl, rfl⟩

set_option maxRecDepth 10000 in
theorem w_law06_NeedleUnique (M0 : Mem) (A00 : Option Addr) (n00 c00 : Nat) (x00 : List (BitVec 8)) (hf00 : SlT M0 A00 n00 c00 x00) (x01_0 : BitVec 64) (x01_1 : BitVec 32) (x01_2 : Bool) (A01_3 : Option Addr) (n01_3 c01_3 : Nat) (x01_3 : List (BitVec 8)) (hf01_3 : SlT M0 A01_3 n01_3 c01_3 x01_3) (x02 : Int) (x03 : BitVec 8) {res : Bool} (h : m_law06_NeedleUnique x00 x01_0 x01_1 x01_2 x01_3 x02 x03 = some res) :
    Fn Try.prog 7 #[.slice A00 n00 c00, .agg ([U64 x01_0, U32 x01_1, .bool x01_2, .slice A01_3 n01_3 c01_3] : List Value).toArray, I64 x02, U8 x03] M0 fun r M' es => r = .bool res ∧ es = [] := by
  refine Fn.intro (N := 92) Try.func7 rfl rfl (Nat.le_of_ble_eq_true rfl) fun w0 => ?_
  unfold m_law06_NeedleUnique at h
  refine WC.seqRegion fun K1 hK1 => ?_
  refine WL.eff (by decide) (Eff.box 102 (us := [U64 x01_0, U32 x01_1, .bool x01_2, .slice A01_3 n01_3 c01_3]) rfl rfl rfl) ?_
  rintro _ _ ⟨g2, rfl, rfl⟩
  refine WL.yld (by decide) (Yld.assign rfl) ?_
  refine WL.done (hK1 _ _ ?_)
  refine WC.seqCut (σ := (Option Addr) × Nat × Nat × (List (BitVec 8)) × (BitVec 8)) (fun ⟨A3, n4, c5, x6, x8⟩ => [(0, .slice A3 n4 c5), (2, I64 x02), (3, U8 x8), (5, .pointer (some ⟨g2, 0, none⟩))]) (fun ⟨A3, n4, c5, x6, x8⟩ => [(0, .mem M0), (102, .blk g2 26 [U64 x01_0, U32 x01_1, .bool x01_2, .slice A01_3 n01_3 c01_3])]) (fun ⟨A3, n4, c5, x6, x8⟩ => m_law06_NeedleUnique_j0 x01_0 x01_1 x01_2 x01_3 x02 x6 x8 = some res ∧ SlT M0 A3 n4 c5 x6) (fun K9 hK9 => ?_) ?_
  · skip
    refine WC.seqRegion fun K10 hK10 => ?_
    refine WL.yld (by decide) (Yld.move rfl) ?_
    refine WL.yld (by decide) (Yld.lenC (xs := x00) und_24 rfl (RdH.memM (k := 0) rfl hf00)) ?_
    refine WL.yld (by decide) (Yld.gtr rfl rfl) ?_
    refine WL.done (hK10 _ _ ?_)
    by_cases hc11 : (6000 : Int) < (x00.length : Int)
    · replace h := of_t hc11 h
      refine WC.condTe rfl (decide_eq_true hc11) ?_
      refine WC.region fun K12 hK12 => ?_
      obtain ⟨x13, hx13, h⟩ := bnd h
      refine WL.yld (by decide) (Yld.move rfl) ?_
      refine WL.yld (by decide) (Yld.sliceHC (xs := x00) sty_24 rfl rfl (RdH.memM (k := 0) rfl hf00) hx13) ?_
      refine WL.yld (by decide) (Yld.assign rfl) ?_
      refine WL.done (hK12 _ _ ?_)
      refine QK.thenN ?_
      refine hK9 ⟨A00, x13.length, c00, x13, x03⟩ _ _ ?_ (Sub.cons rfl (Sub.cons rfl (Sub.cons rfl (Sub.cons rfl (Sub.nil _))))) (Sub.cons rfl (Sub.cons rfl (Sub.nil _)))
      exact ⟨h, (SlT.slc0 hf00 hx13)⟩
    · replace h := of_f hc11 h
      refine WC.condFe rfl (decide_eq_false hc11) ?_
      refine WC.skip ?_
      refine QK.thenN ?_
      refine hK9 ⟨A00, n00, c00, x00, x03⟩ _ _ ?_ (Sub.cons rfl (Sub.cons rfl (Sub.cons rfl (Sub.cons rfl (Sub.nil _))))) (Sub.cons rfl (Sub.cons rfl (Sub.nil _)))
      exact ⟨h, hf00⟩
  · rintro ⟨A3, n4, c5, x6, x8⟩ ⟨h, hf7⟩
    unfold m_law06_NeedleUnique_j0 at h
    refine WC.seqRegion fun K14 hK14 => ?_
    obtain ⟨x15, hx15, h⟩ := bnd h
    obtain ⟨x30, hx30, h⟩ := bnd h
    refine WL.yld (by decide) (Yld.loadBM (k := 102) agg_26 rfl rfl rfl) ?_
    refine WL.eff (by decide) (Eff.callM 120 rfl Try.func15 nm_15 rfl rfl rfl (w_law06_cut _ x01_0 x01_1 x01_2 A01_3 n01_3 c01_3 _ hf01_3 hx15)) ?_
    rintro _ _ ⟨M25, _, ⟨A26, n27, c28, rfl, rfl, hf29⟩, hm_M25, rfl⟩
    refine WL.eff (by decide) (Eff.callS 134 rfl Try.func16 nm_16 rfl rfl (fun w hb hh => w_needle_Encode (Mem.snap w) x15.1 x15.2.1 x15.2.2.1 A26 n27 c28 _ (RdH.sn (RdH.memM (k := 0) rfl hf29) w hb hh) hx30)) ?_
    rintro _ _ ⟨_, ⟨A35, n36, c37, rfl, rfl⟩, rfl⟩
    refine WL.yld (by decide) (Yld.move rfl) ?_
    refine WL.yld (by decide) (Yld.extract rfl rfl) ?_
    refine WL.yld (by decide) (Yld.extract rfl rfl) ?_
    refine WL.yld (by decide) (Yld.assign rfl) ?_
    refine WL.yld (by decide) (Yld.assign rfl) ?_
    refine WL.done (hK14 _ _ ?_)
    refine WC.seqCut (σ := (Option Addr) × Nat × Nat × (List (BitVec 8))) (fun ⟨A40, n41, c42, x43⟩ => [(0, .slice A3 n4 c5), (9, .slice A40 n41 c42)]) (fun ⟨A40, n41, c42, x43⟩ => [(0, .mem M25), (139, .own 5 (Lay.sz (BitVec 8)) A40 n41 c42 (cel x43))]) (fun ⟨A40, n41, c42, x43⟩ => m_law06_NeedleUnique_j1 x6 x43 = some res) (fun K44 hK44 => ?_) ?_
    · skip
      refine WC.seqRegion fun K45 hK45 => ?_
      by_cases hc46 : x30.2 = (0 : Int)
      · replace h := of_t hc46 h
        refine WL.yld (by decide) (Yld.move rfl) ?_
        refine WL.yld (by decide) (Yld.eqlI rfl rfl) ?_
        refine WL.yld (by decide) (Yld.move rfl) ?_
        refine WL.new (v' := .bool true) (congrArg Value.bool (beq_iff_eq.2 hc46)) ?_
        refine WL.yldG (by decide) rfl (Yld.move rfl) ?_
        refine WL.yldG (by decide) rfl (Yld.lenC (xs := x30.1) und_24 rfl (RdH.own (k := 134) rfl)) ?_
        refine WL.yldG (by decide) rfl (Yld.gtr rfl rfl) ?_
        refine WL.yld (by decide) (Yld.pickT rfl rfl) ?_
        refine WL.done (hK45 _ _ ?_)
        by_cases hc47 : (0 : Int) < (x30.1.length : Int)
        · replace h := of_t hc47 h
          refine WC.condTe rfl (decide_eq_true hc47) ?_
          refine WC.seqRegion fun K48 hK48 => ?_
          obtain ⟨x50, hx50, h⟩ := bnd h
          refine WL.eff (by decide) (Eff.buildC 149 ([] : List (BitVec 8)) sty_24 rfl rfl rfl rfl rfl (by decide)) ?_
          rintro _ _ ⟨g49, rfl, rfl⟩
          refine WL.yld (by decide) (Yld.move rfl) ?_
          refine WL.eff (by decide) (Eff.appendC 149 (xs := ([] : List (BitVec 8))) (ys := x30.1) sty_24 rfl rfl rfl (RdH.own (k := 134) rfl) hx50) ?_
          rintro _ _ ⟨A51, c52, rfl, rfl⟩
          refine WL.yld (by decide) (Yld.assign rfl) ?_
          refine WL.done (hK48 _ _ ?_)
          refine WC.region fun K53 hK53 => ?_
          obtain ⟨x54, hx54, h⟩ := bnd h
          obtain ⟨x55, hx55, h⟩ := bnd h
          obtain ⟨x56, hx56, h⟩ := bnd h
          obtain ⟨x57, hx57, h⟩ := bnd h
          obtain ⟨x58, hx58, h⟩ := bnd h
          refine WL.yld (by decide) (Yld.move rfl) ?_
          refine WL.yld (by decide) (Yld.move rfl) ?_
          refine WL.yld (by decide) (Yld.move rfl) ?_
          refine WL.yld (by decide) (Yld.lenC (xs := x50) und_24 rfl (RdH.own (k := 149) rfl)) ?_
          refine WL.yld (by decide) (Yld.remC rfl rfl hx54) ?_
          refine WL.yld (by decide) (Yld.move rfl) ?_
          refine WL.yld (by decide) (Yld.lenC (xs := x50) und_24 rfl (RdH.own (k := 149) rfl)) ?_
          refine WL.yld (by decide) (Yld.addC rfl rfl hx55) ?_
          refine WL.yld (by decide) (Yld.move rfl) ?_
          refine WL.yld (by decide) (Yld.lenC (xs := x50) und_24 rfl (RdH.own (k := 149) rfl)) ?_
          refine WL.yld (by decide) (Yld.remC rfl rfl hx56) ?_
          refine WL.yld (by decide) (Yld.move rfl) ?_
          refine WL.yld (by decide) (Yld.idxC (xs := x50) sty_24 rfl rfl (RdH.own (k := 149) rfl) hx57) ?_
          refine WL.eff0 (Eff0.storeC1 149 (xs := x50) (a' := x8) siz_5 rfl rfl rfl rfl rfl rfl hx58) ?_
          refine WL.done (hK53 _ _ ?_)
          refine QK.thenN ?_
          refine KK.move 149 139 rfl rfl ?_
          refine hK44 ⟨A51, x50.length, c52, x58⟩ _ _ ?_ (Sub.cons rfl (Sub.cons rfl (Sub.nil _))) (Sub.cons rfl (Sub.cons rfl (Sub.nil _)))
          exact h
        · replace h := of_f hc47 h
          refine WC.condFe rfl (decide_eq_false hc47) ?_
          refine WC.skip ?_
          refine QK.thenN ?_
          refine KK.move 134 139 rfl rfl ?_
          refine hK44 ⟨A35, n36, c37, x30.1⟩ _ _ ?_ (Sub.cons rfl (Sub.cons rfl (Sub.nil _))) (Sub.cons rfl (Sub.cons rfl (Sub.nil _)))
          exact h
      · replace h := of_f hc46 h
        refine WL.yld (by decide) (Yld.move rfl) ?_
        refine WL.yld (by decide) (Yld.eqlI rfl rfl) ?_
        refine WL.yld (by decide) (Yld.move rfl) ?_
        refine WL.new (v' := .bool false) (congrArg Value.bool (beq_eq_false_iff_ne.2 hc46)) ?_
        refine WL.skip (by decide) rfl rfl ?_
        refine WL.skip (by decide) rfl rfl ?_
        refine WL.skip (by decide) rfl rfl ?_
        refine WL.yld (by decide) (Yld.pickF rfl rfl) ?_
        refine WL.done (hK45 _ _ ?_)
        refine WC.condF rfl ?_
        refine WC.skip ?_
        refine QK.thenN ?_
        refine KK.move 134 139 rfl rfl ?_
        refine hK44 ⟨A35, n36, c37, x30.1⟩ _ _ ?_ (Sub.cons rfl (Sub.cons rfl (Sub.nil _))) (Sub.cons rfl (Sub.cons rfl (Sub.nil _)))
        exact h
    · rintro ⟨A40, n41, c42, x43⟩ h
      unfold m_law06_NeedleUnique_j1 at h
      refine WC.seqCut (σ := Mem) (fun M59 => []) (fun M59 => [(0, .mem M59)]) (fun M59 => m_law06_NeedleUnique_j2 = some res ∧ Ext w0.heap.size M25 M59) (fun K60 hK60 => ?_) ?_
      · skip
        refine WC.seqRegion fun K61 hK61 => ?_
        refine WL.yld (by decide) (Yld.move rfl) ?_
        refine WL.yld (by decide) (Yld.move rfl) ?_
        refine WL.freeze 139 rfl rfl rfl fun M63 hm_M63 hf64 => ?_
        have hq65 : Rels ((RelB (α := BitVec 8)) M63) ([(⟨A3, n4, c5⟩ : Hdr), (⟨A40, n41, c42⟩ : Hdr)] : List Hdr) ([x6, x43] : List (List (BitVec 8))) := (Rels.cons (SlRc.lift (SlRc.lift hf7 hm_M25) hm_M63) (Rels.cons hf64 Rels.nil))
        refine WL.eff (by decide) (Eff.buildC 162 ([(⟨A3, n4, c5⟩ : Hdr), (⟨A40, n41, c42⟩ : Hdr)] : List Hdr) sty_36 rfl rfl rfl rfl rfl (by decide)) ?_
        rintro _ _ ⟨g62, rfl, rfl⟩
        refine WL.yld (by decide) (Yld.lenD (rs := ([(⟨A3, n4, c5⟩ : Hdr), (⟨A40, n41, c42⟩ : Hdr)] : List Hdr)) (xs := ([x6, x43] : List (List (BitVec 8)))) (Rels.len hq65) und_36 rfl (RdH.own (k := 162) rfl)) ?_
        refine WL.yld (by decide) (Yld.move rfl) ?_
        refine WL.done (hK61 _ _ ?_)
        refine WC.block ?_
        refine WC.loop (σ := Nat × Int) (fun ⟨q67, x66⟩ => [(54, .slice (some ⟨g62, 0, none⟩) (([(⟨A3, n4, c5⟩ : Hdr), (⟨A40, n41, c42⟩ : Hdr)] : List Hdr).length) (([(⟨A3, n4, c5⟩ : Hdr), (⟨A40, n41, c42⟩ : Hdr)] : List Hdr).length)), (55, I64 (([x6, x43] : List (List (BitVec 8))).length : Int)), (56, I64 x66)]) (fun ⟨q67, x66⟩ => [(0, .mem M63), (162, .own 24 (Lay.sz Hdr) (some ⟨g62, 0, none⟩) (([(⟨A3, n4, c5⟩ : Hdr), (⟨A40, n41, c42⟩ : Hdr)] : List Hdr).length) (([(⟨A3, n4, c5⟩ : Hdr), (⟨A40, n41, c42⟩ : Hdr)] : List Hdr).length) (cel ([(⟨A3, n4, c5⟩ : Hdr), (⟨A40, n41, c42⟩ : Hdr)] : List Hdr)))]) (fun ⟨q67, x66⟩ => m_law06_NeedleUnique_l3 x6 x43 q67 x66 = some res) (fun ⟨q67, x66⟩ => q67) ⟨forever, (0 : Int)⟩ ?_ (Sub.cons rfl (Sub.cons rfl (Sub.cons rfl (Sub.nil _)))) (Sub.cons rfl (Sub.cons rfl (Sub.nil _))) ?_
        · exact h
        rintro ⟨q67, x66⟩ h K68 hK68
        cases q67 with
        | zero => exact absurd h (by simp [m_law06_NeedleUnique_l3])
        | succ q67 =>
          unfold m_law06_NeedleUnique_l3 at h
          refine WC.seqRegion fun K69 hK69 => ?_
          refine WL.yld (by decide) (Yld.lss rfl rfl) ?_
          refine WL.done (hK69 _ _ ?_)
          refine WC.seq fun K70 hK70 => ?_
          by_cases hc71 : x66 < (([x6, x43] : List (List (BitVec 8))).length : Int)
          · replace h := of_t hc71 h
            refine WC.condTe rfl (decide_eq_true hc71) ?_
            refine WC.skip ?_
            refine QK.thenN (hK70 _ _ ?_)
            refine WC.seq fun K72 hK72 => ?_
            refine WC.block ?_
            refine WC.seqRegion fun K73 hK73 => ?_
            obtain ⟨x74, hx74, h⟩ := bnd h
            obtain ⟨r_75, hr76, hq77⟩ := Rels.idx hq65 hx74
            refine WL.yld (by decide) (Yld.idxC (xs := ([(⟨A3, n4, c5⟩ : Hdr), (⟨A40, n41, c42⟩ : Hdr)] : List Hdr)) sty_36 rfl rfl (RdH.own (k := 162) rfl) hr76) ?_
            refine WL.yld (by decide) (Yld.loadC0 (xs := ([(⟨A3, n4, c5⟩ : Hdr), (⟨A40, n41, c42⟩ : Hdr)] : List Hdr)) scal_24 rfl (RdH.own (k := 162) rfl) hr76 rfl) ?_
            refine WL.yld (by decide) (Yld.assign rfl) ?_
            refine WL.done (hK73 _ _ ?_)
            refine WC.seqRegion fun K78 hK78 => ?_
            obtain ⟨x79, hx79, h⟩ := bnd h
            refine WL.yld (by decide) (Yld.move rfl) ?_
            refine WL.eff (by decide) (Eff.callS 183 rfl Try.func18 nm_18 rfl rfl (fun w hb hh => w_needle_Decode (Mem.snap w) r_75.A r_75.n r_75.c _ (RdH.sn (RdH.memM (k := 0) rfl hq77) w hb hh) hx79)) ?_
            rintro _ _ ⟨_, ⟨A84, n85, c86, rfl, rfl⟩, rfl⟩
            refine WL.yld (by decide) (Yld.move rfl) ?_
            refine WL.yld (by decide) (Yld.extract rfl rfl) ?_
            refine WL.yld (by decide) (Yld.extract rfl rfl) ?_
            refine WL.yld (by decide) (Yld.extract rfl rfl) ?_
            refine WL.eff (by decide) (Eff.alloc 187 rfl zr_26) ?_
            rintro _ _ ⟨g87, rfl, rfl⟩
            refine WL.eff0 (Eff0.storeBAM 187 agg_26 rfl rfl rfl ⟨rfl, rfl⟩ rfl) ?_
            refine WL.yld (by decide) (Yld.assign rfl) ?_
            refine WL.yld (by decide) (Yld.assign rfl) ?_
            refine WL.done (hK78 _ _ ?_)
            refine WC.seq fun K88 hK88 => ?_
            refine WC.seqRegion fun K89 hK89 => ?_
            refine WL.yld (by decide) (Yld.move rfl) ?_
            refine WL.yld (by decide) (Yld.neqI rfl rfl) ?_
            refine WL.done (hK89 _ _ ?_)
            by_cases hc90 : x79.2.2.2.2.2 = (0 : Int)
            · replace h := of_t hc90 h
              refine WC.condFe rfl (bne_eq_false_iff_eq.2 hc90) ?_
              refine WC.skip ?_
              refine QK.thenN (hK88 _ _ ?_)
              refine WC.seqRegion fun K91 hK91 => ?_
              obtain ⟨x92, hx92, h⟩ := bnd h
              refine WL.yld (by decide) (Yld.loadBM (k := 187) agg_26 rfl rfl rfl) ?_
              refine WL.eff (by decide) (Eff.callS 196 rfl Try.func16 nm_16 rfl rfl (fun w hb hh => w_needle_Encode (Mem.snap w) x79.1 x79.2.1 x79.2.2.1 A84 n85 c86 _ (RdH.sn (RdH.own (k := 183) rfl) w hb hh) hx92)) ?_
              rintro _ _ ⟨_, ⟨A97, n98, c99, rfl, rfl⟩, rfl⟩
              refine WL.yld (by decide) (Yld.move rfl) ?_
              refine WL.yld (by decide) (Yld.extract rfl rfl) ?_
              refine WL.yld (by decide) (Yld.extract rfl rfl) ?_
              refine WL.yld (by decide) (Yld.assign rfl) ?_
              refine WL.yld (by decide) (Yld.assign rfl) ?_
              refine WL.done (hK91 _ _ ?_)
              refine WC.seqRegionD (n := 17) [(0, _), (162, _), (183, _), (187, _), (196, _)] rfl mixed (Sub.cons rfl (Sub.cons rfl (Sub.cons rfl (Sub.cons rfl (Sub.cons rfl (Sub.nil _)))))) fun K100 hK100 => ?_
              by_cases hc101 : x92.2 = (0 : Int)
              · replace h := of_t hc101 h
                by_cases hc102 : (x74.length : Int) < x79.2.2.2.2.1
                · replace h := of_t hc102 h
                  refine WD.take 0 rfl (by kernel_rfl) (by kernel_rfl) (by kernel_rfl) (by decide) (Yld.move rfl) ?_
                  refine WD.take 1 rfl (by kernel_rfl) (by kernel_rfl) (by kernel_rfl) (by decide) (Yld.neqI rfl rfl) ?_
                  refine WD.take 2 rfl (by kernel_rfl) (by kernel_rfl) (by kernel_rfl) (by decide) (Yld.move rfl) ?_
                  refine WD.new (v' := .bool false) (congrArg Value.bool (bne_eq_false_iff_eq.2 hc101)) ?_
                  refine WD.takeG 3 rfl (by kernel_rfl) (by kernel_rfl) (by kernel_rfl) (by decide) rfl (Yld.move rfl) ?_
                  refine WD.takeG 4 rfl (by kernel_rfl) (by kernel_rfl) (by kernel_rfl) (by decide) rfl (Yld.move rfl) ?_
                  refine WD.takeG 5 rfl (by kernel_rfl) (by kernel_rfl) (by kernel_rfl) (by decide) rfl (Yld.lenC (xs := x74) und_24 rfl (RdH.memM (k := 0) rfl hq77)) ?_
                  refine WD.takeG 6 rfl (by kernel_rfl) (by kernel_rfl) (by kernel_rfl) (by decide) rfl (Yld.gtr rfl rfl) ?_
                  refine WD.take 7 rfl (by kernel_rfl) (by kernel_rfl) (by kernel_rfl) (by decide) (Yld.pickF rfl rfl) ?_
                  refine WD.take 8 rfl (by kernel_rfl) (by kernel_rfl) (by kernel_rfl) (by decide) (Yld.move rfl) ?_
                  refine WD.new (v' := .bool true) (congrArg Value.bool (decide_eq_true hc102)) ?_
                  refine WD.takeS 9 rfl (by kernel_rfl) (by kernel_rfl) (by kernel_rfl) (by decide) rfl rfl ?_
                  refine WD.takeS 10 rfl (by kernel_rfl) (by kernel_rfl) (by kernel_rfl) (by decide) rfl rfl ?_
                  refine WD.takeS 11 rfl (by kernel_rfl) (by kernel_rfl) (by kernel_rfl) (by decide) rfl rfl ?_
                  refine WD.takeS 12 rfl (by kernel_rfl) (by kernel_rfl) (by kernel_rfl) (by decide) rfl rfl ?_
                  refine WD.takeS 13 rfl (by kernel_rfl) (by kernel_rfl) (by kernel_rfl) (by decide) rfl rfl ?_
                  refine WD.takeS 14 rfl (by kernel_rfl) (by kernel_rfl) (by kernel_rfl) (by decide) rfl rfl ?_
                  refine WD.takeS 15 rfl (by kernel_rfl) (by kernel_rfl) (by kernel_rfl) (by decide) rfl rfl ?_
                  refine WD.take 16 rfl (by kernel_rfl) (by kernel_rfl) (by kernel_rfl) (by decide) (Yld.pickT rfl rfl) ?_
                  refine WD.done (by kernel_rfl) (hK100 _ _ ?_)
                  refine WC.condT rfl ?_
                  refine WC.seqRegion fun K103 hK103 => ?_
                  refine WL.yld (by decide) (Yld.assign rfl) ?_
                  refine WL.done (hK103 _ _ ?_)
                  refine WC.ret (QK.blockR (QK.thenR (QK.thenR (QK.blockR (QK.thenR ?_)))))
                  injection h with h; subst h
                  exact Ret.fn [] (ResIs.one rfl rfl) rfl (Ext.trans hm_M25 hm_M63) rfl (by decide) rfl rfl ⟨rfl, rfl⟩
                · replace h := of_f hc102 h
                  obtain ⟨x104, hx104, h⟩ := bnd h
                  refine WD.take 0 rfl (by kernel_rfl) (by kernel_rfl) (by kernel_rfl) (by decide) (Yld.move rfl) ?_
                  refine WD.take 1 rfl (by kernel_rfl) (by kernel_rfl) (by kernel_rfl) (by decide) (Yld.neqI rfl rfl) ?_
                  refine WD.take 2 rfl (by kernel_rfl) (by kernel_rfl) (by kernel_rfl) (by decide) (Yld.move rfl) ?_
                  refine WD.new (v' := .bool false) (congrArg Value.bool (bne_eq_false_iff_eq.2 hc101)) ?_
                  refine WD.takeG 3 rfl (by kernel_rfl) (by kernel_rfl) (by kernel_rfl) (by decide) rfl (Yld.move rfl) ?_
                  refine WD.takeG 4 rfl (by kernel_rfl) (by kernel_rfl) (by kernel_rfl) (by decide) rfl (Yld.move rfl) ?_
                  refine WD.takeG 5 rfl (by kernel_rfl) (by kernel_rfl) (by kernel_rfl) (by decide) rfl (Yld.lenC (xs := x74) und_24 rfl (RdH.memM (k := 0) rfl hq77)) ?_
                  refine WD.takeG 6 rfl (by kernel_rfl) (by kernel_rfl) (by kernel_rfl) (by decide) rfl (Yld.gtr rfl rfl) ?_
                  refine WD.take 7 rfl (by kernel_rfl) (by kernel_rfl) (by kernel_rfl) (by decide) (Yld.pickF rfl rfl) ?_
                  refine WD.take 8 rfl (by kernel_rfl) (by kernel_rfl) (by kernel_rfl) (by decide) (Yld.move rfl) ?_
                  refine WD.new (v' := .bool false) (congrArg Value.bool (decide_eq_false hc102)) ?_
                  refine WD.takeG 9 rfl (by kernel_rfl) (by kernel_rfl) (by kernel_rfl) (by decide) rfl (Yld.move rfl) ?_
                  refine WD.takeG 10 rfl (by kernel_rfl) (by kernel_rfl) (by kernel_rfl) (by decide) rfl (Yld.b2sC (xs := x92.1) und_24 und_5 und_9 rfl (RdH.own (k := 196) rfl)) ?_
                  refine WD.takeG 11 rfl (by kernel_rfl) (by kernel_rfl) (by kernel_rfl) (by decide) rfl (Yld.move rfl) ?_
                  refine WD.takeG 12 rfl (by kernel_rfl) (by kernel_rfl) (by kernel_rfl) (by decide) rfl (Yld.move rfl) ?_
                  refine WD.takeG 13 rfl (by kernel_rfl) (by kernel_rfl) (by kernel_rfl) (by decide) rfl (Yld.sliceHC (xs := x74) sty_24 rfl rfl (RdH.memM (k := 0) rfl hq77) hx104) ?_
                  refine WD.takeG 14 rfl (by kernel_rfl) (by kernel_rfl) (by kernel_rfl) (by decide) rfl (Yld.b2sC (xs := x104) und_24 und_5 und_9 rfl (RdT.slc0 (RdH.memM (k := 0) rfl hq77) hx104)) ?_
                  refine WD.takeG 15 rfl (by kernel_rfl) (by kernel_rfl) (by kernel_rfl) (by decide) rfl (Yld.neqStr (a := x92.1) (b := x104) rfl rfl) ?_
                  refine WD.take 16 rfl (by kernel_rfl) (by kernel_rfl) (by kernel_rfl) (by decide) (Yld.pickF rfl rfl) ?_
                  refine WD.done (by kernel_rfl) (hK100 _ _ ?_)
                  by_cases hc105 : x92.1 = x104
                  · replace h := of_t hc105 h
                    refine WC.condFe rfl (neq_of_eq hc105) ?_
                    refine WC.skip ?_
                    refine QK.blockN ?_
                    refine QK.thenN (hK72 _ _ ?_)
                    refine WC.region fun K106 hK106 => ?_
                    obtain ⟨x107, hx107, h⟩ := bnd h
                    refine WL.yld (by decide) (Yld.addC rfl rfl hx107) ?_
                    refine WL.yld (by decide) (Yld.move rfl) ?_
                    refine WL.done (hK106 _ _ ?_)
                    refine QK.thenN ?_
                    refine hK68 ⟨q67, x107⟩ _ _ ?_ (Nat.lt_succ_self _) (Sub.cons rfl (Sub.cons rfl (Sub.cons rfl (Sub.nil _)))) (Sub.cons rfl (Sub.cons rfl (Sub.nil _)))
                    exact h
                  · replace h := of_f hc105 h
                    refine WC.condTe rfl (neq_of_ne hc105) ?_
                    refine WC.seqRegion fun K108 hK108 => ?_
                    refine WL.yld (by decide) (Yld.assign rfl) ?_
                    refine WL.done (hK108 _ _ ?_)
                    refine WC.ret (QK.blockR (QK.thenR (QK.thenR (QK.blockR (QK.thenR ?_)))))
                    injection h with h; subst h
                    exact Ret.fn [] (ResIs.one rfl rfl) rfl (Ext.trans hm_M25 hm_M63) rfl (by decide) rfl rfl ⟨rfl, rfl⟩
              · replace h := of_f hc101 h
                refine WD.take 0 rfl (by kernel_rfl) (by kernel_rfl) (by kernel_rfl) (by decide) (Yld.move rfl) ?_
                refine WD.take 1 rfl (by kernel_rfl) (by kernel_rfl) (by kernel_rfl) (by decide) (Yld.neqI rfl rfl) ?_
                refine WD.take 2 rfl (by kernel_rfl) (by kernel_rfl) (by kernel_rfl) (by decide) (Yld.move rfl) ?_
                refine WD.new (v' := .bool true) (congrArg Value.bool (bne_iff_ne.2 hc101)) ?_
                refine WD.takeS 3 rfl (by kernel_rfl) (by kernel_rfl) (by kernel_rfl) (by decide) rfl rfl ?_
                refine WD.takeS 4 rfl (by kernel_rfl) (by kernel_rfl) (by kernel_rfl) (by decide) rfl rfl ?_
                refine WD.takeS 5 rfl (by kernel_rfl) (by kernel_rfl) (by kernel_rfl) (by decide) rfl rfl ?_
                refine WD.takeS 6 rfl (by kernel_rfl) (by kernel_rfl) (by kernel_rfl) (by decide) rfl rfl ?_
                refine WD.take 7 rfl (by kernel_rfl) (by kernel_rfl) (by kernel_rfl) (by decide) (Yld.pickT rfl rfl) ?_
                refine WD.take 8 rfl (by kernel_rfl) (by kernel_rfl) (by kernel_rfl) (by decide) (Yld.move rfl) ?_
                refine WD.takeS 9 rfl (by kernel_rfl) (by kernel_rfl) (by kernel_rfl) (by decide) rfl rfl ?_
                refine WD.takeS 10 rfl (by kernel_rfl) (by kernel_rfl) (by kernel_rfl) (by decide) rfl rfl ?_
                refine WD.takeS 11 rfl (by kernel_rfl) (by kernel_rfl) (by kernel_rfl) (by decide) rfl rfl ?_
                refine WD.takeS 12 rfl (by kernel_rfl) (by kernel_rfl) (by kernel_rfl) (by decide) rfl rfl ?_
                refine WD.takeS 13 rfl (by kernel_rfl) (by kernel_rfl) (by kernel_rfl) (by decide) rfl rfl ?_
                refine WD.takeS 14 rfl (by kernel_rfl) (by kernel_rfl) (by kernel_rfl) (by decide) rfl rfl ?_
                refine WD.takeS 15 rfl (by kernel_rfl) (by kernel_rfl) (by kernel_rfl) (by decide) rfl rfl ?_
                refine WD.take 16 rfl (by kernel_rfl) (by kernel_rfl) (by kernel_rfl) (by decide) (Yld.pickT rfl rfl) ?_
                refine WD.done (by kernel_rfl) (hK100 _ _ ?_)
                refine WC.condT rfl ?_
                refine WC.seqRegion fun K109 hK109 => ?_
                refine WL.yld (by decide) (Yld.assign rfl) ?_
                refine WL.done (hK109 _ _ ?_)
                refine WC.ret (QK.blockR (QK.thenR (QK.thenR (QK.blockR (QK.thenR ?_)))))
                injection h with h; subst h
                exact Ret.fn [] (ResIs.one rfl rfl) rfl (Ext.trans hm_M25 hm_M63) rfl (by decide) rfl rfl ⟨rfl, rfl⟩
            · replace h := of_f hc90 h
              refine WC.condTe rfl (bne_iff_ne.2 hc90) ?_
              refine WC.exit (QK.thenE (QK.blockX ?_))
              refine QK.thenN (hK72 _ _ ?_)
              refine WC.region fun K110 hK110 => ?_
              obtain ⟨x111, hx111, h⟩ := bnd h
              refine WL.yld (by decide) (Yld.addC rfl rfl hx111) ?_
              refine WL.yld (by decide) (Yld.move rfl) ?_
              refine WL.done (hK110 _ _ ?_)
              refine QK.thenN ?_
              refine hK68 ⟨q67, x111⟩ _ _ ?_ (Nat.lt_succ_self _) (Sub.cons rfl (Sub.cons rfl (Sub.cons rfl (Sub.nil _)))) (Sub.cons rfl (Sub.cons rfl (Sub.nil _)))
              exact h
          · replace h := of_f hc71 h
            refine WC.condFe rfl (decide_eq_false hc71) ?_
            refine WC.exit (QK.thenE (QK.thenE (QK.blockX ?_)))
            refine QK.thenN ?_
            refine hK60 M63 _ _ ?_ (Sub.nil _) (Sub.cons rfl (Sub.nil _))
            exact ⟨h, hm_M63⟩
      · rintro M59 ⟨h, hm_M59⟩
        unfold m_law06_NeedleUnique_j2 at h
        refine WC.seqRegion fun K112 hK112 => ?_
        obtain ⟨x113, hx113, h⟩ := bnd h
        refine WL.eff (by decide) (Eff.callS 214 rfl Try.func14 nm_14 rfl rfl (fun w hb hh => w_law06_awake (Mem.snap w) hx113)) ?_
        rintro _ _ ⟨_, ⟨rfl, rfl⟩, rfl⟩
        refine WL.yld (by decide) (Yld.assign rfl) ?_
        refine WL.done (hK112 _ _ ?_)
        refine WC.ret ?_
        injection h with h; subst h
        exact Ret.fn [] (ResIs.one rfl rfl) rfl (Ext.trans hm_M25 hm_M59) rfl (by decide) rfl rfl ⟨rfl, rfl⟩

set_option maxRecDepth 10000 in
theorem w_law06_NeedleBursts (M0 : Mem) (x00_0 : BitVec 64) (x00_1 : BitVec 32) (x00_2 : Bool) (A00_3 : Option Addr) (n00_3 c00_3 : Nat) (x00_3 : List (BitVec 8)) (hf00_3 : SlT M0 A00_3 n00_3 c00_3 x00_3) (x01 : Int) (x02 : BitVec 32) {res : Bool} (h : m_law06_NeedleBursts x00_0 x00_1 x00_2 x00_3 x01 x02 = some res) :
    Fn Try.prog 8 #[.agg ([U64 x00_0, U32 x00_1, .bool x00_2, .slice A00_3 n00_3 c00_3] : List Value).toArray, I64 x01, U32 x02] M0 fun r M' es => r = .bool res ∧ es = [] := by
  refine Fn.intro (N := 105) Try.func8 rfl rfl (Nat.le_of_ble_eq_true rfl) fun w0 => ?_
  unfold m_law06_NeedleBursts at h
  refine WC.seqRegion fun K1 hK1 => ?_
  refine WL.eff (by decide) (Eff.box 102 (us := [U64 x00_0, U32 x00_1, .bool x00_2, .slice A00_3 n00_3 c00_3]) rfl rfl rfl) ?_
  rintro _ _ ⟨g2, rfl, rfl⟩
  refine WL.yld (by decide) (Yld.assign rfl) ?_
  refine WL.done (hK1 _ _ ?_)
  refine WC.seqRegion fun K3 hK3 => ?_
  obtain ⟨x4, hx4, h⟩ := bnd h
  obtain ⟨x19, hx19, h⟩ := bnd h
  refine WL.yld (by decide) (Yld.loadBM (k := 102) agg_26 rfl rfl rfl) ?_
  refine WL.eff (by decide) (Eff.callM 109 rfl Try.func15 nm_15 rfl rfl rfl (w_law06_cut _ x00_0 x00_1 x00_2 A00_3 n00_3 c00_3 _ hf00_3 hx4)) ?_
  rintro _ _ ⟨M14, _, ⟨A15, n16, c17, rfl, rfl, hf18⟩, hm_M14, rfl⟩
  refine WL.eff (by decide) (Eff.callS 123 rfl Try.func16 nm_16 rfl rfl (fun w hb hh => w_needle_Encode (Mem.snap w) x4.1 x4.2.1 x4.2.2.1 A15 n16 c17 _ (RdH.sn (RdH.memM (k := 0) rfl hf18) w hb hh) hx19)) ?_
  rintro _ _ ⟨_, ⟨A24, n25, c26, rfl, rfl⟩, rfl⟩
  refine WL.yld (by decide) (Yld.move rfl) ?_
  refine WL.yld (by decide) (Yld.extract rfl rfl) ?_
  refine WL.yld (by decide) (Yld.extract rfl rfl) ?_
  refine WL.yld (by decide) (Yld.assign rfl) ?_
  refine WL.yld (by decide) (Yld.assign rfl) ?_
  refine WL.done (hK3 _ _ ?_)
  refine WC.seqCut (σ := Unit) (fun _ => [(1, I64 x01), (2, U32 x02), (7, .slice A24 n25 c26)]) (fun _ => [(0, .mem M14), (123, .own 5 (Lay.sz (BitVec 8)) A24 n25 c26 (cel x19.1))]) (fun _ => m_law06_NeedleBursts_j0 x01 x02 x19 = some res) (fun K27 hK27 => ?_) ?_
  · skip
    refine WC.seqRegion fun K28 hK28 => ?_
    by_cases hc29 : x19.2 = (0 : Int)
    · replace h := of_t hc29 h
      refine WL.yld (by decide) (Yld.move rfl) ?_
      refine WL.yld (by decide) (Yld.neqI rfl rfl) ?_
      refine WL.yld (by decide) (Yld.move rfl) ?_
      refine WL.new (v' := .bool false) (congrArg Value.bool (bne_eq_false_iff_eq.2 hc29)) ?_
      refine WL.yldG (by decide) rfl (Yld.move rfl) ?_
      refine WL.yldG (by decide) rfl (Yld.lenC (xs := x19.1) und_24 rfl (RdH.own (k := 123) rfl)) ?_
      refine WL.yldG (by decide) rfl (Yld.lss rfl rfl) ?_
      refine WL.yld (by decide) (Yld.pickF rfl rfl) ?_
      refine WL.done (hK28 _ _ ?_)
      by_cases hc30 : (x19.1.length : Int) < (24 : Int)
      · replace h := of_t hc30 h
        refine WC.condTe rfl (decide_eq_true hc30) ?_
        refine WC.seqRegion fun K31 hK31 => ?_
        by_cases hc32 : x19.2 = (0 : Int)
        · replace h := of_t hc32 h
          refine WL.yld (by decide) (Yld.move rfl) ?_
          refine WL.yld (by decide) (Yld.neqI rfl rfl) ?_
          refine WL.yld (by decide) (Yld.move rfl) ?_
          refine WL.new (v' := .bool false) (congrArg Value.bool (bne_eq_false_iff_eq.2 hc32)) ?_
          refine WL.skip (by decide) rfl rfl ?_
          refine WL.yld (by decide) (Yld.pickF rfl rfl) ?_
          refine WL.yld (by decide) (Yld.assign rfl) ?_
          refine WL.done (hK31 _ _ ?_)
          refine WC.ret (QK.thenR ?_)
          injection h with h; subst h
          exact Ret.fn [] (ResIs.one rfl rfl) rfl hm_M14 rfl (by decide) rfl rfl ⟨rfl, rfl⟩
        · replace h := of_f hc32 h
          obtain ⟨x33, hx33, h⟩ := bnd h
          refine WL.yld (by decide) (Yld.move rfl) ?_
          refine WL.yld (by decide) (Yld.neqI rfl rfl) ?_
          refine WL.yld (by decide) (Yld.move rfl) ?_
          refine WL.new (v' := .bool true) (congrArg Value.bool (bne_iff_ne.2 hc32)) ?_
          refine WL.effG (by decide) rfl (Eff.callS 134 rfl Try.func14 nm_14 rfl rfl (fun w hb hh => w_law06_awake (Mem.snap w) hx33)) ?_
          rintro _ _ ⟨_, ⟨rfl, rfl⟩, rfl⟩
          refine WL.yld (by decide) (Yld.pickT rfl rfl) ?_
          refine WL.yld (by decide) (Yld.assign rfl) ?_
          refine WL.done (hK31 _ _ ?_)
          refine WC.ret (QK.thenR ?_)
          injection h with h; subst h
          exact Ret.fn [] (ResIs.one rfl rfl) rfl hm_M14 rfl (by decide) rfl rfl ⟨rfl, rfl⟩
      · replace h := of_f hc30 h
        refine WC.condFe rfl (decide_eq_false hc30) ?_
        refine WC.skip ?_
        refine QK.thenN ?_
        refine hK27 () _ _ ?_ (Sub.cons rfl (Sub.cons rfl (Sub.cons rfl (Sub.nil _)))) (Sub.cons rfl (Sub.cons rfl (Sub.nil _)))
        exact h
    · replace h := of_f hc29 h
      refine WL.yld (by decide) (Yld.move rfl) ?_
      refine WL.yld (by decide) (Yld.neqI rfl rfl) ?_
      refine WL.yld (by decide) (Yld.move rfl) ?_
      refine WL.new (v' := .bool true) (congrArg Value.bool (bne_iff_ne.2 hc29)) ?_
      refine WL.skip (by decide) rfl rfl ?_
      refine WL.skip (by decide) rfl rfl ?_
      refine WL.skip (by decide) rfl rfl ?_
      refine WL.yld (by decide) (Yld.pickT rfl rfl) ?_
      refine WL.done (hK28 _ _ ?_)
      refine WC.condT rfl ?_
      refine WC.seqRegion fun K35 hK35 => ?_
      by_cases hc36 : x19.2 = (0 : Int)
      · replace h := of_t hc36 h
        refine WL.yld (by decide) (Yld.move rfl) ?_
        refine WL.yld (by decide) (Yld.neqI rfl rfl) ?_
        refine WL.yld (by decide) (Yld.move rfl) ?_
        refine WL.new (v' := .bool false) (congrArg Value.bool (bne_eq_false_iff_eq.2 hc36)) ?_
        refine WL.skip (by decide) rfl rfl ?_
        refine WL.yld (by decide) (Yld.pickF rfl rfl) ?_
        refine WL.yld (by decide) (Yld.assign rfl) ?_
        refine WL.done (hK35 _ _ ?_)
        refine WC.ret (QK.thenR ?_)
        injection h with h; subst h
        exact Ret.fn [] (ResIs.one rfl rfl) rfl hm_M14 rfl (by decide) rfl rfl ⟨rfl, rfl⟩
      · replace h := of_f hc36 h
        obtain ⟨x37, hx37, h⟩ := bnd h
        refine WL.yld (by decide) (Yld.move rfl) ?_
        refine WL.yld (by decide) (Yld.neqI rfl rfl) ?_
        refine WL.yld (by decide) (Yld.move rfl) ?_
        refine WL.new (v' := .bool true) (congrArg Value.bool (bne_iff_ne.2 hc36)) ?_
        refine WL.effG (by decide) rfl (Eff.callS 138 rfl Try.func14 nm_14 rfl rfl (fun w hb hh => w_law06_awake (Mem.snap w) hx37)) ?_
        rintro _ _ ⟨_, ⟨rfl, rfl⟩, rfl⟩
        refine WL.yld (by decide) (Yld.pickT rfl rfl) ?_
        refine WL.yld (by decide) (Yld.assign rfl) ?_
        refine WL.done (hK35 _ _ ?_)
        refine WC.ret (QK.thenR ?_)
        injection h with h; subst h
        exact Ret.fn [] (ResIs.one rfl rfl) rfl hm_M14 rfl (by decide) rfl rfl ⟨rfl, rfl⟩
  · rintro _ h
    unfold m_law06_NeedleBursts_j0 at h
    refine WC.seqRegion fun K39 hK39 => ?_
    obtain ⟨x40, hx40, h⟩ := bnd h
    refine WL.yld (by decide) (Yld.move rfl) ?_
    refine WL.yld (by decide) (Yld.lenC (xs := x19.1) und_24 rfl (RdH.own (k := 123) rfl)) ?_
    refine WL.yld (by decide) (Yld.mulC rfl rfl hx40) ?_
    refine WL.yld (by decide) (Yld.assign rfl) ?_
    refine WL.done (hK39 _ _ ?_)
    refine WC.seqRegion fun K41 hK41 => ?_
    obtain ⟨x42, hx42, h⟩ := bnd h
    obtain ⟨x43, hx43, h⟩ := bnd h
    obtain ⟨x44, hx44, h⟩ := bnd h
    refine WL.yld (by decide) (Yld.move rfl) ?_
    refine WL.yld (by decide) (Yld.move rfl) ?_
    refine WL.yld (by decide) (Yld.remC rfl rfl hx42) ?_
    refine WL.yld (by decide) (Yld.move rfl) ?_
    refine WL.yld (by decide) (Yld.addC rfl rfl hx43) ?_
    refine WL.yld (by decide) (Yld.move rfl) ?_
    refine WL.yld (by decide) (Yld.remC rfl rfl hx44) ?_
    refine WL.yld (by decide) (Yld.assign rfl) ?_
    refine WL.done (hK41 _ _ ?_)
    refine WC.seqRegion fun K45 hK45 => ?_
    obtain ⟨x47, hx47, h⟩ := bnd h
    refine WL.eff (by decide) (Eff.buildC 146 ([] : List (BitVec 8)) sty_24 rfl rfl rfl rfl rfl (by decide)) ?_
    rintro _ _ ⟨g46, rfl, rfl⟩
    refine WL.yld (by decide) (Yld.move rfl) ?_
    refine WL.eff (by decide) (Eff.appendC 146 (xs := ([] : List (BitVec 8))) (ys := x19.1) sty_24 rfl rfl rfl (RdH.own (k := 123) rfl) hx47) ?_
    rintro _ _ ⟨A48, c49, rfl, rfl⟩
    refine WL.yld (by decide) (Yld.assign rfl) ?_
    refine WL.done (hK45 _ _ ?_)
    refine WC.seqCut (σ := (List (BitVec 8))) (fun x50 => [(7, .slice A24 n25 c26), (11, .slice A48 x47.length c49)]) (fun x50 => [(0, .mem M14), (123, .own 5 (Lay.sz (BitVec 8)) A24 n25 c26 (cel x19.1)), (146, .own 5 (Lay.sz (BitVec 8)) A48 x47.length c49 (cel x50))]) (fun x50 => m_law06_NeedleBursts_j1 x19 x50 = some res) (fun K51 hK51 => ?_) ?_
    · skip
      refine WC.seqRegion fun K52 hK52 => ?_
      refine WL.yld (by decide) (Yld.assign rfl) ?_
      refine WL.done (hK52 _ _ ?_)
      refine WC.block ?_
      refine WC.loop (σ := Nat × (List (BitVec 8)) × Int) (fun ⟨q55, x53, x54⟩ => [(2, U32 x02), (7, .slice A24 n25 c26), (9, I64 x40), (10, I64 x44), (11, .slice A48 x47.length c49), (12, I64 x54)]) (fun ⟨q55, x53, x54⟩ => [(0, .mem M14), (123, .own 5 (Lay.sz (BitVec 8)) A24 n25 c26 (cel x19.1)), (146, .own 5 (Lay.sz (BitVec 8)) A48 x47.length c49 (cel x53))]) (fun ⟨q55, x53, x54⟩ => m_law06_NeedleBursts_l2 x02 x19 x40 x44 q55 x53 x54 = some res) (fun ⟨q55, x53, x54⟩ => q55) ⟨forever, x47, (0 : Int)⟩ ?_ (Sub.cons rfl (Sub.cons rfl (Sub.cons rfl (Sub.cons rfl (Sub.cons rfl (Sub.cons rfl (Sub.nil _))))))) (Sub.cons rfl (Sub.cons rfl (Sub.cons rfl (Sub.nil _)))) ?_
      · exact h
      rintro ⟨q55, x53, x54⟩ h K56 hK56
      cases q55 with
      | zero => exact absurd h (by simp [m_law06_NeedleBursts_l2])
      | succ q55 =>
        unfold m_law06_NeedleBursts_l2 at h
        refine WC.seqCut (σ := Unit) (fun _ => [(2, U32 x02), (7, .slice A24 n25 c26), (9, I64 x40), (10, I64 x44), (11, .slice A48 x47.length c49), (12, I64 x54)]) (fun _ => [(0, .mem M14), (123, .own 5 (Lay.sz (BitVec 8)) A24 n25 c26 (cel x19.1)), (146, .own 5 (Lay.sz (BitVec 8)) A48 x47.length c49 (cel x53))]) (fun _ => m_law06_NeedleBursts_j3 x02 x44 x53 x54 (m_law06_NeedleBursts_l2 x02 x19 x40 x44 q55) = some res) (fun K57 hK57 => ?_) ?_
        · skip
          refine WC.seqRegion fun K58 hK58 => ?_
          by_cases hc59 : x54 < (32 : Int)
          · replace h := of_t hc59 h
            obtain ⟨x60, hx60, h⟩ := bnd h
            refine WL.yld (by decide) (Yld.move rfl) ?_
            refine WL.yld (by decide) (Yld.lss rfl rfl) ?_
            refine WL.yld (by decide) (Yld.move rfl) ?_
            refine WL.new (v' := .bool true) (congrArg Value.bool (decide_eq_true hc59)) ?_
            refine WL.yldG (by decide) rfl (Yld.move rfl) ?_
            refine WL.yldG (by decide) rfl (Yld.move rfl) ?_
            refine WL.yldG (by decide) rfl (Yld.addC rfl rfl hx60) ?_
            refine WL.yldG (by decide) rfl (Yld.move rfl) ?_
            refine WL.yldG (by decide) rfl (Yld.lss rfl rfl) ?_
            refine WL.yld (by decide) (Yld.pickT rfl rfl) ?_
            refine WL.done (hK58 _ _ ?_)
            by_cases hc61 : x60 < x40
            · replace h := of_t hc61 h
              refine WC.condTe rfl (decide_eq_true hc61) ?_
              refine WC.skip ?_
              refine QK.thenN ?_
              refine hK57 () _ _ ?_ (Sub.cons rfl (Sub.cons rfl (Sub.cons rfl (Sub.cons rfl (Sub.cons rfl (Sub.cons rfl (Sub.nil _))))))) (Sub.cons rfl (Sub.cons rfl (Sub.cons rfl (Sub.nil _))))
              exact h
            · replace h := of_f hc61 h
              refine WC.condFe rfl (decide_eq_false hc61) ?_
              refine WC.exit (QK.thenE (QK.thenE (QK.blockX ?_)))
              refine QK.thenN ?_
              refine hK51 x53 _ _ ?_ (Sub.cons rfl (Sub.cons rfl (Sub.nil _))) (Sub.cons rfl (Sub.cons rfl (Sub.cons rfl (Sub.nil _))))
              exact h
          · replace h := of_f hc59 h
            refine WL.yld (by decide) (Yld.move rfl) ?_
            refine WL.yld (by decide) (Yld.lss rfl rfl) ?_
            refine WL.yld (by decide) (Yld.move rfl) ?_
            refine WL.new (v' := .bool false) (congrArg Value.bool (decide_eq_false hc59)) ?_
            refine WL.skip (by decide) rfl rfl ?_
            refine WL.skip (by decide) rfl rfl ?_
            refine WL.skip (by decide) rfl rfl ?_
            refine WL.skip (by decide) rfl rfl ?_
            refine WL.skip (by decide) rfl rfl ?_
            refine WL.yld (by decide) (Yld.pickF rfl rfl) ?_
            refine WL.done (hK58 _ _ ?_)
            refine WC.condF rfl ?_
            refine WC.exit (QK.thenE (QK.thenE (QK.blockX ?_)))
            refine QK.thenN ?_
            refine hK51 x53 _ _ ?_ (Sub.cons rfl (Sub.cons rfl (Sub.nil _))) (Sub.cons rfl (Sub.cons rfl (Sub.cons rfl (Sub.nil _))))
            exact h
        · rintro _ h
          unfold m_law06_NeedleBursts_j3 at h
          refine WC.seq fun K62 hK62 => ?_
          refine WC.block ?_
          refine WC.region fun K63 hK63 => ?_
          obtain ⟨x64, hx64, h⟩ := bnd h
          obtain ⟨x65, hx65, h⟩ := bnd h
          obtain ⟨x66, hx66, h⟩ := bnd h
          obtain ⟨x67, hx67, h⟩ := bnd h
          obtain ⟨x68, hx68, h⟩ := bnd h
          obtain ⟨x69, hx69, h⟩ := bnd h
          obtain ⟨x70, hx70, h⟩ := bnd h
          refine WL.yld (by decide) (Yld.move rfl) ?_
          refine WL.yld (by decide) (Yld.move rfl) ?_
          refine WL.yld (by decide) (Yld.move rfl) ?_
          refine WL.yld (by decide) (Yld.addC rfl rfl hx64) ?_
          refine WL.yld (by decide) (Yld.quoC rfl rfl hx65) ?_
          refine WL.yld (by decide) (Yld.idxC (xs := x53) sty_24 rfl rfl (RdH.own (k := 146) rfl) hx66) ?_
          refine WL.yld (by decide) (Yld.loadC0 (xs := x53) scal_5 rfl (RdH.own (k := 146) rfl) hx66 rfl) ?_
          refine WL.yld (by decide) (Yld.move rfl) ?_
          refine WL.yld (by decide) (Yld.move rfl) ?_
          refine WL.yld (by decide) (Yld.conv_i64_u64 some_3 und_43 rfl) ?_
          refine WL.yld (by decide) (Yld.shrU_u32 (a := x02) (m := (BitVec.ofInt 64 x54).toNat) rfl rfl) ?_
          refine WL.yld (by decide) (Yld.and_u32 (a := (x02 >>> (BitVec.ofInt 64 x54).toNat)) (b := 1#32) rfl rfl) ?_
          refine WL.yld (by decide) (Yld.move rfl) ?_
          refine WL.yld (by decide) (Yld.move rfl) ?_
          refine WL.yld (by decide) (Yld.addC rfl rfl hx67) ?_
          refine WL.yld (by decide) (Yld.remC rfl rfl hx68) ?_
          refine WL.yld (by decide) (Yld.conv_i64_u64 some_3 und_43 rfl) ?_
          refine WL.yld (by decide) (Yld.shlU_u32 (a := ((x02 >>> (BitVec.ofInt 64 x54).toNat) &&& 1#32)) (m := (BitVec.ofInt 64 x68).toNat) rfl rfl) ?_
          refine WL.yld (by decide) (Yld.conv_u32_u8 (a := (((x02 >>> (BitVec.ofInt 64 x54).toNat) &&& 1#32) <<< (BitVec.ofInt 64 x68).toNat)) some_23 und_5 rfl) ?_
          refine WL.yld (by decide) (Yld.xor_u8 (a := x66) (b := ((((x02 >>> (BitVec.ofInt 64 x54).toNat) &&& 1#32) <<< (BitVec.ofInt 64 x68).toNat).setWidth 8)) rfl rfl) ?_
          refine WL.yld (by decide) (Yld.idxC (xs := x53) sty_24 rfl rfl (RdH.own (k := 146) rfl) hx69) ?_
          refine WL.eff0 (Eff0.storeC1 146 (xs := x53) (a' := x66 ^^^ ((((x02 >>> (BitVec.ofInt 64 x54).toNat) &&& 1#32) <<< (BitVec.ofInt 64 x68).toNat).setWidth 8)) siz_5 rfl rfl rfl rfl rfl rfl hx70) ?_
          refine WL.done (hK63 _ _ ?_)
          refine QK.blockN ?_
          refine QK.thenN (hK62 _ _ ?_)
          refine WC.region fun K71 hK71 => ?_
          obtain ⟨x72, hx72, h⟩ := bnd h
          refine WL.yld (by decide) (Yld.move rfl) ?_
          refine WL.yld (by decide) (Yld.addC rfl rfl hx72) ?_
          refine WL.yld (by decide) (Yld.assign rfl) ?_
          refine WL.done (hK71 _ _ ?_)
          refine QK.thenN ?_
          refine hK56 ⟨q55, x70, x72⟩ _ _ ?_ (Nat.lt_succ_self _) (Sub.cons rfl (Sub.cons rfl (Sub.cons rfl (Sub.cons rfl (Sub.cons rfl (Sub.cons rfl (Sub.nil _))))))) (Sub.cons rfl (Sub.cons rfl (Sub.cons rfl (Sub.nil _))))
          exact h
    · rintro x50 h
      unfold m_law06_NeedleBursts_j1 at h
      refine WC.seq fun K73 hK73 => ?_
      refine WC.seqRegionD (n := 14) [(0, _), (123, _), (146, _)] rfl mixed (Sub.cons rfl (Sub.cons rfl (Sub.cons rfl (Sub.nil _)))) fun K74 hK74 => ?_
      by_cases hc75 : x19.1 = x50
      · replace h := of_t hc75 h
        refine WD.take 0 rfl (by kernel_rfl) (by kernel_rfl) (by kernel_rfl) (by decide) (Yld.move rfl) ?_
        refine WD.take 1 rfl (by kernel_rfl) (by kernel_rfl) (by kernel_rfl) (by decide) (Yld.b2sC (xs := x19.1) und_24 und_5 und_9 rfl (RdH.own (k := 123) rfl)) ?_
        refine WD.take 2 rfl (by kernel_rfl) (by kernel_rfl) (by kernel_rfl) (by decide) (Yld.move rfl) ?_
        refine WD.take 3 rfl (by kernel_rfl) (by kernel_rfl) (by kernel_rfl) (by decide) (Yld.b2sC (xs := x50) und_24 und_5 und_9 rfl (RdH.own (k := 146) rfl)) ?_
        refine WD.take 4 rfl (by kernel_rfl) (by kernel_rfl) (by kernel_rfl) (by decide) (Yld.eqlStr (a := x19.1) (b := x50) rfl rfl) ?_
        refine WD.take 5 rfl (by kernel_rfl) (by kernel_rfl) (by kernel_rfl) (by decide) (Yld.move rfl) ?_
        refine WD.new (v' := .bool true) (congrArg Value.bool (beq_iff_eq.2 hc75)) ?_
        refine WD.takeS 6 rfl (by kernel_rfl) (by kernel_rfl) (by kernel_rfl) (by decide) rfl rfl ?_
        refine WD.takeS 7 rfl (by kernel_rfl) (by kernel_rfl) (by kernel_rfl) (by decide) rfl rfl ?_
        refine WD.takeS 8 rfl (by kernel_rfl) (by kernel_rfl) (by kernel_rfl) (by decide) rfl rfl ?_
        refine WD.takeS 9 rfl (by kernel_rfl) (by kernel_rfl) (by kernel_rfl) (by decide) rfl rfl ?_
        refine WD.takeS 10 rfl (by kernel_rfl) (by kernel_rfl) (by kernel_rfl) (by decide) rfl rfl ?_
        refine WD.takeS 11 rfl (by kernel_rfl) (by kernel_rfl) (by kernel_rfl) (by decide) rfl rfl ?_
        refine WD.takeS 12 rfl (by kernel_rfl) (by kernel_rfl) (by kernel_rfl) (by decide) rfl rfl ?_
        refine WD.take 13 rfl (by kernel_rfl) (by kernel_rfl) (by kernel_rfl) (by decide) (Yld.pickT rfl rfl) ?_
        refine WD.done (by kernel_rfl) (hK74 _ _ ?_)
        refine WC.condT rfl ?_
        refine WC.seqRegion fun K76 hK76 => ?_
        obtain ⟨x77, hx77, h⟩ := bnd h
        refine WL.eff (by decide) (Eff.callS 178 rfl Try.func14 nm_14 rfl rfl (fun w hb hh => w_law06_awake (Mem.snap w) hx77)) ?_
        rintro _ _ ⟨_, ⟨rfl, rfl⟩, rfl⟩
        refine WL.yld (by decide) (Yld.assign rfl) ?_
        refine WL.done (hK76 _ _ ?_)
        refine WC.ret (QK.thenR ?_)
        injection h with h; subst h
        exact Ret.fn [] (ResIs.one rfl rfl) rfl hm_M14 rfl (by decide) rfl rfl ⟨rfl, rfl⟩
      · replace h := of_f hc75 h
        obtain ⟨x79, hx79, h⟩ := bnd h
        obtain ⟨x80, hx80, h⟩ := bnd h
        refine WD.take 0 rfl (by kernel_rfl) (by kernel_rfl) (by kernel_rfl) (by decide) (Yld.move rfl) ?_
        refine WD.take 1 rfl (by kernel_rfl) (by kernel_rfl) (by kernel_rfl) (by decide) (Yld.b2sC (xs := x19.1) und_24 und_5 und_9 rfl (RdH.own (k := 123) rfl)) ?_
        refine WD.take 2 rfl (by kernel_rfl) (by kernel_rfl) (by kernel_rfl) (by decide) (Yld.move rfl) ?_
        refine WD.take 3 rfl (by kernel_rfl) (by kernel_rfl) (by kernel_rfl) (by decide) (Yld.b2sC (xs := x50) und_24 und_5 und_9 rfl (RdH.own (k := 146) rfl)) ?_
        refine WD.take 4 rfl (by kernel_rfl) (by kernel_rfl) (by kernel_rfl) (by decide) (Yld.eqlStr (a := x19.1) (b := x50) rfl rfl) ?_
        refine WD.take 5 rfl (by kernel_rfl) (by kernel_rfl) (by kernel_rfl) (by decide) (Yld.move rfl) ?_
        refine WD.new (v' := .bool false) (congrArg Value.bool (beq_eq_false_iff_ne.2 hc75)) ?_
        refine WD.takeG 6 rfl (by kernel_rfl) (by kernel_rfl) (by kernel_rfl) (by decide) rfl (Yld.move rfl) ?_
        refine WD.takeG 7 rfl (by kernel_rfl) (by kernel_rfl) (by kernel_rfl) (by decide) rfl (Yld.sliceLHC (xs := x19.1) sty_24 rfl rfl rfl (RdH.own (k := 123) rfl) hx79) ?_
        refine WD.takeG 8 rfl (by kernel_rfl) (by kernel_rfl) (by kernel_rfl) (by decide) rfl (Yld.b2sC (xs := x79) und_24 und_5 und_9 rfl (RdT.slc (RdH.own (k := 123) rfl) hx79)) ?_
        refine WD.takeG 9 rfl (by kernel_rfl) (by kernel_rfl) (by kernel_rfl) (by decide) rfl (Yld.move rfl) ?_
        refine WD.takeG 10 rfl (by kernel_rfl) (by kernel_rfl) (by kernel_rfl) (by decide) rfl (Yld.sliceLHC (xs := x50) sty_24 rfl rfl rfl (RdH.own (k := 146) rfl) hx80) ?_
        refine WD.takeG 11 rfl (by kernel_rfl) (by kernel_rfl) (by kernel_rfl) (by decide) rfl (Yld.b2sC (xs := x80) und_24 und_5 und_9 rfl (RdT.slc (RdH.own (k := 146) rfl) hx80)) ?_
        refine WD.takeG 12 rfl (by kernel_rfl) (by kernel_rfl) (by kernel_rfl) (by decide) rfl (Yld.neqStr (a := x79) (b := x80) rfl rfl) ?_
        refine WD.take 13 rfl (by kernel_rfl) (by kernel_rfl) (by kernel_rfl) (by decide) (Yld.pickF rfl rfl) ?_
        refine WD.done (by kernel_rfl) (hK74 _ _ ?_)
        by_cases hc81 : x79 = x80
        · replace h := of_t hc81 h
          refine WC.condFe rfl (neq_of_eq hc81) ?_
          refine WC.skip ?_
          refine QK.thenN (hK73 _ _ ?_)
          refine WC.seqRegion fun K82 hK82 => ?_
          obtain ⟨x83, hx83, h⟩ := bnd h
          refine WL.yld (by decide) (Yld.move rfl) ?_
          refine WL.eff (by decide) (Eff.callS 187 rfl Try.func18 nm_18 rfl rfl (fun w hb hh => w_needle_Decode (Mem.snap w) A48 x47.length c49 _ (RdH.sn (RdH.own (k := 146) rfl) w hb hh) hx83)) ?_
          rintro _ _ ⟨_, ⟨A88, n89, c90, rfl, rfl⟩, rfl⟩
          refine WL.yld (by decide) (Yld.move rfl) ?_
          refine WL.yld (by decide) (Yld.extract rfl rfl) ?_
          refine WL.yld (by decide) (Yld.extract rfl rfl) ?_
          refine WL.yld (by decide) (Yld.extract rfl rfl) ?_
          refine WL.eff (by decide) (Eff.alloc 191 rfl zr_26) ?_
          rintro _ _ ⟨g91, rfl, rfl⟩
          refine WL.eff0 (Eff0.storeBAM 191 agg_26 rfl rfl rfl ⟨rfl, rfl⟩ rfl) ?_
          refine WL.yld (by decide) (Yld.assign rfl) ?_
          refine WL.yld (by decide) (Yld.assign rfl) ?_
          refine WL.done (hK82 _ _ ?_)
          refine WC.seqRegion fun K92 hK92 => ?_
          by_cases hc93 : x83.2.2.2.2.2 = (0 : Int)
          · replace h := of_t hc93 h
            refine WL.yld (by decide) (Yld.move rfl) ?_
            refine WL.yld (by decide) (Yld.neqI rfl rfl) ?_
            refine WL.yld (by decide) (Yld.move rfl) ?_
            refine WL.new (v' := .bool false) (congrArg Value.bool (bne_eq_false_iff_eq.2 hc93)) ?_
            refine WL.skip (by decide) rfl rfl ?_
            refine WL.yld (by decide) (Yld.pickF rfl rfl) ?_
            refine WL.yld (by decide) (Yld.assign rfl) ?_
            refine WL.done (hK92 _ _ ?_)
            refine WC.ret ?_
            injection h with h; subst h
            exact Ret.fn [] (ResIs.one rfl rfl) rfl hm_M14 rfl (by decide) rfl rfl ⟨rfl, rfl⟩
          · replace h := of_f hc93 h
            obtain ⟨x94, hx94, h⟩ := bnd h
            refine WL.yld (by decide) (Yld.move rfl) ?_
            refine WL.yld (by decide) (Yld.neqI rfl rfl) ?_
            refine WL.yld (by decide) (Yld.move rfl) ?_
            refine WL.new (v' := .bool true) (congrArg Value.bool (bne_iff_ne.2 hc93)) ?_
            refine WL.effG (by decide) rfl (Eff.callS 195 rfl Try.func14 nm_14 rfl rfl (fun w hb hh => w_law06_awake (Mem.snap w) hx94)) ?_
            rintro _ _ ⟨_, ⟨rfl, rfl⟩, rfl⟩
            refine WL.yld (by decide) (Yld.pickT rfl rfl) ?_
            refine WL.yld (by decide) (Yld.assign rfl) ?_
            refine WL.done (hK92 _ _ ?_)
            refine WC.ret ?_
            injection h with h; subst h
            exact Ret.fn [] (ResIs.one rfl rfl) rfl hm_M14 rfl (by decide) rfl rfl ⟨rfl, rfl⟩
        · replace h := of_f hc81 h
          refine WC.condTe rfl (neq_of_ne hc81) ?_
          refine WC.seqRegion fun K96 hK96 => ?_
          obtain ⟨x97, hx97, h⟩ := bnd h
          refine WL.eff (by decide) (Eff.callS 198 rfl Try.func14 nm_14 rfl rfl (fun w hb hh => w_law06_awake (Mem.snap w) hx97)) ?_
          rintro _ _ ⟨_, ⟨rfl, rfl⟩, rfl⟩
          refine WL.yld (by decide) (Yld.assign rfl) ?_
          refine WL.done (hK96 _ _ ?_)
          refine WC.ret (QK.thenR ?_)
          injection h with h; subst h
          exact Ret.fn [] (ResIs.one rfl rfl) rfl hm_M14 rfl (by decide) rfl rfl ⟨rfl, rfl⟩

set_option maxRecDepth 10000 in
theorem w_law06_NeedleShort (M0 : Mem) (x00_0 : BitVec 64) (x00_1 : BitVec 32) (x00_2 : Bool) (A00_3 : Option Addr) (n00_3 c00_3 : Nat) (x00_3 : List (BitVec 8)) (hf00_3 : SlT M0 A00_3 n00_3 c00_3 x00_3) (x01 : Int) {res : Bool} (h : m_law06_NeedleShort x00_0 x00_1 x00_2 x00_3 x01 = some res) :
    Fn Try.prog 9 #[.agg ([U64 x00_0, U32 x00_1, .bool x00_2, .slice A00_3 n00_3 c00_3] : List Value).toArray, I64 x01] M0 fun r M' es => r = .bool res ∧ es = [] := by
  refine Fn.intro (N := 50) Try.func9 rfl rfl (Nat.le_of_ble_eq_true rfl) fun w0 => ?_
  unfold m_law06_NeedleShort at h
  refine WC.seqRegion fun K1 hK1 => ?_
  refine WL.eff (by decide) (Eff.box 102 (us := [U64 x00_0, U32 x00_1, .bool x00_2, .slice A00_3 n00_3 c00_3]) rfl rfl rfl) ?_
  rintro _ _ ⟨g2, rfl, rfl⟩
  refine WL.yld (by decide) (Yld.assign rfl) ?_
  refine WL.done (hK1 _ _ ?_)
  refine WC.seqRegion fun K3 hK3 => ?_
  obtain ⟨x4, hx4, h⟩ := bnd h
  obtain ⟨x19, hx19, h⟩ := bnd h
  refine WL.yld (by decide) (Yld.loadBM (k := 102) agg_26 rfl rfl rfl) ?_
  refine WL.eff (by decide) (Eff.callM 109 rfl Try.func15 nm_15 rfl rfl rfl (w_law06_cut _ x00_0 x00_1 x00_2 A00_3 n00_3 c00_3 _ hf00_3 hx4)) ?_
  rintro _ _ ⟨M14, _, ⟨A15, n16, c17, rfl, rfl, hf18⟩, hm_M14, rfl⟩
  refine WL.eff (by decide) (Eff.callS 123 rfl Try.func16 nm_16 rfl rfl (fun w hb hh => w_needle_Encode (Mem.snap w) x4.1 x4.2.1 x4.2.2.1 A15 n16 c17 _ (RdH.sn (RdH.memM (k := 0) rfl hf18) w hb hh) hx19)) ?_
  rintro _ _ ⟨_, ⟨A24, n25, c26, rfl, rfl⟩, rfl⟩
  refine WL.yld (by decide) (Yld.move rfl) ?_
  refine WL.yld (by decide) (Yld.extract rfl rfl) ?_
  refine WL.yld (by decide) (Yld.extract rfl rfl) ?_
  refine WL.yld (by decide) (Yld.assign rfl) ?_
  refine WL.yld (by decide) (Yld.assign rfl) ?_
  refine WL.done (hK3 _ _ ?_)
  refine WC.seqCut (σ := Unit) (fun _ => [(1, I64 x01), (5, .slice A24 n25 c26)]) (fun _ => [(0, .mem M14), (123, .own 5 (Lay.sz (BitVec 8)) A24 n25 c26 (cel x19.1))]) (fun _ => m_law06_NeedleShort_j0 x01 x19 = some res) (fun K27 hK27 => ?_) ?_
  · skip
    refine WC.seqRegion fun K28 hK28 => ?_
    by_cases hc29 : x19.2 = (0 : Int)
    · replace h := of_t hc29 h
      refine WL.yld (by decide) (Yld.move rfl) ?_
      refine WL.yld (by decide) (Yld.neqI rfl rfl) ?_
      refine WL.yld (by decide) (Yld.move rfl) ?_
      refine WL.new (v' := .bool false) (congrArg Value.bool (bne_eq_false_iff_eq.2 hc29)) ?_
      refine WL.yldG (by decide) rfl (Yld.move rfl) ?_
      refine WL.yldG (by decide) rfl (Yld.lenC (xs := x19.1) und_24 rfl (RdH.own (k := 123) rfl)) ?_
      refine WL.yldG (by decide) rfl (Yld.eqlI rfl rfl) ?_
      refine WL.yld (by decide) (Yld.pickF rfl rfl) ?_
      refine WL.done (hK28 _ _ ?_)
      by_cases hc30 : (x19.1.length : Int) = (0 : Int)
      · replace h := of_t hc30 h
        refine WC.condTe rfl (beq_iff_eq.2 hc30) ?_
        refine WC.seqRegion fun K31 hK31 => ?_
        by_cases hc32 : x19.2 = (0 : Int)
        · replace h := of_t hc32 h
          refine WL.yld (by decide) (Yld.move rfl) ?_
          refine WL.yld (by decide) (Yld.neqI rfl rfl) ?_
          refine WL.yld (by decide) (Yld.move rfl) ?_
          refine WL.new (v' := .bool false) (congrArg Value.bool (bne_eq_false_iff_eq.2 hc32)) ?_
          refine WL.skip (by decide) rfl rfl ?_
          refine WL.yld (by decide) (Yld.pickF rfl rfl) ?_
          refine WL.yld (by decide) (Yld.assign rfl) ?_
          refine WL.done (hK31 _ _ ?_)
          refine WC.ret (QK.thenR ?_)
          injection h with h; subst h
          exact Ret.fn [] (ResIs.one rfl rfl) rfl hm_M14 rfl (by decide) rfl rfl ⟨rfl, rfl⟩
        · replace h := of_f hc32 h
          obtain ⟨x33, hx33, h⟩ := bnd h
          refine WL.yld (by decide) (Yld.move rfl) ?_
          refine WL.yld (by decide) (Yld.neqI rfl rfl) ?_
          refine WL.yld (by decide) (Yld.move rfl) ?_
          refine WL.new (v' := .bool true) (congrArg Value.bool (bne_iff_ne.2 hc32)) ?_
          refine WL.effG (by decide) rfl (Eff.callS 134 rfl Try.func14 nm_14 rfl rfl (fun w hb hh => w_law06_awake (Mem.snap w) hx33)) ?_
          rintro _ _ ⟨_, ⟨rfl, rfl⟩, rfl⟩
          refine WL.yld (by decide) (Yld.pickT rfl rfl) ?_
          refine WL.yld (by decide) (Yld.assign rfl) ?_
          refine WL.done (hK31 _ _ ?_)
          refine WC.ret (QK.thenR ?_)
          injection h with h; subst h
          exact Ret.fn [] (ResIs.one rfl rfl) rfl hm_M14 rfl (by decide) rfl rfl ⟨rfl, rfl⟩
      · replace h := of_f hc30 h
        refine WC.condFe rfl (beq_eq_false_iff_ne.2 hc30) ?_
        refine WC.skip ?_
        refine QK.thenN ?_
        refine hK27 () _ _ ?_ (Sub.cons rfl (Sub.cons rfl (Sub.nil _))) (Sub.cons rfl (Sub.cons rfl (Sub.nil _)))
        exact h
    · replace h := of_f hc29 h
      refine WL.yld (by decide) (Yld.move rfl) ?_
      refine WL.yld (by decide) (Yld.neqI rfl rfl) ?_
      refine WL.yld (by decide) (Yld.move rfl) ?_
      refine WL.new (v' := .bool true) (congrArg Value.bool (bne_iff_ne.2 hc29)) ?_
      refine WL.skip (by decide) rfl rfl ?_
      refine WL.skip (by decide) rfl rfl ?_
      refine WL.skip (by decide) rfl rfl ?_
      refine WL.yld (by decide) (Yld.pickT rfl rfl) ?_
      refine WL.done (hK28 _ _ ?_)
      refine WC.condT rfl ?_
      refine WC.seqRegion fun K35 hK35 => ?_
      by_cases hc36 : x19.2 = (0 : Int)
      · replace h := of_t hc36 h
        refine WL.yld (by decide) (Yld.move rfl) ?_
        refine WL.yld (by decide) (Yld.neqI rfl rfl) ?_
        refine WL.yld (by decide) (Yld.move rfl) ?_
        refine WL.new (v' := .bool false) (congrArg Value.bool (bne_eq_false_iff_eq.2 hc36)) ?_
        refine WL.skip (by decide) rfl rfl ?_
        refine WL.yld (by decide) (Yld.pickF rfl rfl) ?_
        refine WL.yld (by decide) (Yld.assign rfl) ?_
        refine WL.done (hK35 _ _ ?_)
        refine WC.ret (QK.thenR ?_)
        injection h with h; subst h
        exact Ret.fn [] (ResIs.one rfl rfl) rfl hm_M14 rfl (by decide) rfl rfl ⟨rfl, rfl⟩
      · replace h := of_f hc36 h
        obtain ⟨x37, hx37, h⟩ := bnd h
        refine WL.yld (by decide) (Yld.move rfl) ?_
        refine WL.yld (by decide) (Yld.neqI rfl rfl) ?_
        refine WL.yld (by decide) (Yld.move rfl) ?_
        refine WL.new (v' := .bool true) (congrArg Value.bool (bne_iff_ne.2 hc36)) ?_
        refine WL.effG (by decide) rfl (Eff.callS 138 rfl Try.func14 nm_14 rfl rfl (fun w hb hh => w_law06_awake (Mem.snap w) hx37)) ?_
        rintro _ _ ⟨_, ⟨rfl, rfl⟩, rfl⟩
        refine WL.yld (by decide) (Yld.pickT rfl rfl) ?_
        refine WL.yld (by decide) (Yld.assign rfl) ?_
        refine WL.done (hK35 _ _ ?_)
        refine WC.ret (QK.thenR ?_)
        injection h with h; subst h
        exact Ret.fn [] (ResIs.one rfl rfl) rfl hm_M14 rfl (by decide) rfl rfl ⟨rfl, rfl⟩
  · rintro _ h
    unfold m_law06_NeedleShort_j0 at h
    refine WC.seqRegion fun K39 hK39 => ?_
    obtain ⟨x40, hx40, h⟩ := bnd h
    obtain ⟨x41, hx41, h⟩ := bnd h
    obtain ⟨x42, hx42, h⟩ := bnd h
    obtain ⟨x43, hx43, h⟩ := bnd h
    obtain ⟨x44, hx44, h⟩ := bnd h
    refine WL.yld (by decide) (Yld.move rfl) ?_
    refine WL.yld (by decide) (Yld.move rfl) ?_
    refine WL.yld (by decide) (Yld.move rfl) ?_
    refine WL.yld (by decide) (Yld.lenC (xs := x19.1) und_24 rfl (RdH.own (k := 123) rfl)) ?_
    refine WL.yld (by decide) (Yld.remC rfl rfl hx40) ?_
    refine WL.yld (by decide) (Yld.move rfl) ?_
    refine WL.yld (by decide) (Yld.lenC (xs := x19.1) und_24 rfl (RdH.own (k := 123) rfl)) ?_
    refine WL.yld (by decide) (Yld.addC rfl rfl hx41) ?_
    refine WL.yld (by decide) (Yld.move rfl) ?_
    refine WL.yld (by decide) (Yld.lenC (xs := x19.1) und_24 rfl (RdH.own (k := 123) rfl)) ?_
    refine WL.yld (by decide) (Yld.remC rfl rfl hx42) ?_
    refine WL.yld (by decide) (Yld.sliceHC (xs := x19.1) sty_24 rfl rfl (RdH.own (k := 123) rfl) hx43) ?_
    refine WL.eff (by decide) (Eff.callS 148 rfl Try.func18 nm_18 rfl rfl (fun w hb hh => w_needle_Decode (Mem.snap w) A24 x43.length c26 _ (RdH.sn (RdT.slc0 (RdH.own (k := 123) rfl) hx43) w hb hh) hx44)) ?_
    rintro _ _ ⟨_, ⟨A49, n50, c51, rfl, rfl⟩, rfl⟩
    refine WL.yld (by decide) (Yld.move rfl) ?_
    refine WL.yld (by decide) (Yld.extract rfl rfl) ?_
    refine WL.yld (by decide) (Yld.extract rfl rfl) ?_
    refine WL.yld (by decide) (Yld.extract rfl rfl) ?_
    refine WL.eff (by decide) (Eff.alloc 152 rfl zr_26) ?_
    rintro _ _ ⟨g52, rfl, rfl⟩
    refine WL.eff0 (Eff0.storeBAM 152 agg_26 rfl rfl rfl ⟨rfl, rfl⟩ rfl) ?_
    refine WL.yld (by decide) (Yld.assign rfl) ?_
    refine WL.yld (by decide) (Yld.assign rfl) ?_
    refine WL.done (hK39 _ _ ?_)
    refine WC.seqRegion fun K53 hK53 => ?_
    by_cases hc54 : x44.2.2.2.2.2 = (4 : Int)
    · replace h := of_t hc54 h
      obtain ⟨x55, hx55, h⟩ := bnd h
      refine WL.yld (by decide) (Yld.move rfl) ?_
      refine WL.yld (by decide) (Yld.eqlI rfl rfl) ?_
      refine WL.yld (by decide) (Yld.move rfl) ?_
      refine WL.new (v' := .bool true) (congrArg Value.bool (beq_iff_eq.2 hc54)) ?_
      refine WL.effG (by decide) rfl (Eff.callS 156 rfl Try.func14 nm_14 rfl rfl (fun w hb hh => w_law06_awake (Mem.snap w) hx55)) ?_
      rintro _ _ ⟨_, ⟨rfl, rfl⟩, rfl⟩
      refine WL.yld (by decide) (Yld.pickT rfl rfl) ?_
      refine WL.yld (by decide) (Yld.assign rfl) ?_
      refine WL.done (hK53 _ _ ?_)
      refine WC.ret ?_
      injection h with h; subst h
      exact Ret.fn [] (ResIs.one rfl rfl) rfl hm_M14 rfl (by decide) rfl rfl ⟨rfl, rfl⟩
    · replace h := of_f hc54 h
      refine WL.yld (by decide) (Yld.move rfl) ?_
      refine WL.yld (by decide) (Yld.eqlI rfl rfl) ?_
      refine WL.yld (by decide) (Yld.move rfl) ?_
      refine WL.new (v' := .bool false) (congrArg Value.bool (beq_eq_false_iff_ne.2 hc54)) ?_
      refine WL.skip (by decide) rfl rfl ?_
      refine WL.yld (by decide) (Yld.pickF rfl rfl) ?_
      refine WL.yld (by decide) (Yld.assign rfl) ?_
      refine WL.done (hK53 _ _ ?_)
      refine WC.ret ?_
      injection h with h; subst h
      exact Ret.fn [] (ResIs.one rfl rfl) rfl hm_M14 rfl (by decide) rfl rfl ⟨rfl, rfl⟩

end Go.Proofs.Ytclhepegfmhmjaa
