/-
  Walks (e1): what a function's model gives, the function returns. Printed by a program of ours (vcm.py) from the function's operations. Conditions: as each theorem says.
-/
import Derived.Test.YtnkahhipochakaaWkc
import Derived.Test.YtnkahhipochakaaWkd
import Derived.Test.YtnkahhipochakaaMde1
namespace Go.Proofs.Ytnkahhipochakaa
open Go Go.RowKit
set_option linter.unusedVariables false

theorem nm_12 : (Try.f12.name == "runtime.NumGoroutine") = false := by kernel_rfl
theorem nm_13 : (Try.f13.name == "runtime.NumGoroutine") = false := by kernel_rfl
theorem nm_19 : (Try.f19.name == "runtime.NumGoroutine") = false := by kernel_rfl
theorem nm_21 : (Try.f21.name == "runtime.NumGoroutine") = false := by kernel_rfl
theorem nm_29 : (Try.f29.name == "runtime.NumGoroutine") = false := by kernel_rfl
theorem nm_30 : (Try.f30.name == "runtime.NumGoroutine") = false := by kernel_rfl
theorem nm_32 : (Try.f32.name == "runtime.NumGoroutine") = false := by kernel_rfl
theorem nm_33 : (Try.f33.name == "runtime.NumGoroutine") = false := by kernel_rfl

set_option maxRecDepth 10000 in
theorem w_law03_GfmatrixProducts (M0 : Mem) (x00_0 : Int) (x00_1 : Int) (A00_2 : Option Addr) (n00_2 c00_2 : Nat) (x00_2 : List (BitVec 8)) (hf00_2 : SlT M0 A00_2 n00_2 c00_2 x00_2) (x01_0 : Int) (x01_1 : Int) (A01_2 : Option Addr) (n01_2 c01_2 : Nat) (x01_2 : List (BitVec 8)) (hf01_2 : SlT M0 A01_2 n01_2 c01_2 x01_2) (A02 : Option Addr) (n02 c02 : Nat) (x02 : List (Int)) (hf02 : SlT M0 A02 n02 c02 x02) {res : Bool} (h : m_law03_GfmatrixProducts x00_0 x00_1 x00_2 x01_0 x01_1 x01_2 x02 = some res) :
    Fn Try.prog 11 #[.agg ([I64 x00_0, I64 x00_1, .slice A00_2 n00_2 c00_2] : List Value).toArray, .agg ([I64 x01_0, I64 x01_1, .slice A01_2 n01_2 c01_2] : List Value).toArray, .slice A02 n02 c02] M0 fun r M' es => r = .bool res ∧ es = [] := by
  refine Fn.intro (N := 75) Try.func11 rfl rfl (Nat.le_of_ble_eq_true rfl) fun w0 => ?_
  unfold m_law03_GfmatrixProducts at h
  refine WC.seqRegion fun K1 hK1 => ?_
  refine WL.eff (by decide) (Eff.box 102 (us := [I64 x00_0, I64 x00_1, .slice A00_2 n00_2 c00_2]) rfl rfl rfl) ?_
  rintro _ _ ⟨g2, rfl, rfl⟩
  refine WL.eff (by decide) (Eff.box 103 (us := [I64 x01_0, I64 x01_1, .slice A01_2 n01_2 c01_2]) rfl rfl rfl) ?_
  rintro _ _ ⟨g3, rfl, rfl⟩
  refine WL.yld (by decide) (Yld.assign rfl) ?_
  refine WL.done (hK1 _ _ ?_)
  refine WC.seqCut (σ := Unit) (fun _ => [(2, .slice A02 n02 c02), (3, .pointer (some ⟨g2, 0, none⟩)), (4, .pointer (some ⟨g3, 0, none⟩))]) (fun _ => [(0, .mem M0), (102, .blk g2 24 [I64 x00_0, I64 x00_1, .slice A00_2 n00_2 c00_2]), (103, .blk g3 24 [I64 x01_0, I64 x01_1, .slice A01_2 n01_2 c01_2])]) (fun _ => m_law03_GfmatrixProducts_j0 x00_0 x00_1 x00_2 x01_0 x01_1 x01_2 x02 = some res) (fun K4 hK4 => ?_) ?_
  · skip
    refine WC.seqRegion fun K5 hK5 => ?_
    obtain ⟨x6, hx6, h⟩ := bnd h
    by_cases hc8 : x6 = true
    · replace h := of_t hc8 h
      refine WL.yld (by decide) (Yld.loadBM (k := 102) agg_24 rfl rfl rfl) ?_
      refine WL.eff (by decide) (Eff.callS 107 rfl Try.func12 nm_12 rfl rfl (fun w hb hh => w_law03_heavy (Mem.snap w) x00_0 x00_1 A00_2 n00_2 c00_2 _ (RdH.sn (RdH.memM (k := 0) rfl hf00_2) w hb hh) hx6)) ?_
      rintro _ _ ⟨_, ⟨rfl, rfl⟩, rfl⟩
      refine WL.yld (by decide) (Yld.move rfl) ?_
      refine WL.new (v' := .bool true) (congrArg Value.bool hc8) ?_
      refine WL.skip (by decide) rfl rfl ?_
      refine WL.skip (by decide) rfl rfl ?_
      refine WL.yld (by decide) (Yld.pickT rfl rfl) ?_
      refine WL.yld (by decide) (Yld.move rfl) ?_
      refine WL.skip (by decide) rfl rfl ?_
      refine WL.skip (by decide) rfl rfl ?_
      refine WL.skip (by decide) rfl rfl ?_
      refine WL.yld (by decide) (Yld.pickT rfl rfl) ?_
      refine WL.done (hK5 _ _ ?_)
      refine WC.condT rfl ?_
      refine WC.seqRegion fun K9 hK9 => ?_
      obtain ⟨x10, hx10, h⟩ := bnd h
      refine WL.eff (by decide) (Eff.callS 111 rfl Try.func13 nm_13 rfl rfl (fun w hb hh => w_law03_awake (Mem.snap w) hx10)) ?_
      rintro _ _ ⟨_, ⟨rfl, rfl⟩, rfl⟩
      refine WL.yld (by decide) (Yld.assign rfl) ?_
      refine WL.done (hK9 _ _ ?_)
      refine WC.ret (QK.thenR ?_)
      injection h with h; subst h
      exact Ret.fn [] (ResIs.one rfl rfl) rfl (Ext.refl _ _) rfl (by decide) rfl rfl ⟨rfl, rfl⟩
    · replace h := of_f hc8 h
      obtain ⟨x12, hx12, h⟩ := bnd h
      by_cases hc14 : x12 = true
      · replace h := of_t hc14 h
        refine WL.yld (by decide) (Yld.loadBM (k := 102) agg_24 rfl rfl rfl) ?_
        refine WL.eff (by decide) (Eff.callS 107 rfl Try.func12 nm_12 rfl rfl (fun w hb hh => w_law03_heavy (Mem.snap w) x00_0 x00_1 A00_2 n00_2 c00_2 _ (RdH.sn (RdH.memM (k := 0) rfl hf00_2) w hb hh) hx6)) ?_
        rintro _ _ ⟨_, ⟨rfl, rfl⟩, rfl⟩
        refine WL.yld (by decide) (Yld.move rfl) ?_
        refine WL.new (v' := .bool false) (congrArg Value.bool (Bool.eq_false_iff.2 hc8)) ?_
        refine WL.yldG (by decide) rfl (Yld.loadBM (k := 103) agg_24 rfl rfl rfl) ?_
        refine WL.effG (by decide) rfl (Eff.callS 113 rfl Try.func12 nm_12 rfl rfl (fun w hb hh => w_law03_heavy (Mem.snap w) x01_0 x01_1 A01_2 n01_2 c01_2 _ (RdH.sn (RdH.memM (k := 0) rfl hf01_2) w hb hh) hx12)) ?_
        rintro _ _ ⟨_, ⟨rfl, rfl⟩, rfl⟩
        refine WL.yld (by decide) (Yld.pickF rfl rfl) ?_
        refine WL.yld (by decide) (Yld.move rfl) ?_
        refine WL.new (v' := .bool true) (congrArg Value.bool hc14) ?_
        refine WL.skip (by decide) rfl rfl ?_
        refine WL.skip (by decide) rfl rfl ?_
        refine WL.skip (by decide) rfl rfl ?_
        refine WL.yld (by decide) (Yld.pickT rfl rfl) ?_
        refine WL.done (hK5 _ _ ?_)
        refine WC.condT rfl ?_
        refine WC.seqRegion fun K15 hK15 => ?_
        obtain ⟨x16, hx16, h⟩ := bnd h
        refine WL.eff (by decide) (Eff.callS 117 rfl Try.func13 nm_13 rfl rfl (fun w hb hh => w_law03_awake (Mem.snap w) hx16)) ?_
        rintro _ _ ⟨_, ⟨rfl, rfl⟩, rfl⟩
        refine WL.yld (by decide) (Yld.assign rfl) ?_
        refine WL.done (hK15 _ _ ?_)
        refine WC.ret (QK.thenR ?_)
        injection h with h; subst h
        exact Ret.fn [] (ResIs.one rfl rfl) rfl (Ext.refl _ _) rfl (by decide) rfl rfl ⟨rfl, rfl⟩
      · replace h := of_f hc14 h
        refine WL.yld (by decide) (Yld.loadBM (k := 102) agg_24 rfl rfl rfl) ?_
        refine WL.eff (by decide) (Eff.callS 107 rfl Try.func12 nm_12 rfl rfl (fun w hb hh => w_law03_heavy (Mem.snap w) x00_0 x00_1 A00_2 n00_2 c00_2 _ (RdH.sn (RdH.memM (k := 0) rfl hf00_2) w hb hh) hx6)) ?_
        rintro _ _ ⟨_, ⟨rfl, rfl⟩, rfl⟩
        refine WL.yld (by decide) (Yld.move rfl) ?_
        refine WL.new (v' := .bool false) (congrArg Value.bool (Bool.eq_false_iff.2 hc8)) ?_
        refine WL.yldG (by decide) rfl (Yld.loadBM (k := 103) agg_24 rfl rfl rfl) ?_
        refine WL.effG (by decide) rfl (Eff.callS 113 rfl Try.func12 nm_12 rfl rfl (fun w hb hh => w_law03_heavy (Mem.snap w) x01_0 x01_1 A01_2 n01_2 c01_2 _ (RdH.sn (RdH.memM (k := 0) rfl hf01_2) w hb hh) hx12)) ?_
        rintro _ _ ⟨_, ⟨rfl, rfl⟩, rfl⟩
        refine WL.yld (by decide) (Yld.pickF rfl rfl) ?_
        refine WL.yld (by decide) (Yld.move rfl) ?_
        refine WL.new (v' := .bool false) (congrArg Value.bool (Bool.eq_false_iff.2 hc14)) ?_
        refine WL.yldG (by decide) rfl (Yld.move rfl) ?_
        refine WL.yldG (by decide) rfl (Yld.lenC (xs := x02) und_50 rfl (RdH.memM (k := 0) rfl hf02)) ?_
        refine WL.yldG (by decide) rfl (Yld.gtr rfl rfl) ?_
        refine WL.yld (by decide) (Yld.pickF rfl rfl) ?_
        refine WL.done (hK5 _ _ ?_)
        by_cases hc18 : (40 : Int) < (x02.length : Int)
        · replace h := of_t hc18 h
          refine WC.condTe rfl (decide_eq_true hc18) ?_
          refine WC.seqRegion fun K19 hK19 => ?_
          obtain ⟨x20, hx20, h⟩ := bnd h
          refine WL.eff (by decide) (Eff.callS 121 rfl Try.func13 nm_13 rfl rfl (fun w hb hh => w_law03_awake (Mem.snap w) hx20)) ?_
          rintro _ _ ⟨_, ⟨rfl, rfl⟩, rfl⟩
          refine WL.yld (by decide) (Yld.assign rfl) ?_
          refine WL.done (hK19 _ _ ?_)
          refine WC.ret (QK.thenR ?_)
          injection h with h; subst h
          exact Ret.fn [] (ResIs.one rfl rfl) rfl (Ext.refl _ _) rfl (by decide) rfl rfl ⟨rfl, rfl⟩
        · replace h := of_f hc18 h
          refine WC.condFe rfl (decide_eq_false hc18) ?_
          refine WC.skip ?_
          refine QK.thenN ?_
          refine hK4 () _ _ ?_ (Sub.cons rfl (Sub.cons rfl (Sub.cons rfl (Sub.nil _)))) (Sub.cons rfl (Sub.cons rfl (Sub.cons rfl (Sub.nil _))))
          exact h
  · rintro _ h
    unfold m_law03_GfmatrixProducts_j0 at h
    refine WC.seqRegionD (n := 11) [(102, _), (103, _)] rfl mixed (Sub.cons rfl (Sub.cons rfl (Sub.nil _))) fun K22 hK22 => ?_
    obtain ⟨x23, hx23, h⟩ := bnd h
    obtain ⟨x38, hx38, h⟩ := bnd h
    obtain ⟨x53, hx53, h⟩ := bnd h
    refine WD.take 0 rfl (by kernel_rfl) (by kernel_rfl) (by kernel_rfl) (by decide) (Yld.loadBM (k := 102) agg_24 rfl rfl rfl) ?_
    refine WD.take 2 rfl (by kernel_rfl) (by kernel_rfl) (by kernel_rfl) (by decide) (Yld.loadBM (k := 103) agg_24 rfl rfl rfl) ?_
    refine WD.two 1 8 (by kernel_rfl) ?_ ?_
    · skip
      refine WS.eff rfl (by decide) (Eff.callM 128 rfl Try.func19 nm_19 rfl rfl rfl (w_law03_given _ x00_0 x00_1 A00_2 n00_2 c00_2 _ hf00_2 hx23)) ?_
      rintro _ _ ⟨M33, _, ⟨A34, n35, c36, rfl, rfl, hf37⟩, hm_M33, rfl⟩
      refine ⟨(Sub.cons rfl (Sub.cons rfl (Sub.nil _))), ?_⟩
      refine WD.two 3 8 (by kernel_rfl) ?_ ?_
      · skip
        refine WS.eff rfl (by decide) (Eff.callM 143 rfl Try.func19 nm_19 rfl rfl rfl (w_law03_given _ x01_0 x01_1 A01_2 n01_2 c01_2 _ (SlRc.lift hf01_2 hm_M33) hx38)) ?_
        rintro _ _ ⟨M48, _, ⟨A49, n50, c51, rfl, rfl, hf52⟩, hm_M48, rfl⟩
        refine ⟨(Sub.cons rfl (Sub.cons rfl (Sub.nil _))), ?_⟩
        refine WD.two 4 8 (by kernel_rfl) ?_ ?_
        · skip
          refine WS.eff rfl (by decide) (Eff.callS 157 rfl Try.func30 nm_30 rfl rfl (fun w hb hh => w_gfmatrix_Mul (Mem.snap w) x23.1 x23.2.1 A34 n35 c36 _ (RdH.sn (RdH.memM (k := 0) rfl (SlRc.lift hf37 hm_M48)) w hb hh) x38.1 x38.2.1 A49 n50 c51 _ (RdH.sn (RdH.memM (k := 0) rfl hf52) w hb hh) hx53)) ?_
          rintro _ _ ⟨_, ⟨A58, n59, c60, rfl, rfl⟩, rfl⟩
          refine ⟨(Sub.cons rfl (Sub.cons rfl (Sub.nil _))), ?_⟩
          refine WD.take 5 rfl (by kernel_rfl) (by kernel_rfl) (by kernel_rfl) (by decide) (Yld.move rfl) ?_
          refine WD.take 6 rfl (by kernel_rfl) (by kernel_rfl) (by kernel_rfl) (by decide) (Yld.extract rfl rfl) ?_
          refine WD.take 7 rfl (by kernel_rfl) (by kernel_rfl) (by kernel_rfl) (by decide) (Yld.extract rfl rfl) ?_
          refine WD.one 8 (by kernel_rfl) ?_
          refine WS.eff rfl (by decide) (Eff.alloc 161 rfl zr_27) ?_
          rintro _ _ ⟨g61, rfl, rfl⟩
          refine ⟨(Sub.cons rfl (Sub.cons rfl (Sub.nil _))), ?_⟩
          refine WD.one 9 (by kernel_rfl) ?_
          refine WS.eff0 rfl (Eff0.storeBAM 161 agg_27 rfl rfl rfl ⟨rfl, rfl⟩ rfl) (Sub.cons rfl (Sub.cons rfl (Sub.nil _))) ?_
          refine WD.take 10 rfl (by kernel_rfl) (by kernel_rfl) (by kernel_rfl) (by decide) (Yld.assign rfl) ?_
          refine WD.done (by kernel_rfl) (hK22 _ _ ?_)
          refine WC.seqRegion fun K62 hK62 => ?_
          obtain ⟨x63, hx63, h⟩ := bnd h
          refine WL.yld (by decide) (Yld.loadBM (k := 102) agg_24 rfl rfl rfl) ?_
          refine WL.yld (by decide) (Yld.loadBM (k := 103) agg_24 rfl rfl rfl) ?_
          refine WL.eff (by decide) (Eff.callS 167 rfl Try.func32 nm_32 rfl rfl (fun w hb hh => w_r03_Mul (Mem.snap w) x00_0 x00_1 A00_2 n00_2 c00_2 _ (RdH.sn (RdH.memM (k := 0) rfl (SlRc.lift (SlRc.lift hf00_2 hm_M33) hm_M48)) w hb hh) x01_0 x01_1 A01_2 n01_2 c01_2 _ (RdH.sn (RdH.memM (k := 0) rfl (SlRc.lift (SlRc.lift hf01_2 hm_M33) hm_M48)) w hb hh) hx63)) ?_
          rintro _ _ ⟨_, ⟨A68, n69, c70, rfl, rfl⟩, rfl⟩
          refine WL.yld (by decide) (Yld.move rfl) ?_
          refine WL.yld (by decide) (Yld.extract rfl rfl) ?_
          refine WL.yld (by decide) (Yld.extract rfl rfl) ?_
          refine WL.eff (by decide) (Eff.alloc 171 rfl zr_24) ?_
          rintro _ _ ⟨g71, rfl, rfl⟩
          refine WL.eff0 (Eff0.storeBAM 171 agg_24 rfl rfl rfl ⟨rfl, rfl⟩ rfl) ?_
          refine WL.yld (by decide) (Yld.assign rfl) ?_
          refine WL.done (hK62 _ _ ?_)
          refine WC.seqRegion fun K72 hK72 => ?_
          obtain ⟨x73, hx73, h⟩ := bnd h
          obtain ⟨x88, hx88, h⟩ := bnd h
          refine WL.yld (by decide) (Yld.loadBM (k := 102) agg_24 rfl rfl rfl) ?_
          refine WL.eff (by decide) (Eff.callM 178 rfl Try.func19 nm_19 rfl rfl rfl (w_law03_given _ x00_0 x00_1 A00_2 n00_2 c00_2 _ (SlRc.lift (SlRc.lift hf00_2 hm_M33) hm_M48) hx73)) ?_
          rintro _ _ ⟨M83, _, ⟨A84, n85, c86, rfl, rfl, hf87⟩, hm_M83, rfl⟩
          refine WL.yld (by decide) (Yld.move rfl) ?_
          refine WL.eff (by decide) (Eff.callS 192 rfl Try.func29 nm_29 rfl rfl (fun w hb hh => w_gfmatrix_Pick (Mem.snap w) x73.1 x73.2.1 A84 n85 c86 _ (RdH.sn (RdH.memM (k := 0) rfl hf87) w hb hh) A02 n02 c02 _ (RdH.sn (RdH.memM (k := 0) rfl (SlRc.lift (SlRc.lift (SlRc.lift hf02 hm_M33) hm_M48) hm_M83)) w hb hh) hx88)) ?_
          rintro _ _ ⟨_, ⟨A93, n94, c95, rfl, rfl⟩, rfl⟩
          refine WL.yld (by decide) (Yld.move rfl) ?_
          refine WL.yld (by decide) (Yld.extract rfl rfl) ?_
          refine WL.yld (by decide) (Yld.extract rfl rfl) ?_
          refine WL.eff (by decide) (Eff.alloc 196 rfl zr_27) ?_
          rintro _ _ ⟨g96, rfl, rfl⟩
          refine WL.eff0 (Eff0.storeBAM 196 agg_27 rfl rfl rfl ⟨rfl, rfl⟩ rfl) ?_
          refine WL.yld (by decide) (Yld.assign rfl) ?_
          refine WL.done (hK72 _ _ ?_)
          refine WC.seqRegion fun K97 hK97 => ?_
          obtain ⟨x98, hx98, h⟩ := bnd h
          refine WL.yld (by decide) (Yld.loadBM (k := 102) agg_24 rfl rfl rfl) ?_
          refine WL.yld (by decide) (Yld.move rfl) ?_
          refine WL.eff (by decide) (Eff.callS 202 rfl Try.func33 nm_33 rfl rfl (fun w hb hh => w_r03_Pick (Mem.snap w) x00_0 x00_1 A00_2 n00_2 c00_2 _ (RdH.sn (RdH.memM (k := 0) rfl (SlRc.lift (SlRc.lift (SlRc.lift hf00_2 hm_M33) hm_M48) hm_M83)) w hb hh) A02 n02 c02 _ (RdH.sn (RdH.memM (k := 0) rfl (SlRc.lift (SlRc.lift (SlRc.lift hf02 hm_M33) hm_M48) hm_M83)) w hb hh) hx98)) ?_
          rintro _ _ ⟨_, ⟨A103, n104, c105, rfl, rfl⟩, rfl⟩
          refine WL.yld (by decide) (Yld.move rfl) ?_
          refine WL.yld (by decide) (Yld.extract rfl rfl) ?_
          refine WL.yld (by decide) (Yld.extract rfl rfl) ?_
          refine WL.eff (by decide) (Eff.alloc 206 rfl zr_24) ?_
          rintro _ _ ⟨g106, rfl, rfl⟩
          refine WL.eff0 (Eff0.storeBAM 206 agg_24 rfl rfl rfl ⟨rfl, rfl⟩ rfl) ?_
          refine WL.yld (by decide) (Yld.assign rfl) ?_
          refine WL.done (hK97 _ _ ?_)
          refine WC.seqRegion fun K107 hK107 => ?_
          by_cases hc108 : x53.2.2.2 = x63.2.2.2
          · replace h := of_t hc108 h
            by_cases hc109 : x88.2.2.2 = x98.2.2.2
            · replace h := of_t hc109 h
              obtain ⟨x110, hx110, h⟩ := bnd h
              by_cases hc112 : x110 = true
              · replace h := of_t hc112 h
                obtain ⟨x113, hx113, h⟩ := bnd h
                by_cases hc115 : x113 = true
                · replace h := of_t hc115 h
                  obtain ⟨x116, hx116, h⟩ := bnd h
                  refine WL.yld (by decide) (Yld.move rfl) ?_
                  refine WL.yld (by decide) (Yld.move rfl) ?_
                  refine WL.yld (by decide) (Yld.eqlI rfl rfl) ?_
                  refine WL.yld (by decide) (Yld.move rfl) ?_
                  refine WL.new (v' := .bool true) (congrArg Value.bool (beq_iff_eq.2 hc108)) ?_
                  refine WL.yldG (by decide) rfl (Yld.move rfl) ?_
                  refine WL.yldG (by decide) rfl (Yld.move rfl) ?_
                  refine WL.yldG (by decide) rfl (Yld.eqlI rfl rfl) ?_
                  refine WL.yld (by decide) (Yld.pickT rfl rfl) ?_
                  refine WL.yld (by decide) (Yld.move rfl) ?_
                  refine WL.new (v' := .bool true) (congrArg Value.bool (beq_iff_eq.2 hc109)) ?_
                  refine WL.yldG (by decide) rfl (Yld.loadBM (k := 161) agg_27 rfl rfl rfl) ?_
                  refine WL.yldG (by decide) rfl (Yld.loadBM (k := 171) agg_24 rfl rfl rfl) ?_
                  refine WL.effG (by decide) rfl (Eff.callS 211 rfl Try.func21 nm_21 rfl rfl (fun w hb hh => w_law03_same (Mem.snap w) x53.1 x53.2.1 A58 n59 c60 _ (RdH.sn (RdH.own (k := 157) rfl) w hb hh) x63.1 x63.2.1 A68 n69 c70 _ (RdH.sn (RdH.own (k := 167) rfl) w hb hh) hx110)) ?_
                  rintro _ _ ⟨_, ⟨rfl, rfl⟩, rfl⟩
                  refine WL.yld (by decide) (Yld.pickT rfl rfl) ?_
                  refine WL.yld (by decide) (Yld.move rfl) ?_
                  refine WL.new (v' := .bool true) (congrArg Value.bool hc112) ?_
                  refine WL.yldG (by decide) rfl (Yld.loadBM (k := 196) agg_27 rfl rfl rfl) ?_
                  refine WL.yldG (by decide) rfl (Yld.loadBM (k := 206) agg_24 rfl rfl rfl) ?_
                  refine WL.effG (by decide) rfl (Eff.callS 214 rfl Try.func21 nm_21 rfl rfl (fun w hb hh => w_law03_same (Mem.snap w) x88.1 x88.2.1 A93 n94 c95 _ (RdH.sn (RdH.own (k := 192) rfl) w hb hh) x98.1 x98.2.1 A103 n104 c105 _ (RdH.sn (RdH.own (k := 202) rfl) w hb hh) hx113)) ?_
                  rintro _ _ ⟨_, ⟨rfl, rfl⟩, rfl⟩
                  refine WL.yld (by decide) (Yld.pickT rfl rfl) ?_
                  refine WL.yld (by decide) (Yld.move rfl) ?_
                  refine WL.new (v' := .bool true) (congrArg Value.bool hc115) ?_
                  refine WL.effG (by decide) rfl (Eff.callS 217 rfl Try.func13 nm_13 rfl rfl (fun w hb hh => w_law03_awake (Mem.snap w) hx116)) ?_
                  rintro _ _ ⟨_, ⟨rfl, rfl⟩, rfl⟩
                  refine WL.yld (by decide) (Yld.pickT rfl rfl) ?_
                  refine WL.yld (by decide) (Yld.assign rfl) ?_
                  refine WL.done (hK107 _ _ ?_)
                  refine WC.ret ?_
                  injection h with h; subst h
                  exact Ret.fn [] (ResIs.one rfl rfl) rfl (Ext.trans (Ext.trans hm_M33 hm_M48) hm_M83) rfl (by decide) rfl rfl ⟨rfl, rfl⟩
                · replace h := of_f hc115 h
                  refine WL.yld (by decide) (Yld.move rfl) ?_
                  refine WL.yld (by decide) (Yld.move rfl) ?_
                  refine WL.yld (by decide) (Yld.eqlI rfl rfl) ?_
                  refine WL.yld (by decide) (Yld.move rfl) ?_
                  refine WL.new (v' := .bool true) (congrArg Value.bool (beq_iff_eq.2 hc108)) ?_
                  refine WL.yldG (by decide) rfl (Yld.move rfl) ?_
                  refine WL.yldG (by decide) rfl (Yld.move rfl) ?_
                  refine WL.yldG (by decide) rfl (Yld.eqlI rfl rfl) ?_
                  refine WL.yld (by decide) (Yld.pickT rfl rfl) ?_
                  refine WL.yld (by decide) (Yld.move rfl) ?_
                  refine WL.new (v' := .bool true) (congrArg Value.bool (beq_iff_eq.2 hc109)) ?_
                  refine WL.yldG (by decide) rfl (Yld.loadBM (k := 161) agg_27 rfl rfl rfl) ?_
                  refine WL.yldG (by decide) rfl (Yld.loadBM (k := 171) agg_24 rfl rfl rfl) ?_
                  refine WL.effG (by decide) rfl (Eff.callS 211 rfl Try.func21 nm_21 rfl rfl (fun w hb hh => w_law03_same (Mem.snap w) x53.1 x53.2.1 A58 n59 c60 _ (RdH.sn (RdH.own (k := 157) rfl) w hb hh) x63.1 x63.2.1 A68 n69 c70 _ (RdH.sn (RdH.own (k := 167) rfl) w hb hh) hx110)) ?_
                  rintro _ _ ⟨_, ⟨rfl, rfl⟩, rfl⟩
                  refine WL.yld (by decide) (Yld.pickT rfl rfl) ?_
                  refine WL.yld (by decide) (Yld.move rfl) ?_
                  refine WL.new (v' := .bool true) (congrArg Value.bool hc112) ?_
                  refine WL.yldG (by decide) rfl (Yld.loadBM (k := 196) agg_27 rfl rfl rfl) ?_
                  refine WL.yldG (by decide) rfl (Yld.loadBM (k := 206) agg_24 rfl rfl rfl) ?_
                  refine WL.effG (by decide) rfl (Eff.callS 214 rfl Try.func21 nm_21 rfl rfl (fun w hb hh => w_law03_same (Mem.snap w) x88.1 x88.2.1 A93 n94 c95 _ (RdH.sn (RdH.own (k := 192) rfl) w hb hh) x98.1 x98.2.1 A103 n104 c105 _ (RdH.sn (RdH.own (k := 202) rfl) w hb hh) hx113)) ?_
                  rintro _ _ ⟨_, ⟨rfl, rfl⟩, rfl⟩
                  refine WL.yld (by decide) (Yld.pickT rfl rfl) ?_
                  refine WL.yld (by decide) (Yld.move rfl) ?_
                  refine WL.new (v' := .bool false) (congrArg Value.bool (Bool.eq_false_iff.2 hc115)) ?_
                  refine WL.skip (by decide) rfl rfl ?_
                  refine WL.yld (by decide) (Yld.pickF rfl rfl) ?_
                  refine WL.yld (by decide) (Yld.assign rfl) ?_
                  refine WL.done (hK107 _ _ ?_)
                  refine WC.ret ?_
                  injection h with h; subst h
                  exact Ret.fn [] (ResIs.one rfl rfl) rfl (Ext.trans (Ext.trans hm_M33 hm_M48) hm_M83) rfl (by decide) rfl rfl ⟨rfl, rfl⟩
              · replace h := of_f hc112 h
                refine WL.yld (by decide) (Yld.move rfl) ?_
                refine WL.yld (by decide) (Yld.move rfl) ?_
                refine WL.yld (by decide) (Yld.eqlI rfl rfl) ?_
                refine WL.yld (by decide) (Yld.move rfl) ?_
                refine WL.new (v' := .bool true) (congrArg Value.bool (beq_iff_eq.2 hc108)) ?_
                refine WL.yldG (by decide) rfl (Yld.move rfl) ?_
                refine WL.yldG (by decide) rfl (Yld.move rfl) ?_
                refine WL.yldG (by decide) rfl (Yld.eqlI rfl rfl) ?_
                refine WL.yld (by decide) (Yld.pickT rfl rfl) ?_
                refine WL.yld (by decide) (Yld.move rfl) ?_
                refine WL.new (v' := .bool true) (congrArg Value.bool (beq_iff_eq.2 hc109)) ?_
                refine WL.yldG (by decide) rfl (Yld.loadBM (k := 161) agg_27 rfl rfl rfl) ?_
                refine WL.yldG (by decide) rfl (Yld.loadBM (k := 171) agg_24 rfl rfl rfl) ?_
                refine WL.effG (by decide) rfl (Eff.callS 211 rfl Try.func21 nm_21 rfl rfl (fun w hb hh => w_law03_same (Mem.snap w) x53.1 x53.2.1 A58 n59 c60 _ (RdH.sn (RdH.own (k := 157) rfl) w hb hh) x63.1 x63.2.1 A68 n69 c70 _ (RdH.sn (RdH.own (k := 167) rfl) w hb hh) hx110)) ?_
                rintro _ _ ⟨_, ⟨rfl, rfl⟩, rfl⟩
                refine WL.yld (by decide) (Yld.pickT rfl rfl) ?_
                refine WL.yld (by decide) (Yld.move rfl) ?_
                refine WL.new (v' := .bool false) (congrArg Value.bool (Bool.eq_false_iff.2 hc112)) ?_
                refine WL.skip (by decide) rfl rfl ?_
                refine WL.skip (by decide) rfl rfl ?_
                refine WL.skip (by decide) rfl rfl ?_
                refine WL.yld (by decide) (Yld.pickF rfl rfl) ?_
                refine WL.yld (by decide) (Yld.move rfl) ?_
                refine WL.skip (by decide) rfl rfl ?_
                refine WL.yld (by decide) (Yld.pickF rfl rfl) ?_
                refine WL.yld (by decide) (Yld.assign rfl) ?_
                refine WL.done (hK107 _ _ ?_)
                refine WC.ret ?_
                injection h with h; subst h
                exact Ret.fn [] (ResIs.one rfl rfl) rfl (Ext.trans (Ext.trans hm_M33 hm_M48) hm_M83) rfl (by decide) rfl rfl ⟨rfl, rfl⟩
            · replace h := of_f hc109 h
              refine WL.yld (by decide) (Yld.move rfl) ?_
              refine WL.yld (by decide) (Yld.move rfl) ?_
              refine WL.yld (by decide) (Yld.eqlI rfl rfl) ?_
              refine WL.yld (by decide) (Yld.move rfl) ?_
              refine WL.new (v' := .bool true) (congrArg Value.bool (beq_iff_eq.2 hc108)) ?_
              refine WL.yldG (by decide) rfl (Yld.move rfl) ?_
              refine WL.yldG (by decide) rfl (Yld.move rfl) ?_
              refine WL.yldG (by decide) rfl (Yld.eqlI rfl rfl) ?_
              refine WL.yld (by decide) (Yld.pickT rfl rfl) ?_
              refine WL.yld (by decide) (Yld.move rfl) ?_
              refine WL.new (v' := .bool false) (congrArg Value.bool (beq_eq_false_iff_ne.2 hc109)) ?_
              refine WL.skip (by decide) rfl rfl ?_
              refine WL.skip (by decide) rfl rfl ?_
              refine WL.skip (by decide) rfl rfl ?_
              refine WL.yld (by decide) (Yld.pickF rfl rfl) ?_
              refine WL.yld (by decide) (Yld.move rfl) ?_
              refine WL.skip (by decide) rfl rfl ?_
              refine WL.skip (by decide) rfl rfl ?_
              refine WL.skip (by decide) rfl rfl ?_
              refine WL.yld (by decide) (Yld.pickF rfl rfl) ?_
              refine WL.yld (by decide) (Yld.move rfl) ?_
              refine WL.skip (by decide) rfl rfl ?_
              refine WL.yld (by decide) (Yld.pickF rfl rfl) ?_
              refine WL.yld (by decide) (Yld.assign rfl) ?_
              refine WL.done (hK107 _ _ ?_)
              refine WC.ret ?_
              injection h with h; subst h
              exact Ret.fn [] (ResIs.one rfl rfl) rfl (Ext.trans (Ext.trans hm_M33 hm_M48) hm_M83) rfl (by decide) rfl rfl ⟨rfl, rfl⟩
          · replace h := of_f hc108 h
            refine WL.yld (by decide) (Yld.move rfl) ?_
            refine WL.yld (by decide) (Yld.move rfl) ?_
            refine WL.yld (by decide) (Yld.eqlI rfl rfl) ?_
            refine WL.yld (by decide) (Yld.move rfl) ?_
            refine WL.new (v' := .bool false) (congrArg Value.bool (beq_eq_false_iff_ne.2 hc108)) ?_
            refine WL.skip (by decide) rfl rfl ?_
            refine WL.skip (by decide) rfl rfl ?_
            refine WL.skip (by decide) rfl rfl ?_
            refine WL.yld (by decide) (Yld.pickF rfl rfl) ?_
            refine WL.yld (by decide) (Yld.move rfl) ?_
            refine WL.skip (by decide) rfl rfl ?_
            refine WL.skip (by decide) rfl rfl ?_
            refine WL.skip (by decide) rfl rfl ?_
            refine WL.yld (by decide) (Yld.pickF rfl rfl) ?_
            refine WL.yld (by decide) (Yld.move rfl) ?_
            refine WL.skip (by decide) rfl rfl ?_
            refine WL.skip (by decide) rfl rfl ?_
            refine WL.skip (by decide) rfl rfl ?_
            refine WL.yld (by decide) (Yld.pickF rfl rfl) ?_
            refine WL.yld (by decide) (Yld.move rfl) ?_
            refine WL.skip (by decide) rfl rfl ?_
            refine WL.yld (by decide) (Yld.pickF rfl rfl) ?_
            refine WL.yld (by decide) (Yld.assign rfl) ?_
            refine WL.done (hK107 _ _ ?_)
            refine WC.ret ?_
            injection h with h; subst h
            exact Ret.fn [] (ResIs.one rfl rfl) rfl (Ext.trans (Ext.trans hm_M33 hm_M48) hm_M83) rfl (by decide) rfl rfl ⟨rfl, rfl⟩
        · skip
          refine WS.eff rfl (by decide) (Eff.alloc 161 rfl zr_27) ?_
          rintro _ _ ⟨g61, rfl, rfl⟩
          refine ⟨(Sub.cons rfl (Sub.cons rfl (Sub.nil _))), ?_⟩
          refine WD.one 4 (by kernel_rfl) ?_
          refine WS.eff rfl (by decide) (Eff.callS 157 rfl Try.func30 nm_30 rfl rfl (fun w hb hh => w_gfmatrix_Mul (Mem.snap w) x23.1 x23.2.1 A34 n35 c36 _ (RdH.sn (RdH.memM (k := 0) rfl (SlRc.lift hf37 hm_M48)) w hb hh) x38.1 x38.2.1 A49 n50 c51 _ (RdH.sn (RdH.memM (k := 0) rfl hf52) w hb hh) hx53)) ?_
          rintro _ _ ⟨_, ⟨A58, n59, c60, rfl, rfl⟩, rfl⟩
          refine ⟨(Sub.cons rfl (Sub.cons rfl (Sub.nil _))), ?_⟩
          refine WD.take 5 rfl (by kernel_rfl) (by kernel_rfl) (by kernel_rfl) (by decide) (Yld.move rfl) ?_
          refine WD.take 6 rfl (by kernel_rfl) (by kernel_rfl) (by kernel_rfl) (by decide) (Yld.extract rfl rfl) ?_
          refine WD.take 7 rfl (by kernel_rfl) (by kernel_rfl) (by kernel_rfl) (by decide) (Yld.extract rfl rfl) ?_
          refine WD.one 9 (by kernel_rfl) ?_
          refine WS.eff0 rfl (Eff0.storeBAM 161 agg_27 rfl rfl rfl ⟨rfl, rfl⟩ rfl) (Sub.cons rfl (Sub.cons rfl (Sub.nil _))) ?_
          refine WD.take 10 rfl (by kernel_rfl) (by kernel_rfl) (by kernel_rfl) (by decide) (Yld.assign rfl) ?_
          refine WD.done (by kernel_rfl) (hK22 _ _ ?_)
          refine WC.seqRegion fun K118 hK118 => ?_
          obtain ⟨x119, hx119, h⟩ := bnd h
          refine WL.yld (by decide) (Yld.loadBM (k := 102) agg_24 rfl rfl rfl) ?_
          refine WL.yld (by decide) (Yld.loadBM (k := 103) agg_24 rfl rfl rfl) ?_
          refine WL.eff (by decide) (Eff.callS 223 rfl Try.func32 nm_32 rfl rfl (fun w hb hh => w_r03_Mul (Mem.snap w) x00_0 x00_1 A00_2 n00_2 c00_2 _ (RdH.sn (RdH.memM (k := 0) rfl (SlRc.lift (SlRc.lift hf00_2 hm_M33) hm_M48)) w hb hh) x01_0 x01_1 A01_2 n01_2 c01_2 _ (RdH.sn (RdH.memM (k := 0) rfl (SlRc.lift (SlRc.lift hf01_2 hm_M33) hm_M48)) w hb hh) hx119)) ?_
          rintro _ _ ⟨_, ⟨A124, n125, c126, rfl, rfl⟩, rfl⟩
          refine WL.yld (by decide) (Yld.move rfl) ?_
          refine WL.yld (by decide) (Yld.extract rfl rfl) ?_
          refine WL.yld (by decide) (Yld.extract rfl rfl) ?_
          refine WL.eff (by decide) (Eff.alloc 227 rfl zr_24) ?_
          rintro _ _ ⟨g127, rfl, rfl⟩
          refine WL.eff0 (Eff0.storeBAM 227 agg_24 rfl rfl rfl ⟨rfl, rfl⟩ rfl) ?_
          refine WL.yld (by decide) (Yld.assign rfl) ?_
          refine WL.done (hK118 _ _ ?_)
          refine WC.seqRegion fun K128 hK128 => ?_
          obtain ⟨x129, hx129, h⟩ := bnd h
          obtain ⟨x144, hx144, h⟩ := bnd h
          refine WL.yld (by decide) (Yld.loadBM (k := 102) agg_24 rfl rfl rfl) ?_
          refine WL.eff (by decide) (Eff.callM 234 rfl Try.func19 nm_19 rfl rfl rfl (w_law03_given _ x00_0 x00_1 A00_2 n00_2 c00_2 _ (SlRc.lift (SlRc.lift hf00_2 hm_M33) hm_M48) hx129)) ?_
          rintro _ _ ⟨M139, _, ⟨A140, n141, c142, rfl, rfl, hf143⟩, hm_M139, rfl⟩
          refine WL.yld (by decide) (Yld.move rfl) ?_
          refine WL.eff (by decide) (Eff.callS 248 rfl Try.func29 nm_29 rfl rfl (fun w hb hh => w_gfmatrix_Pick (Mem.snap w) x129.1 x129.2.1 A140 n141 c142 _ (RdH.sn (RdH.memM (k := 0) rfl hf143) w hb hh) A02 n02 c02 _ (RdH.sn (RdH.memM (k := 0) rfl (SlRc.lift (SlRc.lift (SlRc.lift hf02 hm_M33) hm_M48) hm_M139)) w hb hh) hx144)) ?_
          rintro _ _ ⟨_, ⟨A149, n150, c151, rfl, rfl⟩, rfl⟩
          refine WL.yld (by decide) (Yld.move rfl) ?_
          refine WL.yld (by decide) (Yld.extract rfl rfl) ?_
          refine WL.yld (by decide) (Yld.extract rfl rfl) ?_
          refine WL.eff (by decide) (Eff.alloc 252 rfl zr_27) ?_
          rintro _ _ ⟨g152, rfl, rfl⟩
          refine WL.eff0 (Eff0.storeBAM 252 agg_27 rfl rfl rfl ⟨rfl, rfl⟩ rfl) ?_
          refine WL.yld (by decide) (Yld.assign rfl) ?_
          refine WL.done (hK128 _ _ ?_)
          refine WC.seqRegion fun K153 hK153 => ?_
          obtain ⟨x154, hx154, h⟩ := bnd h
          refine WL.yld (by decide) (Yld.loadBM (k := 102) agg_24 rfl rfl rfl) ?_
          refine WL.yld (by decide) (Yld.move rfl) ?_
          refine WL.eff (by decide) (Eff.callS 258 rfl Try.func33 nm_33 rfl rfl (fun w hb hh => w_r03_Pick (Mem.snap w) x00_0 x00_1 A00_2 n00_2 c00_2 _ (RdH.sn (RdH.memM (k := 0) rfl (SlRc.lift (SlRc.lift (SlRc.lift hf00_2 hm_M33) hm_M48) hm_M139)) w hb hh) A02 n02 c02 _ (RdH.sn (RdH.memM (k := 0) rfl (SlRc.lift (SlRc.lift (SlRc.lift hf02 hm_M33) hm_M48) hm_M139)) w hb hh) hx154)) ?_
          rintro _ _ ⟨_, ⟨A159, n160, c161, rfl, rfl⟩, rfl⟩
          refine WL.yld (by decide) (Yld.move rfl) ?_
          refine WL.yld (by decide) (Yld.extract rfl rfl) ?_
          refine WL.yld (by decide) (Yld.extract rfl rfl) ?_
          refine WL.eff (by decide) (Eff.alloc 262 rfl zr_24) ?_
          rintro _ _ ⟨g162, rfl, rfl⟩
          refine WL.eff0 (Eff0.storeBAM 262 agg_24 rfl rfl rfl ⟨rfl, rfl⟩ rfl) ?_
          refine WL.yld (by decide) (Yld.assign rfl) ?_
          refine WL.done (hK153 _ _ ?_)
          refine WC.seqRegion fun K163 hK163 => ?_
          by_cases hc164 : x53.2.2.2 = x119.2.2.2
          · replace h := of_t hc164 h
            by_cases hc165 : x144.2.2.2 = x154.2.2.2
            · replace h := of_t hc165 h
              obtain ⟨x166, hx166, h⟩ := bnd h
              by_cases hc168 : x166 = true
              · replace h := of_t hc168 h
                obtain ⟨x169, hx169, h⟩ := bnd h
                by_cases hc171 : x169 = true
                · replace h := of_t hc171 h
                  obtain ⟨x172, hx172, h⟩ := bnd h
                  refine WL.yld (by decide) (Yld.move rfl) ?_
                  refine WL.yld (by decide) (Yld.move rfl) ?_
                  refine WL.yld (by decide) (Yld.eqlI rfl rfl) ?_
                  refine WL.yld (by decide) (Yld.move rfl) ?_
                  refine WL.new (v' := .bool true) (congrArg Value.bool (beq_iff_eq.2 hc164)) ?_
                  refine WL.yldG (by decide) rfl (Yld.move rfl) ?_
                  refine WL.yldG (by decide) rfl (Yld.move rfl) ?_
                  refine WL.yldG (by decide) rfl (Yld.eqlI rfl rfl) ?_
                  refine WL.yld (by decide) (Yld.pickT rfl rfl) ?_
                  refine WL.yld (by decide) (Yld.move rfl) ?_
                  refine WL.new (v' := .bool true) (congrArg Value.bool (beq_iff_eq.2 hc165)) ?_
                  refine WL.yldG (by decide) rfl (Yld.loadBM (k := 161) agg_27 rfl rfl rfl) ?_
                  refine WL.yldG (by decide) rfl (Yld.loadBM (k := 227) agg_24 rfl rfl rfl) ?_
                  refine WL.effG (by decide) rfl (Eff.callS 267 rfl Try.func21 nm_21 rfl rfl (fun w hb hh => w_law03_same (Mem.snap w) x53.1 x53.2.1 A58 n59 c60 _ (RdH.sn (RdH.own (k := 157) rfl) w hb hh) x119.1 x119.2.1 A124 n125 c126 _ (RdH.sn (RdH.own (k := 223) rfl) w hb hh) hx166)) ?_
                  rintro _ _ ⟨_, ⟨rfl, rfl⟩, rfl⟩
                  refine WL.yld (by decide) (Yld.pickT rfl rfl) ?_
                  refine WL.yld (by decide) (Yld.move rfl) ?_
                  refine WL.new (v' := .bool true) (congrArg Value.bool hc168) ?_
                  refine WL.yldG (by decide) rfl (Yld.loadBM (k := 252) agg_27 rfl rfl rfl) ?_
                  refine WL.yldG (by decide) rfl (Yld.loadBM (k := 262) agg_24 rfl rfl rfl) ?_
                  refine WL.effG (by decide) rfl (Eff.callS 270 rfl Try.func21 nm_21 rfl rfl (fun w hb hh => w_law03_same (Mem.snap w) x144.1 x144.2.1 A149 n150 c151 _ (RdH.sn (RdH.own (k := 248) rfl) w hb hh) x154.1 x154.2.1 A159 n160 c161 _ (RdH.sn (RdH.own (k := 258) rfl) w hb hh) hx169)) ?_
                  rintro _ _ ⟨_, ⟨rfl, rfl⟩, rfl⟩
                  refine WL.yld (by decide) (Yld.pickT rfl rfl) ?_
                  refine WL.yld (by decide) (Yld.move rfl) ?_
                  refine WL.new (v' := .bool true) (congrArg Value.bool hc171) ?_
                  refine WL.effG (by decide) rfl (Eff.callS 273 rfl Try.func13 nm_13 rfl rfl (fun w hb hh => w_law03_awake (Mem.snap w) hx172)) ?_
                  rintro _ _ ⟨_, ⟨rfl, rfl⟩, rfl⟩
                  refine WL.yld (by decide) (Yld.pickT rfl rfl) ?_
                  refine WL.yld (by decide) (Yld.assign rfl) ?_
                  refine WL.done (hK163 _ _ ?_)
                  refine WC.ret ?_
                  injection h with h; subst h
                  exact Ret.fn [] (ResIs.one rfl rfl) rfl (Ext.trans (Ext.trans hm_M33 hm_M48) hm_M139) rfl (by decide) rfl rfl ⟨rfl, rfl⟩
                · replace h := of_f hc171 h
                  refine WL.yld (by decide) (Yld.move rfl) ?_
                  refine WL.yld (by decide) (Yld.move rfl) ?_
                  refine WL.yld (by decide) (Yld.eqlI rfl rfl) ?_
                  refine WL.yld (by decide) (Yld.move rfl) ?_
                  refine WL.new (v' := .bool true) (congrArg Value.bool (beq_iff_eq.2 hc164)) ?_
                  refine WL.yldG (by decide) rfl (Yld.move rfl) ?_
                  refine WL.yldG (by decide) rfl (Yld.move rfl) ?_
                  refine WL.yldG (by decide) rfl (Yld.eqlI rfl rfl) ?_
                  refine WL.yld (by decide) (Yld.pickT rfl rfl) ?_
                  refine WL.yld (by decide) (Yld.move rfl) ?_
                  refine WL.new (v' := .bool true) (congrArg Value.bool (beq_iff_eq.2 hc165)) ?_
                  refine WL.yldG (by decide) rfl (Yld.loadBM (k := 161) agg_27 rfl rfl rfl) ?_
                  refine WL.yldG (by decide) rfl (Yld.loadBM (k := 227) agg_24 rfl rfl rfl) ?_
                  refine WL.effG (by decide) rfl (Eff.callS 267 rfl Try.func21 nm_21 rfl rfl (fun w hb hh => w_law03_same (Mem.snap w) x53.1 x53.2.1 A58 n59 c60 _ (RdH.sn (RdH.own (k := 157) rfl) w hb hh) x119.1 x119.2.1 A124 n125 c126 _ (RdH.sn (RdH.own (k := 223) rfl) w hb hh) hx166)) ?_
                  rintro _ _ ⟨_, ⟨rfl, rfl⟩, rfl⟩
                  refine WL.yld (by decide) (Yld.pickT rfl rfl) ?_
                  refine WL.yld (by decide) (Yld.move rfl) ?_
                  refine WL.new (v' := .bool true) (congrArg Value.bool hc168) ?_
                  refine WL.yldG (by decide) rfl (Yld.loadBM (k := 252) agg_27 rfl rfl rfl) ?_
                  refine WL.yldG (by decide) rfl (Yld.loadBM (k := 262) agg_24 rfl rfl rfl) ?_
                  refine WL.effG (by decide) rfl (Eff.callS 270 rfl Try.func21 nm_21 rfl rfl (fun w hb hh => w_law03_same (Mem.snap w) x144.1 x144.2.1 A149 n150 c151 _ (RdH.sn (RdH.own (k := 248) rfl) w hb hh) x154.1 x154.2.1 A159 n160 c161 _ (RdH.sn (RdH.own (k := 258) rfl) w hb hh) hx169)) ?_
                  rintro _ _ ⟨_, ⟨rfl, rfl⟩, rfl⟩
                  refine WL.yld (by decide) (Yld.pickT rfl rfl) ?_
                  refine WL.yld (by decide) (Yld.move rfl) ?_
                  refine WL.new (v' := .bool false) (congrArg Value.bool (Bool.eq_false_iff.2 hc171)) ?_
                  refine WL.skip (by decide) rfl rfl ?_
                  refine WL.yld (by decide) (Yld.pickF rfl rfl) ?_
                  refine WL.yld (by decide) (Yld.assign rfl) ?_
                  refine WL.done (hK163 _ _ ?_)
                  refine WC.ret ?_
                  injection h with h; subst h
                  exact Ret.fn [] (ResIs.one rfl rfl) rfl (Ext.trans (Ext.trans hm_M33 hm_M48) hm_M139) rfl (by decide) rfl rfl ⟨rfl, rfl⟩
              · replace h := of_f hc168 h
                refine WL.yld (by decide) (Yld.move rfl) ?_
                refine WL.yld (by decide) (Yld.move rfl) ?_
                refine WL.yld (by decide) (Yld.eqlI rfl rfl) ?_
                refine WL.yld (by decide) (Yld.move rfl) ?_
                refine WL.new (v' := .bool true) (congrArg Value.bool (beq_iff_eq.2 hc164)) ?_
                refine WL.yldG (by decide) rfl (Yld.move rfl) ?_
                refine WL.yldG (by decide) rfl (Yld.move rfl) ?_
                refine WL.yldG (by decide) rfl (Yld.eqlI rfl rfl) ?_
                refine WL.yld (by decide) (Yld.pickT rfl rfl) ?_
                refine WL.yld (by decide) (Yld.move rfl) ?_
                refine WL.new (v' := .bool true) (congrArg Value.bool (beq_iff_eq.2 hc165)) ?_
                refine WL.yldG (by decide) rfl (Yld.loadBM (k := 161) agg_27 rfl rfl rfl) ?_
                refine WL.yldG (by decide) rfl (Yld.loadBM (k := 227) agg_24 rfl rfl rfl) ?_
                refine WL.effG (by decide) rfl (Eff.callS 267 rfl Try.func21 nm_21 rfl rfl (fun w hb hh => w_law03_same (Mem.snap w) x53.1 x53.2.1 A58 n59 c60 _ (RdH.sn (RdH.own (k := 157) rfl) w hb hh) x119.1 x119.2.1 A124 n125 c126 _ (RdH.sn (RdH.own (k := 223) rfl) w hb hh) hx166)) ?_
                rintro _ _ ⟨_, ⟨rfl, rfl⟩, rfl⟩
                refine WL.yld (by decide) (Yld.pickT rfl rfl) ?_
                refine WL.yld (by decide) (Yld.move rfl) ?_
                refine WL.new (v' := .bool false) (congrArg Value.bool (Bool.eq_false_iff.2 hc168)) ?_
                refine WL.skip (by decide) rfl rfl ?_
                refine WL.skip (by decide) rfl rfl ?_
                refine WL.skip (by decide) rfl rfl ?_
                refine WL.yld (by decide) (Yld.pickF rfl rfl) ?_
                refine WL.yld (by decide) (Yld.move rfl) ?_
                refine WL.skip (by decide) rfl rfl ?_
                refine WL.yld (by decide) (Yld.pickF rfl rfl) ?_
                refine WL.yld (by decide) (Yld.assign rfl) ?_
                refine WL.done (hK163 _ _ ?_)
                refine WC.ret ?_
                injection h with h; subst h
                exact Ret.fn [] (ResIs.one rfl rfl) rfl (Ext.trans (Ext.trans hm_M33 hm_M48) hm_M139) rfl (by decide) rfl rfl ⟨rfl, rfl⟩
            · replace h := of_f hc165 h
              refine WL.yld (by decide) (Yld.move rfl) ?_
              refine WL.yld (by decide) (Yld.move rfl) ?_
              refine WL.yld (by decide) (Yld.eqlI rfl rfl) ?_
              refine WL.yld (by decide) (Yld.move rfl) ?_
              refine WL.new (v' := .bool true) (congrArg Value.bool (beq_iff_eq.2 hc164)) ?_
              refine WL.yldG (by decide) rfl (Yld.move rfl) ?_
              refine WL.yldG (by decide) rfl (Yld.move rfl) ?_
              refine WL.yldG (by decide) rfl (Yld.eqlI rfl rfl) ?_
              refine WL.yld (by decide) (Yld.pickT rfl rfl) ?_
              refine WL.yld (by decide) (Yld.move rfl) ?_
              refine WL.new (v' := .bool false) (congrArg Value.bool (beq_eq_false_iff_ne.2 hc165)) ?_
              refine WL.skip (by decide) rfl rfl ?_
              refine WL.skip (by decide) rfl rfl ?_
              refine WL.skip (by decide) rfl rfl ?_
              refine WL.yld (by decide) (Yld.pickF rfl rfl) ?_
              refine WL.yld (by decide) (Yld.move rfl) ?_
              refine WL.skip (by decide) rfl rfl ?_
              refine WL.skip (by decide) rfl rfl ?_
              refine WL.skip (by decide) rfl rfl ?_
              refine WL.yld (by decide) (Yld.pickF rfl rfl) ?_
              refine WL.yld (by decide) (Yld.move rfl) ?_
              refine WL.skip (by decide) rfl rfl ?_
              refine WL.yld (by decide) (Yld.pickF rfl rfl) ?_
              refine WL.yld (by decide) (Yld.assign rfl) ?_
              refine WL.done (hK163 _ _ ?_)
              refine WC.ret ?_
              injection h with h; subst h
              exact Ret.fn [] (ResIs.one rfl rfl) rfl (Ext.trans (Ext.trans hm_M33 hm_M48) hm_M139) rfl (by decide) rfl rfl ⟨rfl, rfl⟩
          · replace h := of_f hc164 h
            refine WL.yld (by decide) (Yld.move rfl) ?_
            refine WL.yld (by decide) (Yld.move rfl) ?_
            refine WL.yld (by decide) (Yld.eqlI rfl rfl) ?_
            refine WL.yld (by decide) (Yld.move rfl) ?_
            refine WL.new (v' := .bool false) (congrArg Value.bool (beq_eq_false_iff_ne.2 hc164)) ?_
            refine WL.skip (by decide) rfl rfl ?_
            refine WL.skip (by decide) rfl rfl ?_
            refine WL.skip (by decide) rfl rfl ?_
            refine WL.yld (by decide) (Yld.pickF rfl rfl) ?_
            refine WL.yld (by decide) (Yld.move rfl) ?_
            refine WL.skip (by decide) rfl rfl ?_
            refine WL.skip (by decide) rfl rfl ?_
            refine WL.skip (by decide) rfl rfl ?_
            refine WL.yld (by decide) (Yld.pickF rfl rfl) ?_
            refine WL.yld (by decide) (Yld.move rfl) ?_
            refine WL.skip (by decide) rfl rfl ?_
            refine WL.skip (by decide) rfl rfl ?_
            refine WL.skip (by decide) rfl rfl ?_
            refine WL.yld (by decide) (Yld.pickF rfl rfl) ?_
            refine WL.yld (by decide) (Yld.move rfl) ?_
            refine WL.skip (by decide) rfl rfl ?_
            refine WL.yld (by decide) (Yld.pickF rfl rfl) ?_
            refine WL.yld (by decide) (Yld.assign rfl) ?_
            refine WL.done (hK163 _ _ ?_)
            refine WC.ret ?_
            injection h with h; subst h
            exact Ret.fn [] (ResIs.one rfl rfl) rfl (Ext.trans (Ext.trans hm_M33 hm_M48) hm_M139) rfl (by decide) rfl rfl ⟨rfl, rfl⟩
      · skip
        refine WS.eff rfl (by decide) (Eff.alloc 161 rfl zr_27) ?_
        rintro _ _ ⟨g61, rfl, rfl⟩
        refine ⟨(Sub.cons rfl (Sub.cons rfl (Sub.nil _))), ?_⟩
        refine WD.one 3 (by kernel_rfl) ?_
        refine WS.eff rfl (by decide) (Eff.callM 143 rfl Try.func19 nm_19 rfl rfl rfl (w_law03_given _ x01_0 x01_1 A01_2 n01_2 c01_2 _ (SlRc.lift hf01_2 hm_M33) hx38)) ?_
        rintro _ _ ⟨M48, _, ⟨A49, n50, c51, rfl, rfl, hf52⟩, hm_M48, rfl⟩
        refine ⟨(Sub.cons rfl (Sub.cons rfl (Sub.nil _))), ?_⟩
        refine WD.one 4 (by kernel_rfl) ?_
        refine WS.eff rfl (by decide) (Eff.callS 157 rfl Try.func30 nm_30 rfl rfl (fun w hb hh => w_gfmatrix_Mul (Mem.snap w) x23.1 x23.2.1 A34 n35 c36 _ (RdH.sn (RdH.memM (k := 0) rfl (SlRc.lift hf37 hm_M48)) w hb hh) x38.1 x38.2.1 A49 n50 c51 _ (RdH.sn (RdH.memM (k := 0) rfl hf52) w hb hh) hx53)) ?_
        rintro _ _ ⟨_, ⟨A58, n59, c60, rfl, rfl⟩, rfl⟩
        refine ⟨(Sub.cons rfl (Sub.cons rfl (Sub.nil _))), ?_⟩
        refine WD.take 5 rfl (by kernel_rfl) (by kernel_rfl) (by kernel_rfl) (by decide) (Yld.move rfl) ?_
        refine WD.take 6 rfl (by kernel_rfl) (by kernel_rfl) (by kernel_rfl) (by decide) (Yld.extract rfl rfl) ?_
        refine WD.take 7 rfl (by kernel_rfl) (by kernel_rfl) (by kernel_rfl) (by decide) (Yld.extract rfl rfl) ?_
        refine WD.one 9 (by kernel_rfl) ?_
        refine WS.eff0 rfl (Eff0.storeBAM 161 agg_27 rfl rfl rfl ⟨rfl, rfl⟩ rfl) (Sub.cons rfl (Sub.cons rfl (Sub.nil _))) ?_
        refine WD.take 10 rfl (by kernel_rfl) (by kernel_rfl) (by kernel_rfl) (by decide) (Yld.assign rfl) ?_
        refine WD.done (by kernel_rfl) (hK22 _ _ ?_)
        refine WC.seqRegion fun K174 hK174 => ?_
        obtain ⟨x175, hx175, h⟩ := bnd h
        refine WL.yld (by decide) (Yld.loadBM (k := 102) agg_24 rfl rfl rfl) ?_
        refine WL.yld (by decide) (Yld.loadBM (k := 103) agg_24 rfl rfl rfl) ?_
        refine WL.eff (by decide) (Eff.callS 279 rfl Try.func32 nm_32 rfl rfl (fun w hb hh => w_r03_Mul (Mem.snap w) x00_0 x00_1 A00_2 n00_2 c00_2 _ (RdH.sn (RdH.memM (k := 0) rfl (SlRc.lift (SlRc.lift hf00_2 hm_M33) hm_M48)) w hb hh) x01_0 x01_1 A01_2 n01_2 c01_2 _ (RdH.sn (RdH.memM (k := 0) rfl (SlRc.lift (SlRc.lift hf01_2 hm_M33) hm_M48)) w hb hh) hx175)) ?_
        rintro _ _ ⟨_, ⟨A180, n181, c182, rfl, rfl⟩, rfl⟩
        refine WL.yld (by decide) (Yld.move rfl) ?_
        refine WL.yld (by decide) (Yld.extract rfl rfl) ?_
        refine WL.yld (by decide) (Yld.extract rfl rfl) ?_
        refine WL.eff (by decide) (Eff.alloc 283 rfl zr_24) ?_
        rintro _ _ ⟨g183, rfl, rfl⟩
        refine WL.eff0 (Eff0.storeBAM 283 agg_24 rfl rfl rfl ⟨rfl, rfl⟩ rfl) ?_
        refine WL.yld (by decide) (Yld.assign rfl) ?_
        refine WL.done (hK174 _ _ ?_)
        refine WC.seqRegion fun K184 hK184 => ?_
        obtain ⟨x185, hx185, h⟩ := bnd h
        obtain ⟨x200, hx200, h⟩ := bnd h
        refine WL.yld (by decide) (Yld.loadBM (k := 102) agg_24 rfl rfl rfl) ?_
        refine WL.eff (by decide) (Eff.callM 290 rfl Try.func19 nm_19 rfl rfl rfl (w_law03_given _ x00_0 x00_1 A00_2 n00_2 c00_2 _ (SlRc.lift (SlRc.lift hf00_2 hm_M33) hm_M48) hx185)) ?_
        rintro _ _ ⟨M195, _, ⟨A196, n197, c198, rfl, rfl, hf199⟩, hm_M195, rfl⟩
        refine WL.yld (by decide) (Yld.move rfl) ?_
        refine WL.eff (by decide) (Eff.callS 304 rfl Try.func29 nm_29 rfl rfl (fun w hb hh => w_gfmatrix_Pick (Mem.snap w) x185.1 x185.2.1 A196 n197 c198 _ (RdH.sn (RdH.memM (k := 0) rfl hf199) w hb hh) A02 n02 c02 _ (RdH.sn (RdH.memM (k := 0) rfl (SlRc.lift (SlRc.lift (SlRc.lift hf02 hm_M33) hm_M48) hm_M195)) w hb hh) hx200)) ?_
        rintro _ _ ⟨_, ⟨A205, n206, c207, rfl, rfl⟩, rfl⟩
        refine WL.yld (by decide) (Yld.move rfl) ?_
        refine WL.yld (by decide) (Yld.extract rfl rfl) ?_
        refine WL.yld (by decide) (Yld.extract rfl rfl) ?_
        refine WL.eff (by decide) (Eff.alloc 308 rfl zr_27) ?_
        rintro _ _ ⟨g208, rfl, rfl⟩
        refine WL.eff0 (Eff0.storeBAM 308 agg_27 rfl rfl rfl ⟨rfl, rfl⟩ rfl) ?_
        refine WL.yld (by decide) (Yld.assign rfl) ?_
        refine WL.done (hK184 _ _ ?_)
        refine WC.seqRegion fun K209 hK209 => ?_
        obtain ⟨x210, hx210, h⟩ := bnd h
        refine WL.yld (by decide) (Yld.loadBM (k := 102) agg_24 rfl rfl rfl) ?_
        refine WL.yld (by decide) (Yld.move rfl) ?_
        refine WL.eff (by decide) (Eff.callS 314 rfl Try.func33 nm_33 rfl rfl (fun w hb hh => w_r03_Pick (Mem.snap w) x00_0 x00_1 A00_2 n00_2 c00_2 _ (RdH.sn (RdH.memM (k := 0) rfl (SlRc.lift (SlRc.lift (SlRc.lift hf00_2 hm_M33) hm_M48) hm_M195)) w hb hh) A02 n02 c02 _ (RdH.sn (RdH.memM (k := 0) rfl (SlRc.lift (SlRc.lift (SlRc.lift hf02 hm_M33) hm_M48) hm_M195)) w hb hh) hx210)) ?_
        rintro _ _ ⟨_, ⟨A215, n216, c217, rfl, rfl⟩, rfl⟩
        refine WL.yld (by decide) (Yld.move rfl) ?_
        refine WL.yld (by decide) (Yld.extract rfl rfl) ?_
        refine WL.yld (by decide) (Yld.extract rfl rfl) ?_
        refine WL.eff (by decide) (Eff.alloc 318 rfl zr_24) ?_
        rintro _ _ ⟨g218, rfl, rfl⟩
        refine WL.eff0 (Eff0.storeBAM 318 agg_24 rfl rfl rfl ⟨rfl, rfl⟩ rfl) ?_
        refine WL.yld (by decide) (Yld.assign rfl) ?_
        refine WL.done (hK209 _ _ ?_)
        refine WC.seqRegion fun K219 hK219 => ?_
        by_cases hc220 : x53.2.2.2 = x175.2.2.2
        · replace h := of_t hc220 h
          by_cases hc221 : x200.2.2.2 = x210.2.2.2
          · replace h := of_t hc221 h
            obtain ⟨x222, hx222, h⟩ := bnd h
            by_cases hc224 : x222 = true
            · replace h := of_t hc224 h
              obtain ⟨x225, hx225, h⟩ := bnd h
              by_cases hc227 : x225 = true
              · replace h := of_t hc227 h
                obtain ⟨x228, hx228, h⟩ := bnd h
                refine WL.yld (by decide) (Yld.move rfl) ?_
                refine WL.yld (by decide) (Yld.move rfl) ?_
                refine WL.yld (by decide) (Yld.eqlI rfl rfl) ?_
                refine WL.yld (by decide) (Yld.move rfl) ?_
                refine WL.new (v' := .bool true) (congrArg Value.bool (beq_iff_eq.2 hc220)) ?_
                refine WL.yldG (by decide) rfl (Yld.move rfl) ?_
                refine WL.yldG (by decide) rfl (Yld.move rfl) ?_
                refine WL.yldG (by decide) rfl (Yld.eqlI rfl rfl) ?_
                refine WL.yld (by decide) (Yld.pickT rfl rfl) ?_
                refine WL.yld (by decide) (Yld.move rfl) ?_
                refine WL.new (v' := .bool true) (congrArg Value.bool (beq_iff_eq.2 hc221)) ?_
                refine WL.yldG (by decide) rfl (Yld.loadBM (k := 161) agg_27 rfl rfl rfl) ?_
                refine WL.yldG (by decide) rfl (Yld.loadBM (k := 283) agg_24 rfl rfl rfl) ?_
                refine WL.effG (by decide) rfl (Eff.callS 323 rfl Try.func21 nm_21 rfl rfl (fun w hb hh => w_law03_same (Mem.snap w) x53.1 x53.2.1 A58 n59 c60 _ (RdH.sn (RdH.own (k := 157) rfl) w hb hh) x175.1 x175.2.1 A180 n181 c182 _ (RdH.sn (RdH.own (k := 279) rfl) w hb hh) hx222)) ?_
                rintro _ _ ⟨_, ⟨rfl, rfl⟩, rfl⟩
                refine WL.yld (by decide) (Yld.pickT rfl rfl) ?_
                refine WL.yld (by decide) (Yld.move rfl) ?_
                refine WL.new (v' := .bool true) (congrArg Value.bool hc224) ?_
                refine WL.yldG (by decide) rfl (Yld.loadBM (k := 308) agg_27 rfl rfl rfl) ?_
                refine WL.yldG (by decide) rfl (Yld.loadBM (k := 318) agg_24 rfl rfl rfl) ?_
                refine WL.effG (by decide) rfl (Eff.callS 326 rfl Try.func21 nm_21 rfl rfl (fun w hb hh => w_law03_same (Mem.snap w) x200.1 x200.2.1 A205 n206 c207 _ (RdH.sn (RdH.own (k := 304) rfl) w hb hh) x210.1 x210.2.1 A215 n216 c217 _ (RdH.sn (RdH.own (k := 314) rfl) w hb hh) hx225)) ?_
                rintro _ _ ⟨_, ⟨rfl, rfl⟩, rfl⟩
                refine WL.yld (by decide) (Yld.pickT rfl rfl) ?_
                refine WL.yld (by decide) (Yld.move rfl) ?_
                refine WL.new (v' := .bool true) (congrArg Value.bool hc227) ?_
                refine WL.effG (by decide) rfl (Eff.callS 329 rfl Try.func13 nm_13 rfl rfl (fun w hb hh => w_law03_awake (Mem.snap w) hx228)) ?_
                rintro _ _ ⟨_, ⟨rfl, rfl⟩, rfl⟩
                refine WL.yld (by decide) (Yld.pickT rfl rfl) ?_
                refine WL.yld (by decide) (Yld.assign rfl) ?_
                refine WL.done (hK219 _ _ ?_)
                refine WC.ret ?_
                injection h with h; subst h
                exact Ret.fn [] (ResIs.one rfl rfl) rfl (Ext.trans (Ext.trans hm_M33 hm_M48) hm_M195) rfl (by decide) rfl rfl ⟨rfl, rfl⟩
              · replace h := of_f hc227 h
                refine WL.yld (by decide) (Yld.move rfl) ?_
                refine WL.yld (by decide) (Yld.move rfl) ?_
                refine WL.yld (by decide) (Yld.eqlI rfl rfl) ?_
                refine WL.yld (by decide) (Yld.move rfl) ?_
                refine WL.new (v' := .bool true) (congrArg Value.bool (beq_iff_eq.2 hc220)) ?_
                refine WL.yldG (by decide) rfl (Yld.move rfl) ?_
                refine WL.yldG (by decide) rfl (Yld.move rfl) ?_
                refine WL.yldG (by decide) rfl (Yld.eqlI rfl rfl) ?_
                refine WL.yld (by decide) (Yld.pickT rfl rfl) ?_
                refine WL.yld (by decide) (Yld.move rfl) ?_
                refine WL.new (v' := .bool true) (congrArg Value.bool (beq_iff_eq.2 hc221)) ?_
                refine WL.yldG (by decide) rfl (Yld.loadBM (k := 161) agg_27 rfl rfl rfl) ?_
                refine WL.yldG (by decide) rfl (Yld.loadBM (k := 283) agg_24 rfl rfl rfl) ?_
                refine WL.effG (by decide) rfl (Eff.callS 323 rfl Try.func21 nm_21 rfl rfl (fun w hb hh => w_law03_same (Mem.snap w) x53.1 x53.2.1 A58 n59 c60 _ (RdH.sn (RdH.own (k := 157) rfl) w hb hh) x175.1 x175.2.1 A180 n181 c182 _ (RdH.sn (RdH.own (k := 279) rfl) w hb hh) hx222)) ?_
                rintro _ _ ⟨_, ⟨rfl, rfl⟩, rfl⟩
                refine WL.yld (by decide) (Yld.pickT rfl rfl) ?_
                refine WL.yld (by decide) (Yld.move rfl) ?_
                refine WL.new (v' := .bool true) (congrArg Value.bool hc224) ?_
                refine WL.yldG (by decide) rfl (Yld.loadBM (k := 308) agg_27 rfl rfl rfl) ?_
                refine WL.yldG (by decide) rfl (Yld.loadBM (k := 318) agg_24 rfl rfl rfl) ?_
                refine WL.effG (by decide) rfl (Eff.callS 326 rfl Try.func21 nm_21 rfl rfl (fun w hb hh => w_law03_same (Mem.snap w) x200.1 x200.2.1 A205 n206 c207 _ (RdH.sn (RdH.own (k := 304) rfl) w hb hh) x210.1 x210.2.1 A215 n216 c217 _ (RdH.sn (RdH.own (k := 314) rfl) w hb hh) hx225)) ?_
                rintro _ _ ⟨_, ⟨rfl, rfl⟩, rfl⟩
                refine WL.yld (by decide) (Yld.pickT rfl rfl) ?_
                refine WL.yld (by decide) (Yld.move rfl) ?_
                refine WL.new (v' := .bool false) (congrArg Value.bool (Bool.eq_false_iff.2 hc227)) ?_
                refine WL.skip (by decide) rfl rfl ?_
                refine WL.yld (by decide) (Yld.pickF rfl rfl) ?_
                refine WL.yld (by decide) (Yld.assign rfl) ?_
                refine WL.done (hK219 _ _ ?_)
                refine WC.ret ?_
                injection h with h; subst h
                exact Ret.fn [] (ResIs.one rfl rfl) rfl (Ext.trans (Ext.trans hm_M33 hm_M48) hm_M195) rfl (by decide) rfl rfl ⟨rfl, rfl⟩
            · replace h := of_f hc224 h
              refine WL.yld (by decide) (Yld.move rfl) ?_
              refine WL.yld (by decide) (Yld.move rfl) ?_
              refine WL.yld (by decide) (Yld.eqlI rfl rfl) ?_
              refine WL.yld (by decide) (Yld.move rfl) ?_
              refine WL.new (v' := .bool true) (congrArg Value.bool (beq_iff_eq.2 hc220)) ?_
              refine WL.yldG (by decide) rfl (Yld.move rfl) ?_
              refine WL.yldG (by decide) rfl (Yld.move rfl) ?_
              refine WL.yldG (by decide) rfl (Yld.eqlI rfl rfl) ?_
              refine WL.yld (by decide) (Yld.pickT rfl rfl) ?_
              refine WL.yld (by decide) (Yld.move rfl) ?_
              refine WL.new (v' := .bool true) (congrArg Value.bool (beq_iff_eq.2 hc221)) ?_
              refine WL.yldG (by decide) rfl (Yld.loadBM (k := 161) agg_27 rfl rfl rfl) ?_
              refine WL.yldG (by decide) rfl (Yld.loadBM (k := 283) agg_24 rfl rfl rfl) ?_
              refine WL.effG (by decide) rfl (Eff.callS 323 rfl Try.func21 nm_21 rfl rfl (fun w hb hh => w_law03_same (Mem.snap w) x53.1 x53.2.1 A58 n59 c60 _ (RdH.sn (RdH.own (k := 157) rfl) w hb hh) x175.1 x175.2.1 A180 n181 c182 _ (RdH.sn (RdH.own (k := 279) rfl) w hb hh) hx222)) ?_
              rintro _ _ ⟨_, ⟨rfl, rfl⟩, rfl⟩
              refine WL.yld (by decide) (Yld.pickT rfl rfl) ?_
              refine WL.yld (by decide) (Yld.move rfl) ?_
              refine WL.new (v' := .bool false) (congrArg Value.bool (Bool.eq_false_iff.2 hc224)) ?_
              refine WL.skip (by decide) rfl rfl ?_
              refine WL.skip (by decide) rfl rfl ?_
              refine WL.skip (by decide) rfl rfl ?_
              refine WL.yld (by decide) (Yld.pickF rfl rfl) ?_
              refine WL.yld (by decide) (Yld.move rfl) ?_
              refine WL.skip (by decide) rfl rfl ?_
              refine WL.yld (by decide) (Yld.pickF rfl rfl) ?_
              refine WL.yld (by decide) (Yld.assign rfl) ?_
              refine WL.done (hK219 _ _ ?_)
              refine WC.ret ?_
              injection h with h; subst h
              exact Ret.fn [] (ResIs.one rfl rfl) rfl (Ext.trans (Ext.trans hm_M33 hm_M48) hm_M195) rfl (by decide) rfl rfl ⟨rfl, rfl⟩
          · replace h := of_f hc221 h
            refine WL.yld (by decide) (Yld.move rfl) ?_
            refine WL.yld (by decide) (Yld.move rfl) ?_
            refine WL.yld (by decide) (Yld.eqlI rfl rfl) ?_
            refine WL.yld (by decide) (Yld.move rfl) ?_
            refine WL.new (v' := .bool true) (congrArg Value.bool (beq_iff_eq.2 hc220)) ?_
            refine WL.yldG (by decide) rfl (Yld.move rfl) ?_
            refine WL.yldG (by decide) rfl (Yld.move rfl) ?_
            refine WL.yldG (by decide) rfl (Yld.eqlI rfl rfl) ?_
            refine WL.yld (by decide) (Yld.pickT rfl rfl) ?_
            refine WL.yld (by decide) (Yld.move rfl) ?_
            refine WL.new (v' := .bool false) (congrArg Value.bool (beq_eq_false_iff_ne.2 hc221)) ?_
            refine WL.skip (by decide) rfl rfl ?_
            refine WL.skip (by decide) rfl rfl ?_
            refine WL.skip (by decide) rfl rfl ?_
            refine WL.yld (by decide) (Yld.pickF rfl rfl) ?_
            refine WL.yld (by decide) (Yld.move rfl) ?_
            refine WL.skip (by decide) rfl rfl ?_
            refine WL.skip (by decide) rfl rfl ?_
            refine WL.skip (by decide) rfl rfl ?_
            refine WL.yld (by decide) (Yld.pickF rfl rfl) ?_
            refine WL.yld (by decide) (Yld.move rfl) ?_
            refine WL.skip (by decide) rfl rfl ?_
            refine WL.yld (by decide) (Yld.pickF rfl rfl) ?_
            refine WL.yld (by decide) (Yld.assign rfl) ?_
            refine WL.done (hK219 _ _ ?_)
            refine WC.ret ?_
            injection h with h; subst h
            exact Ret.fn [] (ResIs.one rfl rfl) rfl (Ext.trans (Ext.trans hm_M33 hm_M48) hm_M195) rfl (by decide) rfl rfl ⟨rfl, rfl⟩
        · replace h := of_f hc220 h
          refine WL.yld (by decide) (Yld.move rfl) ?_
          refine WL.yld (by decide) (Yld.move rfl) ?_
          refine WL.yld (by decide) (Yld.eqlI rfl rfl) ?_
          refine WL.yld (by decide) (Yld.move rfl) ?_
          refine WL.new (v' := .bool false) (congrArg Value.bool (beq_eq_false_iff_ne.2 hc220)) ?_
          refine WL.skip (by decide) rfl rfl ?_
          refine WL.skip (by decide) rfl rfl ?_
          refine WL.skip (by decide) rfl rfl ?_
          refine WL.yld (by decide) (Yld.pickF rfl rfl) ?_
          refine WL.yld (by decide) (Yld.move rfl) ?_
          refine WL.skip (by decide) rfl rfl ?_
          refine WL.skip (by decide) rfl rfl ?_
          refine WL.skip (by decide) rfl rfl ?_
          refine WL.yld (by decide) (Yld.pickF rfl rfl) ?_
          refine WL.yld (by decide) (Yld.move rfl) ?_
          refine WL.skip (by decide) rfl rfl ?_
          refine WL.skip (by decide) rfl rfl ?_
          refine WL.skip (by decide) rfl rfl ?_
          refine WL.yld (by decide) (Yld.pickF rfl rfl) ?_
          refine WL.yld (by decide) (Yld.move rfl) ?_
          refine WL.skip (by decide) rfl rfl ?_
          refine WL.yld (by decide) (Yld.pickF rfl rfl) ?_
          refine WL.yld (by decide) (Yld.assign rfl) ?_
          refine WL.done (hK219 _ _ ?_)
          refine WC.ret ?_
          injection h with h; subst h
          exact Ret.fn [] (ResIs.one rfl rfl) rfl (Ext.trans (Ext.trans hm_M33 hm_M48) hm_M195) rfl (by decide) rfl rfl ⟨rfl, rfl⟩
    · skip
      refine WS.eff rfl (by decide) (Eff.alloc 161 rfl zr_27) ?_
      rintro _ _ ⟨g61, rfl, rfl⟩
      refine ⟨(Sub.cons rfl (Sub.cons rfl (Sub.nil _))), ?_⟩
      refine WD.one 1 (by kernel_rfl) ?_
      refine WS.eff rfl (by decide) (Eff.callM 128 rfl Try.func19 nm_19 rfl rfl rfl (w_law03_given _ x00_0 x00_1 A00_2 n00_2 c00_2 _ hf00_2 hx23)) ?_
      rintro _ _ ⟨M33, _, ⟨A34, n35, c36, rfl, rfl, hf37⟩, hm_M33, rfl⟩
      refine ⟨(Sub.cons rfl (Sub.cons rfl (Sub.nil _))), ?_⟩
      refine WD.one 3 (by kernel_rfl) ?_
      refine WS.eff rfl (by decide) (Eff.callM 143 rfl Try.func19 nm_19 rfl rfl rfl (w_law03_given _ x01_0 x01_1 A01_2 n01_2 c01_2 _ (SlRc.lift hf01_2 hm_M33) hx38)) ?_
      rintro _ _ ⟨M48, _, ⟨A49, n50, c51, rfl, rfl, hf52⟩, hm_M48, rfl⟩
      refine ⟨(Sub.cons rfl (Sub.cons rfl (Sub.nil _))), ?_⟩
      refine WD.one 4 (by kernel_rfl) ?_
      refine WS.eff rfl (by decide) (Eff.callS 157 rfl Try.func30 nm_30 rfl rfl (fun w hb hh => w_gfmatrix_Mul (Mem.snap w) x23.1 x23.2.1 A34 n35 c36 _ (RdH.sn (RdH.memM (k := 0) rfl (SlRc.lift hf37 hm_M48)) w hb hh) x38.1 x38.2.1 A49 n50 c51 _ (RdH.sn (RdH.memM (k := 0) rfl hf52) w hb hh) hx53)) ?_
      rintro _ _ ⟨_, ⟨A58, n59, c60, rfl, rfl⟩, rfl⟩
      refine ⟨(Sub.cons rfl (Sub.cons rfl (Sub.nil _))), ?_⟩
      refine WD.take 5 rfl (by kernel_rfl) (by kernel_rfl) (by kernel_rfl) (by decide) (Yld.move rfl) ?_
      refine WD.take 6 rfl (by kernel_rfl) (by kernel_rfl) (by kernel_rfl) (by decide) (Yld.extract rfl rfl) ?_
      refine WD.take 7 rfl (by kernel_rfl) (by kernel_rfl) (by kernel_rfl) (by decide) (Yld.extract rfl rfl) ?_
      refine WD.one 9 (by kernel_rfl) ?_
      refine WS.eff0 rfl (Eff0.storeBAM 161 agg_27 rfl rfl rfl ⟨rfl, rfl⟩ rfl) (Sub.cons rfl (Sub.cons rfl (Sub.nil _))) ?_
      refine WD.take 10 rfl (by kernel_rfl) (by kernel_rfl) (by kernel_rfl) (by decide) (Yld.assign rfl) ?_
      refine WD.done (by kernel_rfl) (hK22 _ _ ?_)
      refine WC.seqRegion fun K230 hK230 => ?_
      obtain ⟨x231, hx231, h⟩ := bnd h
      refine WL.yld (by decide) (Yld.loadBM (k := 102) agg_24 rfl rfl rfl) ?_
      refine WL.yld (by decide) (Yld.loadBM (k := 103) agg_24 rfl rfl rfl) ?_
      refine WL.eff (by decide) (Eff.callS 335 rfl Try.func32 nm_32 rfl rfl (fun w hb hh => w_r03_Mul (Mem.snap w) x00_0 x00_1 A00_2 n00_2 c00_2 _ (RdH.sn (RdH.memM (k := 0) rfl (SlRc.lift (SlRc.lift hf00_2 hm_M33) hm_M48)) w hb hh) x01_0 x01_1 A01_2 n01_2 c01_2 _ (RdH.sn (RdH.memM (k := 0) rfl (SlRc.lift (SlRc.lift hf01_2 hm_M33) hm_M48)) w hb hh) hx231)) ?_
      rintro _ _ ⟨_, ⟨A236, n237, c238, rfl, rfl⟩, rfl⟩
      refine WL.yld (by decide) (Yld.move rfl) ?_
      refine WL.yld (by decide) (Yld.extract rfl rfl) ?_
      refine WL.yld (by decide) (Yld.extract rfl rfl) ?_
      refine WL.eff (by decide) (Eff.alloc 339 rfl zr_24) ?_
      rintro _ _ ⟨g239, rfl, rfl⟩
      refine WL.eff0 (Eff0.storeBAM 339 agg_24 rfl rfl rfl ⟨rfl, rfl⟩ rfl) ?_
      refine WL.yld (by decide) (Yld.assign rfl) ?_
      refine WL.done (hK230 _ _ ?_)
      refine WC.seqRegion fun K240 hK240 => ?_
      obtain ⟨x241, hx241, h⟩ := bnd h
      obtain ⟨x256, hx256, h⟩ := bnd h
      refine WL.yld (by decide) (Yld.loadBM (k := 102) agg_24 rfl rfl rfl) ?_
      refine WL.eff (by decide) (Eff.callM 346 rfl Try.func19 nm_19 rfl rfl rfl (w_law03_given _ x00_0 x00_1 A00_2 n00_2 c00_2 _ (SlRc.lift (SlRc.lift hf00_2 hm_M33) hm_M48) hx241)) ?_
      rintro _ _ ⟨M251, _, ⟨A252, n253, c254, rfl, rfl, hf255⟩, hm_M251, rfl⟩
      refine WL.yld (by decide) (Yld.move rfl) ?_
      refine WL.eff (by decide) (Eff.callS 360 rfl Try.func29 nm_29 rfl rfl (fun w hb hh => w_gfmatrix_Pick (Mem.snap w) x241.1 x241.2.1 A252 n253 c254 _ (RdH.sn (RdH.memM (k := 0) rfl hf255) w hb hh) A02 n02 c02 _ (RdH.sn (RdH.memM (k := 0) rfl (SlRc.lift (SlRc.lift (SlRc.lift hf02 hm_M33) hm_M48) hm_M251)) w hb hh) hx256)) ?_
      rintro _ _ ⟨_, ⟨A261, n262, c263, rfl, rfl⟩, rfl⟩
      refine WL.yld (by decide) (Yld.move rfl) ?_
      refine WL.yld (by decide) (Yld.extract rfl rfl) ?_
      refine WL.yld (by decide) (Yld.extract rfl rfl) ?_
      refine WL.eff (by decide) (Eff.alloc 364 rfl zr_27) ?_
      rintro _ _ ⟨g264, rfl, rfl⟩
      refine WL.eff0 (Eff0.storeBAM 364 agg_27 rfl rfl rfl ⟨rfl, rfl⟩ rfl) ?_
      refine WL.yld (by decide) (Yld.assign rfl) ?_
      refine WL.done (hK240 _ _ ?_)
      refine WC.seqRegion fun K265 hK265 => ?_
      obtain ⟨x266, hx266, h⟩ := bnd h
      refine WL.yld (by decide) (Yld.loadBM (k := 102) agg_24 rfl rfl rfl) ?_
      refine WL.yld (by decide) (Yld.move rfl) ?_
      refine WL.eff (by decide) (Eff.callS 370 rfl Try.func33 nm_33 rfl rfl (fun w hb hh => w_r03_Pick (Mem.snap w) x00_0 x00_1 A00_2 n00_2 c00_2 _ (RdH.sn (RdH.memM (k := 0) rfl (SlRc.lift (SlRc.lift (SlRc.lift hf00_2 hm_M33) hm_M48) hm_M251)) w hb hh) A02 n02 c02 _ (RdH.sn (RdH.memM (k := 0) rfl (SlRc.lift (SlRc.lift (SlRc.lift hf02 hm_M33) hm_M48) hm_M251)) w hb hh) hx266)) ?_
      rintro _ _ ⟨_, ⟨A271, n272, c273, rfl, rfl⟩, rfl⟩
      refine WL.yld (by decide) (Yld.move rfl) ?_
      refine WL.yld (by decide) (Yld.extract rfl rfl) ?_
      refine WL.yld (by decide) (Yld.extract rfl rfl) ?_
      refine WL.eff (by decide) (Eff.alloc 374 rfl zr_24) ?_
      rintro _ _ ⟨g274, rfl, rfl⟩
      refine WL.eff0 (Eff0.storeBAM 374 agg_24 rfl rfl rfl ⟨rfl, rfl⟩ rfl) ?_
      refine WL.yld (by decide) (Yld.assign rfl) ?_
      refine WL.done (hK265 _ _ ?_)
      refine WC.seqRegion fun K275 hK275 => ?_
      by_cases hc276 : x53.2.2.2 = x231.2.2.2
      · replace h := of_t hc276 h
        by_cases hc277 : x256.2.2.2 = x266.2.2.2
        · replace h := of_t hc277 h
          obtain ⟨x278, hx278, h⟩ := bnd h
          by_cases hc280 : x278 = true
          · replace h := of_t hc280 h
            obtain ⟨x281, hx281, h⟩ := bnd h
            by_cases hc283 : x281 = true
            · replace h := of_t hc283 h
              obtain ⟨x284, hx284, h⟩ := bnd h
              refine WL.yld (by decide) (Yld.move rfl) ?_
              refine WL.yld (by decide) (Yld.move rfl) ?_
              refine WL.yld (by decide) (Yld.eqlI rfl rfl) ?_
              refine WL.yld (by decide) (Yld.move rfl) ?_
              refine WL.new (v' := .bool true) (congrArg Value.bool (beq_iff_eq.2 hc276)) ?_
              refine WL.yldG (by decide) rfl (Yld.move rfl) ?_
              refine WL.yldG (by decide) rfl (Yld.move rfl) ?_
              refine WL.yldG (by decide) rfl (Yld.eqlI rfl rfl) ?_
              refine WL.yld (by decide) (Yld.pickT rfl rfl) ?_
              refine WL.yld (by decide) (Yld.move rfl) ?_
              refine WL.new (v' := .bool true) (congrArg Value.bool (beq_iff_eq.2 hc277)) ?_
              refine WL.yldG (by decide) rfl (Yld.loadBM (k := 161) agg_27 rfl rfl rfl) ?_
              refine WL.yldG (by decide) rfl (Yld.loadBM (k := 339) agg_24 rfl rfl rfl) ?_
              refine WL.effG (by decide) rfl (Eff.callS 379 rfl Try.func21 nm_21 rfl rfl (fun w hb hh => w_law03_same (Mem.snap w) x53.1 x53.2.1 A58 n59 c60 _ (RdH.sn (RdH.own (k := 157) rfl) w hb hh) x231.1 x231.2.1 A236 n237 c238 _ (RdH.sn (RdH.own (k := 335) rfl) w hb hh) hx278)) ?_
              rintro _ _ ⟨_, ⟨rfl, rfl⟩, rfl⟩
              refine WL.yld (by decide) (Yld.pickT rfl rfl) ?_
              refine WL.yld (by decide) (Yld.move rfl) ?_
              refine WL.new (v' := .bool true) (congrArg Value.bool hc280) ?_
              refine WL.yldG (by decide) rfl (Yld.loadBM (k := 364) agg_27 rfl rfl rfl) ?_
              refine WL.yldG (by decide) rfl (Yld.loadBM (k := 374) agg_24 rfl rfl rfl) ?_
              refine WL.effG (by decide) rfl (Eff.callS 382 rfl Try.func21 nm_21 rfl rfl (fun w hb hh => w_law03_same (Mem.snap w) x256.1 x256.2.1 A261 n262 c263 _ (RdH.sn (RdH.own (k := 360) rfl) w hb hh) x266.1 x266.2.1 A271 n272 c273 _ (RdH.sn (RdH.own (k := 370) rfl) w hb hh) hx281)) ?_
              rintro _ _ ⟨_, ⟨rfl, rfl⟩, rfl⟩
              refine WL.yld (by decide) (Yld.pickT rfl rfl) ?_
              refine WL.yld (by decide) (Yld.move rfl) ?_
              refine WL.new (v' := .bool true) (congrArg Value.bool hc283) ?_
              refine WL.effG (by decide) rfl (Eff.callS 385 rfl Try.func13 nm_13 rfl rfl (fun w hb hh => w_law03_awake (Mem.snap w) hx284)) ?_
              rintro _ _ ⟨_, ⟨rfl, rfl⟩, rfl⟩
              refine WL.yld (by decide) (Yld.pickT rfl rfl) ?_
              refine WL.yld (by decide) (Yld.assign rfl) ?_
              refine WL.done (hK275 _ _ ?_)
              refine WC.ret ?_
              injection h with h; subst h
              exact Ret.fn [] (ResIs.one rfl rfl) rfl (Ext.trans (Ext.trans hm_M33 hm_M48) hm_M251) rfl (by decide) rfl rfl ⟨rfl, rfl⟩
            · replace h := of_f hc283 h
              refine WL.yld (by decide) (Yld.move rfl) ?_
              refine WL.yld (by decide) (Yld.move rfl) ?_
              refine WL.yld (by decide) (Yld.eqlI rfl rfl) ?_
              refine WL.yld (by decide) (Yld.move rfl) ?_
              refine WL.new (v' := .bool true) (congrArg Value.bool (beq_iff_eq.2 hc276)) ?_
              refine WL.yldG (by decide) rfl (Yld.move rfl) ?_
              refine WL.yldG (by decide) rfl (Yld.move rfl) ?_
              refine WL.yldG (by decide) rfl (Yld.eqlI rfl rfl) ?_
              refine WL.yld (by decide) (Yld.pickT rfl rfl) ?_
              refine WL.yld (by decide) (Yld.move rfl) ?_
              refine WL.new (v' := .bool true) (congrArg Value.bool (beq_iff_eq.2 hc277)) ?_
              refine WL.yldG (by decide) rfl (Yld.loadBM (k := 161) agg_27 rfl rfl rfl) ?_
              refine WL.yldG (by decide) rfl (Yld.loadBM (k := 339) agg_24 rfl rfl rfl) ?_
              refine WL.effG (by decide) rfl (Eff.callS 379 rfl Try.func21 nm_21 rfl rfl (fun w hb hh => w_law03_same (Mem.snap w) x53.1 x53.2.1 A58 n59 c60 _ (RdH.sn (RdH.own (k := 157) rfl) w hb hh) x231.1 x231.2.1 A236 n237 c238 _ (RdH.sn (RdH.own (k := 335) rfl) w hb hh) hx278)) ?_
              rintro _ _ ⟨_, ⟨rfl, rfl⟩, rfl⟩
              refine WL.yld (by decide) (Yld.pickT rfl rfl) ?_
              refine WL.yld (by decide) (Yld.move rfl) ?_
              refine WL.new (v' := .bool true) (congrArg Value.bool hc280) ?_
              refine WL.yldG (by decide) rfl (Yld.loadBM (k := 364) agg_27 rfl rfl rfl) ?_
              refine WL.yldG (by decide) rfl (Yld.loadBM (k := 374) agg_24 rfl rfl rfl) ?_
              refine WL.effG (by decide) rfl (Eff.callS 382 rfl Try.func21 nm_21 rfl rfl (fun w hb hh => w_law03_same (Mem.snap w) x256.1 x256.2.1 A261 n262 c263 _ (RdH.sn (RdH.own (k := 360) rfl) w hb hh) x266.1 x266.2.1 A271 n272 c273 _ (RdH.sn (RdH.own (k := 370) rfl) w hb hh) hx281)) ?_
              rintro _ _ ⟨_, ⟨rfl, rfl⟩, rfl⟩
              refine WL.yld (by decide) (Yld.pickT rfl rfl) ?_
              refine WL.yld (by decide) (Yld.move rfl) ?_
              refine WL.new (v' := .bool false) (congrArg Value.bool (Bool.eq_false_iff.2 hc283)) ?_
              refine WL.skip (by decide) rfl rfl ?_
              refine WL.yld (by decide) (Yld.pickF rfl rfl) ?_
              refine WL.yld (by decide) (Yld.assign rfl) ?_
              refine WL.done (hK275 _ _ ?_)
              refine WC.ret ?_
              injection h with h; subst h
              exact Ret.fn [] (ResIs.one rfl rfl) rfl (Ext.trans (Ext.trans hm_M33 hm_M48) hm_M251) rfl (by decide) rfl rfl ⟨rfl, rfl⟩
          · replace h := of_f hc280 h
            refine WL.yld (by decide) (Yld.move rfl) ?_
            refine WL.yld (by decide) (Yld.move rfl) ?_
            refine WL.yld (by decide) (Yld.eqlI rfl rfl) ?_
            refine WL.yld (by decide) (Yld.move rfl) ?_
            refine WL.new (v' := .bool true) (congrArg Value.bool (beq_iff_eq.2 hc276)) ?_
            refine WL.yldG (by decide) rfl (Yld.move rfl) ?_
            refine WL.yldG (by decide) rfl (Yld.move rfl) ?_
            refine WL.yldG (by decide) rfl (Yld.eqlI rfl rfl) ?_
            refine WL.yld (by decide) (Yld.pickT rfl rfl) ?_
            refine WL.yld (by decide) (Yld.move rfl) ?_
            refine WL.new (v' := .bool true) (congrArg Value.bool (beq_iff_eq.2 hc277)) ?_
            refine WL.yldG (by decide) rfl (Yld.loadBM (k := 161) agg_27 rfl rfl rfl) ?_
            refine WL.yldG (by decide) rfl (Yld.loadBM (k := 339) agg_24 rfl rfl rfl) ?_
            refine WL.effG (by decide) rfl (Eff.callS 379 rfl Try.func21 nm_21 rfl rfl (fun w hb hh => w_law03_same (Mem.snap w) x53.1 x53.2.1 A58 n59 c60 _ (RdH.sn (RdH.own (k := 157) rfl) w hb hh) x231.1 x231.2.1 A236 n237 c238 _ (RdH.sn (RdH.own (k := 335) rfl) w hb hh) hx278)) ?_
            rintro _ _ ⟨_, ⟨rfl, rfl⟩, rfl⟩
            refine WL.yld (by decide) (Yld.pickT rfl rfl) ?_
            refine WL.yld (by decide) (Yld.move rfl) ?_
            refine WL.new (v' := .bool false) (congrArg Value.bool (Bool.eq_false_iff.2 hc280)) ?_
            refine WL.skip (by decide) rfl rfl ?_
            refine WL.skip (by decide) rfl rfl ?_
            refine WL.skip (by decide) rfl rfl ?_
            refine WL.yld (by decide) (Yld.pickF rfl rfl) ?_
            refine WL.yld (by decide) (Yld.move rfl) ?_
            refine WL.skip (by decide) rfl rfl ?_
            refine WL.yld (by decide) (Yld.pickF rfl rfl) ?_
            refine WL.yld (by decide) (Yld.assign rfl) ?_
            refine WL.done (hK275 _ _ ?_)
            refine WC.ret ?_
            injection h with h; subst h
            exact Ret.fn [] (ResIs.one rfl rfl) rfl (Ext.trans (Ext.trans hm_M33 hm_M48) hm_M251) rfl (by decide) rfl rfl ⟨rfl, rfl⟩
        · replace h := of_f hc277 h
          refine WL.yld (by decide) (Yld.move rfl) ?_
          refine WL.yld (by decide) (Yld.move rfl) ?_
          refine WL.yld (by decide) (Yld.eqlI rfl rfl) ?_
          refine WL.yld (by decide) (Yld.move rfl) ?_
          refine WL.new (v' := .bool true) (congrArg Value.bool (beq_iff_eq.2 hc276)) ?_
          refine WL.yldG (by decide) rfl (Yld.move rfl) ?_
          refine WL.yldG (by decide) rfl (Yld.move rfl) ?_
          refine WL.yldG (by decide) rfl (Yld.eqlI rfl rfl) ?_
          refine WL.yld (by decide) (Yld.pickT rfl rfl) ?_
          refine WL.yld (by decide) (Yld.move rfl) ?_
          refine WL.new (v' := .bool false) (congrArg Value.bool (beq_eq_false_iff_ne.2 hc277)) ?_
          refine WL.skip (by decide) rfl rfl ?_
          refine WL.skip (by decide) rfl rfl ?_
          refine WL.skip (by decide) rfl rfl ?_
          refine WL.yld (by decide) (Yld.pickF rfl rfl) ?_
          refine WL.yld (by decide) (Yld.move rfl) ?_
          refine WL.skip (by decide) rfl rfl ?_
          refine WL.skip (by decide) rfl rfl ?_
          refine WL.skip (by decide) rfl rfl ?_
          refine WL.yld (by decide) (Yld.pickF rfl rfl) ?_
          refine WL.yld (by decide) (Yld.move rfl) ?_
          refine WL.skip (by decide) rfl rfl ?_
          refine WL.yld (by decide) (Yld.pickF rfl rfl) ?_
          refine WL.yld (by decide) (Yld.assign rfl) ?_
          refine WL.done (hK275 _ _ ?_)
          refine WC.ret ?_
          injection h with h; subst h
          exact Ret.fn [] (ResIs.one rfl rfl) rfl (Ext.trans (Ext.trans hm_M33 hm_M48) hm_M251) rfl (by decide) rfl rfl ⟨rfl, rfl⟩
      · replace h := of_f hc276 h
        refine WL.yld (by decide) (Yld.move rfl) ?_
        refine WL.yld (by decide) (Yld.move rfl) ?_
        refine WL.yld (by decide) (Yld.eqlI rfl rfl) ?_
        refine WL.yld (by decide) (Yld.move rfl) ?_
        refine WL.new (v' := .bool false) (congrArg Value.bool (beq_eq_false_iff_ne.2 hc276)) ?_
        refine WL.skip (by decide) rfl rfl ?_
        refine WL.skip (by decide) rfl rfl ?_
        refine WL.skip (by decide) rfl rfl ?_
        refine WL.yld (by decide) (Yld.pickF rfl rfl) ?_
        refine WL.yld (by decide) (Yld.move rfl) ?_
        refine WL.skip (by decide) rfl rfl ?_
        refine WL.skip (by decide) rfl rfl ?_
        refine WL.skip (by decide) rfl rfl ?_
        refine WL.yld (by decide) (Yld.pickF rfl rfl) ?_
        refine WL.yld (by decide) (Yld.move rfl) ?_
        refine WL.skip (by decide) rfl rfl ?_
        refine WL.skip (by decide) rfl rfl ?_
        refine WL.skip (by decide) rfl rfl ?_
        refine WL.yld (by decide) (Yld.pickF rfl rfl) ?_
        refine WL.yld (by decide) (Yld.move rfl) ?_
        refine WL.skip (by decide) rfl rfl ?_
        refine WL.yld (by decide) (Yld.pickF rfl rfl) ?_
        refine WL.yld (by decide) (Yld.assign rfl) ?_
        refine WL.done (hK275 _ _ ?_)
        refine WC.ret ?_
        injection h with h; subst h
        exact Ret.fn [] (ResIs.one rfl rfl) rfl (Ext.trans (Ext.trans hm_M33 hm_M48) hm_M251) rfl (by decide) rfl rfl ⟨rfl, rfl⟩

end Go.Proofs.Ytnkahhipochakaa
