/-
  Walks (e7): what a function's model gives, the function returns. Printed by a program of ours (vcm.py) from the function's operations. Conditions: as each theorem says.
-/
import Derived.Test.YtnkahhipochakaaWkc
import Derived.Test.YtnkahhipochakaaWkd
import Derived.Test.YtnkahhipochakaaMde7
namespace Go.Proofs.Ytnkahhipochakaa
open Go Go.RowKit
set_option linter.unusedVariables false

theorem nm_12 : (Try.f12.name == "runtime.NumGoroutine") = false := by kernel_rfl
theorem nm_13 : (Try.f13.name == "runtime.NumGoroutine") = false := by kernel_rfl
theorem nm_19 : (Try.f19.name == "runtime.NumGoroutine") = false := by kernel_rfl
theorem nm_27 : (Try.f27.name == "runtime.NumGoroutine") = false := by kernel_rfl
theorem nm_28 : (Try.f28.name == "runtime.NumGoroutine") = false := by kernel_rfl

set_option maxRecDepth 10000 in
theorem w_law03_GfmatrixApplies (M0 : Mem) (x00_0 : Int) (x00_1 : Int) (A00_2 : Option Addr) (n00_2 c00_2 : Nat) (x00_2 : List (BitVec 8)) (hf00_2 : SlT M0 A00_2 n00_2 c00_2 x00_2) (A01 : Option Addr) (n01 c01 : Nat) (rs01 : List Hdr) (x01 : List (List (BitVec 8))) (hf01 : SlT M0 A01 n01 c01 rs01) (hq01 : Rels ((RelB (α := BitVec 8)) M0) rs01 x01) {res : Bool} (h : m_law03_GfmatrixApplies x00_0 x00_1 x00_2 x01 = some res) :
    Fn Try.prog 6 #[.agg ([I64 x00_0, I64 x00_1, .slice A00_2 n00_2 c00_2] : List Value).toArray, .slice A01 n01 c01] M0 fun r M' es => r = .bool res ∧ es = [] := by
  refine Fn.intro (N := 55) Try.func6 rfl rfl (Nat.le_of_ble_eq_true rfl) fun w0 => ?_
  unfold m_law03_GfmatrixApplies at h
  refine WC.seqRegion fun K1 hK1 => ?_
  refine WL.eff (by decide) (Eff.box 102 (us := [I64 x00_0, I64 x00_1, .slice A00_2 n00_2 c00_2]) rfl rfl rfl) ?_
  rintro _ _ ⟨g2, rfl, rfl⟩
  refine WL.yld (by decide) (Yld.assign rfl) ?_
  refine WL.done (hK1 _ _ ?_)
  refine WC.seqCut (σ := Unit) (fun _ => [(1, .slice A01 n01 c01), (2, .pointer (some ⟨g2, 0, none⟩))]) (fun _ => [(0, .mem M0), (102, .blk g2 24 [I64 x00_0, I64 x00_1, .slice A00_2 n00_2 c00_2])]) (fun _ => m_law03_GfmatrixApplies_j0 x00_0 x00_1 x00_2 x01 = some res) (fun K3 hK3 => ?_) ?_
  · skip
    refine WC.seqRegion fun K4 hK4 => ?_
    obtain ⟨x5, hx5, h⟩ := bnd h
    by_cases hc7 : x5 = true
    · replace h := of_t hc7 h
      refine WL.yld (by decide) (Yld.loadBM (k := 102) agg_24 rfl rfl rfl) ?_
      refine WL.eff (by decide) (Eff.callS 106 rfl Try.func12 nm_12 rfl rfl (fun w hb hh => w_law03_heavy (Mem.snap w) x00_0 x00_1 A00_2 n00_2 c00_2 _ (RdH.sn (RdH.memM (k := 0) rfl hf00_2) w hb hh) hx5)) ?_
      rintro _ _ ⟨_, ⟨rfl, rfl⟩, rfl⟩
      refine WL.yld (by decide) (Yld.move rfl) ?_
      refine WL.new (v' := .bool true) (congrArg Value.bool hc7) ?_
      refine WL.skip (by decide) rfl rfl ?_
      refine WL.skip (by decide) rfl rfl ?_
      refine WL.skip (by decide) rfl rfl ?_
      refine WL.yld (by decide) (Yld.pickT rfl rfl) ?_
      refine WL.done (hK4 _ _ ?_)
      refine WC.condT rfl ?_
      refine WC.seqRegion fun K8 hK8 => ?_
      obtain ⟨x9, hx9, h⟩ := bnd h
      refine WL.eff (by decide) (Eff.callS 110 rfl Try.func13 nm_13 rfl rfl (fun w hb hh => w_law03_awake (Mem.snap w) hx9)) ?_
      rintro _ _ ⟨_, ⟨rfl, rfl⟩, rfl⟩
      refine WL.yld (by decide) (Yld.assign rfl) ?_
      refine WL.done (hK8 _ _ ?_)
      refine WC.ret (QK.thenR ?_)
      injection h with h; subst h
      exact Ret.fn [] (ResIs.one rfl rfl) rfl (Ext.refl _ _) rfl (by decide) rfl rfl ⟨rfl, rfl⟩
    · replace h := of_f hc7 h
      refine WL.yld (by decide) (Yld.loadBM (k := 102) agg_24 rfl rfl rfl) ?_
      refine WL.eff (by decide) (Eff.callS 106 rfl Try.func12 nm_12 rfl rfl (fun w hb hh => w_law03_heavy (Mem.snap w) x00_0 x00_1 A00_2 n00_2 c00_2 _ (RdH.sn (RdH.memM (k := 0) rfl hf00_2) w hb hh) hx5)) ?_
      rintro _ _ ⟨_, ⟨rfl, rfl⟩, rfl⟩
      refine WL.yld (by decide) (Yld.move rfl) ?_
      refine WL.new (v' := .bool false) (congrArg Value.bool (Bool.eq_false_iff.2 hc7)) ?_
      refine WL.yldG (by decide) rfl (Yld.move rfl) ?_
      refine WL.yldG (by decide) rfl (Yld.lenD (rs := rs01) (xs := x01) (Rels.len hq01) und_44 rfl (RdH.memM (k := 0) rfl hf01)) ?_
      refine WL.yldG (by decide) rfl (Yld.gtr rfl rfl) ?_
      refine WL.yld (by decide) (Yld.pickF rfl rfl) ?_
      refine WL.done (hK4 _ _ ?_)
      by_cases hc11 : (40 : Int) < (x01.length : Int)
      · replace h := of_t hc11 h
        refine WC.condTe rfl (decide_eq_true hc11) ?_
        refine WC.seqRegion fun K12 hK12 => ?_
        obtain ⟨x13, hx13, h⟩ := bnd h
        refine WL.eff (by decide) (Eff.callS 114 rfl Try.func13 nm_13 rfl rfl (fun w hb hh => w_law03_awake (Mem.snap w) hx13)) ?_
        rintro _ _ ⟨_, ⟨rfl, rfl⟩, rfl⟩
        refine WL.yld (by decide) (Yld.assign rfl) ?_
        refine WL.done (hK12 _ _ ?_)
        refine WC.ret (QK.thenR ?_)
        injection h with h; subst h
        exact Ret.fn [] (ResIs.one rfl rfl) rfl (Ext.refl _ _) rfl (by decide) rfl rfl ⟨rfl, rfl⟩
      · replace h := of_f hc11 h
        refine WC.condFe rfl (decide_eq_false hc11) ?_
        refine WC.skip ?_
        refine QK.thenN ?_
        refine hK3 () _ _ ?_ (Sub.cons rfl (Sub.cons rfl (Sub.nil _))) (Sub.cons rfl (Sub.cons rfl (Sub.nil _)))
        exact h
  · rintro _ h
    unfold m_law03_GfmatrixApplies_j0 at h
    refine WC.seqCut (σ := Unit) (fun _ => [(1, .slice A01 n01 c01), (2, .pointer (some ⟨g2, 0, none⟩))]) (fun _ => [(0, .mem M0), (102, .blk g2 24 [I64 x00_0, I64 x00_1, .slice A00_2 n00_2 c00_2])]) (fun _ => m_law03_GfmatrixApplies_j1 x00_0 x00_1 x00_2 x01 = some res) (fun K15 hK15 => ?_) ?_
    · skip
      refine WC.seqRegion fun K16 hK16 => ?_
      refine WL.yld (by decide) (Yld.move rfl) ?_
      refine WL.yld (by decide) (Yld.lenD (rs := rs01) (xs := x01) (Rels.len hq01) und_44 rfl (RdH.memM (k := 0) rfl hf01)) ?_
      refine WL.yld (by decide) (Yld.move rfl) ?_
      refine WL.done (hK16 _ _ ?_)
      refine WC.block ?_
      refine WC.loop (σ := Nat × Int) (fun ⟨q18, x17⟩ => [(1, .slice A01 n01 c01), (2, .pointer (some ⟨g2, 0, none⟩)), (19, I64 (x01.length : Int)), (20, I64 x17)]) (fun ⟨q18, x17⟩ => [(0, .mem M0), (102, .blk g2 24 [I64 x00_0, I64 x00_1, .slice A00_2 n00_2 c00_2])]) (fun ⟨q18, x17⟩ => m_law03_GfmatrixApplies_l2 x00_0 x00_1 x00_2 x01 q18 x17 = some res) (fun ⟨q18, x17⟩ => q18) ⟨forever, (0 : Int)⟩ ?_ (Sub.cons rfl (Sub.cons rfl (Sub.cons rfl (Sub.cons rfl (Sub.nil _))))) (Sub.cons rfl (Sub.cons rfl (Sub.nil _))) ?_
      · exact h
      rintro ⟨q18, x17⟩ h K19 hK19
      cases q18 with
      | zero => exact absurd h (by simp [m_law03_GfmatrixApplies_l2])
      | succ q18 =>
        unfold m_law03_GfmatrixApplies_l2 at h
        refine WC.seqRegion fun K20 hK20 => ?_
        refine WL.yld (by decide) (Yld.lss rfl rfl) ?_
        refine WL.done (hK20 _ _ ?_)
        refine WC.seq fun K21 hK21 => ?_
        by_cases hc22 : x17 < (x01.length : Int)
        · replace h := of_t hc22 h
          refine WC.condTe rfl (decide_eq_true hc22) ?_
          refine WC.skip ?_
          refine QK.thenN (hK21 _ _ ?_)
          refine WC.seq fun K23 hK23 => ?_
          refine WC.block ?_
          refine WC.seqRegion fun K24 hK24 => ?_
          refine WL.yld (by decide) (Yld.move rfl) ?_
          refine WL.yld (by decide) (Yld.assign rfl) ?_
          refine WL.done (hK24 _ _ ?_)
          refine WC.seqRegion fun K25 hK25 => ?_
          obtain ⟨x26, hx26, h⟩ := bnd h
          refine WL.yld (by decide) (Yld.move rfl) ?_
          refine WL.yld (by decide) (Yld.move rfl) ?_
          obtain ⟨r_27, hr28, hq29⟩ := Rels.idx hq01 hx26
          refine WL.yld (by decide) (Yld.idxC (xs := rs01) sty_44 rfl rfl (RdH.memM (k := 0) rfl hf01) hr28) ?_
          refine WL.yld (by decide) (Yld.loadC0 (xs := rs01) scal_22 rfl (RdH.memM (k := 0) rfl hf01) hr28 rfl) ?_
          refine WL.yld (by decide) (Yld.lenC (xs := x26) und_22 rfl (RdH.memM (k := 0) rfl hq29)) ?_
          refine WL.yld (by decide) (Yld.gtr rfl rfl) ?_
          refine WL.done (hK25 _ _ ?_)
          by_cases hc30 : (300 : Int) < (x26.length : Int)
          · replace h := of_t hc30 h
            refine WC.condTe rfl (decide_eq_true hc30) ?_
            refine WC.seqRegion fun K31 hK31 => ?_
            obtain ⟨x32, hx32, h⟩ := bnd h
            refine WL.eff (by decide) (Eff.callS 133 rfl Try.func13 nm_13 rfl rfl (fun w hb hh => w_law03_awake (Mem.snap w) hx32)) ?_
            rintro _ _ ⟨_, ⟨rfl, rfl⟩, rfl⟩
            refine WL.yld (by decide) (Yld.assign rfl) ?_
            refine WL.done (hK31 _ _ ?_)
            refine WC.ret (QK.blockR (QK.thenR (QK.thenR (QK.blockR (QK.thenR ?_)))))
            injection h with h; subst h
            exact Ret.fn [] (ResIs.one rfl rfl) rfl (Ext.refl _ _) rfl (by decide) rfl rfl ⟨rfl, rfl⟩
          · replace h := of_f hc30 h
            refine WC.condFe rfl (decide_eq_false hc30) ?_
            refine WC.skip ?_
            refine QK.blockN ?_
            refine QK.thenN (hK23 _ _ ?_)
            refine WC.region fun K34 hK34 => ?_
            obtain ⟨x35, hx35, h⟩ := bnd h
            refine WL.yld (by decide) (Yld.addC rfl rfl hx35) ?_
            refine WL.yld (by decide) (Yld.move rfl) ?_
            refine WL.done (hK34 _ _ ?_)
            refine QK.thenN ?_
            refine hK19 ⟨q18, x35⟩ _ _ ?_ (Nat.lt_succ_self _) (Sub.cons rfl (Sub.cons rfl (Sub.cons rfl (Sub.cons rfl (Sub.nil _))))) (Sub.cons rfl (Sub.cons rfl (Sub.nil _)))
            exact h
        · replace h := of_f hc22 h
          refine WC.condFe rfl (decide_eq_false hc22) ?_
          refine WC.exit (QK.thenE (QK.thenE (QK.blockX ?_)))
          refine QK.thenN ?_
          refine hK15 () _ _ ?_ (Sub.cons rfl (Sub.cons rfl (Sub.nil _))) (Sub.cons rfl (Sub.cons rfl (Sub.nil _)))
          exact h
    · rintro _ h
      unfold m_law03_GfmatrixApplies_j1 at h
      refine WC.seqRegion fun K36 hK36 => ?_
      obtain ⟨x37, hx37, h⟩ := bnd h
      obtain ⟨x52, hx52, h⟩ := bnd h
      refine WL.yld (by decide) (Yld.loadBM (k := 102) agg_24 rfl rfl rfl) ?_
      refine WL.eff (by decide) (Eff.callM 142 rfl Try.func19 nm_19 rfl rfl rfl (w_law03_given _ x00_0 x00_1 A00_2 n00_2 c00_2 _ hf00_2 hx37)) ?_
      rintro _ _ ⟨M47, _, ⟨A48, n49, c50, rfl, rfl, hf51⟩, hm_M47, rfl⟩
      refine WL.yld (by decide) (Yld.move rfl) ?_
      refine WL.eff (by decide) (Eff.callM 158 rfl Try.func26 nm_26 rfl rfl rfl (w_gfmatrix_Apply _ x37.1 x37.2.1 A48 n49 c50 _ hf51 A01 n01 c01 rs01 _ (SlRc.lift hf01 hm_M47) (Rels.lift hq01 hm_M47) hx52)) ?_
      rintro _ _ ⟨M64, _, ⟨A65, n66, c67, rs68, rfl, rfl, hq69⟩, hm_M64, rfl⟩
      refine WL.yld (by decide) (Yld.move rfl) ?_
      refine WL.yld (by decide) (Yld.extract rfl rfl) ?_
      refine WL.yld (by decide) (Yld.extract rfl rfl) ?_
      refine WL.yld (by decide) (Yld.assign rfl) ?_
      refine WL.yld (by decide) (Yld.assign rfl) ?_
      refine WL.done (hK36 _ _ ?_)
      refine WC.seqRegion fun K70 hK70 => ?_
      obtain ⟨x71, hx71, h⟩ := bnd h
      refine WL.yld (by decide) (Yld.loadBM (k := 102) agg_24 rfl rfl rfl) ?_
      refine WL.yld (by decide) (Yld.move rfl) ?_
      refine WL.eff (by decide) (Eff.callM 177 rfl Try.func27 nm_27 rfl rfl rfl (w_r03_Apply _ x00_0 x00_1 A00_2 n00_2 c00_2 _ (SlRc.lift (SlRc.lift hf00_2 hm_M47) hm_M64) A01 n01 c01 rs01 _ (SlRc.lift (SlRc.lift hf01 hm_M47) hm_M64) (Rels.lift (Rels.lift hq01 hm_M47) hm_M64) hx71)) ?_
      rintro _ _ ⟨M83, _, ⟨A84, n85, c86, rs87, rfl, rfl, hq88⟩, hm_M83, rfl⟩
      refine WL.yld (by decide) (Yld.move rfl) ?_
      refine WL.yld (by decide) (Yld.extract rfl rfl) ?_
      refine WL.yld (by decide) (Yld.extract rfl rfl) ?_
      refine WL.yld (by decide) (Yld.assign rfl) ?_
      refine WL.yld (by decide) (Yld.assign rfl) ?_
      refine WL.done (hK70 _ _ ?_)
      refine WC.seqRegion fun K89 hK89 => ?_
      by_cases hc90 : x52.2 = x71.2
      · replace h := of_t hc90 h
        obtain ⟨x91, hx91, h⟩ := bnd h
        by_cases hc93 : x91 = true
        · replace h := of_t hc93 h
          obtain ⟨x94, hx94, h⟩ := bnd h
          refine WL.yld (by decide) (Yld.move rfl) ?_
          refine WL.yld (by decide) (Yld.move rfl) ?_
          refine WL.yld (by decide) (Yld.eqlI rfl rfl) ?_
          refine WL.yld (by decide) (Yld.move rfl) ?_
          refine WL.new (v' := .bool true) (congrArg Value.bool (beq_iff_eq.2 hc90)) ?_
          refine WL.yldG (by decide) rfl (Yld.move rfl) ?_
          refine WL.yldG (by decide) rfl (Yld.move rfl) ?_
          refine WL.effG (by decide) rfl (Eff.callS 192 rfl Try.func28 nm_28 rfl rfl (fun w hb hh => w_r03_SameRows (Mem.snap w) A65 n66 c67 rs68 _ (RdH.sn (RdH.own (k := 158) rfl) w hb hh) (Rels.sn (Rels.lift hq69 hm_M83) (hh.sat 0 _ rfl)) A84 n85 c86 rs87 _ (RdH.sn (RdH.own (k := 177) rfl) w hb hh) (Rels.sn hq88 (hh.sat 0 _ rfl)) hx91)) ?_
          rintro _ _ ⟨_, ⟨rfl, rfl⟩, rfl⟩
          refine WL.yld (by decide) (Yld.pickT rfl rfl) ?_
          refine WL.yld (by decide) (Yld.move rfl) ?_
          refine WL.new (v' := .bool true) (congrArg Value.bool hc93) ?_
          refine WL.effG (by decide) rfl (Eff.callS 195 rfl Try.func13 nm_13 rfl rfl (fun w hb hh => w_law03_awake (Mem.snap w) hx94)) ?_
          rintro _ _ ⟨_, ⟨rfl, rfl⟩, rfl⟩
          refine WL.yld (by decide) (Yld.pickT rfl rfl) ?_
          refine WL.yld (by decide) (Yld.assign rfl) ?_
          refine WL.done (hK89 _ _ ?_)
          refine WC.ret ?_
          injection h with h; subst h
          exact Ret.fn [] (ResIs.one rfl rfl) rfl (Ext.trans (Ext.trans hm_M47 hm_M64) hm_M83) rfl (by decide) rfl rfl ⟨rfl, rfl⟩
        · replace h := of_f hc93 h
          refine WL.yld (by decide) (Yld.move rfl) ?_
          refine WL.yld (by decide) (Yld.move rfl) ?_
          refine WL.yld (by decide) (Yld.eqlI rfl rfl) ?_
          refine WL.yld (by decide) (Yld.move rfl) ?_
          refine WL.new (v' := .bool true) (congrArg Value.bool (beq_iff_eq.2 hc90)) ?_
          refine WL.yldG (by decide) rfl (Yld.move rfl) ?_
          refine WL.yldG (by decide) rfl (Yld.move rfl) ?_
          refine WL.effG (by decide) rfl (Eff.callS 192 rfl Try.func28 nm_28 rfl rfl (fun w hb hh => w_r03_SameRows (Mem.snap w) A65 n66 c67 rs68 _ (RdH.sn (RdH.own (k := 158) rfl) w hb hh) (Rels.sn (Rels.lift hq69 hm_M83) (hh.sat 0 _ rfl)) A84 n85 c86 rs87 _ (RdH.sn (RdH.own (k := 177) rfl) w hb hh) (Rels.sn hq88 (hh.sat 0 _ rfl)) hx91)) ?_
          rintro _ _ ⟨_, ⟨rfl, rfl⟩, rfl⟩
          refine WL.yld (by decide) (Yld.pickT rfl rfl) ?_
          refine WL.yld (by decide) (Yld.move rfl) ?_
          refine WL.new (v' := .bool false) (congrArg Value.bool (Bool.eq_false_iff.2 hc93)) ?_
          refine WL.skip (by decide) rfl rfl ?_
          refine WL.yld (by decide) (Yld.pickF rfl rfl) ?_
          refine WL.yld (by decide) (Yld.assign rfl) ?_
          refine WL.done (hK89 _ _ ?_)
          refine WC.ret ?_
          injection h with h; subst h
          exact Ret.fn [] (ResIs.one rfl rfl) rfl (Ext.trans (Ext.trans hm_M47 hm_M64) hm_M83) rfl (by decide) rfl rfl ⟨rfl, rfl⟩
      · replace h := of_f hc90 h
        refine WL.yld (by decide) (Yld.move rfl) ?_
        refine WL.yld (by decide) (Yld.move rfl) ?_
        refine WL.yld (by decide) (Yld.eqlI rfl rfl) ?_
        refine WL.yld (by decide) (Yld.move rfl) ?_
        refine WL.new (v' := .bool false) (congrArg Value.bool (beq_eq_false_iff_ne.2 hc90)) ?_
        refine WL.skip (by decide) rfl rfl ?_
        refine WL.skip (by decide) rfl rfl ?_
        refine WL.skip (by decide) rfl rfl ?_
        refine WL.yld (by decide) (Yld.pickF rfl rfl) ?_
        refine WL.yld (by decide) (Yld.move rfl) ?_
        refine WL.skip (by decide) rfl rfl ?_
        refine WL.yld (by decide) (Yld.pickF rfl rfl) ?_
        refine WL.yld (by decide) (Yld.assign rfl) ?_
        refine WL.done (hK89 _ _ ?_)
        refine WC.ret ?_
        injection h with h; subst h
        exact Ret.fn [] (ResIs.one rfl rfl) rfl (Ext.trans (Ext.trans hm_M47 hm_M64) hm_M83) rfl (by decide) rfl rfl ⟨rfl, rfl⟩

end Go.Proofs.Ytnkahhipochakaa
