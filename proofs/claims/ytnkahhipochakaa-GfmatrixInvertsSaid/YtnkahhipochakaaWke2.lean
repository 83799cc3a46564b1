/-
  Walks (e2): what a function's model gives, the function returns. Printed by a program of ours (vcm.py) from the function's operations. Conditions: as each theorem says.
-/
import Derived.Test.YtnkahhipochakaaWkc
import Derived.Test.YtnkahhipochakaaWkd
import Derived.Test.YtnkahhipochakaaMde2
namespace Go.Proofs.Ytnkahhipochakaa
open Go Go.RowKit
set_option linter.unusedVariables false

theorem nm_12 : (Try.f12.name == "runtime.NumGoroutine") = false := by kernel_rfl
theorem nm_13 : (Try.f13.name == "runtime.NumGoroutine") = false := by kernel_rfl
theorem nm_19 : (Try.f19.name == "runtime.NumGoroutine") = false := by kernel_rfl
theorem nm_21 : (Try.f21.name == "runtime.NumGoroutine") = false := by kernel_rfl
theorem nm_23 : (Try.f23.name == "runtime.NumGoroutine") = false := by kernel_rfl

set_option maxRecDepth 10000 in
theorem w_law03_GfmatrixInverts (M0 : Mem) (x00_0 : Int) (x00_1 : Int) (A00_2 : Option Addr) (n00_2 c00_2 : Nat) (x00_2 : List (BitVec 8)) (hf00_2 : SlT M0 A00_2 n00_2 c00_2 x00_2) {res : Bool} (h : m_law03_GfmatrixInverts x00_0 x00_1 x00_2 = some res) :
    Fn Try.prog 4 #[.agg ([I64 x00_0, I64 x00_1, .slice A00_2 n00_2 c00_2] : List Value).toArray] M0 fun r M' es => r = .bool res ∧ es = [] := by
  refine Fn.intro (N := 32) Try.func4 rfl rfl (Nat.le_of_ble_eq_true rfl) fun w0 => ?_
  unfold m_law03_GfmatrixInverts at h
  refine WC.seqRegion fun K1 hK1 => ?_
  refine WL.eff (by decide) (Eff.box 102 (us := [I64 x00_0, I64 x00_1, .slice A00_2 n00_2 c00_2]) rfl rfl rfl) ?_
  rintro _ _ ⟨g2, rfl, rfl⟩
  refine WL.yld (by decide) (Yld.assign rfl) ?_
  refine WL.done (hK1 _ _ ?_)
  refine WC.seq fun K3 hK3 => ?_
  refine WC.seqRegion fun K4 hK4 => ?_
  obtain ⟨x5, hx5, h⟩ := bnd h
  refine WL.yld (by decide) (Yld.loadBM (k := 102) agg_24 rfl rfl rfl) ?_
  refine WL.eff (by decide) (Eff.callS 106 rfl Try.func12 nm_12 rfl rfl (fun w hb hh => w_law03_heavy (Mem.snap w) x00_0 x00_1 A00_2 n00_2 c00_2 _ (RdH.sn (RdH.memM (k := 0) rfl hf00_2) w hb hh) hx5)) ?_
  rintro _ _ ⟨_, ⟨rfl, rfl⟩, rfl⟩
  refine WL.done (hK4 _ _ ?_)
  by_cases hc7 : x5 = true
  · replace h := of_t hc7 h
    refine WC.condTe rfl hc7 ?_
    refine WC.seqRegion fun K8 hK8 => ?_
    obtain ⟨x9, hx9, h⟩ := bnd h
    refine WL.eff (by decide) (Eff.callS 110 rfl Try.func13 nm_13 rfl rfl (fun w hb hh => w_law03_awake (Mem.snap w) hx9)) ?_
    rintro _ _ ⟨_, ⟨rfl, rfl⟩, rfl⟩
    refine WL.yld (by decide) (Yld.assign rfl) ?_
    refine WL.done (hK8 _ _ ?_)
    refine WC.ret (QK.thenR ?_)
    injection h with h; subst h
    exact Ret.fn [] (ResIs.one rfl rfl) rfl (Ext.refl _ _) rfl (by decide) rfl rfl ⟨rfl, rfl⟩
  · replace h := of_f hc7 h
    refine WC.condFe rfl (Bool.eq_false_iff.2 hc7) ?_
    refine WC.skip ?_
    refine QK.thenN (hK3 _ _ ?_)
    refine WC.seqRegion fun K11 hK11 => ?_
    obtain ⟨x12, hx12, h⟩ := bnd h
    obtain ⟨x27, hx27, h⟩ := bnd h
    refine WL.yld (by decide) (Yld.loadBM (k := 102) agg_24 rfl rfl rfl) ?_
    refine WL.eff (by decide) (Eff.callM 117 rfl Try.func19 nm_19 rfl rfl rfl (w_law03_given _ x00_0 x00_1 A00_2 n00_2 c00_2 _ hf00_2 hx12)) ?_
    rintro _ _ ⟨M22, _, ⟨A23, n24, c25, rfl, rfl, hf26⟩, hm_M22, rfl⟩
    refine WL.eff (by decide) (Eff.callS 131 rfl Try.func22 nm_22 rfl rfl (fun w hb hh => w_gfmatrix_Invert (Mem.snap w) x12.1 x12.2.1 A23 n24 c25 _ (RdH.sn (RdH.memM (k := 0) rfl hf26) w hb hh) hx27)) ?_
    rintro _ _ ⟨_, ⟨A32, n33, c34, rfl, rfl⟩, rfl⟩
    refine WL.yld (by decide) (Yld.move rfl) ?_
    refine WL.yld (by decide) (Yld.extract rfl rfl) ?_
    refine WL.yld (by decide) (Yld.extract rfl rfl) ?_
    refine WL.eff (by decide) (Eff.alloc 135 rfl zr_27) ?_
    rintro _ _ ⟨g35, rfl, rfl⟩
    refine WL.eff0 (Eff0.storeBAM 135 agg_27 rfl rfl rfl ⟨rfl, rfl⟩ rfl) ?_
    refine WL.yld (by decide) (Yld.assign rfl) ?_
    refine WL.done (hK11 _ _ ?_)
    refine WC.seqRegion fun K36 hK36 => ?_
    obtain ⟨x37, hx37, h⟩ := bnd h
    refine WL.yld (by decide) (Yld.loadBM (k := 102) agg_24 rfl rfl rfl) ?_
    refine WL.eff (by decide) (Eff.callS 141 rfl Try.func23 nm_23 rfl rfl (fun w hb hh => w_r03_Invert (Mem.snap w) x00_0 x00_1 A00_2 n00_2 c00_2 _ (RdH.sn (RdH.memM (k := 0) rfl (SlRc.lift hf00_2 hm_M22)) w hb hh) hx37)) ?_
    rintro _ _ ⟨_, ⟨A42, n43, c44, rfl, rfl⟩, rfl⟩
    refine WL.yld (by decide) (Yld.move rfl) ?_
    refine WL.yld (by decide) (Yld.extract rfl rfl) ?_
    refine WL.yld (by decide) (Yld.extract rfl rfl) ?_
    refine WL.eff (by decide) (Eff.alloc 145 rfl zr_24) ?_
    rintro _ _ ⟨g45, rfl, rfl⟩
    refine WL.eff0 (Eff0.storeBAM 145 agg_24 rfl rfl rfl ⟨rfl, rfl⟩ rfl) ?_
    refine WL.yld (by decide) (Yld.assign rfl) ?_
    refine WL.done (hK36 _ _ ?_)
    refine WC.seqRegion fun K46 hK46 => ?_
    by_cases hc47 : x27.2.2.2 = x37.2.2.2
    · replace h := of_t hc47 h
      obtain ⟨x48, hx48, h⟩ := bnd h
      by_cases hc50 : x48 = true
      · replace h := of_t hc50 h
        obtain ⟨x51, hx51, h⟩ := bnd h
        refine WL.yld (by decide) (Yld.move rfl) ?_
        refine WL.yld (by decide) (Yld.move rfl) ?_
        refine WL.yld (by decide) (Yld.eqlI rfl rfl) ?_
        refine WL.yld (by decide) (Yld.move rfl) ?_
        refine WL.new (v' := .bool true) (congrArg Value.bool (beq_iff_eq.2 hc47)) ?_
        refine WL.yldG (by decide) rfl (Yld.loadBM (k := 135) agg_27 rfl rfl rfl) ?_
        refine WL.yldG (by decide) rfl (Yld.loadBM (k := 145) agg_24 rfl rfl rfl) ?_
        refine WL.effG (by decide) rfl (Eff.callS 149 rfl Try.func21 nm_21 rfl rfl (fun w hb hh => w_law03_same (Mem.snap w) x27.1 x27.2.1 A32 n33 c34 _ (RdH.sn (RdH.own (k := 131) rfl) w hb hh) x37.1 x37.2.1 A42 n43 c44 _ (RdH.sn (RdH.own (k := 141) rfl) w hb hh) hx48)) ?_
        rintro _ _ ⟨_, ⟨rfl, rfl⟩, rfl⟩
        refine WL.yld (by decide) (Yld.pickT rfl rfl) ?_
        refine WL.yld (by decide) (Yld.move rfl) ?_
        refine WL.new (v' := .bool true) (congrArg Value.bool hc50) ?_
        refine WL.effG (by decide) rfl (Eff.callS 152 rfl Try.func13 nm_13 rfl rfl (fun w hb hh => w_law03_awake (Mem.snap w) hx51)) ?_
        rintro _ _ ⟨_, ⟨rfl, rfl⟩, rfl⟩
        refine WL.yld (by decide) (Yld.pickT rfl rfl) ?_
        refine WL.yld (by decide) (Yld.assign rfl) ?_
        refine WL.done (hK46 _ _ ?_)
        refine WC.ret ?_
        injection h with h; subst h
        exact Ret.fn [] (ResIs.one rfl rfl) rfl hm_M22 rfl (by decide) rfl rfl ⟨rfl, rfl⟩
      · replace h := of_f hc50 h
        refine WL.yld (by decide) (Yld.move rfl) ?_
        refine WL.yld (by decide) (Yld.move rfl) ?_
        refine WL.yld (by decide) (Yld.eqlI rfl rfl) ?_
        refine WL.yld (by decide) (Yld.move rfl) ?_
        refine WL.new (v' := .bool true) (congrArg Value.bool (beq_iff_eq.2 hc47)) ?_
        refine WL.yldG (by decide) rfl (Yld.loadBM (k := 135) agg_27 rfl rfl rfl) ?_
        refine WL.yldG (by decide) rfl (Yld.loadBM (k := 145) agg_24 rfl rfl rfl) ?_
        refine WL.effG (by decide) rfl (Eff.callS 149 rfl Try.func21 nm_21 rfl rfl (fun w hb hh => w_law03_same (Mem.snap w) x27.1 x27.2.1 A32 n33 c34 _ (RdH.sn (RdH.own (k := 131) rfl) w hb hh) x37.1 x37.2.1 A42 n43 c44 _ (RdH.sn (RdH.own (k := 141) rfl) w hb hh) hx48)) ?_
        rintro _ _ ⟨_, ⟨rfl, rfl⟩, rfl⟩
        refine WL.yld (by decide) (Yld.pickT rfl rfl) ?_
        refine WL.yld (by decide) (Yld.move rfl) ?_
        refine WL.new (v' := .bool false) (congrArg Value.bool (Bool.eq_false_iff.2 hc50)) ?_
        refine WL.skip (by decide) rfl rfl ?_
        refine WL.yld (by decide) (Yld.pickF rfl rfl) ?_
        refine WL.yld (by decide) (Yld.assign rfl) ?_
        refine WL.done (hK46 _ _ ?_)
        refine WC.ret ?_
        injection h with h; subst h
        exact Ret.fn [] (ResIs.one rfl rfl) rfl hm_M22 rfl (by decide) rfl rfl ⟨rfl, rfl⟩
    · replace h := of_f hc47 h
      refine WL.yld (by decide) (Yld.move rfl) ?_
      refine WL.yld (by decide) (Yld.move rfl) ?_
      refine WL.yld (by decide) (Yld.eqlI rfl rfl) ?_
      refine WL.yld (by decide) (Yld.move rfl) ?_
      refine WL.new (v' := .bool false) (congrArg Value.bool (beq_eq_false_iff_ne.2 hc47)) ?_
      refine WL.skip (by decide) rfl rfl ?_
      refine WL.skip (by decide) rfl rfl ?_
      refine WL.skip (by decide) rfl rfl ?_
      refine WL.yld (by decide) (Yld.pickF rfl rfl) ?_
      refine WL.yld (by decide) (Yld.move rfl) ?_
      refine WL.skip (by decide) rfl rfl ?_
      refine WL.yld (by decide) (Yld.pickF rfl rfl) ?_
      refine WL.yld (by decide) (Yld.assign rfl) ?_
      refine WL.done (hK46 _ _ ?_)
      refine WC.ret ?_
      injection h with h; subst h
      exact Ret.fn [] (ResIs.one rfl rfl) rfl hm_M22 rfl (by decide) rfl rfl ⟨rfl, rfl⟩

end Go.Proofs.Ytnkahhipochakaa
