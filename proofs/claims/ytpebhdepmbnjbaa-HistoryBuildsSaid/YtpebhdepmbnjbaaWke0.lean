/-
 Walks (e0): what a function's model gives, the function returns. Printed by a program of ours (vcm.py) from the function's operations. Conditions: as each theorem says.
-/
import Derived.Test.YtpebhdepmbnjbaaWkd
import Derived.Test.YtpebhdepmbnjbaaMde0
namespace Go.Proofs.Ytpebhdepmbnjbaa
open Go Go.RowKit
set_option linter.unusedVariables false

theorem und_26 : Try.prog.underlying 26 = some (.slice 22) := by kernel_rfl
theorem nm_11 : (Try.f11.name == "runtime.NumGoroutine") = false := by kernel_rfl
theorem nm_12 : (Try.f12.name == "runtime.NumGoroutine") = false := by kernel_rfl
theorem nm_13 : (Try.f13.name == "runtime.NumGoroutine") = false := by kernel_rfl
theorem nm_14 : (Try.f14.name == "runtime.NumGoroutine") = false := by kernel_rfl
theorem nm_7 : (Try.f7.name == "runtime.NumGoroutine") = false := by kernel_rfl
theorem nm_8 : (Try.f8.name == "runtime.NumGoroutine") = false := by kernel_rfl
theorem nm_9 : (Try.f9.name == "runtime.NumGoroutine") = false := by kernel_rfl
theorem scal_22 : scal Try.prog 22 = true := by kernel_rfl
theorem sty_26 : STy Try.prog 26 22 (.slice none 0 0) 1 24 := STy.of und_26 (by kernel_rfl) rfl

set_option maxRecDepth 10000 in
theorem w_law24_HistoryBuilds (M0 : Mem) (A00 : Option Addr) (n00 c00 : Nat) (rs00 : List Rneedlestoreref24_Event) (x00 : List (Sneedlestoreref24_Event)) (hf00 : SlT M0 A00 n00 c00 rs00) (hq00 : Rels (rel_needlestoreref24_Event M0) rs00 x00) {res : Bool} (h : m_law24_HistoryBuilds x00 = some res) :
  Fn Try.prog 3 #[.slice A00 n00 c00] M0 fun r M' es => r = .bool res ∧ es = [] := by
 refine Fn.intro (N := 49) Try.func3 rfl rfl (Nat.le_of_ble_eq_true rfl) fun w0 => ?_
 unfold m_law24_HistoryBuilds at h
 refine WC.seqRegion fun K1 hK1 => ?_
 refine WL.yld (by decide) (Yld.assign rfl) ?_
 refine WL.done (hK1 _ _ ?_)
 refine WC.seq fun K2 hK2 => ?_
 refine WC.seqRegion fun K3 hK3 => ?_
 obtain ⟨x4, hx4, h⟩ := bnd h
 refine WL.yld (by decide) (Yld.move rfl) ?_
 refine WL.eff (by decide) (Eff.callS 105 rfl Try.func7 nm_7 rfl rfl (fun w hb hh => w_law24_light (Mem.snap w) A00 n00 c00 rs00 _ (RdH.sn (RdH.memM (k := 0) rfl hf00) w hb hh) (Rels.sn hq00 (hh.sat 0 _ rfl)) hx4)) ?_
 rintro _ _ ⟨_, ⟨rfl, rfl⟩, rfl⟩
 refine WL.yld (by decide) (Yld.notB rfl) ?_
 refine WL.done (hK3 _ _ ?_)
 by_cases hc6 : x4 = true
 ·
  replace h := of_t hc6 h
  refine WC.condFe rfl (not_f hc6) ?_
  refine WC.skip ?_
  refine QK.thenN (hK2 _ _ ?_)
  refine WC.seqCut (σ := Mem) (fun M7 => []) (fun M7 => [(0, .mem M7)]) (fun M7 => m_law24_HistoryBuilds_j0 = some res ∧ Ext w0.heap.size M0 M7) (fun K8 hK8 => ?_) ?_
  ·
   skip
   refine WC.seqRegion fun K9 hK9 => ?_
   obtain ⟨x10, hx10, h⟩ := bnd h
   obtain ⟨x28, hx28, h⟩ := bnd h
   obtain ⟨x46, hx46, h⟩ := bnd h
   refine WL.yld (by decide) (Yld.move rfl) ?_
   refine WL.yld (by decide) (Yld.move rfl) ?_
   refine WL.eff (by decide) (Eff.callM 116 rfl Try.func9 nm_9 rfl rfl rfl (w_law24_made _ A00 n00 c00 rs00 _ hf00 hq00 hx10)) ?_
   rintro _ _ ⟨M22, _, ⟨A23, n24, c25, rs26, rfl, rfl, hq27⟩, hm_M22, rfl⟩
   refine WL.yld (by decide) (Yld.move rfl) ?_
   refine WL.eff (by decide) (Eff.callM 134 rfl Try.func9 nm_9 rfl rfl rfl (w_law24_made _ A00 n00 c00 rs00 _ (SlRc.lift hf00 hm_M22) (Rels.lift hq00 hm_M22) hx28)) ?_
   rintro _ _ ⟨M40, _, ⟨A41, n42, c43, rs44, rfl, rfl, hq45⟩, hm_M40, rfl⟩
   refine WL.yld (by decide) (Yld.move rfl) ?_
   obtain ⟨hu49, hq50⟩ := Rels.apd hq45 (Rels.lift (Rels.lift hq00 hm_M22) hm_M40) hx46
   refine WL.eff (by decide) (Eff.appendC 134 (xs := rs44) (ys := rs00) sty_22 rfl rfl rfl (RdH.memM (k := 0) rfl (SlRc.lift (SlRc.lift hf00 hm_M22) hm_M40)) hu49) ?_
   rintro _ _ ⟨A47, c48, rfl, rfl⟩
   refine WL.freeze 116 rfl rfl rfl fun M52 hm_M52 hf53 => ?_
   refine WL.freeze 134 rfl rfl rfl fun M54 hm_M54 hf55 => ?_
   have hq56 : Rels ((RelL rel_needlestoreref24_Event) M54) ([(⟨A00, n00, c00⟩ : Hdr), (⟨A23, n24, c25⟩ : Hdr), (⟨A47, (rs44 ++ rs00).length, c48⟩ : Hdr)] : List Hdr) ([x00, x10, x46] : List (List (Sneedlestoreref24_Event))) := (Rels.cons ⟨rs00, (SlRc.lift (SlRc.lift (SlRc.lift (SlRc.lift hf00 hm_M22) hm_M40) hm_M52) hm_M54), (Rels.lift (Rels.lift (Rels.lift (Rels.lift hq00 hm_M22) hm_M40) hm_M52) hm_M54)⟩ (Rels.cons ⟨rs26, (SlRc.lift hf53 hm_M54), (Rels.lift (Rels.lift (Rels.lift hq27 hm_M40) hm_M52) hm_M54)⟩ (Rels.cons ⟨(rs44 ++ rs00), hf55, (Rels.lift (Rels.lift hq50 hm_M52) hm_M54)⟩ Rels.nil)))
   refine WL.eff (by decide) (Eff.buildC 151 ([(⟨A00, n00, c00⟩ : Hdr), (⟨A23, n24, c25⟩ : Hdr), (⟨A47, (rs44 ++ rs00).length, c48⟩ : Hdr)] : List Hdr) sty_26 rfl rfl rfl rfl rfl (by decide)) ?_
   rintro _ _ ⟨g51, rfl, rfl⟩
   refine WL.yld (by decide) (Yld.lenD (rs := ([(⟨A00, n00, c00⟩ : Hdr), (⟨A23, n24, c25⟩ : Hdr), (⟨A47, (rs44 ++ rs00).length, c48⟩ : Hdr)] : List Hdr)) (xs := ([x00, x10, x46] : List (List (Sneedlestoreref24_Event)))) (Rels.len hq56) und_26 rfl (RdH.own (k := 151) rfl)) ?_
   refine WL.yld (by decide) (Yld.move rfl) ?_
   refine WL.done (hK9 _ _ ?_)
   refine WC.block ?_
   refine WC.loop (σ := Nat × Mem × Int) (fun ⟨q59, M57, x58⟩ => [(20, .slice (some ⟨g51, 0, none⟩) (([(⟨A00, n00, c00⟩ : Hdr), (⟨A23, n24, c25⟩ : Hdr), (⟨A47, (rs44 ++ rs00).length, c48⟩ : Hdr)] : List Hdr).length) (([(⟨A00, n00, c00⟩ : Hdr), (⟨A23, n24, c25⟩ : Hdr), (⟨A47, (rs44 ++ rs00).length, c48⟩ : Hdr)] : List Hdr).length)), (21, I64 (([x00, x10, x46] : List (List (Sneedlestoreref24_Event))).length : Int)), (22, I64 x58)]) (fun ⟨q59, M57, x58⟩ => [(0, .mem M57), (151, .own 22 (Lay.sz Hdr) (some ⟨g51, 0, none⟩) (([(⟨A00, n00, c00⟩ : Hdr), (⟨A23, n24, c25⟩ : Hdr), (⟨A47, (rs44 ++ rs00).length, c48⟩ : Hdr)] : List Hdr).length) (([(⟨A00, n00, c00⟩ : Hdr), (⟨A23, n24, c25⟩ : Hdr), (⟨A47, (rs44 ++ rs00).length, c48⟩ : Hdr)] : List Hdr).length) (cel ([(⟨A00, n00, c00⟩ : Hdr), (⟨A23, n24, c25⟩ : Hdr), (⟨A47, (rs44 ++ rs00).length, c48⟩ : Hdr)] : List Hdr)))]) (fun ⟨q59, M57, x58⟩ => m_law24_HistoryBuilds_l1 x00 x10 x46 q59 x58 = some res ∧ Ext w0.heap.size M54 M57) (fun ⟨q59, M57, x58⟩ => q59) ⟨forever, M54, (0 : Int)⟩ ?_ (Sub.cons rfl (Sub.cons rfl (Sub.cons rfl (Sub.nil _)))) (Sub.cons rfl (Sub.cons rfl (Sub.nil _))) ?_
   ·
    exact ⟨h, (Ext.refl _ _)⟩
   rintro ⟨q59, M57, x58⟩ ⟨h, hm_M57⟩ K60 hK60
   cases q59 with
   | zero => exact absurd h (by simp [m_law24_HistoryBuilds_l1])
   | succ q59 =>
    unfold m_law24_HistoryBuilds_l1 at h
    refine WC.seqRegion fun K61 hK61 => ?_
    refine WL.yld (by decide) (Yld.lss rfl rfl) ?_
    refine WL.done (hK61 _ _ ?_)
    refine WC.seq fun K62 hK62 => ?_
    by_cases hc63 : x58 < (([x00, x10, x46] : List (List (Sneedlestoreref24_Event))).length : Int)
    ·
     replace h := of_t hc63 h
     refine WC.condTe rfl (decide_eq_true hc63) ?_
     refine WC.skip ?_
     refine QK.thenN (hK62 _ _ ?_)
     refine WC.seq fun K64 hK64 => ?_
     refine WC.block ?_
     refine WC.seqRegion fun K65 hK65 => ?_
     obtain ⟨x66, hx66, h⟩ := bnd h
     obtain ⟨r_67, hr68, hq69⟩ := Rels.idx (Rels.lift hq56 hm_M57) hx66
     refine WL.yld (by decide) (Yld.idxC (xs := ([(⟨A00, n00, c00⟩ : Hdr), (⟨A23, n24, c25⟩ : Hdr), (⟨A47, (rs44 ++ rs00).length, c48⟩ : Hdr)] : List Hdr)) sty_26 rfl rfl (RdH.own (k := 151) rfl) hr68) ?_
     obtain ⟨rs70, hf71, hq72⟩ := hq69
     refine WL.yld (by decide) (Yld.loadC0 (xs := ([(⟨A00, n00, c00⟩ : Hdr), (⟨A23, n24, c25⟩ : Hdr), (⟨A47, (rs44 ++ rs00).length, c48⟩ : Hdr)] : List Hdr)) scal_22 rfl (RdH.own (k := 151) rfl) hr68 rfl) ?_
     refine WL.yld (by decide) (Yld.assign rfl) ?_
     refine WL.done (hK65 _ _ ?_)
     refine WC.seqRegion fun K73 hK73 => ?_
     obtain ⟨x74, hx74, h⟩ := bnd h
     obtain ⟨x92, hx92, h⟩ := bnd h
     refine WL.yld (by decide) (Yld.move rfl) ?_
     refine WL.eff (by decide) (Eff.callM 180 rfl Try.func11 nm_11 rfl rfl rfl (w_law24_given _ r_67.A r_67.n r_67.c rs70 _ hf71 hq72 hx74)) ?_
     rintro _ _ ⟨M86, _, ⟨A87, n88, c89, rs90, rfl, rfl, hq91⟩, hm_M86, rfl⟩
     refine WL.freeze 180 rfl rfl rfl fun M104 hm_M104 hf105 => ?_
     refine WL.eff (by decide) (Eff.callM 198 rfl Try.func10 nm_10 rfl rfl rfl (w_history_Build _ A87 n88 c89 rs90 _ hf105 (Rels.lift hq91 hm_M104) hx92)) ?_
     rintro _ _ ⟨M106, _, ⟨A107, n108, c109, rs110, rfl, rfl, hq111⟩, hm_M106, rfl⟩
     refine WL.yld (by decide) (Yld.move rfl) ?_
     refine WL.yld (by decide) (Yld.extract rfl rfl) ?_
     refine WL.yld (by decide) (Yld.extract rfl rfl) ?_
     refine WL.yld (by decide) (Yld.assign rfl) ?_
     refine WL.yld (by decide) (Yld.assign rfl) ?_
     refine WL.done (hK73 _ _ ?_)
     refine WC.seqRegion fun K112 hK112 => ?_
     obtain ⟨x113, hx113, h⟩ := bnd h
     refine WL.yld (by decide) (Yld.move rfl) ?_
     refine WL.eff (by decide) (Eff.callM 219 rfl Try.func12 nm_12 rfl rfl rfl (w_r24_Build _ r_67.A r_67.n r_67.c rs70 _ (SlRc.lift (SlRc.lift (SlRc.lift hf71 hm_M86) hm_M104) hm_M106) (Rels.lift (Rels.lift (Rels.lift hq72 hm_M86) hm_M104) hm_M106) hx113)) ?_
     rintro _ _ ⟨M125, _, ⟨A126, n127, c128, rs129, rfl, rfl, hq130⟩, hm_M125, rfl⟩
     refine WL.yld (by decide) (Yld.move rfl) ?_
     refine WL.yld (by decide) (Yld.extract rfl rfl) ?_
     refine WL.yld (by decide) (Yld.extract rfl rfl) ?_
     refine WL.yld (by decide) (Yld.assign rfl) ?_
     refine WL.yld (by decide) (Yld.assign rfl) ?_
     refine WL.done (hK112 _ _ ?_)
     refine WC.seqRegion fun K131 hK131 => ?_
     by_cases hc132 : x92.2 = x113.2
     ·
      replace h := of_t hc132 h
      obtain ⟨x133, hx133, h⟩ := bnd h
      obtain ⟨x153, hx153, h⟩ := bnd h
      refine WL.yld (by decide) (Yld.move rfl) ?_
      refine WL.yld (by decide) (Yld.move rfl) ?_
      refine WL.yld (by decide) (Yld.neqI rfl rfl) ?_
      refine WL.yld (by decide) (Yld.move rfl) ?_
      refine WL.new (v' := .bool false) (congrArg Value.bool (bne_eq_false_iff_eq.2 hc132)) ?_
      refine WL.yldG (by decide) rfl (Yld.move rfl) ?_
      refine WL.freeze 198 rfl rfl rfl fun M145 hm_M145 hf146 => ?_
      refine WL.effG (by decide) rfl (Eff.callM 239 rfl Try.func14 nm_14 rfl rfl rfl (w_law24_told _ A107 n108 c109 rs110 _ hf146 (Rels.lift (Rels.lift hq111 hm_M125) hm_M145) hx133)) ?_
      rintro _ _ ⟨M147, _, ⟨A148, n149, c150, rs151, rfl, rfl, hq152⟩, hm_M147, rfl⟩
      refine WL.yldG (by decide) rfl (Yld.move rfl) ?_
      refine WL.effG (by decide) rfl (Eff.callS 254 rfl Try.func13 nm_13 rfl rfl (fun w hb hh => w_r24_Same (Mem.snap w) A148 n149 c150 rs151 _ (RdH.sn (RdH.own (k := 239) rfl) w hb hh) (Rels.sn hq152 (hh.sat 0 _ rfl)) A126 n127 c128 rs129 _ (RdH.sn (RdH.own (k := 219) rfl) w hb hh) (Rels.sn (Rels.lift (Rels.lift hq130 hm_M145) hm_M147) (hh.sat 0 _ rfl)) hx153)) ?_
      rintro _ _ ⟨_, ⟨rfl, rfl⟩, rfl⟩
      refine WL.yldG (by decide) rfl (Yld.notB rfl) ?_
      refine WL.yld (by decide) (Yld.pickF rfl rfl) ?_
      refine WL.done (hK131 _ _ ?_)
      by_cases hc155 : x153 = true
      ·
       replace h := of_t hc155 h
       refine WC.condFe rfl (not_f hc155) ?_
       refine WC.skip ?_
       refine QK.blockN ?_
       refine QK.thenN (hK64 _ _ ?_)
       refine WC.region fun K156 hK156 => ?_
       obtain ⟨x157, hx157, h⟩ := bnd h
       refine WL.yld (by decide) (Yld.addC rfl rfl hx157) ?_
       refine WL.yld (by decide) (Yld.move rfl) ?_
       refine WL.done (hK156 _ _ ?_)
       refine QK.thenN ?_
       refine hK60 ⟨q59, M147, x157⟩ _ _ ?_ (Nat.lt_succ_self _) (Sub.cons rfl (Sub.cons rfl (Sub.cons rfl (Sub.nil _)))) (Sub.cons rfl (Sub.cons rfl (Sub.nil _)))
       exact ⟨h, (Ext.trans (Ext.trans (Ext.trans (Ext.trans (Ext.trans (Ext.trans hm_M57 hm_M86) hm_M104) hm_M106) hm_M125) hm_M145) hm_M147)⟩
      ·
       replace h := of_f hc155 h
       refine WC.condTe rfl (not_t (Bool.eq_false_iff.2 hc155)) ?_
       refine WC.seqRegion fun K158 hK158 => ?_
       refine WL.yld (by decide) (Yld.assign rfl) ?_
       refine WL.done (hK158 _ _ ?_)
       refine WC.ret (QK.blockR (QK.thenR (QK.thenR (QK.blockR (QK.thenR ?_)))))
       injection h with h; subst h
       exact Ret.fn [] (ResIs.one rfl rfl) rfl (Ext.trans (Ext.trans (Ext.trans (Ext.trans (Ext.trans (Ext.trans (Ext.trans (Ext.trans (Ext.trans (Ext.trans hm_M22 hm_M40) hm_M52) hm_M54) hm_M57) hm_M86) hm_M104) hm_M106) hm_M125) hm_M145) hm_M147) rfl (by decide) rfl rfl ⟨rfl, rfl⟩
     ·
      replace h := of_f hc132 h
      refine WL.yld (by decide) (Yld.move rfl) ?_
      refine WL.yld (by decide) (Yld.move rfl) ?_
      refine WL.yld (by decide) (Yld.neqI rfl rfl) ?_
      refine WL.yld (by decide) (Yld.move rfl) ?_
      refine WL.new (v' := .bool true) (congrArg Value.bool (bne_iff_ne.2 hc132)) ?_
      refine WL.skip (by decide) rfl rfl ?_
      refine WL.skip (by decide) rfl rfl ?_
      refine WL.skip (by decide) rfl rfl ?_
      refine WL.skip (by decide) rfl rfl ?_
      refine WL.skip (by decide) rfl rfl ?_
      refine WL.yld (by decide) (Yld.pickT rfl rfl) ?_
      refine WL.done (hK131 _ _ ?_)
      refine WC.condT rfl ?_
      refine WC.seqRegion fun K159 hK159 => ?_
      refine WL.yld (by decide) (Yld.assign rfl) ?_
      refine WL.done (hK159 _ _ ?_)
      refine WC.ret (QK.blockR (QK.thenR (QK.thenR (QK.blockR (QK.thenR ?_)))))
      injection h with h; subst h
      exact Ret.fn [] (ResIs.one rfl rfl) rfl (Ext.trans (Ext.trans (Ext.trans (Ext.trans (Ext.trans (Ext.trans (Ext.trans (Ext.trans hm_M22 hm_M40) hm_M52) hm_M54) hm_M57) hm_M86) hm_M104) hm_M106) hm_M125) rfl (by decide) rfl rfl ⟨rfl, rfl⟩
    ·
     replace h := of_f hc63 h
     refine WC.condFe rfl (decide_eq_false hc63) ?_
     refine WC.exit (QK.thenE (QK.thenE (QK.blockX ?_)))
     refine QK.thenN ?_
     refine hK8 M57 _ _ ?_ (Sub.nil _) (Sub.cons rfl (Sub.nil _))
     exact ⟨h, (Ext.trans (Ext.trans (Ext.trans (Ext.trans hm_M22 hm_M40) hm_M52) hm_M54) hm_M57)⟩
  ·
   rintro M7 ⟨h, hm_M7⟩
   unfold m_law24_HistoryBuilds_j0 at h
   refine WC.seqRegion fun K160 hK160 => ?_
   obtain ⟨x161, hx161, h⟩ := bnd h
   refine WL.eff (by decide) (Eff.callS 262 rfl Try.func8 nm_8 rfl rfl (fun w hb hh => w_law24_awake (Mem.snap w) hx161)) ?_
   rintro _ _ ⟨_, ⟨rfl, rfl⟩, rfl⟩
   refine WL.yld (by decide) (Yld.assign rfl) ?_
   refine WL.done (hK160 _ _ ?_)
   refine WC.ret ?_
   injection h with h; subst h
   exact Ret.fn [] (ResIs.one rfl rfl) rfl hm_M7 rfl (by decide) rfl rfl ⟨rfl, rfl⟩
 ·
  replace h := of_f hc6 h
  refine WC.condTe rfl (not_t (Bool.eq_false_iff.2 hc6)) ?_
  refine WC.seqRegion fun K163 hK163 => ?_
  obtain ⟨x164, hx164, h⟩ := bnd h
  refine WL.eff (by decide) (Eff.callS 265 rfl Try.func8 nm_8 rfl rfl (fun w hb hh => w_law24_awake (Mem.snap w) hx164)) ?_
  rintro _ _ ⟨_, ⟨rfl, rfl⟩, rfl⟩
  refine WL.yld (by decide) (Yld.assign rfl) ?_
  refine WL.done (hK163 _ _ ?_)
  refine WC.ret (QK.thenR ?_)
  injection h with h; subst h
  exact Ret.fn [] (ResIs.one rfl rfl) rfl (Ext.refl _ _) rfl (by decide) rfl rfl ⟨rfl, rfl⟩

end Go.Proofs.Ytpebhdepmbnjbaa
