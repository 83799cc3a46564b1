/-
 Walks (e3): what a function's model gives, the function returns. Printed by a program of ours (vcm.py) from the function's operations. Conditions: as each theorem says.
-/
import Derived.Test.YtpebhdepmbnjbaaWky
import Derived.Test.YtpebhdepmbnjbaaMde3
namespace Go.Proofs.Ytpebhdepmbnjbaa
open Go Go.RowKit
set_option linter.unusedVariables false

theorem nm_11 : (Try.f11.name == "runtime.NumGoroutine") = false := by kernel_rfl
theorem nm_16 : (Try.f16.name == "runtime.NumGoroutine") = false := by kernel_rfl
theorem nm_17 : (Try.f17.name == "runtime.NumGoroutine") = false := by kernel_rfl
theorem nm_18 : (Try.f18.name == "runtime.NumGoroutine") = false := by kernel_rfl
theorem nm_7 : (Try.f7.name == "runtime.NumGoroutine") = false := by kernel_rfl
theorem nm_8 : (Try.f8.name == "runtime.NumGoroutine") = false := by kernel_rfl
theorem nm_9 : (Try.f9.name == "runtime.NumGoroutine") = false := by kernel_rfl

set_option maxRecDepth 10000 in
theorem w_law24_HistoryParts (M0 : Mem) (A00 : Option Addr) (n00 c00 : Nat) (rs00 : List Rneedlestoreref24_Event) (x00 : List (Sneedlestoreref24_Event)) (hf00 : SlT M0 A00 n00 c00 rs00) (hq00 : Rels (rel_needlestoreref24_Event M0) rs00 x00) {res : Bool} (h : m_law24_HistoryParts x00 = some res) :
  Fn Try.prog 6 #[.slice A00 n00 c00] M0 fun r M' es => r = .bool res ∧ es = [] := by
 refine Fn.intro (N := 60) Try.func6 rfl rfl (Nat.le_of_ble_eq_true rfl) fun w0 => ?_
 unfold m_law24_HistoryParts at h
 refine sr fun _ k1 => asn rfl <| dn <| k1 _ _ <| sq fun _ k2 => sr fun _ k3 => ?_
 obtain ⟨x4, hx4, h⟩ := bnd h
 refine mv rfl <| c0 Try.func7 rfl (fun w hb hh => w_law24_light (Mem.snap w) A00 n00 c00 rs00 _ (RdH.sn (RdH.memM (k := 0) rfl hf00) w hb hh) (Rels.sn hq00 (hh.sat 0 _ rfl)) hx4) <| ya (Yld.notB rfl) <| dn <| k3 _ _ <| cnn h rfl not_f (fun q => not_t (Bool.eq_false_iff.2 q)) (fun hc6 h => ?_) fun hc6 h => ?_
 ·
  refine ss <| k2 _ _ <| sr fun _ k7 => ?_
  obtain ⟨x8, hx8, h⟩ := bnd h
  obtain ⟨x26, hx26, h⟩ := bnd h
  obtain ⟨x46, hx46, h⟩ := bnd h
  refine mv rfl <| WL.eff (by decide) (Eff.callM 114 rfl Try.func9 nm_9 rfl rfl rfl (w_law24_made _ A00 n00 c00 rs00 _ hf00 hq00 hx8)) ?_
  rintro _ _ ⟨M20, _, ⟨A21, n22, c23, rs24, rfl, rfl, hq25⟩, hm_M20, rfl⟩
  refine WL.freeze 114 rfl rfl rfl fun M38 hm_M38 hf39 => WL.eff (by decide) (Eff.callM 132 rfl Try.func11 nm_11 rfl rfl rfl (w_law24_given _ A21 n22 c23 rs24 _ hf39 (Rels.lift hq25 hm_M38) hx26)) ?_
  rintro _ _ ⟨M40, _, ⟨A41, n42, c43, rs44, rfl, rfl, hq45⟩, hm_M40, rfl⟩
  refine WL.freeze 132 rfl rfl rfl fun M58 hm_M58 hf59 => WL.eff (by decide) (Eff.callM 152 rfl Try.func10 nm_10 rfl rfl rfl (w_history_Build _ A41 n42 c43 rs44 _ hf59 (Rels.lift hq45 hm_M58) hx46)) ?_
  rintro _ _ ⟨M60, _, ⟨A61, n62, c63, rs64, rfl, rfl, hq65⟩, hm_M60, rfl⟩
  refine mv rfl <| ya (Yld.extract rfl rfl) <| ya (Yld.extract rfl rfl) <| asn rfl <| asn rfl <| dn <| k7 _ _ <| sr fun _ k66 => asn rfl <| dn <| k66 _ _ <| ct (σ := Mem × (Option Addr) × Nat × Nat × (List (Shistory_Op)) × (List Rhistory_Op) × Int) (fun ⟨M67, A68, n69, c70, x71, rs73, x75⟩ => [(3, .slice A68 n69 c70), (4, I64 x46.2), (5, I64 x75)]) (fun ⟨M67, A68, n69, c70, x71, rs73, x75⟩ => [(0, .mem M67)]) (fun ⟨M67, A68, n69, c70, x71, rs73, x75⟩ => m_law24_HistoryParts_j0 x46 x71 x75 = some res ∧ Ext w0.heap.size M60 M67 ∧ SlT M67 A68 n69 c70 rs73 ∧ Rels (rel_history_Op M67) rs73 x71) (fun _ k76 => ?_) ?_
  ·
   refine sr fun _ k77 => ?_
   obtain ⟨x78, hx78, h⟩ := bnd h
   refine mv rfl <| WL.freeze 152 rfl rfl rfl fun M88 hm_M88 hf89 => WL.eff (by decide) (Eff.callM 183 rfl Try.func17 nm_17 rfl rfl rfl (w_history_Keys _ A61 n62 c63 rs64 _ hf89 (Rels.lift hq65 hm_M88) hx78)) ?_
   rintro _ _ ⟨M90, _, ⟨A91, n92, c93, rfl, rfl, hf94⟩, hm_M90, rfl⟩
   refine ya (Yld.lenC (xs := x78) und_47 rfl (RdH.memM (k := 0) rfl hf94)) <| mv rfl <| dn <| k77 _ _ <| bl <| lp (τ := Mem × Int × Int) (fun ⟨M95, x96, x97⟩ => [(3, .slice A61 n62 c63), (4, I64 x46.2), (5, I64 x96), (22, .slice A91 n92 c93), (23, I64 (x78.length : Int)), (24, I64 x97)]) (fun ⟨M95, x96, x97⟩ => [(0, .mem M95)]) (fun q98 ⟨M95, x96, x97⟩ => m_law24_HistoryParts_l1 x46 x78 q98 x96 x97 = some res ∧ Ext w0.heap.size M90 M95) ⟨M90, (0 : Int), (0 : Int)⟩ ?_ (by simp [m_law24_HistoryParts_l1]) ?_
   ·
    exact ⟨h, (Ext.refl _ _)⟩
   rintro q98 ⟨M95, x96, x97⟩ ⟨h, hm_M95⟩ _ k99
   unfold m_law24_HistoryParts_l1 at h
   refine sr fun _ k100 => ya (Yld.lss rfl rfl) <| dn <| k100 _ _ <| sq fun _ k101 => cnd h rfl decide_eq_true decide_eq_false (fun hc102 h => ?_) fun hc102 h => ?_
   ·
    refine ss <| k101 _ _ <| ct (σ := Mem × Int) (fun ⟨M103, x104⟩ => [(3, .slice A61 n62 c63), (4, I64 x46.2), (5, I64 x104), (22, .slice A91 n92 c93), (23, I64 (x78.length : Int)), (24, I64 x97)]) (fun ⟨M103, x104⟩ => [(0, .mem M103)]) (fun ⟨M103, x104⟩ => m_law24_HistoryParts_j2 x97 (m_law24_HistoryParts_l1 x46 x78 q98) x104 = some res ∧ Ext w0.heap.size M95 M103) (fun _ k105 => ?_) ?_
    ·
     refine bl <| sr fun _ k106 => ?_
     obtain ⟨x107, hx107, h⟩ := bnd h
     refine ya (Yld.idxC (xs := x78) sty_47 rfl rfl (RdH.memM (k := 0) rfl (SlRc.lift hf94 hm_M95)) hx107) <| ya (Yld.loadC0 (xs := x78) scal_38 rfl (RdH.memM (k := 0) rfl (SlRc.lift hf94 hm_M95)) hx107 rfl) <| asn rfl <| dn <| k106 _ _ <| ct (σ := Mem × Int) (fun ⟨M108, x109⟩ => [(3, .slice A61 n62 c63), (4, I64 x46.2), (5, I64 x109), (7, U64 x107), (22, .slice A91 n92 c93), (23, I64 (x78.length : Int)), (24, I64 x97)]) (fun ⟨M108, x109⟩ => [(0, .mem M108)]) (fun ⟨M108, x109⟩ => m_law24_HistoryParts_j3 x46 x97 x107 (m_law24_HistoryParts_l1 x46 x78 q98) x109 = some res ∧ Ext w0.heap.size M95 M108) (fun _ k110 => ?_) ?_
     ·
      refine sr fun _ k111 => ?_
      obtain ⟨x112, hx112, h⟩ := bnd h
      refine mv rfl <| mv rfl <| WL.eff (by decide) (Eff.callM 218 rfl Try.func18 nm_18 rfl rfl rfl (w_history_Only _ A61 n62 c63 rs64 _ (SlRc.lift (SlRc.lift hf89 hm_M90) hm_M95) (Rels.lift (Rels.lift (Rels.lift hq65 hm_M88) hm_M90) hm_M95) x107 hx112)) ?_
      rintro _ _ ⟨M124, _, ⟨A125, n126, c127, rs128, rfl, rfl, hq129⟩, hm_M124, rfl⟩
      refine ya (Yld.lenD (rs := rs128) (xs := x112) (Rels.len hq129) und_27 rfl (RdH.own (k := 218) rfl)) <| mv rfl <| dn <| k111 _ _ <| bl <| lp (τ := Int × Int) (fun ⟨x130, x131⟩ => [(3, .slice A61 n62 c63), (4, I64 x46.2), (5, I64 x130), (7, U64 x107), (22, .slice A91 n92 c93), (23, I64 (x78.length : Int)), (24, I64 x97), (30, .slice A125 n126 c127), (31, I64 (x112.length : Int)), (32, I64 x131)]) (fun ⟨x130, x131⟩ => [(0, .mem M124), (218, .own 42 (Lay.sz Rhistory_Op) A125 n126 c127 (cel rs128))]) (fun q132 ⟨x130, x131⟩ => m_law24_HistoryParts_l4 x46 x97 x107 x112 (m_law24_HistoryParts_l1 x46 x78 q98) q132 x130 x131 = some res) ⟨x96, (0 : Int)⟩ ?_ (by simp [m_law24_HistoryParts_l4]) ?_
      ·
       exact h
      rintro q132 ⟨x130, x131⟩ h _ k133
      unfold m_law24_HistoryParts_l4 at h
      refine sr fun _ k134 => ya (Yld.lss rfl rfl) <| dn <| k134 _ _ <| sq fun _ k135 => cnd h rfl decide_eq_true decide_eq_false (fun hc136 h => ?_) fun hc136 h => ?_
      ·
       refine ss <| k135 _ _ <| sq fun _ k137 => bl <| sr fun _ k138 => ?_
       obtain ⟨x139, hx139, h⟩ := bnd h
       obtain ⟨⟨_, r_140_0, r_140_1⟩, hr141, rfl, hq142_0, hq142_1⟩ := Rels.idx hq129 hx139
       refine ya (Yld.idxC (xs := rs128) sty_27 rfl rfl (RdH.own (k := 218) rfl) hr141) <| ya (Yld.loadA (xs := rs128) agg_42 rfl (RdH.own (k := 218) rfl) hr141 rfl) <| al 243 zr_42 fun g143 => sb 243 agg_42 rfl rfl rfl <| dn <| k138 _ _ <| sq fun _ k144 => sr fun _ k145 => ya (Yld.fieldAddr Try.underlying42 rfl nz_38 rfl rfl) <| ya (Yld.loadB (k := 243) scal_38 rfl rfl rfl) <| mv rfl <| ya (Yld.neq_u64 (a := x139.fKey) (b := x107) rfl rfl) <| dn <| k145 _ _ <| cnn h rfl bne_eq_false_iff_eq.2 bne_iff_ne.2 (fun hc146 h => ?_) fun hc146 h => ?_
       ·
        refine ss <| k144 _ _ <| rg fun _ k147 => ?_
        obtain ⟨x148, hx148, h⟩ := bnd h
        refine mv rfl <| ya (Yld.addC rfl rfl hx148) <| asn rfl <| dn <| k147 _ _ <| bn <| tn <| k137 _ _ <| rg fun _ k149 => ?_
        obtain ⟨x150, hx150, h⟩ := bnd h
        exact ya (Yld.addC rfl rfl hx150) <| mv rfl <| dn <| k149 _ _ <| tn <| kw (k133 ⟨x148, x150⟩ h)
       refine sr fun _ k151 => asn rfl <| dn <| k151 _ _ <| re <| tr <| br <| tr <| tr <| br <| tr <| br <| tr <| tr <| br <| tr ?_
       injection h with h; subst h
       exact rt [] (ResIs.one rfl rfl) (Ext.trans (Ext.trans (Ext.trans (Ext.trans (Ext.trans (Ext.trans (Ext.trans (Ext.trans hm_M20 hm_M38) hm_M40) hm_M58) hm_M60) hm_M88) hm_M90) hm_M95) hm_M124) ⟨rfl, rfl⟩
      exact xi <| te <| te <| bx <| tn <| kw (k110 ⟨M124, x130⟩ ⟨h, hm_M124⟩)
     rintro ⟨M108, x109⟩ ⟨h, hm_M108⟩
     unfold m_law24_HistoryParts_j3 at h
     refine sr fun _ k152 => ?_
     obtain ⟨x153, hx153, h⟩ := bnd h
     obtain ⟨x171, hx171, h⟩ := bnd h
     refine mv rfl <| mv rfl <| WL.eff (by decide) (Eff.callM 259 rfl Try.func18 nm_18 rfl rfl rfl (w_history_Only _ A61 n62 c63 rs64 _ (SlRc.lift (SlRc.lift (SlRc.lift hf89 hm_M90) hm_M95) hm_M108) (Rels.lift (Rels.lift (Rels.lift (Rels.lift hq65 hm_M88) hm_M90) hm_M95) hm_M108) x107 hx153)) ?_
     rintro _ _ ⟨M165, _, ⟨A166, n167, c168, rs169, rfl, rfl, hq170⟩, hm_M165, rfl⟩
     refine c0 Try.func16 rfl (fun w hb hh => w_history_Valid (Mem.snap w) A166 n167 c168 rs169 _ (RdH.sn (RdH.own (k := 259) rfl) w hb hh) (Rels.sn hq170 (hh.sat 0 _ rfl)) hx171) <| ya (Yld.notB rfl) <| dn <| k152 _ _ <| cnn h rfl not_f (fun q => not_t (Bool.eq_false_iff.2 q)) (fun hc173 h => ?_) fun hc173 h => ?_
     ·
      exact WC.skip <| bn <| tn <| kw (k105 ⟨M165, x109⟩ ⟨h, (Ext.trans hm_M108 hm_M165)⟩)
     refine sr fun _ k174 => asn rfl <| dn <| k174 _ _ <| re <| br <| tr <| tr <| br <| tr ?_
     injection h with h; subst h
     exact rt [] (ResIs.one rfl rfl) (Ext.trans (Ext.trans (Ext.trans (Ext.trans (Ext.trans (Ext.trans (Ext.trans (Ext.trans (Ext.trans hm_M20 hm_M38) hm_M40) hm_M58) hm_M60) hm_M88) hm_M90) hm_M95) hm_M108) hm_M165) ⟨rfl, rfl⟩
    rintro ⟨M103, x104⟩ ⟨h, hm_M103⟩
    unfold m_law24_HistoryParts_j2 at h
    refine rg fun _ k175 => ?_
    obtain ⟨x176, hx176, h⟩ := bnd h
    exact ya (Yld.addC rfl rfl hx176) <| mv rfl <| dn <| k175 _ _ <| tn <| kw (k99 ⟨M103, x104, x176⟩ ⟨h, (Ext.trans hm_M95 hm_M103)⟩)
   exact xi <| te <| te <| bx <| tn <| kw (k76 ⟨M95, A61, n62, c63, x46.1, rs64, x96⟩ ⟨h, (Ext.trans (Ext.trans hm_M88 hm_M90) hm_M95), (SlRc.lift (SlRc.lift hf89 hm_M90) hm_M95), (Rels.lift (Rels.lift (Rels.lift hq65 hm_M88) hm_M90) hm_M95)⟩)
  rintro ⟨M67, A68, n69, c70, x71, rs73, x75⟩ ⟨h, hm_M67, hf72, hq74⟩
  unfold m_law24_HistoryParts_j0 at h
  refine sr fun _ k177 => mv rfl <| ya (Yld.eqlI rfl rfl) <| mv rfl <| spl h beq_iff_eq.2 beq_eq_false_iff_ne.2 (fun hc178 h => ?_) fun hc178 h => ?_
  ·
   refine mvg rfl <| mvg rfl <| yg (Yld.lenD (rs := rs73) (xs := x71) (Rels.len hq74) und_27 rfl (RdH.memM (k := 0) rfl hf72)) <| yg (Yld.eqlI rfl rfl) <| pt rfl rfl <| mv rfl <| spl h beq_iff_eq.2 beq_eq_false_iff_ne.2 (fun hc179 h => ?_) fun hc179 h => ?_
   ·
    obtain ⟨x180, hx180, h⟩ := bnd h
    refine c0g Try.func8 rfl (fun w hb hh => w_law24_awake (Mem.snap w) hx180) <| pt rfl rfl <| asn rfl <| dn <| k177 _ _ <| re ?_
    injection h with h; subst h
    exact rt [] (ResIs.one rfl rfl) (Ext.trans (Ext.trans (Ext.trans (Ext.trans (Ext.trans hm_M20 hm_M38) hm_M40) hm_M58) hm_M60) hm_M67) ⟨rfl, rfl⟩
   refine sk <| pf rfl rfl <| asn rfl <| dn <| k177 _ _ <| re ?_
   injection h with h; subst h
   exact rt [] (ResIs.one rfl rfl) (Ext.trans (Ext.trans (Ext.trans (Ext.trans (Ext.trans hm_M20 hm_M38) hm_M40) hm_M58) hm_M60) hm_M67) ⟨rfl, rfl⟩
  refine sk <| sk <| sk <| sk <| pf rfl rfl <| mv rfl <| sk <| pf rfl rfl <| asn rfl <| dn <| k177 _ _ <| re ?_
  injection h with h; subst h
  exact rt [] (ResIs.one rfl rfl) (Ext.trans (Ext.trans (Ext.trans (Ext.trans (Ext.trans hm_M20 hm_M38) hm_M40) hm_M58) hm_M60) hm_M67) ⟨rfl, rfl⟩
 refine sr fun _ k182 => ?_
 obtain ⟨x183, hx183, h⟩ := bnd h
 refine c0 Try.func8 rfl (fun w hb hh => w_law24_awake (Mem.snap w) hx183) <| asn rfl <| dn <| k182 _ _ <| re <| tr ?_
 injection h with h; subst h
 exact rt0 (ResIs.one rfl rfl)

end Go.Proofs.Ytpebhdepmbnjbaa
