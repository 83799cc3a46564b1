/-
  Walks (g1): what a function's model gives, the function returns. Printed by a program of ours (vcm.py) from the function's operations. Conditions: as each theorem says.
-/
import Derived.Test.YtnbcphofimicdaaWkf
import Derived.Test.YtnbcphofimicdaaMdg1
namespace Go.Proofs.Ytnbcphofimicdaa
open Go Go.RowKit
set_option linter.unusedVariables false

theorem und_41 : Try.prog.underlying 41 = some (.slice 35) := by kernel_rfl
theorem nm_15 : (Try.f15.name == "runtime.NumGoroutine") = false := by kernel_rfl
theorem nm_16 : (Try.f16.name == "runtime.NumGoroutine") = false := by kernel_rfl
theorem nm_17 : (Try.f17.name == "runtime.NumGoroutine") = false := by kernel_rfl
theorem scal_35 : scal Try.prog 35 = true := by kernel_rfl
theorem sty_41 : STy Try.prog 41 35 (.slice none 0 0) 1 24 := STy.of und_41 (by kernel_rfl) rfl

set_option maxRecDepth 10000 in
theorem w_law04_RsRestores (M0 : Mem) (A00 : Option Addr) (n00 c00 : Nat) (rs00 : List Hdr) (x00 : List (List (BitVec 8))) (hf00 : SlT M0 A00 n00 c00 rs00) (hq00 : Rels ((RelB (α := BitVec 8)) M0) rs00 x00) (A01 : Option Addr) (n01 c01 : Nat) (x01 : List (Bool)) (hf01 : SlT M0 A01 n01 c01 x01) (A02 : Option Addr) (n02 c02 : Nat) (x02 : List (BitVec 8)) (hf02 : SlT M0 A02 n02 c02 x02) (x03 : Int) {res : Bool} (h : m_law04_RsRestores x00 x01 x02 x03 = some res) :
    Fn Try.prog 4 #[.slice A00 n00 c00, .slice A01 n01 c01, .slice A02 n02 c02, I64 x03] M0 fun r M' es => r = .bool res ∧ es = [] := by
  refine Fn.intro (N := 69) Try.func4 rfl rfl (Nat.le_of_ble_eq_true rfl) fun w0 => ?_
  unfold m_law04_RsRestores at h
  refine WC.seqRegion fun K1 hK1 => ?_
  refine WL.yld (by decide) (Yld.assign rfl) ?_
  refine WL.done (hK1 _ _ ?_)
  refine WC.seqCut (σ := (Option Addr) × Nat × Nat × (List (BitVec 8)) × Int) (fun ⟨A2, n3, c4, x5, x7⟩ => [(0, .slice A00 n00 c00), (1, .slice A01 n01 c01), (2, .slice A2 n3 c4), (3, I64 x7)]) (fun ⟨A2, n3, c4, x5, x7⟩ => [(0, .mem M0)]) (fun ⟨A2, n3, c4, x5, x7⟩ => m_law04_RsRestores_j0 x00 x01 x5 x7 = some res ∧ SlT M0 A2 n3 c4 x5) (fun K8 hK8 => ?_) ?_
  · skip
    refine WC.seqRegion fun K9 hK9 => ?_
    obtain ⟨x10, hx10, h⟩ := bnd h
    by_cases hc12 : x10 = true
    · replace h := of_t hc12 h
      refine WL.yld (by decide) (Yld.move rfl) ?_
      refine WL.eff (by decide) (Eff.callS 111 rfl Try.func16 nm_16 rfl rfl (fun w hb hh => w_law04_light (Mem.snap w) A00 n00 c00 rs00 _ (RdH.sn (RdH.memM (k := 0) rfl hf00) w hb hh) (Rels.sn hq00 (hh.sat 0 _ rfl)) hx10)) ?_
      rintro _ _ ⟨_, ⟨rfl, rfl⟩, rfl⟩
      refine WL.yld (by decide) (Yld.notB rfl) ?_
      refine WL.yld (by decide) (Yld.move rfl) ?_
      refine WL.new (v' := .bool false) (congrArg Value.bool (not_f hc12)) ?_
      refine WL.yldG (by decide) rfl (Yld.move rfl) ?_
      refine WL.yldG (by decide) rfl (Yld.lenC (xs := x01) und_36 rfl (RdH.memM (k := 0) rfl hf01)) ?_
      refine WL.yldG (by decide) rfl (Yld.gtr rfl rfl) ?_
      refine WL.yld (by decide) (Yld.pickF rfl rfl) ?_
      refine WL.done (hK9 _ _ ?_)
      by_cases hc13 : (20 : Int) < (x01.length : Int)
      · replace h := of_t hc13 h
        refine WC.condTe rfl (decide_eq_true hc13) ?_
        refine WC.seqRegion fun K14 hK14 => ?_
        obtain ⟨x15, hx15, h⟩ := bnd h
        refine WL.eff (by decide) (Eff.callS 116 rfl Try.func15 nm_15 rfl rfl (fun w hb hh => w_law04_awake (Mem.snap w) hx15)) ?_
        rintro _ _ ⟨_, ⟨rfl, rfl⟩, rfl⟩
        refine WL.yld (by decide) (Yld.assign rfl) ?_
        refine WL.done (hK14 _ _ ?_)
        refine WC.ret (QK.thenR ?_)
        injection h with h; subst h
        exact Ret.fn [] (ResIs.one rfl rfl) rfl (Ext.refl _ _) rfl (by decide) rfl rfl ⟨rfl, rfl⟩
      · replace h := of_f hc13 h
        refine WC.condFe rfl (decide_eq_false hc13) ?_
        refine WC.skip ?_
        refine QK.thenN ?_
        refine hK8 ⟨A02, n02, c02, x02, x03⟩ _ _ ?_ (Sub.cons rfl (Sub.cons rfl (Sub.cons rfl (Sub.cons rfl (Sub.nil _))))) (Sub.cons rfl (Sub.nil _))
        exact ⟨h, hf02⟩
    · replace h := of_f hc12 h
      refine WL.yld (by decide) (Yld.move rfl) ?_
      refine WL.eff (by decide) (Eff.callS 111 rfl Try.func16 nm_16 rfl rfl (fun w hb hh => w_law04_light (Mem.snap w) A00 n00 c00 rs00 _ (RdH.sn (RdH.memM (k := 0) rfl hf00) w hb hh) (Rels.sn hq00 (hh.sat 0 _ rfl)) hx10)) ?_
      rintro _ _ ⟨_, ⟨rfl, rfl⟩, rfl⟩
      refine WL.yld (by decide) (Yld.notB rfl) ?_
      refine WL.yld (by decide) (Yld.move rfl) ?_
      refine WL.new (v' := .bool true) (congrArg Value.bool (not_t (Bool.eq_false_iff.2 hc12))) ?_
      refine WL.skip (by decide) rfl rfl ?_
      refine WL.skip (by decide) rfl rfl ?_
      refine WL.skip (by decide) rfl rfl ?_
      refine WL.yld (by decide) (Yld.pickT rfl rfl) ?_
      refine WL.done (hK9 _ _ ?_)
      refine WC.condT rfl ?_
      refine WC.seqRegion fun K17 hK17 => ?_
      obtain ⟨x18, hx18, h⟩ := bnd h
      refine WL.eff (by decide) (Eff.callS 119 rfl Try.func15 nm_15 rfl rfl (fun w hb hh => w_law04_awake (Mem.snap w) hx18)) ?_
      rintro _ _ ⟨_, ⟨rfl, rfl⟩, rfl⟩
      refine WL.yld (by decide) (Yld.assign rfl) ?_
      refine WL.done (hK17 _ _ ?_)
      refine WC.ret (QK.thenR ?_)
      injection h with h; subst h
      exact Ret.fn [] (ResIs.one rfl rfl) rfl (Ext.refl _ _) rfl (by decide) rfl rfl ⟨rfl, rfl⟩
  · rintro ⟨A2, n3, c4, x5, x7⟩ ⟨h, hf6⟩
    unfold m_law04_RsRestores_j0 at h
    refine WC.seqRegion fun K20 hK20 => ?_
    obtain ⟨x21, hx21, h⟩ := bnd h
    obtain ⟨x39, hx39, h⟩ := bnd h
    refine WL.yld (by decide) (Yld.move rfl) ?_
    refine WL.yld (by decide) (Yld.move rfl) ?_
    refine WL.eff (by decide) (Eff.callM 127 rfl Try.func18 nm_18 rfl rfl rfl (w_law04_data _ A2 n3 c4 _ hf6 x7 hx21)) ?_
    rintro _ _ ⟨M33, _, ⟨A34, n35, c36, rs37, rfl, rfl, hq38⟩, hm_M33, rfl⟩
    refine WL.freeze 127 rfl rfl rfl fun M53 hm_M53 hf54 => ?_
    refine WL.eff (by decide) (Eff.callM 146 rfl Try.func17 nm_17 rfl rfl rfl (w_r04_Encode _ A34 n35 c36 rs37 _ hf54 (Rels.lift hq38 hm_M53) hx39)) ?_
    rintro _ _ ⟨M55, _, ⟨A56, n57, c58, rs59, rfl, rfl, hf61, hq60⟩, hm_M55, rfl⟩
    refine WL.yld (by decide) (Yld.move rfl) ?_
    refine WL.yld (by decide) (Yld.extract rfl rfl) ?_
    refine WL.yld (by decide) (Yld.extract rfl rfl) ?_
    refine WL.yld (by decide) (Yld.assign rfl) ?_
    refine WL.yld (by decide) (Yld.assign rfl) ?_
    refine WL.done (hK20 _ _ ?_)
    refine WC.seqRegion fun K62 hK62 => ?_
    obtain ⟨x63, hx63, h⟩ := bnd h
    obtain ⟨x81, hx81, h⟩ := bnd h
    refine WL.yld (by decide) (Yld.move rfl) ?_
    refine WL.yld (by decide) (Yld.move rfl) ?_
    refine WL.eff (by decide) (Eff.callM 169 rfl Try.func18 nm_18 rfl rfl rfl (w_law04_data _ A2 n3 c4 _ (SlRc.lift (SlRc.lift (SlRc.lift hf6 hm_M33) hm_M53) hm_M55) x7 hx63)) ?_
    rintro _ _ ⟨M75, _, ⟨A76, n77, c78, rs79, rfl, rfl, hq80⟩, hm_M75, rfl⟩
    refine WL.yld (by decide) (Yld.move rfl) ?_
    obtain ⟨hu84, hq85⟩ := Rels.apd hq80 (Rels.lift hq60 hm_M75) hx81
    refine WL.eff (by decide) (Eff.appendC 169 (xs := rs79) (ys := rs59) sty_35 rfl rfl rfl (RdH.memM (k := 0) rfl (SlRc.lift hf61 hm_M75)) hu84) ?_
    rintro _ _ ⟨A82, c83, rfl, rfl⟩
    refine WL.yld (by decide) (Yld.assign rfl) ?_
    refine WL.done (hK62 _ _ ?_)
    refine WC.seqCut (σ := Mem) (fun M86 => []) (fun M86 => [(0, .mem M86)]) (fun M86 => m_law04_RsRestores_j1 = some res ∧ Ext w0.heap.size M75 M86) (fun K87 hK87 => ?_) ?_
    · skip
      refine WC.seqRegion fun K88 hK88 => ?_
      refine WL.yld (by decide) (Yld.move rfl) ?_
      refine WL.yld (by decide) (Yld.move rfl) ?_
      refine WL.freeze 169 rfl rfl rfl fun M90 hm_M90 hf91 => ?_
      have hq92 : Rels ((RelL (RelB (α := BitVec 8))) M90) ([(⟨A00, n00, c00⟩ : Hdr), (⟨A82, (rs79 ++ rs59).length, c83⟩ : Hdr)] : List Hdr) ([x00, x81] : List (List (List (BitVec 8)))) := (Rels.cons ⟨rs00, (SlRc.lift (SlRc.lift (SlRc.lift (SlRc.lift (SlRc.lift hf00 hm_M33) hm_M53) hm_M55) hm_M75) hm_M90), (Rels.lift (Rels.lift (Rels.lift (Rels.lift (Rels.lift hq00 hm_M33) hm_M53) hm_M55) hm_M75) hm_M90)⟩ (Rels.cons ⟨(rs79 ++ rs59), hf91, (Rels.lift hq85 hm_M90)⟩ Rels.nil))
      refine WL.eff (by decide) (Eff.buildC 189 ([(⟨A00, n00, c00⟩ : Hdr), (⟨A82, (rs79 ++ rs59).length, c83⟩ : Hdr)] : List Hdr) sty_41 rfl rfl rfl rfl rfl (by decide)) ?_
      rintro _ _ ⟨g89, rfl, rfl⟩
      refine WL.yld (by decide) (Yld.lenD (rs := ([(⟨A00, n00, c00⟩ : Hdr), (⟨A82, (rs79 ++ rs59).length, c83⟩ : Hdr)] : List Hdr)) (xs := ([x00, x81] : List (List (List (BitVec 8))))) (Rels.len hq92) und_41 rfl (RdH.own (k := 189) rfl)) ?_
      refine WL.yld (by decide) (Yld.move rfl) ?_
      refine WL.done (hK88 _ _ ?_)
      refine WC.block ?_
      refine WC.loop (σ := Nat × Mem × Int) (fun ⟨q95, M93, x94⟩ => [(1, .slice A01 n01 c01), (40, .slice (some ⟨g89, 0, none⟩) (([(⟨A00, n00, c00⟩ : Hdr), (⟨A82, (rs79 ++ rs59).length, c83⟩ : Hdr)] : List Hdr).length) (([(⟨A00, n00, c00⟩ : Hdr), (⟨A82, (rs79 ++ rs59).length, c83⟩ : Hdr)] : List Hdr).length)), (41, I64 (([x00, x81] : List (List (List (BitVec 8)))).length : Int)), (42, I64 x94)]) (fun ⟨q95, M93, x94⟩ => [(0, .mem M93), (189, .own 35 (Lay.sz Hdr) (some ⟨g89, 0, none⟩) (([(⟨A00, n00, c00⟩ : Hdr), (⟨A82, (rs79 ++ rs59).length, c83⟩ : Hdr)] : List Hdr).length) (([(⟨A00, n00, c00⟩ : Hdr), (⟨A82, (rs79 ++ rs59).length, c83⟩ : Hdr)] : List Hdr).length) (cel ([(⟨A00, n00, c00⟩ : Hdr), (⟨A82, (rs79 ++ rs59).length, c83⟩ : Hdr)] : List Hdr)))]) (fun ⟨q95, M93, x94⟩ => m_law04_RsRestores_l2 x00 x01 x81 q95 x94 = some res ∧ Ext w0.heap.size M90 M93) (fun ⟨q95, M93, x94⟩ => q95) ⟨forever, M90, (0 : Int)⟩ ?_ (Sub.cons rfl (Sub.cons rfl (Sub.cons rfl (Sub.cons rfl (Sub.nil _))))) (Sub.cons rfl (Sub.cons rfl (Sub.nil _))) ?_
      · exact ⟨h, (Ext.refl _ _)⟩
      rintro ⟨q95, M93, x94⟩ ⟨h, hm_M93⟩ K96 hK96
      cases q95 with
      | zero => exact absurd h (by simp [m_law04_RsRestores_l2])
      | succ q95 =>
        unfold m_law04_RsRestores_l2 at h
        refine WC.seqRegion fun K97 hK97 => ?_
        refine WL.yld (by decide) (Yld.lss rfl rfl) ?_
        refine WL.done (hK97 _ _ ?_)
        refine WC.seq fun K98 hK98 => ?_
        by_cases hc99 : x94 < (([x00, x81] : List (List (List (BitVec 8)))).length : Int)
        · replace h := of_t hc99 h
          refine WC.condTe rfl (decide_eq_true hc99) ?_
          refine WC.skip ?_
          refine QK.thenN (hK98 _ _ ?_)
          refine WC.seq fun K100 hK100 => ?_
          refine WC.block ?_
          refine WC.seqRegion fun K101 hK101 => ?_
          obtain ⟨x102, hx102, h⟩ := bnd h
          obtain ⟨r_103, hr104, hq105⟩ := Rels.idx (Rels.lift hq92 hm_M93) hx102
          refine WL.yld (by decide) (Yld.idxC (xs := ([(⟨A00, n00, c00⟩ : Hdr), (⟨A82, (rs79 ++ rs59).length, c83⟩ : Hdr)] : List Hdr)) sty_41 rfl rfl (RdH.own (k := 189) rfl) hr104) ?_
          obtain ⟨rs106, hf107, hq108⟩ := hq105
          refine WL.yld (by decide) (Yld.loadC0 (xs := ([(⟨A00, n00, c00⟩ : Hdr), (⟨A82, (rs79 ++ rs59).length, c83⟩ : Hdr)] : List Hdr)) scal_35 rfl (RdH.own (k := 189) rfl) hr104 rfl) ?_
          refine WL.yld (by decide) (Yld.assign rfl) ?_
          refine WL.done (hK101 _ _ ?_)
          refine WC.seqRegion fun K109 hK109 => ?_
          obtain ⟨x110, hx110, h⟩ := bnd h
          refine WL.yld (by decide) (Yld.move rfl) ?_
          refine WL.yld (by decide) (Yld.move rfl) ?_
          refine WL.eff (by decide) (Eff.callM 216 rfl Try.func19 nm_19 rfl rfl rfl (w_rs_Restore _ r_103.A r_103.n r_103.c rs106 _ hf107 hq108 A01 n01 c01 _ (SlRc.lift (SlRc.lift (SlRc.lift (SlRc.lift (SlRc.lift (SlRc.lift hf01 hm_M33) hm_M53) hm_M55) hm_M75) hm_M90) hm_M93) hx110)) ?_
          rintro _ _ ⟨M122, _, ⟨A123, n124, c125, rs126, rfl, rfl, hq127⟩, hm_M122, rfl⟩
          refine WL.yld (by decide) (Yld.move rfl) ?_
          refine WL.yld (by decide) (Yld.extract rfl rfl) ?_
          refine WL.yld (by decide) (Yld.extract rfl rfl) ?_
          refine WL.yld (by decide) (Yld.assign rfl) ?_
          refine WL.yld (by decide) (Yld.assign rfl) ?_
          refine WL.done (hK109 _ _ ?_)
          refine WC.seqRegion fun K128 hK128 => ?_
          obtain ⟨x129, hx129, h⟩ := bnd h
          refine WL.yld (by decide) (Yld.move rfl) ?_
          refine WL.yld (by decide) (Yld.move rfl) ?_
          refine WL.eff (by decide) (Eff.callM 235 rfl Try.func20 nm_20 rfl rfl rfl (w_r04_Restore _ r_103.A r_103.n r_103.c rs106 _ (SlRc.lift hf107 hm_M122) (Rels.lift hq108 hm_M122) A01 n01 c01 _ (SlRc.lift (SlRc.lift (SlRc.lift (SlRc.lift (SlRc.lift (SlRc.lift (SlRc.lift hf01 hm_M33) hm_M53) hm_M55) hm_M75) hm_M90) hm_M93) hm_M122) hx129)) ?_
          rintro _ _ ⟨M141, _, ⟨A142, n143, c144, rs145, rfl, rfl, hq146⟩, hm_M141, rfl⟩
          refine WL.yld (by decide) (Yld.move rfl) ?_
          refine WL.yld (by decide) (Yld.extract rfl rfl) ?_
          refine WL.yld (by decide) (Yld.extract rfl rfl) ?_
          refine WL.yld (by decide) (Yld.assign rfl) ?_
          refine WL.yld (by decide) (Yld.assign rfl) ?_
          refine WL.done (hK128 _ _ ?_)
          refine WC.seqRegion fun K147 hK147 => ?_
          by_cases hc148 : x110.2 = x129.2
          · replace h := of_t hc148 h
            obtain ⟨x149, hx149, h⟩ := bnd h
            refine WL.yld (by decide) (Yld.move rfl) ?_
            refine WL.yld (by decide) (Yld.move rfl) ?_
            refine WL.yld (by decide) (Yld.neqI rfl rfl) ?_
            refine WL.yld (by decide) (Yld.move rfl) ?_
            refine WL.new (v' := .bool false) (congrArg Value.bool (bne_eq_false_iff_eq.2 hc148)) ?_
            refine WL.yldG (by decide) rfl (Yld.move rfl) ?_
            refine WL.yldG (by decide) rfl (Yld.move rfl) ?_
            refine WL.effG (by decide) rfl (Eff.callS 250 rfl Try.func21 nm_21 rfl rfl (fun w hb hh => w_r03_SameRows (Mem.snap w) A123 n124 c125 rs126 _ (RdH.sn (RdH.own (k := 216) rfl) w hb hh) (Rels.sn (Rels.lift hq127 hm_M141) (hh.sat 0 _ rfl)) A142 n143 c144 rs145 _ (RdH.sn (RdH.own (k := 235) rfl) w hb hh) (Rels.sn hq146 (hh.sat 0 _ rfl)) hx149)) ?_
            rintro _ _ ⟨_, ⟨rfl, rfl⟩, rfl⟩
            refine WL.yldG (by decide) rfl (Yld.notB rfl) ?_
            refine WL.yld (by decide) (Yld.pickF rfl rfl) ?_
            refine WL.done (hK147 _ _ ?_)
            by_cases hc151 : x149 = true
            · replace h := of_t hc151 h
              refine WC.condFe rfl (not_f hc151) ?_
              refine WC.skip ?_
              refine QK.blockN ?_
              refine QK.thenN (hK100 _ _ ?_)
              refine WC.region fun K152 hK152 => ?_
              obtain ⟨x153, hx153, h⟩ := bnd h
              refine WL.yld (by decide) (Yld.addC rfl rfl hx153) ?_
              refine WL.yld (by decide) (Yld.move rfl) ?_
              refine WL.done (hK152 _ _ ?_)
              refine QK.thenN ?_
              refine hK96 ⟨q95, M141, x153⟩ _ _ ?_ (Nat.lt_succ_self _) (Sub.cons rfl (Sub.cons rfl (Sub.cons rfl (Sub.cons rfl (Sub.nil _))))) (Sub.cons rfl (Sub.cons rfl (Sub.nil _)))
              exact ⟨h, (Ext.trans (Ext.trans hm_M93 hm_M122) hm_M141)⟩
            · replace h := of_f hc151 h
              refine WC.condTe rfl (not_t (Bool.eq_false_iff.2 hc151)) ?_
              refine WC.seqRegion fun K154 hK154 => ?_
              refine WL.yld (by decide) (Yld.assign rfl) ?_
              refine WL.done (hK154 _ _ ?_)
              refine WC.ret (QK.blockR (QK.thenR (QK.thenR (QK.blockR (QK.thenR ?_)))))
              injection h with h; subst h
              exact Ret.fn [] (ResIs.one rfl rfl) rfl (Ext.trans (Ext.trans (Ext.trans (Ext.trans (Ext.trans (Ext.trans (Ext.trans hm_M33 hm_M53) hm_M55) hm_M75) hm_M90) hm_M93) hm_M122) hm_M141) rfl (by decide) rfl rfl ⟨rfl, rfl⟩
          · replace h := of_f hc148 h
            refine WL.yld (by decide) (Yld.move rfl) ?_
            refine WL.yld (by decide) (Yld.move rfl) ?_
            refine WL.yld (by decide) (Yld.neqI rfl rfl) ?_
            refine WL.yld (by decide) (Yld.move rfl) ?_
            refine WL.new (v' := .bool true) (congrArg Value.bool (bne_iff_ne.2 hc148)) ?_
            refine WL.skip (by decide) rfl rfl ?_
            refine WL.skip (by decide) rfl rfl ?_
            refine WL.skip (by decide) rfl rfl ?_
            refine WL.skip (by decide) rfl rfl ?_
            refine WL.yld (by decide) (Yld.pickT rfl rfl) ?_
            refine WL.done (hK147 _ _ ?_)
            refine WC.condT rfl ?_
            refine WC.seqRegion fun K155 hK155 => ?_
            refine WL.yld (by decide) (Yld.assign rfl) ?_
            refine WL.done (hK155 _ _ ?_)
            refine WC.ret (QK.blockR (QK.thenR (QK.thenR (QK.blockR (QK.thenR ?_)))))
            injection h with h; subst h
            exact Ret.fn [] (ResIs.one rfl rfl) rfl (Ext.trans (Ext.trans (Ext.trans (Ext.trans (Ext.trans (Ext.trans (Ext.trans hm_M33 hm_M53) hm_M55) hm_M75) hm_M90) hm_M93) hm_M122) hm_M141) rfl (by decide) rfl rfl ⟨rfl, rfl⟩
        · replace h := of_f hc99 h
          refine WC.condFe rfl (decide_eq_false hc99) ?_
          refine WC.exit (QK.thenE (QK.thenE (QK.blockX ?_)))
          refine QK.thenN ?_
          refine hK87 M93 _ _ ?_ (Sub.nil _) (Sub.cons rfl (Sub.nil _))
          exact ⟨h, (Ext.trans hm_M90 hm_M93)⟩
    · rintro M86 ⟨h, hm_M86⟩
      unfold m_law04_RsRestores_j1 at h
      refine WC.seqRegion fun K156 hK156 => ?_
      obtain ⟨x157, hx157, h⟩ := bnd h
      refine WL.eff (by decide) (Eff.callS 258 rfl Try.func15 nm_15 rfl rfl (fun w hb hh => w_law04_awake (Mem.snap w) hx157)) ?_
      rintro _ _ ⟨_, ⟨rfl, rfl⟩, rfl⟩
      refine WL.yld (by decide) (Yld.assign rfl) ?_
      refine WL.done (hK156 _ _ ?_)
      refine WC.ret ?_
      injection h with h; subst h
      exact Ret.fn [] (ResIs.one rfl rfl) rfl (Ext.trans (Ext.trans (Ext.trans (Ext.trans hm_M33 hm_M53) hm_M55) hm_M75) hm_M86) rfl (by decide) rfl rfl ⟨rfl, rfl⟩

end Go.Proofs.Ytnbcphofimicdaa
