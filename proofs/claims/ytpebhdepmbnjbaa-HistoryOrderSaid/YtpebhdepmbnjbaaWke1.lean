/-
 Walks (e1): what a function's model gives, the function returns. Printed by a program of ours (vcm.py) from the function's operations. Conditions: as each theorem says.
-/
import Derived.Test.YtpebhdepmbnjbaaWkd
import Derived.Test.YtpebhdepmbnjbaaMde1
namespace Go.Proofs.Ytpebhdepmbnjbaa
open Go Go.RowKit
set_option linter.unusedVariables false

theorem nm_11 : (Try.f11.name == "runtime.NumGoroutine") = false := by kernel_rfl
theorem nm_7 : (Try.f7.name == "runtime.NumGoroutine") = false := by kernel_rfl
theorem nm_8 : (Try.f8.name == "runtime.NumGoroutine") = false := by kernel_rfl
theorem nm_9 : (Try.f9.name == "runtime.NumGoroutine") = false := by kernel_rfl

set_option maxRecDepth 10000 in
theorem w_law24_HistoryOrder (M0 : Mem) (A00 : Option Addr) (n00 c00 : Nat) (rs00 : List Rneedlestoreref24_Event) (x00 : List (Sneedlestoreref24_Event)) (hf00 : SlT M0 A00 n00 c00 rs00) (hq00 : Rels (rel_needlestoreref24_Event M0) rs00 x00) {res : Bool} (h : m_law24_HistoryOrder x00 = some res) :
  Fn Try.prog 4 #[.slice A00 n00 c00] M0 fun r M' es => r = .bool res ∧ es = [] := by
 refine Fn.intro (N := 114) Try.func4 rfl rfl (Nat.le_of_ble_eq_true rfl) fun w0 => ?_
 unfold m_law24_HistoryOrder at h
 refine WC.seqRegion fun K1 hK1 => ?_
 refine WL.yld (by decide) (Yld.assign rfl) ?_
 refine WL.done (hK1 _ _ ?_)
 refine WC.seq fun K2 hK2 => ?_
 refine WC.seqRegion fun K3 hK3 => ?_
 obtain ⟨x4, hx4, h⟩ := bnd h
 refine WL.yld (by decide) (Yld.move rfl) ?_
 refine WL.eff (by decide) (Eff.callS 105 rfl Try.func7 nm_7 rfl rfl (fun w hb hh => w_law24_light (Mem.snap w) A00 n00 c00 rs00 _ (RdH.sn (RdH.memM (k := 0) rfl hf00) w hb hh) (Rels.sn hq00 (hh.sat 0 _ rfl)) hx4)) ?_
 rintro _ _ ⟨_, ⟨rfl, rfl⟩, rfl⟩
 refine WL.yld (by decide) (Yld.notB rfl) ?_
 refine WL.done (hK3 _ _ ?_)
 by_cases hc6 : x4 = true
 ·
  replace h := of_t hc6 h
  refine WC.condFe rfl (not_f hc6) ?_
  refine WC.skip ?_
  refine QK.thenN (hK2 _ _ ?_)
  refine WC.seqRegion fun K7 hK7 => ?_
  obtain ⟨x8, hx8, h⟩ := bnd h
  obtain ⟨x26, hx26, h⟩ := bnd h
  refine WL.yld (by decide) (Yld.move rfl) ?_
  refine WL.eff (by decide) (Eff.callM 114 rfl Try.func9 nm_9 rfl rfl rfl (w_law24_made _ A00 n00 c00 rs00 _ hf00 hq00 hx8)) ?_
  rintro _ _ ⟨M20, _, ⟨A21, n22, c23, rs24, rfl, rfl, hq25⟩, hm_M20, rfl⟩
  refine WL.freeze 114 rfl rfl rfl fun M38 hm_M38 hf39 => ?_
  refine WL.eff (by decide) (Eff.callM 132 rfl Try.func11 nm_11 rfl rfl rfl (w_law24_given _ A21 n22 c23 rs24 _ hf39 (Rels.lift hq25 hm_M38) hx26)) ?_
  rintro _ _ ⟨M40, _, ⟨A41, n42, c43, rs44, rfl, rfl, hq45⟩, hm_M40, rfl⟩
  refine WL.yld (by decide) (Yld.assign rfl) ?_
  refine WL.done (hK7 _ _ ?_)
  refine WC.seqRegion fun K46 hK46 => ?_
  obtain ⟨x47, hx47, h⟩ := bnd h
  refine WL.yld (by decide) (Yld.move rfl) ?_
  refine WL.freeze 132 rfl rfl rfl fun M59 hm_M59 hf60 => ?_
  refine WL.eff (by decide) (Eff.callM 153 rfl Try.func10 nm_10 rfl rfl rfl (w_history_Build _ A41 n42 c43 rs44 _ hf60 (Rels.lift hq45 hm_M59) hx47)) ?_
  rintro _ _ ⟨M61, _, ⟨A62, n63, c64, rs65, rfl, rfl, hq66⟩, hm_M61, rfl⟩
  refine WL.yld (by decide) (Yld.move rfl) ?_
  refine WL.yld (by decide) (Yld.extract rfl rfl) ?_
  refine WL.yld (by decide) (Yld.extract rfl rfl) ?_
  refine WL.yld (by decide) (Yld.assign rfl) ?_
  refine WL.yld (by decide) (Yld.assign rfl) ?_
  refine WL.done (hK46 _ _ ?_)
  refine WC.seq fun K67 hK67 => ?_
  refine WC.seqRegion fun K68 hK68 => ?_
  refine WL.yld (by decide) (Yld.move rfl) ?_
  refine WL.yld (by decide) (Yld.neqI rfl rfl) ?_
  refine WL.done (hK68 _ _ ?_)
  by_cases hc69 : x47.2 = (0 : Int)
  ·
   replace h := of_t hc69 h
   refine WC.condFe rfl (bne_eq_false_iff_eq.2 hc69) ?_
   refine WC.skip ?_
   refine QK.thenN (hK67 _ _ ?_)
   refine WC.seqCut (σ := Unit) (fun _ => []) (fun _ => [(0, .mem M61)]) (fun _ => m_law24_HistoryOrder_j0 = some res) (fun K70 hK70 => ?_) ?_
   ·
    skip
    refine WC.seqRegion fun K71 hK71 => ?_
    refine WL.yld (by decide) (Yld.move rfl) ?_
    refine WL.yld (by decide) (Yld.lenD (rs := rs65) (xs := x47.1) (Rels.len hq66) und_27 rfl (RdH.own (k := 153) rfl)) ?_
    refine WL.yld (by decide) (Yld.move rfl) ?_
    refine WL.done (hK71 _ _ ?_)
    refine WC.block ?_
    refine WC.loop (σ := Nat × Int) (fun ⟨q73, x72⟩ => [(3, .slice A41 n42 c43), (4, .slice A62 n63 c64), (27, .slice A62 n63 c64), (28, I64 (x47.1.length : Int)), (29, I64 x72)]) (fun ⟨q73, x72⟩ => [(0, .mem M61), (153, .own 42 (Lay.sz Rhistory_Op) A62 n63 c64 (cel rs65))]) (fun ⟨q73, x72⟩ => m_law24_HistoryOrder_l1 x26 x47 q73 x72 = some res) (fun ⟨q73, x72⟩ => q73) ⟨forever, (0 : Int)⟩ ?_ (Sub.cons rfl (Sub.cons rfl (Sub.cons rfl (Sub.cons rfl (Sub.cons rfl (Sub.nil _)))))) (Sub.cons rfl (Sub.cons rfl (Sub.nil _))) ?_
    ·
     exact h
    rintro ⟨q73, x72⟩ h K74 hK74
    cases q73 with
    | zero => exact absurd h (by simp [m_law24_HistoryOrder_l1])
    | succ q73 =>
     unfold m_law24_HistoryOrder_l1 at h
     refine WC.seqRegion fun K75 hK75 => ?_
     refine WL.yld (by decide) (Yld.lss rfl rfl) ?_
     refine WL.done (hK75 _ _ ?_)
     refine WC.seq fun K76 hK76 => ?_
     by_cases hc77 : x72 < (x47.1.length : Int)
     ·
      replace h := of_t hc77 h
      refine WC.condTe rfl (decide_eq_true hc77) ?_
      refine WC.skip ?_
      refine QK.thenN (hK76 _ _ ?_)
      refine WC.seqCut (σ := Unit) (fun _ => [(3, .slice A41 n42 c43), (4, .slice A62 n63 c64), (27, .slice A62 n63 c64), (28, I64 (x47.1.length : Int)), (29, I64 x72)]) (fun _ => [(0, .mem M61), (153, .own 42 (Lay.sz Rhistory_Op) A62 n63 c64 (cel rs65))]) (fun _ => m_law24_HistoryOrder_j2 x72 (m_law24_HistoryOrder_l1 x26 x47 q73) = some res) (fun K78 hK78 => ?_) ?_
      ·
       skip
       refine WC.block ?_
       refine WC.seqRegion fun K79 hK79 => ?_
       obtain ⟨x80, hx80, h⟩ := bnd h
       refine WL.yld (by decide) (Yld.move rfl) ?_
       obtain ⟨⟨_, r_81_0, r_81_1⟩, hr82, rfl, hq83_0, hq83_1⟩ := Rels.idx hq66 hx80
       refine WL.yld (by decide) (Yld.idxC (xs := rs65) sty_27 rfl rfl (RdH.own (k := 153) rfl) hr82) ?_
       refine WL.yld (by decide) (Yld.loadA (xs := rs65) agg_42 rfl (RdH.own (k := 153) rfl) hr82 rfl) ?_
       refine WL.eff (by decide) (Eff.alloc 184 rfl zr_42) ?_
       rintro _ _ ⟨g84, rfl, rfl⟩
       refine WL.yld (by decide) (Yld.assign rfl) ?_
       refine WL.eff0 (Eff0.storeBAM 184 agg_42 rfl rfl rfl ⟨rfl, rfl⟩ rfl) ?_
       refine WL.done (hK79 _ _ ?_)
       refine WC.seq fun K85 hK85 => ?_
       refine WC.seqRegion fun K86 hK86 => ?_
       obtain ⟨x87, hx87, h⟩ := bnd h
       refine WL.yld (by decide) (Yld.loadBM (k := 184) agg_42 rfl rfl rfl) ?_
       refine WL.yld (by decide) (Yld.loadBM (k := 184) agg_42 rfl rfl rfl) ?_
       refine WL.eff (by decide) (Eff.callS 188 rfl Try.func15 nm_15 rfl rfl (fun w hb hh => w_history_Before (Mem.snap w) x80.fClient x80.fKind x80.fKey x80.fCookie r_81_0.A r_81_0.n r_81_0.c _ (RdH.sn (RdH.memM (k := 0) rfl hq83_0) w hb hh) r_81_1.A r_81_1.n r_81_1.c _ (RdH.sn (RdH.memM (k := 0) rfl hq83_1) w hb hh) x80.fCall x80.fReturn x80.fClosed x80.fResult x80.fClient x80.fKind x80.fKey x80.fCookie r_81_0.A r_81_0.n r_81_0.c _ (RdH.sn (RdH.memM (k := 0) rfl hq83_0) w hb hh) r_81_1.A r_81_1.n r_81_1.c _ (RdH.sn (RdH.memM (k := 0) rfl hq83_1) w hb hh) x80.fCall x80.fReturn x80.fClosed x80.fResult hx87)) ?_
       rintro _ _ ⟨_, ⟨rfl, rfl⟩, rfl⟩
       refine WL.done (hK86 _ _ ?_)
       by_cases hc89 : x87 = true
       ·
        replace h := of_t hc89 h
        refine WC.condTe rfl hc89 ?_
        refine WC.seqRegion fun K90 hK90 => ?_
        refine WL.yld (by decide) (Yld.assign rfl) ?_
        refine WL.done (hK90 _ _ ?_)
        refine WC.ret (QK.thenR (QK.blockR (QK.thenR (QK.thenR (QK.blockR (QK.thenR ?_))))))
        injection h with h; subst h
        exact Ret.fn [] (ResIs.one rfl rfl) rfl (Ext.trans (Ext.trans (Ext.trans (Ext.trans hm_M20 hm_M38) hm_M40) hm_M59) hm_M61) rfl (by decide) rfl rfl ⟨rfl, rfl⟩
       ·
        replace h := of_f hc89 h
        refine WC.condFe rfl (Bool.eq_false_iff.2 hc89) ?_
        refine WC.skip ?_
        refine QK.thenN (hK85 _ _ ?_)
        refine WC.seqRegion fun K91 hK91 => ?_
        refine WL.yld (by decide) (Yld.move rfl) ?_
        refine WL.yld (by decide) (Yld.lenD (rs := rs65) (xs := x47.1) (Rels.len hq66) und_27 rfl (RdH.own (k := 153) rfl)) ?_
        refine WL.yld (by decide) (Yld.move rfl) ?_
        refine WL.done (hK91 _ _ ?_)
        refine WC.block ?_
        refine WC.loop (σ := Nat × Int) (fun ⟨q93, x92⟩ => [(3, .slice A41 n42 c43), (4, .slice A62 n63 c64), (6, I64 x72), (7, .pointer (some ⟨g84, 0, none⟩)), (27, .slice A62 n63 c64), (28, I64 (x47.1.length : Int)), (29, I64 x72), (37, .slice A62 n63 c64), (38, I64 (x47.1.length : Int)), (39, I64 x92)]) (fun ⟨q93, x92⟩ => [(0, .mem M61), (153, .own 42 (Lay.sz Rhistory_Op) A62 n63 c64 (cel rs65)), (184, .blk g84 42 [I64 x80.fClient, I64 x80.fKind, U64 x80.fKey, U32 x80.fCookie, .slice r_81_0.A r_81_0.n r_81_0.c, .slice r_81_1.A r_81_1.n r_81_1.c, I64 x80.fCall, I64 x80.fReturn, I64 x80.fClosed, I64 x80.fResult])]) (fun ⟨q93, x92⟩ => m_law24_HistoryOrder_l3 x26 x47 x72 x80 (m_law24_HistoryOrder_l1 x26 x47 q73) q93 x92 = some res) (fun ⟨q93, x92⟩ => q93) ⟨forever, (0 : Int)⟩ ?_ (Sub.cons rfl (Sub.cons rfl (Sub.cons rfl (Sub.cons rfl (Sub.cons rfl (Sub.cons rfl (Sub.cons rfl (Sub.cons rfl (Sub.cons rfl (Sub.cons rfl (Sub.nil _))))))))))) (Sub.cons rfl (Sub.cons rfl (Sub.cons rfl (Sub.nil _)))) ?_
        ·
         exact h
        rintro ⟨q93, x92⟩ h K94 hK94
        cases q93 with
        | zero => exact absurd h (by simp [m_law24_HistoryOrder_l3])
        | succ q93 =>
         unfold m_law24_HistoryOrder_l3 at h
         refine WC.seqRegion fun K95 hK95 => ?_
         refine WL.yld (by decide) (Yld.lss rfl rfl) ?_
         refine WL.done (hK95 _ _ ?_)
         refine WC.seq fun K96 hK96 => ?_
         by_cases hc97 : x92 < (x47.1.length : Int)
         ·
          replace h := of_t hc97 h
          refine WC.condTe rfl (decide_eq_true hc97) ?_
          refine WC.skip ?_
          refine QK.thenN (hK96 _ _ ?_)
          refine WC.seqCut (σ := Unit) (fun _ => [(3, .slice A41 n42 c43), (4, .slice A62 n63 c64), (6, I64 x72), (7, .pointer (some ⟨g84, 0, none⟩)), (27, .slice A62 n63 c64), (28, I64 (x47.1.length : Int)), (29, I64 x72), (37, .slice A62 n63 c64), (38, I64 (x47.1.length : Int)), (39, I64 x92)]) (fun _ => [(0, .mem M61), (153, .own 42 (Lay.sz Rhistory_Op) A62 n63 c64 (cel rs65)), (184, .blk g84 42 [I64 x80.fClient, I64 x80.fKind, U64 x80.fKey, U32 x80.fCookie, .slice r_81_0.A r_81_0.n r_81_0.c, .slice r_81_1.A r_81_1.n r_81_1.c, I64 x80.fCall, I64 x80.fReturn, I64 x80.fClosed, I64 x80.fResult])]) (fun _ => m_law24_HistoryOrder_j4 x92 (m_law24_HistoryOrder_l3 x26 x47 x72 x80 (m_law24_HistoryOrder_l1 x26 x47 q73) q93) = some res) (fun K98 hK98 => ?_) ?_
          ·
           skip
           refine WC.block ?_
           refine WC.seqRegion fun K99 hK99 => ?_
           obtain ⟨x100, hx100, h⟩ := bnd h
           refine WL.yld (by decide) (Yld.move rfl) ?_
           obtain ⟨⟨_, r_101_0, r_101_1⟩, hr102, rfl, hq103_0, hq103_1⟩ := Rels.idx hq66 hx100
           refine WL.yld (by decide) (Yld.idxC (xs := rs65) sty_27 rfl rfl (RdH.own (k := 153) rfl) hr102) ?_
           refine WL.yld (by decide) (Yld.loadA (xs := rs65) agg_42 rfl (RdH.own (k := 153) rfl) hr102 rfl) ?_
           refine WL.eff (by decide) (Eff.alloc 204 rfl zr_42) ?_
           rintro _ _ ⟨g104, rfl, rfl⟩
           refine WL.yld (by decide) (Yld.assign rfl) ?_
           refine WL.eff0 (Eff0.storeBAM 204 agg_42 rfl rfl rfl ⟨rfl, rfl⟩ rfl) ?_
           refine WL.done (hK99 _ _ ?_)
           refine WC.seqCut (σ := Unit) (fun _ => [(3, .slice A41 n42 c43), (4, .slice A62 n63 c64), (6, I64 x72), (7, .pointer (some ⟨g84, 0, none⟩)), (9, .pointer (some ⟨g104, 0, none⟩)), (27, .slice A62 n63 c64), (28, I64 (x47.1.length : Int)), (29, I64 x72), (37, .slice A62 n63 c64), (38, I64 (x47.1.length : Int)), (39, I64 x92)]) (fun _ => [(0, .mem M61), (153, .own 42 (Lay.sz Rhistory_Op) A62 n63 c64 (cel rs65)), (184, .blk g84 42 [I64 x80.fClient, I64 x80.fKind, U64 x80.fKey, U32 x80.fCookie, .slice r_81_0.A r_81_0.n r_81_0.c, .slice r_81_1.A r_81_1.n r_81_1.c, I64 x80.fCall, I64 x80.fReturn, I64 x80.fClosed, I64 x80.fResult]), (204, .blk g104 42 [I64 x100.fClient, I64 x100.fKind, U64 x100.fKey, U32 x100.fCookie, .slice r_101_0.A r_101_0.n r_101_0.c, .slice r_101_1.A r_101_1.n r_101_1.c, I64 x100.fCall, I64 x100.fReturn, I64 x100.fClosed, I64 x100.fResult])]) (fun _ => m_law24_HistoryOrder_j5 x26 x47 x80 x92 x100 (m_law24_HistoryOrder_l3 x26 x47 x72 x80 (m_law24_HistoryOrder_l1 x26 x47 q73) q93) = some res) (fun K105 hK105 => ?_) ?_
           ·
            skip
            refine WC.seqRegion fun K106 hK106 => ?_
            obtain ⟨x107, hx107, h⟩ := bnd h
            by_cases hc109 : x107 = true
            ·
             replace h := of_t hc109 h
             obtain ⟨x110, hx110, h⟩ := bnd h
             by_cases hc112 : x110 = true
             ·
              replace h := of_t hc112 h
              refine WL.yld (by decide) (Yld.loadBM (k := 184) agg_42 rfl rfl rfl) ?_
              refine WL.yld (by decide) (Yld.loadBM (k := 204) agg_42 rfl rfl rfl) ?_
              refine WL.eff (by decide) (Eff.callS 208 rfl Try.func15 nm_15 rfl rfl (fun w hb hh => w_history_Before (Mem.snap w) x80.fClient x80.fKind x80.fKey x80.fCookie r_81_0.A r_81_0.n r_81_0.c _ (RdH.sn (RdH.memM (k := 0) rfl hq83_0) w hb hh) r_81_1.A r_81_1.n r_81_1.c _ (RdH.sn (RdH.memM (k := 0) rfl hq83_1) w hb hh) x80.fCall x80.fReturn x80.fClosed x80.fResult x100.fClient x100.fKind x100.fKey x100.fCookie r_101_0.A r_101_0.n r_101_0.c _ (RdH.sn (RdH.memM (k := 0) rfl hq103_0) w hb hh) r_101_1.A r_101_1.n r_101_1.c _ (RdH.sn (RdH.memM (k := 0) rfl hq103_1) w hb hh) x100.fCall x100.fReturn x100.fClosed x100.fResult hx107)) ?_
              rintro _ _ ⟨_, ⟨rfl, rfl⟩, rfl⟩
              refine WL.yld (by decide) (Yld.move rfl) ?_
              refine WL.new (v' := .bool true) (congrArg Value.bool hc109) ?_
              refine WL.yldG (by decide) rfl (Yld.loadBM (k := 204) agg_42 rfl rfl rfl) ?_
              refine WL.yldG (by decide) rfl (Yld.loadBM (k := 184) agg_42 rfl rfl rfl) ?_
              refine WL.effG (by decide) rfl (Eff.callS 211 rfl Try.func15 nm_15 rfl rfl (fun w hb hh => w_history_Before (Mem.snap w) x100.fClient x100.fKind x100.fKey x100.fCookie r_101_0.A r_101_0.n r_101_0.c _ (RdH.sn (RdH.memM (k := 0) rfl hq103_0) w hb hh) r_101_1.A r_101_1.n r_101_1.c _ (RdH.sn (RdH.memM (k := 0) rfl hq103_1) w hb hh) x100.fCall x100.fReturn x100.fClosed x100.fResult x80.fClient x80.fKind x80.fKey x80.fCookie r_81_0.A r_81_0.n r_81_0.c _ (RdH.sn (RdH.memM (k := 0) rfl hq83_0) w hb hh) r_81_1.A r_81_1.n r_81_1.c _ (RdH.sn (RdH.memM (k := 0) rfl hq83_1) w hb hh) x80.fCall x80.fReturn x80.fClosed x80.fResult hx110)) ?_
              rintro _ _ ⟨_, ⟨rfl, rfl⟩, rfl⟩
              refine WL.yld (by decide) (Yld.pickT rfl rfl) ?_
              refine WL.yld (by decide) (Yld.move rfl) ?_
              refine WL.new (v' := .bool true) (congrArg Value.bool hc112) ?_
              refine WL.skip (by decide) rfl rfl ?_
              refine WL.skip (by decide) rfl rfl ?_
              refine WL.skip (by decide) rfl rfl ?_
              refine WL.skip (by decide) rfl rfl ?_
              refine WL.skipU (by decide) rfl ?_
              refine WL.skipU (by decide) rfl ?_
              refine WL.skipU (by decide) rfl ?_
              refine WL.skipU (by decide) rfl ?_
              refine WL.skipU (by decide) rfl ?_
              refine WL.skip (by decide) rfl rfl ?_
              refine WL.skip (by decide) rfl rfl ?_
              refine WL.skipU (by decide) rfl ?_
              refine WL.skipU (by decide) rfl ?_
              refine WL.skipU (by decide) rfl ?_
              refine WL.skipU (by decide) rfl ?_
              refine WL.skip (by decide) rfl rfl ?_
              refine WL.yld (by decide) (Yld.pickT rfl rfl) ?_
              refine WL.done (hK106 _ _ ?_)
              refine WC.condT rfl ?_
              refine WC.seqRegion fun K113 hK113 => ?_
              refine WL.yld (by decide) (Yld.assign rfl) ?_
              refine WL.done (hK113 _ _ ?_)
              refine WC.ret (QK.thenR (QK.blockR (QK.thenR (QK.thenR (QK.blockR (QK.blockR (QK.thenR (QK.thenR (QK.blockR (QK.thenR ?_))))))))))
              injection h with h; subst h
              exact Ret.fn [] (ResIs.one rfl rfl) rfl (Ext.trans (Ext.trans (Ext.trans (Ext.trans hm_M20 hm_M38) hm_M40) hm_M59) hm_M61) rfl (by decide) rfl rfl ⟨rfl, rfl⟩
             ·
              replace h := of_f hc112 h
              by_cases hc114 : x72 < x92
              ·
               replace h := of_t hc114 h
               by_cases hc115 : x80.fClient = x100.fClient
               ·
                replace h := of_t hc115 h
                obtain ⟨x116, hx116, h⟩ := bnd h
                refine WL.yld (by decide) (Yld.loadBM (k := 184) agg_42 rfl rfl rfl) ?_
                refine WL.yld (by decide) (Yld.loadBM (k := 204) agg_42 rfl rfl rfl) ?_
                refine WL.eff (by decide) (Eff.callS 208 rfl Try.func15 nm_15 rfl rfl (fun w hb hh => w_history_Before (Mem.snap w) x80.fClient x80.fKind x80.fKey x80.fCookie r_81_0.A r_81_0.n r_81_0.c _ (RdH.sn (RdH.memM (k := 0) rfl hq83_0) w hb hh) r_81_1.A r_81_1.n r_81_1.c _ (RdH.sn (RdH.memM (k := 0) rfl hq83_1) w hb hh) x80.fCall x80.fReturn x80.fClosed x80.fResult x100.fClient x100.fKind x100.fKey x100.fCookie r_101_0.A r_101_0.n r_101_0.c _ (RdH.sn (RdH.memM (k := 0) rfl hq103_0) w hb hh) r_101_1.A r_101_1.n r_101_1.c _ (RdH.sn (RdH.memM (k := 0) rfl hq103_1) w hb hh) x100.fCall x100.fReturn x100.fClosed x100.fResult hx107)) ?_
                rintro _ _ ⟨_, ⟨rfl, rfl⟩, rfl⟩
                refine WL.yld (by decide) (Yld.move rfl) ?_
                refine WL.new (v' := .bool true) (congrArg Value.bool hc109) ?_
                refine WL.yldG (by decide) rfl (Yld.loadBM (k := 204) agg_42 rfl rfl rfl) ?_
                refine WL.yldG (by decide) rfl (Yld.loadBM (k := 184) agg_42 rfl rfl rfl) ?_
                refine WL.effG (by decide) rfl (Eff.callS 211 rfl Try.func15 nm_15 rfl rfl (fun w hb hh => w_history_Before (Mem.snap w) x100.fClient x100.fKind x100.fKey x100.fCookie r_101_0.A r_101_0.n r_101_0.c _ (RdH.sn (RdH.memM (k := 0) rfl hq103_0) w hb hh) r_101_1.A r_101_1.n r_101_1.c _ (RdH.sn (RdH.memM (k := 0) rfl hq103_1) w hb hh) x100.fCall x100.fReturn x100.fClosed x100.fResult x80.fClient x80.fKind x80.fKey x80.fCookie r_81_0.A r_81_0.n r_81_0.c _ (RdH.sn (RdH.memM (k := 0) rfl hq83_0) w hb hh) r_81_1.A r_81_1.n r_81_1.c _ (RdH.sn (RdH.memM (k := 0) rfl hq83_1) w hb hh) x80.fCall x80.fReturn x80.fClosed x80.fResult hx110)) ?_
                rintro _ _ ⟨_, ⟨rfl, rfl⟩, rfl⟩
                refine WL.yld (by decide) (Yld.pickT rfl rfl) ?_
                refine WL.yld (by decide) (Yld.move rfl) ?_
                refine WL.new (v' := .bool false) (congrArg Value.bool (Bool.eq_false_iff.2 hc112)) ?_
                refine WL.yldG (by decide) rfl (Yld.move rfl) ?_
                refine WL.yldG (by decide) rfl (Yld.move rfl) ?_
                refine WL.yldG (by decide) rfl (Yld.lss rfl rfl) ?_
                refine WL.yldG (by decide) rfl (Yld.move rfl) ?_
                refine WL.new (v' := .bool true) (congrArg Value.bool (decide_eq_true hc114)) ?_
                refine WL.yldG (by decide) rfl (Yld.fieldAddr Try.underlying42 rfl nz_3 rfl rfl) ?_
                refine WL.yldG (by decide) rfl (Yld.loadB (k := 184) scal_3 rfl rfl rfl) ?_
                refine WL.yldG (by decide) rfl (Yld.fieldAddr Try.underlying42 rfl nz_3 rfl rfl) ?_
                refine WL.yldG (by decide) rfl (Yld.loadB (k := 204) scal_3 rfl rfl rfl) ?_
                refine WL.yldG (by decide) rfl (Yld.eqlI rfl rfl) ?_
                refine WL.yldG (by decide) rfl (Yld.pickT rfl rfl) ?_
                refine WL.yldG (by decide) rfl (Yld.move rfl) ?_
                refine WL.new (v' := .bool true) (congrArg Value.bool (beq_iff_eq.2 hc115)) ?_
                refine WL.yldG (by decide) rfl (Yld.loadBM (k := 184) agg_42 rfl rfl rfl) ?_
                refine WL.yldG (by decide) rfl (Yld.loadBM (k := 204) agg_42 rfl rfl rfl) ?_
                refine WL.effG (by decide) rfl (Eff.callS 217 rfl Try.func15 nm_15 rfl rfl (fun w hb hh => w_history_Before (Mem.snap w) x80.fClient x80.fKind x80.fKey x80.fCookie r_81_0.A r_81_0.n r_81_0.c _ (RdH.sn (RdH.memM (k := 0) rfl hq83_0) w hb hh) r_81_1.A r_81_1.n r_81_1.c _ (RdH.sn (RdH.memM (k := 0) rfl hq83_1) w hb hh) x80.fCall x80.fReturn x80.fClosed x80.fResult x100.fClient x100.fKind x100.fKey x100.fCookie r_101_0.A r_101_0.n r_101_0.c _ (RdH.sn (RdH.memM (k := 0) rfl hq103_0) w hb hh) r_101_1.A r_101_1.n r_101_1.c _ (RdH.sn (RdH.memM (k := 0) rfl hq103_1) w hb hh) x100.fCall x100.fReturn x100.fClosed x100.fResult hx116)) ?_
                rintro _ _ ⟨_, ⟨rfl, rfl⟩, rfl⟩
                refine WL.yldG (by decide) rfl (Yld.notB rfl) ?_
                refine WL.yldG (by decide) rfl (Yld.pickT rfl rfl) ?_
                refine WL.yld (by decide) (Yld.pickF rfl rfl) ?_
                refine WL.done (hK106 _ _ ?_)
                by_cases hc118 : x116 = true
                ·
                 replace h := of_t hc118 h
                 refine WC.condFe rfl (not_f hc118) ?_
                 refine WC.skip ?_
                 refine QK.thenN ?_
                 refine hK105 () _ _ ?_ (Sub.cons rfl (Sub.cons rfl (Sub.cons rfl (Sub.cons rfl (Sub.cons rfl (Sub.cons rfl (Sub.cons rfl (Sub.cons rfl (Sub.cons rfl (Sub.cons rfl (Sub.cons rfl (Sub.nil _)))))))))))) (Sub.cons rfl (Sub.cons rfl (Sub.cons rfl (Sub.cons rfl (Sub.nil _)))))
                 exact h
                ·
                 replace h := of_f hc118 h
                 refine WC.condTe rfl (not_t (Bool.eq_false_iff.2 hc118)) ?_
                 refine WC.seqRegion fun K119 hK119 => ?_
                 refine WL.yld (by decide) (Yld.assign rfl) ?_
                 refine WL.done (hK119 _ _ ?_)
                 refine WC.ret (QK.thenR (QK.blockR (QK.thenR (QK.thenR (QK.blockR (QK.blockR (QK.thenR (QK.thenR (QK.blockR (QK.thenR ?_))))))))))
                 injection h with h; subst h
                 exact Ret.fn [] (ResIs.one rfl rfl) rfl (Ext.trans (Ext.trans (Ext.trans (Ext.trans hm_M20 hm_M38) hm_M40) hm_M59) hm_M61) rfl (by decide) rfl rfl ⟨rfl, rfl⟩
               ·
                replace h := of_f hc115 h
                refine WL.yld (by decide) (Yld.loadBM (k := 184) agg_42 rfl rfl rfl) ?_
                refine WL.yld (by decide) (Yld.loadBM (k := 204) agg_42 rfl rfl rfl) ?_
                refine WL.eff (by decide) (Eff.callS 208 rfl Try.func15 nm_15 rfl rfl (fun w hb hh => w_history_Before (Mem.snap w) x80.fClient x80.fKind x80.fKey x80.fCookie r_81_0.A r_81_0.n r_81_0.c _ (RdH.sn (RdH.memM (k := 0) rfl hq83_0) w hb hh) r_81_1.A r_81_1.n r_81_1.c _ (RdH.sn (RdH.memM (k := 0) rfl hq83_1) w hb hh) x80.fCall x80.fReturn x80.fClosed x80.fResult x100.fClient x100.fKind x100.fKey x100.fCookie r_101_0.A r_101_0.n r_101_0.c _ (RdH.sn (RdH.memM (k := 0) rfl hq103_0) w hb hh) r_101_1.A r_101_1.n r_101_1.c _ (RdH.sn (RdH.memM (k := 0) rfl hq103_1) w hb hh) x100.fCall x100.fReturn x100.fClosed x100.fResult hx107)) ?_
                rintro _ _ ⟨_, ⟨rfl, rfl⟩, rfl⟩
                refine WL.yld (by decide) (Yld.move rfl) ?_
                refine WL.new (v' := .bool true) (congrArg Value.bool hc109) ?_
                refine WL.yldG (by decide) rfl (Yld.loadBM (k := 204) agg_42 rfl rfl rfl) ?_
                refine WL.yldG (by decide) rfl (Yld.loadBM (k := 184) agg_42 rfl rfl rfl) ?_
                refine WL.effG (by decide) rfl (Eff.callS 211 rfl Try.func15 nm_15 rfl rfl (fun w hb hh => w_history_Before (Mem.snap w) x100.fClient x100.fKind x100.fKey x100.fCookie r_101_0.A r_101_0.n r_101_0.c _ (RdH.sn (RdH.memM (k := 0) rfl hq103_0) w hb hh) r_101_1.A r_101_1.n r_101_1.c _ (RdH.sn (RdH.memM (k := 0) rfl hq103_1) w hb hh) x100.fCall x100.fReturn x100.fClosed x100.fResult x80.fClient x80.fKind x80.fKey x80.fCookie r_81_0.A r_81_0.n r_81_0.c _ (RdH.sn (RdH.memM (k := 0) rfl hq83_0) w hb hh) r_81_1.A r_81_1.n r_81_1.c _ (RdH.sn (RdH.memM (k := 0) rfl hq83_1) w hb hh) x80.fCall x80.fReturn x80.fClosed x80.fResult hx110)) ?_
                rintro _ _ ⟨_, ⟨rfl, rfl⟩, rfl⟩
                refine WL.yld (by decide) (Yld.pickT rfl rfl) ?_
                refine WL.yld (by decide) (Yld.move rfl) ?_
                refine WL.new (v' := .bool false) (congrArg Value.bool (Bool.eq_false_iff.2 hc112)) ?_
                refine WL.yldG (by decide) rfl (Yld.move rfl) ?_
                refine WL.yldG (by decide) rfl (Yld.move rfl) ?_
                refine WL.yldG (by decide) rfl (Yld.lss rfl rfl) ?_
                refine WL.yldG (by decide) rfl (Yld.move rfl) ?_
                refine WL.new (v' := .bool true) (congrArg Value.bool (decide_eq_true hc114)) ?_
                refine WL.yldG (by decide) rfl (Yld.fieldAddr Try.underlying42 rfl nz_3 rfl rfl) ?_
                refine WL.yldG (by decide) rfl (Yld.loadB (k := 184) scal_3 rfl rfl rfl) ?_
                refine WL.yldG (by decide) rfl (Yld.fieldAddr Try.underlying42 rfl nz_3 rfl rfl) ?_
                refine WL.yldG (by decide) rfl (Yld.loadB (k := 204) scal_3 rfl rfl rfl) ?_
                refine WL.yldG (by decide) rfl (Yld.eqlI rfl rfl) ?_
                refine WL.yldG (by decide) rfl (Yld.pickT rfl rfl) ?_
                refine WL.yldG (by decide) rfl (Yld.move rfl) ?_
                refine WL.new (v' := .bool false) (congrArg Value.bool (beq_eq_false_iff_ne.2 hc115)) ?_
                refine WL.skip (by decide) rfl rfl ?_
                refine WL.skip (by decide) rfl rfl ?_
                refine WL.skip (by decide) rfl rfl ?_
                refine WL.skip (by decide) rfl rfl ?_
                refine WL.yldG (by decide) rfl (Yld.pickF rfl rfl) ?_
                refine WL.yld (by decide) (Yld.pickF rfl rfl) ?_
                refine WL.done (hK106 _ _ ?_)
                refine WC.condF rfl ?_
                refine WC.skip ?_
                refine QK.thenN ?_
                refine hK105 () _ _ ?_ (Sub.cons rfl (Sub.cons rfl (Sub.cons rfl (Sub.cons rfl (Sub.cons rfl (Sub.cons rfl (Sub.cons rfl (Sub.cons rfl (Sub.cons rfl (Sub.cons rfl (Sub.cons rfl (Sub.nil _)))))))))))) (Sub.cons rfl (Sub.cons rfl (Sub.cons rfl (Sub.cons rfl (Sub.nil _)))))
                exact h
              ·
               replace h := of_f hc114 h
               refine WL.yld (by decide) (Yld.loadBM (k := 184) agg_42 rfl rfl rfl) ?_
               refine WL.yld (by decide) (Yld.loadBM (k := 204) agg_42 rfl rfl rfl) ?_
               refine WL.eff (by decide) (Eff.callS 208 rfl Try.func15 nm_15 rfl rfl (fun w hb hh => w_history_Before (Mem.snap w) x80.fClient x80.fKind x80.fKey x80.fCookie r_81_0.A r_81_0.n r_81_0.c _ (RdH.sn (RdH.memM (k := 0) rfl hq83_0) w hb hh) r_81_1.A r_81_1.n r_81_1.c _ (RdH.sn (RdH.memM (k := 0) rfl hq83_1) w hb hh) x80.fCall x80.fReturn x80.fClosed x80.fResult x100.fClient x100.fKind x100.fKey x100.fCookie r_101_0.A r_101_0.n r_101_0.c _ (RdH.sn (RdH.memM (k := 0) rfl hq103_0) w hb hh) r_101_1.A r_101_1.n r_101_1.c _ (RdH.sn (RdH.memM (k := 0) rfl hq103_1) w hb hh) x100.fCall x100.fReturn x100.fClosed x100.fResult hx107)) ?_
               rintro _ _ ⟨_, ⟨rfl, rfl⟩, rfl⟩
               refine WL.yld (by decide) (Yld.move rfl) ?_
               refine WL.new (v' := .bool true) (congrArg Value.bool hc109) ?_
               refine WL.yldG (by decide) rfl (Yld.loadBM (k := 204) agg_42 rfl rfl rfl) ?_
               refine WL.yldG (by decide) rfl (Yld.loadBM (k := 184) agg_42 rfl rfl rfl) ?_
               refine WL.effG (by decide) rfl (Eff.callS 211 rfl Try.func15 nm_15 rfl rfl (fun w hb hh => w_history_Before (Mem.snap w) x100.fClient x100.fKind x100.fKey x100.fCookie r_101_0.A r_101_0.n r_101_0.c _ (RdH.sn (RdH.memM (k := 0) rfl hq103_0) w hb hh) r_101_1.A r_101_1.n r_101_1.c _ (RdH.sn (RdH.memM (k := 0) rfl hq103_1) w hb hh) x100.fCall x100.fReturn x100.fClosed x100.fResult x80.fClient x80.fKind x80.fKey x80.fCookie r_81_0.A r_81_0.n r_81_0.c _ (RdH.sn (RdH.memM (k := 0) rfl hq83_0) w hb hh) r_81_1.A r_81_1.n r_81_1.c _ (RdH.sn (RdH.memM (k := 0) rfl hq83_1) w hb hh) x80.fCall x80.fReturn x80.fClosed x80.fResult hx110)) ?_
               rintro _ _ ⟨_, ⟨rfl, rfl⟩, rfl⟩
               refine WL.yld (by decide) (Yld.pickT rfl rfl) ?_
               refine WL.yld (by decide) (Yld.move rfl) ?_
               refine WL.new (v' := .bool false) (congrArg Value.bool (Bool.eq_false_iff.2 hc112)) ?_
               refine WL.yldG (by decide) rfl (Yld.move rfl) ?_
               refine WL.yldG (by decide) rfl (Yld.move rfl) ?_
               refine WL.yldG (by decide) rfl (Yld.lss rfl rfl) ?_
               refine WL.yldG (by decide) rfl (Yld.move rfl) ?_
               refine WL.new (v' := .bool false) (congrArg Value.bool (decide_eq_false hc114)) ?_
               refine WL.skip (by decide) rfl rfl ?_
               refine WL.skip (by decide) rfl rfl ?_
               refine WL.skip (by decide) rfl rfl ?_
               refine WL.skip (by decide) rfl rfl ?_
               refine WL.skip (by decide) rfl rfl ?_
               refine WL.yldG (by decide) rfl (Yld.pickF rfl rfl) ?_
               refine WL.yldG (by decide) rfl (Yld.move rfl) ?_
               refine WL.skip (by decide) rfl rfl ?_
               refine WL.skip (by decide) rfl rfl ?_
               refine WL.skip (by decide) rfl rfl ?_
               refine WL.skip (by decide) rfl rfl ?_
               refine WL.yldG (by decide) rfl (Yld.pickF rfl rfl) ?_
               refine WL.yld (by decide) (Yld.pickF rfl rfl) ?_
               refine WL.done (hK106 _ _ ?_)
               refine WC.condF rfl ?_
               refine WC.skip ?_
               refine QK.thenN ?_
               refine hK105 () _ _ ?_ (Sub.cons rfl (Sub.cons rfl (Sub.cons rfl (Sub.cons rfl (Sub.cons rfl (Sub.cons rfl (Sub.cons rfl (Sub.cons rfl (Sub.cons rfl (Sub.cons rfl (Sub.cons rfl (Sub.nil _)))))))))))) (Sub.cons rfl (Sub.cons rfl (Sub.cons rfl (Sub.cons rfl (Sub.nil _)))))
               exact h
            ·
             replace h := of_f hc109 h
             by_cases hc120 : x72 < x92
             ·
              replace h := of_t hc120 h
              by_cases hc121 : x80.fClient = x100.fClient
              ·
               replace h := of_t hc121 h
               obtain ⟨x122, hx122, h⟩ := bnd h
               refine WL.yld (by decide) (Yld.loadBM (k := 184) agg_42 rfl rfl rfl) ?_
               refine WL.yld (by decide) (Yld.loadBM (k := 204) agg_42 rfl rfl rfl) ?_
               refine WL.eff (by decide) (Eff.callS 208 rfl Try.func15 nm_15 rfl rfl (fun w hb hh => w_history_Before (Mem.snap w) x80.fClient x80.fKind x80.fKey x80.fCookie r_81_0.A r_81_0.n r_81_0.c _ (RdH.sn (RdH.memM (k := 0) rfl hq83_0) w hb hh) r_81_1.A r_81_1.n r_81_1.c _ (RdH.sn (RdH.memM (k := 0) rfl hq83_1) w hb hh) x80.fCall x80.fReturn x80.fClosed x80.fResult x100.fClient x100.fKind x100.fKey x100.fCookie r_101_0.A r_101_0.n r_101_0.c _ (RdH.sn (RdH.memM (k := 0) rfl hq103_0) w hb hh) r_101_1.A r_101_1.n r_101_1.c _ (RdH.sn (RdH.memM (k := 0) rfl hq103_1) w hb hh) x100.fCall x100.fReturn x100.fClosed x100.fResult hx107)) ?_
               rintro _ _ ⟨_, ⟨rfl, rfl⟩, rfl⟩
               refine WL.yld (by decide) (Yld.move rfl) ?_
               refine WL.new (v' := .bool false) (congrArg Value.bool (Bool.eq_false_iff.2 hc109)) ?_
               refine WL.skip (by decide) rfl rfl ?_
               refine WL.skip (by decide) rfl rfl ?_
               refine WL.skip (by decide) rfl rfl ?_
               refine WL.yld (by decide) (Yld.pickF rfl rfl) ?_
               refine WL.yld (by decide) (Yld.move rfl) ?_
               refine WL.yldG (by decide) rfl (Yld.move rfl) ?_
               refine WL.yldG (by decide) rfl (Yld.move rfl) ?_
               refine WL.yldG (by decide) rfl (Yld.lss rfl rfl) ?_
               refine WL.yldG (by decide) rfl (Yld.move rfl) ?_
               refine WL.new (v' := .bool true) (congrArg Value.bool (decide_eq_true hc120)) ?_
               refine WL.yldG (by decide) rfl (Yld.fieldAddr Try.underlying42 rfl nz_3 rfl rfl) ?_
               refine WL.yldG (by decide) rfl (Yld.loadB (k := 184) scal_3 rfl rfl rfl) ?_
               refine WL.yldG (by decide) rfl (Yld.fieldAddr Try.underlying42 rfl nz_3 rfl rfl) ?_
               refine WL.yldG (by decide) rfl (Yld.loadB (k := 204) scal_3 rfl rfl rfl) ?_
               refine WL.yldG (by decide) rfl (Yld.eqlI rfl rfl) ?_
               refine WL.yldG (by decide) rfl (Yld.pickT rfl rfl) ?_
               refine WL.yldG (by decide) rfl (Yld.move rfl) ?_
               refine WL.new (v' := .bool true) (congrArg Value.bool (beq_iff_eq.2 hc121)) ?_
               refine WL.yldG (by decide) rfl (Yld.loadBM (k := 184) agg_42 rfl rfl rfl) ?_
               refine WL.yldG (by decide) rfl (Yld.loadBM (k := 204) agg_42 rfl rfl rfl) ?_
               refine WL.effG (by decide) rfl (Eff.callS 223 rfl Try.func15 nm_15 rfl rfl (fun w hb hh => w_history_Before (Mem.snap w) x80.fClient x80.fKind x80.fKey x80.fCookie r_81_0.A r_81_0.n r_81_0.c _ (RdH.sn (RdH.memM (k := 0) rfl hq83_0) w hb hh) r_81_1.A r_81_1.n r_81_1.c _ (RdH.sn (RdH.memM (k := 0) rfl hq83_1) w hb hh) x80.fCall x80.fReturn x80.fClosed x80.fResult x100.fClient x100.fKind x100.fKey x100.fCookie r_101_0.A r_101_0.n r_101_0.c _ (RdH.sn (RdH.memM (k := 0) rfl hq103_0) w hb hh) r_101_1.A r_101_1.n r_101_1.c _ (RdH.sn (RdH.memM (k := 0) rfl hq103_1) w hb hh) x100.fCall x100.fReturn x100.fClosed x100.fResult hx122)) ?_
               rintro _ _ ⟨_, ⟨rfl, rfl⟩, rfl⟩
               refine WL.yldG (by decide) rfl (Yld.notB rfl) ?_
               refine WL.yldG (by decide) rfl (Yld.pickT rfl rfl) ?_
               refine WL.yld (by decide) (Yld.pickF rfl rfl) ?_
               refine WL.done (hK106 _ _ ?_)
               by_cases hc124 : x122 = true
               ·
                replace h := of_t hc124 h
                refine WC.condFe rfl (not_f hc124) ?_
                refine WC.skip ?_
                refine QK.thenN ?_
                refine hK105 () _ _ ?_ (Sub.cons rfl (Sub.cons rfl (Sub.cons rfl (Sub.cons rfl (Sub.cons rfl (Sub.cons rfl (Sub.cons rfl (Sub.cons rfl (Sub.cons rfl (Sub.cons rfl (Sub.cons rfl (Sub.nil _)))))))))))) (Sub.cons rfl (Sub.cons rfl (Sub.cons rfl (Sub.cons rfl (Sub.nil _)))))
                exact h
               ·
                replace h := of_f hc124 h
                refine WC.condTe rfl (not_t (Bool.eq_false_iff.2 hc124)) ?_
                refine WC.seqRegion fun K125 hK125 => ?_
                refine WL.yld (by decide) (Yld.assign rfl) ?_
                refine WL.done (hK125 _ _ ?_)
                refine WC.ret (QK.thenR (QK.blockR (QK.thenR (QK.thenR (QK.blockR (QK.blockR (QK.thenR (QK.thenR (QK.blockR (QK.thenR ?_))))))))))
                injection h with h; subst h
                exact Ret.fn [] (ResIs.one rfl rfl) rfl (Ext.trans (Ext.trans (Ext.trans (Ext.trans hm_M20 hm_M38) hm_M40) hm_M59) hm_M61) rfl (by decide) rfl rfl ⟨rfl, rfl⟩
              ·
               replace h := of_f hc121 h
               refine WL.yld (by decide) (Yld.loadBM (k := 184) agg_42 rfl rfl rfl) ?_
               refine WL.yld (by decide) (Yld.loadBM (k := 204) agg_42 rfl rfl rfl) ?_
               refine WL.eff (by decide) (Eff.callS 208 rfl Try.func15 nm_15 rfl rfl (fun w hb hh => w_history_Before (Mem.snap w) x80.fClient x80.fKind x80.fKey x80.fCookie r_81_0.A r_81_0.n r_81_0.c _ (RdH.sn (RdH.memM (k := 0) rfl hq83_0) w hb hh) r_81_1.A r_81_1.n r_81_1.c _ (RdH.sn (RdH.memM (k := 0) rfl hq83_1) w hb hh) x80.fCall x80.fReturn x80.fClosed x80.fResult x100.fClient x100.fKind x100.fKey x100.fCookie r_101_0.A r_101_0.n r_101_0.c _ (RdH.sn (RdH.memM (k := 0) rfl hq103_0) w hb hh) r_101_1.A r_101_1.n r_101_1.c _ (RdH.sn (RdH.memM (k := 0) rfl hq103_1) w hb hh) x100.fCall x100.fReturn x100.fClosed x100.fResult hx107)) ?_
               rintro _ _ ⟨_, ⟨rfl, rfl⟩, rfl⟩
               refine WL.yld (by decide) (Yld.move rfl) ?_
               refine WL.new (v' := .bool false) (congrArg Value.bool (Bool.eq_false_iff.2 hc109)) ?_
               refine WL.skip (by decide) rfl rfl ?_
               refine WL.skip (by decide) rfl rfl ?_
               refine WL.skip (by decide) rfl rfl ?_
               refine WL.yld (by decide) (Yld.pickF rfl rfl) ?_
               refine WL.yld (by decide) (Yld.move rfl) ?_
               refine WL.yldG (by decide) rfl (Yld.move rfl) ?_
               refine WL.yldG (by decide) rfl (Yld.move rfl) ?_
               refine WL.yldG (by decide) rfl (Yld.lss rfl rfl) ?_
               refine WL.yldG (by decide) rfl (Yld.move rfl) ?_
               refine WL.new (v' := .bool true) (congrArg Value.bool (decide_eq_true hc120)) ?_
               refine WL.yldG (by decide) rfl (Yld.fieldAddr Try.underlying42 rfl nz_3 rfl rfl) ?_
               refine WL.yldG (by decide) rfl (Yld.loadB (k := 184) scal_3 rfl rfl rfl) ?_
               refine WL.yldG (by decide) rfl (Yld.fieldAddr Try.underlying42 rfl nz_3 rfl rfl) ?_
               refine WL.yldG (by decide) rfl (Yld.loadB (k := 204) scal_3 rfl rfl rfl) ?_
               refine WL.yldG (by decide) rfl (Yld.eqlI rfl rfl) ?_
               refine WL.yldG (by decide) rfl (Yld.pickT rfl rfl) ?_
               refine WL.yldG (by decide) rfl (Yld.move rfl) ?_
               refine WL.new (v' := .bool false) (congrArg Value.bool (beq_eq_false_iff_ne.2 hc121)) ?_
               refine WL.skip (by decide) rfl rfl ?_
               refine WL.skip (by decide) rfl rfl ?_
               refine WL.skip (by decide) rfl rfl ?_
               refine WL.skip (by decide) rfl rfl ?_
               refine WL.yldG (by decide) rfl (Yld.pickF rfl rfl) ?_
               refine WL.yld (by decide) (Yld.pickF rfl rfl) ?_
               refine WL.done (hK106 _ _ ?_)
               refine WC.condF rfl ?_
               refine WC.skip ?_
               refine QK.thenN ?_
               refine hK105 () _ _ ?_ (Sub.cons rfl (Sub.cons rfl (Sub.cons rfl (Sub.cons rfl (Sub.cons rfl (Sub.cons rfl (Sub.cons rfl (Sub.cons rfl (Sub.cons rfl (Sub.cons rfl (Sub.cons rfl (Sub.nil _)))))))))))) (Sub.cons rfl (Sub.cons rfl (Sub.cons rfl (Sub.cons rfl (Sub.nil _)))))
               exact h
             ·
              replace h := of_f hc120 h
              refine WL.yld (by decide) (Yld.loadBM (k := 184) agg_42 rfl rfl rfl) ?_
              refine WL.yld (by decide) (Yld.loadBM (k := 204) agg_42 rfl rfl rfl) ?_
              refine WL.eff (by decide) (Eff.callS 208 rfl Try.func15 nm_15 rfl rfl (fun w hb hh => w_history_Before (Mem.snap w) x80.fClient x80.fKind x80.fKey x80.fCookie r_81_0.A r_81_0.n r_81_0.c _ (RdH.sn (RdH.memM (k := 0) rfl hq83_0) w hb hh) r_81_1.A r_81_1.n r_81_1.c _ (RdH.sn (RdH.memM (k := 0) rfl hq83_1) w hb hh) x80.fCall x80.fReturn x80.fClosed x80.fResult x100.fClient x100.fKind x100.fKey x100.fCookie r_101_0.A r_101_0.n r_101_0.c _ (RdH.sn (RdH.memM (k := 0) rfl hq103_0) w hb hh) r_101_1.A r_101_1.n r_101_1.c _ (RdH.sn (RdH.memM (k := 0) rfl hq103_1) w hb hh) x100.fCall x100.fReturn x100.fClosed x100.fResult hx107)) ?_
              rintro _ _ ⟨_, ⟨rfl, rfl⟩, rfl⟩
              refine WL.yld (by decide) (Yld.move rfl) ?_
              refine WL.new (v' := .bool false) (congrArg Value.bool (Bool.eq_false_iff.2 hc109)) ?_
              refine WL.skip (by decide) rfl rfl ?_
              refine WL.skip (by decide) rfl rfl ?_
              refine WL.skip (by decide) rfl rfl ?_
              refine WL.yld (by decide) (Yld.pickF rfl rfl) ?_
              refine WL.yld (by decide) (Yld.move rfl) ?_
              refine WL.yldG (by decide) rfl (Yld.move rfl) ?_
              refine WL.yldG (by decide) rfl (Yld.move rfl) ?_
              refine WL.yldG (by decide) rfl (Yld.lss rfl rfl) ?_
              refine WL.yldG (by decide) rfl (Yld.move rfl) ?_
              refine WL.new (v' := .bool false) (congrArg Value.bool (decide_eq_false hc120)) ?_
              refine WL.skip (by decide) rfl rfl ?_
              refine WL.skip (by decide) rfl rfl ?_
              refine WL.skip (by decide) rfl rfl ?_
              refine WL.skip (by decide) rfl rfl ?_
              refine WL.skip (by decide) rfl rfl ?_
              refine WL.yldG (by decide) rfl (Yld.pickF rfl rfl) ?_
              refine WL.yldG (by decide) rfl (Yld.move rfl) ?_
              refine WL.skip (by decide) rfl rfl ?_
              refine WL.skip (by decide) rfl rfl ?_
              refine WL.skip (by decide) rfl rfl ?_
              refine WL.skip (by decide) rfl rfl ?_
              refine WL.yldG (by decide) rfl (Yld.pickF rfl rfl) ?_
              refine WL.yld (by decide) (Yld.pickF rfl rfl) ?_
              refine WL.done (hK106 _ _ ?_)
              refine WC.condF rfl ?_
              refine WC.skip ?_
              refine QK.thenN ?_
              refine hK105 () _ _ ?_ (Sub.cons rfl (Sub.cons rfl (Sub.cons rfl (Sub.cons rfl (Sub.cons rfl (Sub.cons rfl (Sub.cons rfl (Sub.cons rfl (Sub.cons rfl (Sub.cons rfl (Sub.cons rfl (Sub.nil _)))))))))))) (Sub.cons rfl (Sub.cons rfl (Sub.cons rfl (Sub.cons rfl (Sub.nil _)))))
              exact h
           ·
            rintro _ h
            unfold m_law24_HistoryOrder_j5 at h
            refine WC.seqCut (σ := Unit) (fun _ => [(3, .slice A41 n42 c43), (4, .slice A62 n63 c64), (6, I64 x72), (7, .pointer (some ⟨g84, 0, none⟩)), (9, .pointer (some ⟨g104, 0, none⟩)), (27, .slice A62 n63 c64), (28, I64 (x47.1.length : Int)), (29, I64 x72), (37, .slice A62 n63 c64), (38, I64 (x47.1.length : Int)), (39, I64 x92)]) (fun _ => [(0, .mem M61), (153, .own 42 (Lay.sz Rhistory_Op) A62 n63 c64 (cel rs65)), (184, .blk g84 42 [I64 x80.fClient, I64 x80.fKind, U64 x80.fKey, U32 x80.fCookie, .slice r_81_0.A r_81_0.n r_81_0.c, .slice r_81_1.A r_81_1.n r_81_1.c, I64 x80.fCall, I64 x80.fReturn, I64 x80.fClosed, I64 x80.fResult]), (204, .blk g104 42 [I64 x100.fClient, I64 x100.fKind, U64 x100.fKey, U32 x100.fCookie, .slice r_101_0.A r_101_0.n r_101_0.c, .slice r_101_1.A r_101_1.n r_101_1.c, I64 x100.fCall, I64 x100.fReturn, I64 x100.fClosed, I64 x100.fResult])]) (fun _ => m_law24_HistoryOrder_j6 x47 x80 x92 x100 (m_law24_HistoryOrder_l3 x26 x47 x72 x80 (m_law24_HistoryOrder_l1 x26 x47 q73) q93) = some res) (fun K126 hK126 => ?_) ?_
            ·
             skip
             refine WC.seqRegion fun K127 hK127 => ?_
             refine WL.yld (by decide) (Yld.fieldAddr Try.underlying42 rfl nz_3 rfl rfl) ?_
             refine WL.yld (by decide) (Yld.loadB (k := 184) scal_3 rfl rfl rfl) ?_
             refine WL.yld (by decide) (Yld.assign rfl) ?_
             refine WL.done (hK127 _ _ ?_)
             refine WC.block ?_
             refine WC.loop (σ := Nat × Int) (fun ⟨q129, x128⟩ => [(3, .slice A41 n42 c43), (4, .slice A62 n63 c64), (6, I64 x72), (7, .pointer (some ⟨g84, 0, none⟩)), (9, .pointer (some ⟨g104, 0, none⟩)), (10, I64 x128), (27, .slice A62 n63 c64), (28, I64 (x47.1.length : Int)), (29, I64 x72), (37, .slice A62 n63 c64), (38, I64 (x47.1.length : Int)), (39, I64 x92)]) (fun ⟨q129, x128⟩ => [(0, .mem M61), (153, .own 42 (Lay.sz Rhistory_Op) A62 n63 c64 (cel rs65)), (184, .blk g84 42 [I64 x80.fClient, I64 x80.fKind, U64 x80.fKey, U32 x80.fCookie, .slice r_81_0.A r_81_0.n r_81_0.c, .slice r_81_1.A r_81_1.n r_81_1.c, I64 x80.fCall, I64 x80.fReturn, I64 x80.fClosed, I64 x80.fResult]), (204, .blk g104 42 [I64 x100.fClient, I64 x100.fKind, U64 x100.fKey, U32 x100.fCookie, .slice r_101_0.A r_101_0.n r_101_0.c, .slice r_101_1.A r_101_1.n r_101_1.c, I64 x100.fCall, I64 x100.fReturn, I64 x100.fClosed, I64 x100.fResult])]) (fun ⟨q129, x128⟩ => m_law24_HistoryOrder_l7 x26 x47 x80 x92 x100 (m_law24_HistoryOrder_l3 x26 x47 x72 x80 (m_law24_HistoryOrder_l1 x26 x47 q73) q93) q129 x128 = some res) (fun ⟨q129, x128⟩ => q129) ⟨forever, x80.fCall⟩ ?_ (Sub.cons rfl (Sub.cons rfl (Sub.cons rfl (Sub.cons rfl (Sub.cons rfl (Sub.cons rfl (Sub.cons rfl (Sub.cons rfl (Sub.cons rfl (Sub.cons rfl (Sub.cons rfl (Sub.cons rfl (Sub.nil _))))))))))))) (Sub.cons rfl (Sub.cons rfl (Sub.cons rfl (Sub.cons rfl (Sub.nil _))))) ?_
             ·
              exact h
             rintro ⟨q129, x128⟩ h K130 hK130
             cases q129 with
             | zero => exact absurd h (by simp [m_law24_HistoryOrder_l7])
             | succ q129 =>
              unfold m_law24_HistoryOrder_l7 at h
              refine WC.seq fun K131 hK131 => ?_
              refine WC.seqRegion fun K132 hK132 => ?_
              refine WL.yld (by decide) (Yld.move rfl) ?_
              refine WL.yld (by decide) (Yld.fieldAddr Try.underlying42 rfl nz_3 rfl rfl) ?_
              refine WL.yld (by decide) (Yld.loadB (k := 204) scal_3 rfl rfl rfl) ?_
              refine WL.yld (by decide) (Yld.lss rfl rfl) ?_
              refine WL.done (hK132 _ _ ?_)
              by_cases hc133 : x128 < x100.fCall
              ·
               replace h := of_t hc133 h
               refine WC.condTe rfl (decide_eq_true hc133) ?_
               refine WC.skip ?_
               refine QK.thenN (hK131 _ _ ?_)
               refine WC.seq fun K134 hK134 => ?_
               refine WC.block ?_
               refine WC.seqRegion fun K135 hK135 => ?_
               obtain ⟨x136, hx136, h⟩ := bnd h
               by_cases hc140 : x136.fKind = (3 : Int)
               ·
                replace h := of_t hc140 h
                obtain ⟨x141, hx141, h⟩ := bnd h
                refine WL.yld (by decide) (Yld.move rfl) ?_
                refine WL.yld (by decide) (Yld.move rfl) ?_
                obtain ⟨⟨_, r_137_0⟩, hr138, rfl, hq139_0⟩ := Rels.idx (Rels.lift (Rels.lift hq45 hm_M59) hm_M61) hx136
                refine WL.yld (by decide) (Yld.idxC (xs := rs44) sty_31 rfl rfl (RdH.memM (k := 0) rfl (SlRc.lift hf60 hm_M61)) hr138) ?_
                refine WL.yld (by decide) (Yld.fieldAddrC Try.underlying45 rfl nz_3 rfl rfl) ?_
                refine WL.yld (by decide) (Yld.loadC (xs := rs44) (j := 0) scal_3 rfl (RdH.memM (k := 0) rfl (SlRc.lift hf60 hm_M61)) hr138 rfl rfl) ?_
                refine WL.yld (by decide) (Yld.eqlI rfl rfl) ?_
                refine WL.yld (by decide) (Yld.move rfl) ?_
                refine WL.new (v' := .bool true) (congrArg Value.bool (beq_iff_eq.2 hc140)) ?_
                refine WL.yldG (by decide) rfl (Yld.loadBM (k := 184) agg_42 rfl rfl rfl) ?_
                refine WL.yldG (by decide) rfl (Yld.loadBM (k := 204) agg_42 rfl rfl rfl) ?_
                refine WL.effG (by decide) rfl (Eff.callS 242 rfl Try.func15 nm_15 rfl rfl (fun w hb hh => w_history_Before (Mem.snap w) x80.fClient x80.fKind x80.fKey x80.fCookie r_81_0.A r_81_0.n r_81_0.c _ (RdH.sn (RdH.memM (k := 0) rfl hq83_0) w hb hh) r_81_1.A r_81_1.n r_81_1.c _ (RdH.sn (RdH.memM (k := 0) rfl hq83_1) w hb hh) x80.fCall x80.fReturn x80.fClosed x80.fResult x100.fClient x100.fKind x100.fKey x100.fCookie r_101_0.A r_101_0.n r_101_0.c _ (RdH.sn (RdH.memM (k := 0) rfl hq103_0) w hb hh) r_101_1.A r_101_1.n r_101_1.c _ (RdH.sn (RdH.memM (k := 0) rfl hq103_1) w hb hh) x100.fCall x100.fReturn x100.fClosed x100.fResult hx141)) ?_
                rintro _ _ ⟨_, ⟨rfl, rfl⟩, rfl⟩
                refine WL.yldG (by decide) rfl (Yld.notB rfl) ?_
                refine WL.yld (by decide) (Yld.pickT rfl rfl) ?_
                refine WL.done (hK135 _ _ ?_)
                by_cases hc143 : x141 = true
                ·
                 replace h := of_t hc143 h
                 refine WC.condFe rfl (not_f hc143) ?_
                 refine WC.skip ?_
                 refine QK.blockN ?_
                 refine QK.thenN (hK134 _ _ ?_)
                 refine WC.region fun K144 hK144 => ?_
                 obtain ⟨x145, hx145, h⟩ := bnd h
                 refine WL.yld (by decide) (Yld.move rfl) ?_
                 refine WL.yld (by decide) (Yld.addC rfl rfl hx145) ?_
                 refine WL.yld (by decide) (Yld.assign rfl) ?_
                 refine WL.done (hK144 _ _ ?_)
                 refine QK.thenN ?_
                 refine hK130 ⟨q129, x145⟩ _ _ ?_ (Nat.lt_succ_self _) (Sub.cons rfl (Sub.cons rfl (Sub.cons rfl (Sub.cons rfl (Sub.cons rfl (Sub.cons rfl (Sub.cons rfl (Sub.cons rfl (Sub.cons rfl (Sub.cons rfl (Sub.cons rfl (Sub.cons rfl (Sub.nil _))))))))))))) (Sub.cons rfl (Sub.cons rfl (Sub.cons rfl (Sub.cons rfl (Sub.nil _)))))
                 exact h
                ·
                 replace h := of_f hc143 h
                 refine WC.condTe rfl (not_t (Bool.eq_false_iff.2 hc143)) ?_
                 refine WC.seqRegion fun K146 hK146 => ?_
                 refine WL.yld (by decide) (Yld.assign rfl) ?_
                 refine WL.done (hK146 _ _ ?_)
                 refine WC.ret (QK.blockR (QK.thenR (QK.thenR (QK.blockR (QK.thenR (QK.blockR (QK.thenR (QK.thenR (QK.blockR (QK.blockR (QK.thenR (QK.thenR (QK.blockR (QK.thenR ?_))))))))))))))
                 injection h with h; subst h
                 exact Ret.fn [] (ResIs.one rfl rfl) rfl (Ext.trans (Ext.trans (Ext.trans (Ext.trans hm_M20 hm_M38) hm_M40) hm_M59) hm_M61) rfl (by decide) rfl rfl ⟨rfl, rfl⟩
               ·
                replace h := of_f hc140 h
                refine WL.yld (by decide) (Yld.move rfl) ?_
                refine WL.yld (by decide) (Yld.move rfl) ?_
                obtain ⟨⟨_, r_137_0⟩, hr138, rfl, hq139_0⟩ := Rels.idx (Rels.lift (Rels.lift hq45 hm_M59) hm_M61) hx136
                refine WL.yld (by decide) (Yld.idxC (xs := rs44) sty_31 rfl rfl (RdH.memM (k := 0) rfl (SlRc.lift hf60 hm_M61)) hr138) ?_
                refine WL.yld (by decide) (Yld.fieldAddrC Try.underlying45 rfl nz_3 rfl rfl) ?_
                refine WL.yld (by decide) (Yld.loadC (xs := rs44) (j := 0) scal_3 rfl (RdH.memM (k := 0) rfl (SlRc.lift hf60 hm_M61)) hr138 rfl rfl) ?_
                refine WL.yld (by decide) (Yld.eqlI rfl rfl) ?_
                refine WL.yld (by decide) (Yld.move rfl) ?_
                refine WL.new (v' := .bool false) (congrArg Value.bool (beq_eq_false_iff_ne.2 hc140)) ?_
                refine WL.skip (by decide) rfl rfl ?_
                refine WL.skip (by decide) rfl rfl ?_
                refine WL.skip (by decide) rfl rfl ?_
                refine WL.skip (by decide) rfl rfl ?_
                refine WL.yld (by decide) (Yld.pickF rfl rfl) ?_
                refine WL.done (hK135 _ _ ?_)
                refine WC.condF rfl ?_
                refine WC.skip ?_
                refine QK.blockN ?_
                refine QK.thenN (hK134 _ _ ?_)
                refine WC.region fun K147 hK147 => ?_
                obtain ⟨x148, hx148, h⟩ := bnd h
                refine WL.yld (by decide) (Yld.move rfl) ?_
                refine WL.yld (by decide) (Yld.addC rfl rfl hx148) ?_
                refine WL.yld (by decide) (Yld.assign rfl) ?_
                refine WL.done (hK147 _ _ ?_)
                refine QK.thenN ?_
                refine hK130 ⟨q129, x148⟩ _ _ ?_ (Nat.lt_succ_self _) (Sub.cons rfl (Sub.cons rfl (Sub.cons rfl (Sub.cons rfl (Sub.cons rfl (Sub.cons rfl (Sub.cons rfl (Sub.cons rfl (Sub.cons rfl (Sub.cons rfl (Sub.cons rfl (Sub.cons rfl (Sub.nil _))))))))))))) (Sub.cons rfl (Sub.cons rfl (Sub.cons rfl (Sub.cons rfl (Sub.nil _)))))
                exact h
              ·
               replace h := of_f hc133 h
               refine WC.condFe rfl (decide_eq_false hc133) ?_
               refine WC.exit (QK.thenE (QK.thenE (QK.blockX ?_)))
               refine QK.thenN ?_
               refine hK126 () _ _ ?_ (Sub.cons rfl (Sub.cons rfl (Sub.cons rfl (Sub.cons rfl (Sub.cons rfl (Sub.cons rfl (Sub.cons rfl (Sub.cons rfl (Sub.cons rfl (Sub.cons rfl (Sub.cons rfl (Sub.nil _)))))))))))) (Sub.cons rfl (Sub.cons rfl (Sub.cons rfl (Sub.cons rfl (Sub.nil _)))))
               exact h
            ·
             rintro _ h
             unfold m_law24_HistoryOrder_j6 at h
             refine WC.seqRegion fun K149 hK149 => ?_
             refine WL.yld (by decide) (Yld.move rfl) ?_
             refine WL.yld (by decide) (Yld.lenD (rs := rs65) (xs := x47.1) (Rels.len hq66) und_27 rfl (RdH.own (k := 153) rfl)) ?_
             refine WL.yld (by decide) (Yld.move rfl) ?_
             refine WL.done (hK149 _ _ ?_)
             refine WC.block ?_
             refine WC.loop (σ := Nat × Int) (fun ⟨q151, x150⟩ => [(3, .slice A41 n42 c43), (4, .slice A62 n63 c64), (6, I64 x72), (7, .pointer (some ⟨g84, 0, none⟩)), (9, .pointer (some ⟨g104, 0, none⟩)), (27, .slice A62 n63 c64), (28, I64 (x47.1.length : Int)), (29, I64 x72), (37, .slice A62 n63 c64), (38, I64 (x47.1.length : Int)), (39, I64 x92), (90, .slice A62 n63 c64), (91, I64 (x47.1.length : Int)), (92, I64 x150)]) (fun ⟨q151, x150⟩ => [(0, .mem M61), (153, .own 42 (Lay.sz Rhistory_Op) A62 n63 c64 (cel rs65)), (184, .blk g84 42 [I64 x80.fClient, I64 x80.fKind, U64 x80.fKey, U32 x80.fCookie, .slice r_81_0.A r_81_0.n r_81_0.c, .slice r_81_1.A r_81_1.n r_81_1.c, I64 x80.fCall, I64 x80.fReturn, I64 x80.fClosed, I64 x80.fResult]), (204, .blk g104 42 [I64 x100.fClient, I64 x100.fKind, U64 x100.fKey, U32 x100.fCookie, .slice r_101_0.A r_101_0.n r_101_0.c, .slice r_101_1.A r_101_1.n r_101_1.c, I64 x100.fCall, I64 x100.fReturn, I64 x100.fClosed, I64 x100.fResult])]) (fun ⟨q151, x150⟩ => m_law24_HistoryOrder_l8 x47 x80 x92 x100 (m_law24_HistoryOrder_l3 x26 x47 x72 x80 (m_law24_HistoryOrder_l1 x26 x47 q73) q93) q151 x150 = some res) (fun ⟨q151, x150⟩ => q151) ⟨forever, (0 : Int)⟩ ?_ (Sub.cons rfl (Sub.cons rfl (Sub.cons rfl (Sub.cons rfl (Sub.cons rfl (Sub.cons rfl (Sub.cons rfl (Sub.cons rfl (Sub.cons rfl (Sub.cons rfl (Sub.cons rfl (Sub.cons rfl (Sub.cons rfl (Sub.cons rfl (Sub.nil _))))))))))))))) (Sub.cons rfl (Sub.cons rfl (Sub.cons rfl (Sub.cons rfl (Sub.nil _))))) ?_
             ·
              exact h
             rintro ⟨q151, x150⟩ h K152 hK152
             cases q151 with
             | zero => exact absurd h (by simp [m_law24_HistoryOrder_l8])
             | succ q151 =>
              unfold m_law24_HistoryOrder_l8 at h
              refine WC.seqRegion fun K153 hK153 => ?_
              refine WL.yld (by decide) (Yld.lss rfl rfl) ?_
              refine WL.done (hK153 _ _ ?_)
              refine WC.seq fun K154 hK154 => ?_
              by_cases hc155 : x150 < (x47.1.length : Int)
              ·
               replace h := of_t hc155 h
               refine WC.condTe rfl (decide_eq_true hc155) ?_
               refine WC.skip ?_
               refine QK.thenN (hK154 _ _ ?_)
               refine WC.seq fun K156 hK156 => ?_
               refine WC.block ?_
               refine WC.seqRegion fun K157 hK157 => ?_
               obtain ⟨x158, hx158, h⟩ := bnd h
               obtain ⟨⟨_, r_159_0, r_159_1⟩, hr160, rfl, hq161_0, hq161_1⟩ := Rels.idx hq66 hx158
               refine WL.yld (by decide) (Yld.idxC (xs := rs65) sty_27 rfl rfl (RdH.own (k := 153) rfl) hr160) ?_
               refine WL.yld (by decide) (Yld.loadA (xs := rs65) agg_42 rfl (RdH.own (k := 153) rfl) hr160 rfl) ?_
               refine WL.eff (by decide) (Eff.alloc 262 rfl zr_42) ?_
               rintro _ _ ⟨g162, rfl, rfl⟩
               refine WL.eff0 (Eff0.storeBAM 262 agg_42 rfl rfl rfl ⟨rfl, rfl⟩ rfl) ?_
               refine WL.done (hK157 _ _ ?_)
               refine WC.seqRegion fun K163 hK163 => ?_
               obtain ⟨x164, hx164, h⟩ := bnd h
               by_cases hc166 : x164 = true
               ·
                replace h := of_t hc166 h
                obtain ⟨x167, hx167, h⟩ := bnd h
                by_cases hc169 : x167 = true
                ·
                 replace h := of_t hc169 h
                 obtain ⟨x170, hx170, h⟩ := bnd h
                 refine WL.yld (by decide) (Yld.loadBM (k := 184) agg_42 rfl rfl rfl) ?_
                 refine WL.yld (by decide) (Yld.loadBM (k := 204) agg_42 rfl rfl rfl) ?_
                 refine WL.eff (by decide) (Eff.callS 265 rfl Try.func15 nm_15 rfl rfl (fun w hb hh => w_history_Before (Mem.snap w) x80.fClient x80.fKind x80.fKey x80.fCookie r_81_0.A r_81_0.n r_81_0.c _ (RdH.sn (RdH.memM (k := 0) rfl hq83_0) w hb hh) r_81_1.A r_81_1.n r_81_1.c _ (RdH.sn (RdH.memM (k := 0) rfl hq83_1) w hb hh) x80.fCall x80.fReturn x80.fClosed x80.fResult x100.fClient x100.fKind x100.fKey x100.fCookie r_101_0.A r_101_0.n r_101_0.c _ (RdH.sn (RdH.memM (k := 0) rfl hq103_0) w hb hh) r_101_1.A r_101_1.n r_101_1.c _ (RdH.sn (RdH.memM (k := 0) rfl hq103_1) w hb hh) x100.fCall x100.fReturn x100.fClosed x100.fResult hx164)) ?_
                 rintro _ _ ⟨_, ⟨rfl, rfl⟩, rfl⟩
                 refine WL.yld (by decide) (Yld.move rfl) ?_
                 refine WL.new (v' := .bool true) (congrArg Value.bool hc166) ?_
                 refine WL.yldG (by decide) rfl (Yld.loadBM (k := 204) agg_42 rfl rfl rfl) ?_
                 refine WL.yldG (by decide) rfl (Yld.loadBM (k := 262) agg_42 rfl rfl rfl) ?_
                 refine WL.effG (by decide) rfl (Eff.callS 268 rfl Try.func15 nm_15 rfl rfl (fun w hb hh => w_history_Before (Mem.snap w) x100.fClient x100.fKind x100.fKey x100.fCookie r_101_0.A r_101_0.n r_101_0.c _ (RdH.sn (RdH.memM (k := 0) rfl hq103_0) w hb hh) r_101_1.A r_101_1.n r_101_1.c _ (RdH.sn (RdH.memM (k := 0) rfl hq103_1) w hb hh) x100.fCall x100.fReturn x100.fClosed x100.fResult x158.fClient x158.fKind x158.fKey x158.fCookie r_159_0.A r_159_0.n r_159_0.c _ (RdH.sn (RdH.memM (k := 0) rfl hq161_0) w hb hh) r_159_1.A r_159_1.n r_159_1.c _ (RdH.sn (RdH.memM (k := 0) rfl hq161_1) w hb hh) x158.fCall x158.fReturn x158.fClosed x158.fResult hx167)) ?_
                 rintro _ _ ⟨_, ⟨rfl, rfl⟩, rfl⟩
                 refine WL.yld (by decide) (Yld.pickT rfl rfl) ?_
                 refine WL.yld (by decide) (Yld.move rfl) ?_
                 refine WL.new (v' := .bool true) (congrArg Value.bool hc169) ?_
                 refine WL.yldG (by decide) rfl (Yld.loadBM (k := 184) agg_42 rfl rfl rfl) ?_
                 refine WL.yldG (by decide) rfl (Yld.loadBM (k := 262) agg_42 rfl rfl rfl) ?_
                 refine WL.effG (by decide) rfl (Eff.callS 271 rfl Try.func15 nm_15 rfl rfl (fun w hb hh => w_history_Before (Mem.snap w) x80.fClient x80.fKind x80.fKey x80.fCookie r_81_0.A r_81_0.n r_81_0.c _ (RdH.sn (RdH.memM (k := 0) rfl hq83_0) w hb hh) r_81_1.A r_81_1.n r_81_1.c _ (RdH.sn (RdH.memM (k := 0) rfl hq83_1) w hb hh) x80.fCall x80.fReturn x80.fClosed x80.fResult x158.fClient x158.fKind x158.fKey x158.fCookie r_159_0.A r_159_0.n r_159_0.c _ (RdH.sn (RdH.memM (k := 0) rfl hq161_0) w hb hh) r_159_1.A r_159_1.n r_159_1.c _ (RdH.sn (RdH.memM (k := 0) rfl hq161_1) w hb hh) x158.fCall x158.fReturn x158.fClosed x158.fResult hx170)) ?_
                 rintro _ _ ⟨_, ⟨rfl, rfl⟩, rfl⟩
                 refine WL.yldG (by decide) rfl (Yld.notB rfl) ?_
                 refine WL.yld (by decide) (Yld.pickT rfl rfl) ?_
                 refine WL.done (hK163 _ _ ?_)
                 by_cases hc172 : x170 = true
                 ·
                  replace h := of_t hc172 h
                  refine WC.condFe rfl (not_f hc172) ?_
                  refine WC.skip ?_
                  refine QK.blockN ?_
                  refine QK.thenN (hK156 _ _ ?_)
                  refine WC.region fun K173 hK173 => ?_
                  obtain ⟨x174, hx174, h⟩ := bnd h
                  refine WL.yld (by decide) (Yld.addC rfl rfl hx174) ?_
                  refine WL.yld (by decide) (Yld.move rfl) ?_
                  refine WL.done (hK173 _ _ ?_)
                  refine QK.thenN ?_
                  refine hK152 ⟨q151, x174⟩ _ _ ?_ (Nat.lt_succ_self _) (Sub.cons rfl (Sub.cons rfl (Sub.cons rfl (Sub.cons rfl (Sub.cons rfl (Sub.cons rfl (Sub.cons rfl (Sub.cons rfl (Sub.cons rfl (Sub.cons rfl (Sub.cons rfl (Sub.cons rfl (Sub.cons rfl (Sub.cons rfl (Sub.nil _))))))))))))))) (Sub.cons rfl (Sub.cons rfl (Sub.cons rfl (Sub.cons rfl (Sub.nil _)))))
                  exact h
                 ·
                  replace h := of_f hc172 h
                  refine WC.condTe rfl (not_t (Bool.eq_false_iff.2 hc172)) ?_
                  refine WC.seqRegion fun K175 hK175 => ?_
                  refine WL.yld (by decide) (Yld.assign rfl) ?_
                  refine WL.done (hK175 _ _ ?_)
                  refine WC.ret (QK.blockR (QK.thenR (QK.thenR (QK.blockR (QK.blockR (QK.thenR (QK.thenR (QK.blockR (QK.blockR (QK.thenR (QK.thenR (QK.blockR (QK.thenR ?_)))))))))))))
                  injection h with h; subst h
                  exact Ret.fn [] (ResIs.one rfl rfl) rfl (Ext.trans (Ext.trans (Ext.trans (Ext.trans hm_M20 hm_M38) hm_M40) hm_M59) hm_M61) rfl (by decide) rfl rfl ⟨rfl, rfl⟩
                ·
                 replace h := of_f hc169 h
                 refine WL.yld (by decide) (Yld.loadBM (k := 184) agg_42 rfl rfl rfl) ?_
                 refine WL.yld (by decide) (Yld.loadBM (k := 204) agg_42 rfl rfl rfl) ?_
                 refine WL.eff (by decide) (Eff.callS 265 rfl Try.func15 nm_15 rfl rfl (fun w hb hh => w_history_Before (Mem.snap w) x80.fClient x80.fKind x80.fKey x80.fCookie r_81_0.A r_81_0.n r_81_0.c _ (RdH.sn (RdH.memM (k := 0) rfl hq83_0) w hb hh) r_81_1.A r_81_1.n r_81_1.c _ (RdH.sn (RdH.memM (k := 0) rfl hq83_1) w hb hh) x80.fCall x80.fReturn x80.fClosed x80.fResult x100.fClient x100.fKind x100.fKey x100.fCookie r_101_0.A r_101_0.n r_101_0.c _ (RdH.sn (RdH.memM (k := 0) rfl hq103_0) w hb hh) r_101_1.A r_101_1.n r_101_1.c _ (RdH.sn (RdH.memM (k := 0) rfl hq103_1) w hb hh) x100.fCall x100.fReturn x100.fClosed x100.fResult hx164)) ?_
                 rintro _ _ ⟨_, ⟨rfl, rfl⟩, rfl⟩
                 refine WL.yld (by decide) (Yld.move rfl) ?_
                 refine WL.new (v' := .bool true) (congrArg Value.bool hc166) ?_
                 refine WL.yldG (by decide) rfl (Yld.loadBM (k := 204) agg_42 rfl rfl rfl) ?_
                 refine WL.yldG (by decide) rfl (Yld.loadBM (k := 262) agg_42 rfl rfl rfl) ?_
                 refine WL.effG (by decide) rfl (Eff.callS 268 rfl Try.func15 nm_15 rfl rfl (fun w hb hh => w_history_Before (Mem.snap w) x100.fClient x100.fKind x100.fKey x100.fCookie r_101_0.A r_101_0.n r_101_0.c _ (RdH.sn (RdH.memM (k := 0) rfl hq103_0) w hb hh) r_101_1.A r_101_1.n r_101_1.c _ (RdH.sn (RdH.memM (k := 0) rfl hq103_1) w hb hh) x100.fCall x100.fReturn x100.fClosed x100.fResult x158.fClient x158.fKind x158.fKey x158.fCookie r_159_0.A r_159_0.n r_159_0.c _ (RdH.sn (RdH.memM (k := 0) rfl hq161_0) w hb hh) r_159_1.A r_159_1.n r_159_1.c _ (RdH.sn (RdH.memM (k := 0) rfl hq161_1) w hb hh) x158.fCall x158.fReturn x158.fClosed x158.fResult hx167)) ?_
                 rintro _ _ ⟨_, ⟨rfl, rfl⟩, rfl⟩
                 refine WL.yld (by decide) (Yld.pickT rfl rfl) ?_
                 refine WL.yld (by decide) (Yld.move rfl) ?_
                 refine WL.new (v' := .bool false) (congrArg Value.bool (Bool.eq_false_iff.2 hc169)) ?_
                 refine WL.skip (by decide) rfl rfl ?_
                 refine WL.skip (by decide) rfl rfl ?_
                 refine WL.skip (by decide) rfl rfl ?_
                 refine WL.skip (by decide) rfl rfl ?_
                 refine WL.yld (by decide) (Yld.pickF rfl rfl) ?_
                 refine WL.done (hK163 _ _ ?_)
                 refine WC.condF rfl ?_
                 refine WC.skip ?_
                 refine QK.blockN ?_
                 refine QK.thenN (hK156 _ _ ?_)
                 refine WC.region fun K176 hK176 => ?_
                 obtain ⟨x177, hx177, h⟩ := bnd h
                 refine WL.yld (by decide) (Yld.addC rfl rfl hx177) ?_
                 refine WL.yld (by decide) (Yld.move rfl) ?_
                 refine WL.done (hK176 _ _ ?_)
                 refine QK.thenN ?_
                 refine hK152 ⟨q151, x177⟩ _ _ ?_ (Nat.lt_succ_self _) (Sub.cons rfl (Sub.cons rfl (Sub.cons rfl (Sub.cons rfl (Sub.cons rfl (Sub.cons rfl (Sub.cons rfl (Sub.cons rfl (Sub.cons rfl (Sub.cons rfl (Sub.cons rfl (Sub.cons rfl (Sub.cons rfl (Sub.cons rfl (Sub.nil _))))))))))))))) (Sub.cons rfl (Sub.cons rfl (Sub.cons rfl (Sub.cons rfl (Sub.nil _)))))
                 exact h
               ·
                replace h := of_f hc166 h
                refine WL.yld (by decide) (Yld.loadBM (k := 184) agg_42 rfl rfl rfl) ?_
                refine WL.yld (by decide) (Yld.loadBM (k := 204) agg_42 rfl rfl rfl) ?_
                refine WL.eff (by decide) (Eff.callS 265 rfl Try.func15 nm_15 rfl rfl (fun w hb hh => w_history_Before (Mem.snap w) x80.fClient x80.fKind x80.fKey x80.fCookie r_81_0.A r_81_0.n r_81_0.c _ (RdH.sn (RdH.memM (k := 0) rfl hq83_0) w hb hh) r_81_1.A r_81_1.n r_81_1.c _ (RdH.sn (RdH.memM (k := 0) rfl hq83_1) w hb hh) x80.fCall x80.fReturn x80.fClosed x80.fResult x100.fClient x100.fKind x100.fKey x100.fCookie r_101_0.A r_101_0.n r_101_0.c _ (RdH.sn (RdH.memM (k := 0) rfl hq103_0) w hb hh) r_101_1.A r_101_1.n r_101_1.c _ (RdH.sn (RdH.memM (k := 0) rfl hq103_1) w hb hh) x100.fCall x100.fReturn x100.fClosed x100.fResult hx164)) ?_
                rintro _ _ ⟨_, ⟨rfl, rfl⟩, rfl⟩
                refine WL.yld (by decide) (Yld.move rfl) ?_
                refine WL.new (v' := .bool false) (congrArg Value.bool (Bool.eq_false_iff.2 hc166)) ?_
                refine WL.skip (by decide) rfl rfl ?_
                refine WL.skip (by decide) rfl rfl ?_
                refine WL.skip (by decide) rfl rfl ?_
                refine WL.yld (by decide) (Yld.pickF rfl rfl) ?_
                refine WL.yld (by decide) (Yld.move rfl) ?_
                refine WL.skip (by decide) rfl rfl ?_
                refine WL.skip (by decide) rfl rfl ?_
                refine WL.skip (by decide) rfl rfl ?_
                refine WL.skip (by decide) rfl rfl ?_
                refine WL.yld (by decide) (Yld.pickF rfl rfl) ?_
                refine WL.done (hK163 _ _ ?_)
                refine WC.condF rfl ?_
                refine WC.skip ?_
                refine QK.blockN ?_
                refine QK.thenN (hK156 _ _ ?_)
                refine WC.region fun K178 hK178 => ?_
                obtain ⟨x179, hx179, h⟩ := bnd h
                refine WL.yld (by decide) (Yld.addC rfl rfl hx179) ?_
                refine WL.yld (by decide) (Yld.move rfl) ?_
                refine WL.done (hK178 _ _ ?_)
                refine QK.thenN ?_
                refine hK152 ⟨q151, x179⟩ _ _ ?_ (Nat.lt_succ_self _) (Sub.cons rfl (Sub.cons rfl (Sub.cons rfl (Sub.cons rfl (Sub.cons rfl (Sub.cons rfl (Sub.cons rfl (Sub.cons rfl (Sub.cons rfl (Sub.cons rfl (Sub.cons rfl (Sub.cons rfl (Sub.cons rfl (Sub.cons rfl (Sub.nil _))))))))))))))) (Sub.cons rfl (Sub.cons rfl (Sub.cons rfl (Sub.cons rfl (Sub.nil _)))))
                exact h
              ·
               replace h := of_f hc155 h
               refine WC.condFe rfl (decide_eq_false hc155) ?_
               refine WC.exit (QK.thenE (QK.thenE (QK.blockX ?_)))
               refine QK.blockN ?_
               refine QK.thenN ?_
               refine hK98 () _ _ ?_ (Sub.cons rfl (Sub.cons rfl (Sub.cons rfl (Sub.cons rfl (Sub.cons rfl (Sub.cons rfl (Sub.cons rfl (Sub.cons rfl (Sub.cons rfl (Sub.cons rfl (Sub.nil _))))))))))) (Sub.cons rfl (Sub.cons rfl (Sub.cons rfl (Sub.nil _))))
               exact h
          ·
           rintro _ h
           unfold m_law24_HistoryOrder_j4 at h
           refine WC.region fun K180 hK180 => ?_
           obtain ⟨x181, hx181, h⟩ := bnd h
           refine WL.yld (by decide) (Yld.addC rfl rfl hx181) ?_
           refine WL.yld (by decide) (Yld.move rfl) ?_
           refine WL.done (hK180 _ _ ?_)
           refine QK.thenN ?_
           refine hK94 ⟨q93, x181⟩ _ _ ?_ (Nat.lt_succ_self _) (Sub.cons rfl (Sub.cons rfl (Sub.cons rfl (Sub.cons rfl (Sub.cons rfl (Sub.cons rfl (Sub.cons rfl (Sub.cons rfl (Sub.cons rfl (Sub.cons rfl (Sub.nil _))))))))))) (Sub.cons rfl (Sub.cons rfl (Sub.cons rfl (Sub.nil _))))
           exact h
         ·
          replace h := of_f hc97 h
          refine WC.condFe rfl (decide_eq_false hc97) ?_
          refine WC.exit (QK.thenE (QK.thenE (QK.blockX ?_)))
          refine QK.blockN ?_
          refine QK.thenN ?_
          refine hK78 () _ _ ?_ (Sub.cons rfl (Sub.cons rfl (Sub.cons rfl (Sub.cons rfl (Sub.cons rfl (Sub.nil _)))))) (Sub.cons rfl (Sub.cons rfl (Sub.nil _)))
          exact h
      ·
       rintro _ h
       unfold m_law24_HistoryOrder_j2 at h
       refine WC.region fun K182 hK182 => ?_
       obtain ⟨x183, hx183, h⟩ := bnd h
       refine WL.yld (by decide) (Yld.addC rfl rfl hx183) ?_
       refine WL.yld (by decide) (Yld.move rfl) ?_
       refine WL.done (hK182 _ _ ?_)
       refine QK.thenN ?_
       refine hK74 ⟨q73, x183⟩ _ _ ?_ (Nat.lt_succ_self _) (Sub.cons rfl (Sub.cons rfl (Sub.cons rfl (Sub.cons rfl (Sub.cons rfl (Sub.nil _)))))) (Sub.cons rfl (Sub.cons rfl (Sub.nil _)))
       exact h
     ·
      replace h := of_f hc77 h
      refine WC.condFe rfl (decide_eq_false hc77) ?_
      refine WC.exit (QK.thenE (QK.thenE (QK.blockX ?_)))
      refine QK.thenN ?_
      refine hK70 () _ _ ?_ (Sub.nil _) (Sub.cons rfl (Sub.nil _))
      exact h
   ·
    rintro _ h
    unfold m_law24_HistoryOrder_j0 at h
    refine WC.seqRegion fun K184 hK184 => ?_
    obtain ⟨x185, hx185, h⟩ := bnd h
    refine WL.eff (by decide) (Eff.callS 286 rfl Try.func8 nm_8 rfl rfl (fun w hb hh => w_law24_awake (Mem.snap w) hx185)) ?_
    rintro _ _ ⟨_, ⟨rfl, rfl⟩, rfl⟩
    refine WL.yld (by decide) (Yld.assign rfl) ?_
    refine WL.done (hK184 _ _ ?_)
    refine WC.ret ?_
    injection h with h; subst h
    exact Ret.fn [] (ResIs.one rfl rfl) rfl (Ext.trans (Ext.trans (Ext.trans (Ext.trans hm_M20 hm_M38) hm_M40) hm_M59) hm_M61) rfl (by decide) rfl rfl ⟨rfl, rfl⟩
  ·
   replace h := of_f hc69 h
   refine WC.condTe rfl (bne_iff_ne.2 hc69) ?_
   refine WC.seqRegion fun K187 hK187 => ?_
   refine WL.yld (by decide) (Yld.assign rfl) ?_
   refine WL.done (hK187 _ _ ?_)
   refine WC.ret (QK.thenR ?_)
   injection h with h; subst h
   exact Ret.fn [] (ResIs.one rfl rfl) rfl (Ext.trans (Ext.trans (Ext.trans (Ext.trans hm_M20 hm_M38) hm_M40) hm_M59) hm_M61) rfl (by decide) rfl rfl ⟨rfl, rfl⟩
 ·
  replace h := of_f hc6 h
  refine WC.condTe rfl (not_t (Bool.eq_false_iff.2 hc6)) ?_
  refine WC.seqRegion fun K188 hK188 => ?_
  obtain ⟨x189, hx189, h⟩ := bnd h
  refine WL.eff (by decide) (Eff.callS 290 rfl Try.func8 nm_8 rfl rfl (fun w hb hh => w_law24_awake (Mem.snap w) hx189)) ?_
  rintro _ _ ⟨_, ⟨rfl, rfl⟩, rfl⟩
  refine WL.yld (by decide) (Yld.assign rfl) ?_
  refine WL.done (hK188 _ _ ?_)
  refine WC.ret (QK.thenR ?_)
  injection h with h; subst h
  exact Ret.fn [] (ResIs.one rfl rfl) rfl (Ext.refl _ _) rfl (by decide) rfl rfl ⟨rfl, rfl⟩

end Go.Proofs.Ytpebhdepmbnjbaa
