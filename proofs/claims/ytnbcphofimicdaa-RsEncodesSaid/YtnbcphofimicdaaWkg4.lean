/-
  Walks (g4): what a function's model gives, the function returns. Printed by a program of ours (vcm.py) from the function's operations. Conditions: as each theorem says.
-/
import Derived.Test.YtnbcphofimicdaaWkf
import Derived.Test.YtnbcphofimicdaaMdg4
namespace Go.Proofs.Ytnbcphofimicdaa
open Go Go.RowKit
set_option linter.unusedVariables false

theorem und_41 : Try.prog.underlying 41 = some (.slice 35) := by kernel_rfl
theorem nm_15 : (Try.f15.name == "runtime.NumGoroutine") = false := by kernel_rfl
theorem nm_16 : (Try.f16.name == "runtime.NumGoroutine") = false := by kernel_rfl
theorem nm_17 : (Try.f17.name == "runtime.NumGoroutine") = false := by kernel_rfl
theorem scal_35 : scal Try.prog 35 = true := by kernel_rfl
theorem sty_41 : STy Try.prog 41 35 (.slice none 0 0) 1 24 := STy.of und_41 (by kernel_rfl) rfl

set_option maxRecDepth 10000 in
theorem w_law04_RsEncodes (M0 : Mem) (A00 : Option Addr) (n00 c00 : Nat) (rs00 : List Hdr) (x00 : List (List (BitVec 8))) (hf00 : SlT M0 A00 n00 c00 rs00) (hq00 : Rels ((RelB (α := BitVec 8)) M0) rs00 x00) (A01 : Option Addr) (n01 c01 : Nat) (rs01 : List Hdr) (x01 : List (List (BitVec 8))) (hf01 : SlT M0 A01 n01 c01 rs01) (hq01 : Rels ((RelB (α := BitVec 8)) M0) rs01 x01) (A02 : Option Addr) (n02 c02 : Nat) (x02 : List (BitVec 8)) (hf02 : SlT M0 A02 n02 c02 x02) (x03 : Int) {res : Bool} (h : m_law04_RsEncodes x00 x01 x02 x03 = some res) :
    Fn Try.prog 7 #[.slice A00 n00 c00, .slice A01 n01 c01, .slice A02 n02 c02, I64 x03] M0 fun r M' es => r = .bool res ∧ es = [] := by
  refine Fn.intro (N := 62) Try.func7 rfl rfl (Nat.le_of_ble_eq_true rfl) fun w0 => ?_
  unfold m_law04_RsEncodes at h
  refine WC.seqRegion fun K1 hK1 => ?_
  refine WL.yld (by decide) (Yld.assign rfl) ?_
  refine WL.done (hK1 _ _ ?_)
  refine WC.seqCut (σ := (Option Addr) × Nat × Nat × (List (BitVec 8)) × Int) (fun ⟨A2, n3, c4, x5, x7⟩ => [(0, .slice A00 n00 c00), (1, .slice A01 n01 c01), (2, .slice A2 n3 c4), (3, I64 x7)]) (fun ⟨A2, n3, c4, x5, x7⟩ => [(0, .mem M0)]) (fun ⟨A2, n3, c4, x5, x7⟩ => m_law04_RsEncodes_j0 x00 x01 x5 x7 = some res ∧ SlT M0 A2 n3 c4 x5) (fun K8 hK8 => ?_) ?_
  · skip
    refine WC.seqRegion fun K9 hK9 => ?_
    obtain ⟨x10, hx10, h⟩ := bnd h
    by_cases hc12 : x10 = true
    · replace h := of_t hc12 h
      obtain ⟨x13, hx13, h⟩ := bnd h
      refine WL.yld (by decide) (Yld.move rfl) ?_
      refine WL.eff (by decide) (Eff.callS 111 rfl Try.func16 nm_16 rfl rfl (fun w hb hh => w_law04_light (Mem.snap w) A00 n00 c00 rs00 _ (RdH.sn (RdH.memM (k := 0) rfl hf00) w hb hh) (Rels.sn hq00 (hh.sat 0 _ rfl)) hx10)) ?_
      rintro _ _ ⟨_, ⟨rfl, rfl⟩, rfl⟩
      refine WL.yld (by decide) (Yld.notB rfl) ?_
      refine WL.yld (by decide) (Yld.move rfl) ?_
      refine WL.new (v' := .bool false) (congrArg Value.bool (not_f hc12)) ?_
      refine WL.yldG (by decide) rfl (Yld.move rfl) ?_
      refine WL.effG (by decide) rfl (Eff.callS 114 rfl Try.func16 nm_16 rfl rfl (fun w hb hh => w_law04_light (Mem.snap w) A01 n01 c01 rs01 _ (RdH.sn (RdH.memM (k := 0) rfl hf01) w hb hh) (Rels.sn hq01 (hh.sat 0 _ rfl)) hx13)) ?_
      rintro _ _ ⟨_, ⟨rfl, rfl⟩, rfl⟩
      refine WL.yldG (by decide) rfl (Yld.notB rfl) ?_
      refine WL.yld (by decide) (Yld.pickF rfl rfl) ?_
      refine WL.done (hK9 _ _ ?_)
      by_cases hc15 : x13 = true
      · replace h := of_t hc15 h
        refine WC.condFe rfl (not_f hc15) ?_
        refine WC.skip ?_
        refine QK.thenN ?_
        refine hK8 ⟨A02, n02, c02, x02, x03⟩ _ _ ?_ (Sub.cons rfl (Sub.cons rfl (Sub.cons rfl (Sub.cons rfl (Sub.nil _))))) (Sub.cons rfl (Sub.nil _))
        exact ⟨h, hf02⟩
      · replace h := of_f hc15 h
        refine WC.condTe rfl (not_t (Bool.eq_false_iff.2 hc15)) ?_
        refine WC.seqRegion fun K16 hK16 => ?_
        obtain ⟨x17, hx17, h⟩ := bnd h
        refine WL.eff (by decide) (Eff.callS 118 rfl Try.func15 nm_15 rfl rfl (fun w hb hh => w_law04_awake (Mem.snap w) hx17)) ?_
        rintro _ _ ⟨_, ⟨rfl, rfl⟩, rfl⟩
        refine WL.yld (by decide) (Yld.assign rfl) ?_
        refine WL.done (hK16 _ _ ?_)
        refine WC.ret (QK.thenR ?_)
        injection h with h; subst h
        exact Ret.fn [] (ResIs.one rfl rfl) rfl (Ext.refl _ _) rfl (by decide) rfl rfl ⟨rfl, rfl⟩
    · replace h := of_f hc12 h
      refine WL.yld (by decide) (Yld.move rfl) ?_
      refine WL.eff (by decide) (Eff.callS 111 rfl Try.func16 nm_16 rfl rfl (fun w hb hh => w_law04_light (Mem.snap w) A00 n00 c00 rs00 _ (RdH.sn (RdH.memM (k := 0) rfl hf00) w hb hh) (Rels.sn hq00 (hh.sat 0 _ rfl)) hx10)) ?_
      rintro _ _ ⟨_, ⟨rfl, rfl⟩, rfl⟩
      refine WL.yld (by decide) (Yld.notB rfl) ?_
      refine WL.yld (by decide) (Yld.move rfl) ?_
      refine WL.new (v' := .bool true) (congrArg Value.bool (not_t (Bool.eq_false_iff.2 hc12))) ?_
      refine WL.skip (by decide) rfl rfl ?_
      refine WL.skip (by decide) rfl rfl ?_
      refine WL.skip (by decide) rfl rfl ?_
      refine WL.yld (by decide) (Yld.pickT rfl rfl) ?_
      refine WL.done (hK9 _ _ ?_)
      refine WC.condT rfl ?_
      refine WC.seqRegion fun K19 hK19 => ?_
      obtain ⟨x20, hx20, h⟩ := bnd h
      refine WL.eff (by decide) (Eff.callS 121 rfl Try.func15 nm_15 rfl rfl (fun w hb hh => w_law04_awake (Mem.snap w) hx20)) ?_
      rintro _ _ ⟨_, ⟨rfl, rfl⟩, rfl⟩
      refine WL.yld (by decide) (Yld.assign rfl) ?_
      refine WL.done (hK19 _ _ ?_)
      refine WC.ret (QK.thenR ?_)
      injection h with h; subst h
      exact Ret.fn [] (ResIs.one rfl rfl) rfl (Ext.refl _ _) rfl (by decide) rfl rfl ⟨rfl, rfl⟩
  · rintro ⟨A2, n3, c4, x5, x7⟩ ⟨h, hf6⟩
    unfold m_law04_RsEncodes_j0 at h
    refine WC.seqCut (σ := Mem) (fun M22 => [(1, .slice A01 n01 c01)]) (fun M22 => [(0, .mem M22)]) (fun M22 => m_law04_RsEncodes_j1 x01 = some res ∧ Ext w0.heap.size M0 M22) (fun K23 hK23 => ?_) ?_
    · skip
      refine WC.seqRegion fun K24 hK24 => ?_
      obtain ⟨x25, hx25, h⟩ := bnd h
      refine WL.yld (by decide) (Yld.move rfl) ?_
      refine WL.yld (by decide) (Yld.move rfl) ?_
      refine WL.yld (by decide) (Yld.move rfl) ?_
      refine WL.eff (by decide) (Eff.callM 131 rfl Try.func18 nm_18 rfl rfl rfl (w_law04_data _ A2 n3 c4 _ hf6 x7 hx25)) ?_
      rintro _ _ ⟨M37, _, ⟨A38, n39, c40, rs41, rfl, rfl, hq42⟩, hm_M37, rfl⟩
      refine WL.freeze 131 rfl rfl rfl fun M44 hm_M44 hf45 => ?_
      have hq46 : Rels ((RelL (RelB (α := BitVec 8))) M44) ([(⟨A00, n00, c00⟩ : Hdr), (⟨A38, n39, c40⟩ : Hdr)] : List Hdr) ([x00, x25] : List (List (List (BitVec 8)))) := (Rels.cons ⟨rs00, (SlRc.lift (SlRc.lift hf00 hm_M37) hm_M44), (Rels.lift (Rels.lift hq00 hm_M37) hm_M44)⟩ (Rels.cons ⟨rs41, hf45, (Rels.lift hq42 hm_M44)⟩ Rels.nil))
      refine WL.eff (by decide) (Eff.buildC 143 ([(⟨A00, n00, c00⟩ : Hdr), (⟨A38, n39, c40⟩ : Hdr)] : List Hdr) sty_41 rfl rfl rfl rfl rfl (by decide)) ?_
      rintro _ _ ⟨g43, rfl, rfl⟩
      refine WL.yld (by decide) (Yld.lenD (rs := ([(⟨A00, n00, c00⟩ : Hdr), (⟨A38, n39, c40⟩ : Hdr)] : List Hdr)) (xs := ([x00, x25] : List (List (List (BitVec 8))))) (Rels.len hq46) und_41 rfl (RdH.own (k := 143) rfl)) ?_
      refine WL.yld (by decide) (Yld.move rfl) ?_
      refine WL.done (hK24 _ _ ?_)
      refine WC.block ?_
      refine WC.loop (σ := Nat × Mem × Int) (fun ⟨q49, M47, x48⟩ => [(1, .slice A01 n01 c01), (28, .slice (some ⟨g43, 0, none⟩) (([(⟨A00, n00, c00⟩ : Hdr), (⟨A38, n39, c40⟩ : Hdr)] : List Hdr).length) (([(⟨A00, n00, c00⟩ : Hdr), (⟨A38, n39, c40⟩ : Hdr)] : List Hdr).length)), (29, I64 (([x00, x25] : List (List (List (BitVec 8)))).length : Int)), (30, I64 x48)]) (fun ⟨q49, M47, x48⟩ => [(0, .mem M47), (143, .own 35 (Lay.sz Hdr) (some ⟨g43, 0, none⟩) (([(⟨A00, n00, c00⟩ : Hdr), (⟨A38, n39, c40⟩ : Hdr)] : List Hdr).length) (([(⟨A00, n00, c00⟩ : Hdr), (⟨A38, n39, c40⟩ : Hdr)] : List Hdr).length) (cel ([(⟨A00, n00, c00⟩ : Hdr), (⟨A38, n39, c40⟩ : Hdr)] : List Hdr)))]) (fun ⟨q49, M47, x48⟩ => m_law04_RsEncodes_l2 x00 x01 x25 q49 x48 = some res ∧ Ext w0.heap.size M44 M47) (fun ⟨q49, M47, x48⟩ => q49) ⟨forever, M44, (0 : Int)⟩ ?_ (Sub.cons rfl (Sub.cons rfl (Sub.cons rfl (Sub.cons rfl (Sub.nil _))))) (Sub.cons rfl (Sub.cons rfl (Sub.nil _))) ?_
      · exact ⟨h, (Ext.refl _ _)⟩
      rintro ⟨q49, M47, x48⟩ ⟨h, hm_M47⟩ K50 hK50
      cases q49 with
      | zero => exact absurd h (by simp [m_law04_RsEncodes_l2])
      | succ q49 =>
        unfold m_law04_RsEncodes_l2 at h
        refine WC.seqRegion fun K51 hK51 => ?_
        refine WL.yld (by decide) (Yld.lss rfl rfl) ?_
        refine WL.done (hK51 _ _ ?_)
        refine WC.seq fun K52 hK52 => ?_
        by_cases hc53 : x48 < (([x00, x25] : List (List (List (BitVec 8)))).length : Int)
        · replace h := of_t hc53 h
          refine WC.condTe rfl (decide_eq_true hc53) ?_
          refine WC.skip ?_
          refine QK.thenN (hK52 _ _ ?_)
          refine WC.seq fun K54 hK54 => ?_
          refine WC.block ?_
          refine WC.seqRegion fun K55 hK55 => ?_
          obtain ⟨x56, hx56, h⟩ := bnd h
          obtain ⟨r_57, hr58, hq59⟩ := Rels.idx (Rels.lift hq46 hm_M47) hx56
          refine WL.yld (by decide) (Yld.idxC (xs := ([(⟨A00, n00, c00⟩ : Hdr), (⟨A38, n39, c40⟩ : Hdr)] : List Hdr)) sty_41 rfl rfl (RdH.own (k := 143) rfl) hr58) ?_
          obtain ⟨rs60, hf61, hq62⟩ := hq59
          refine WL.yld (by decide) (Yld.loadC0 (xs := ([(⟨A00, n00, c00⟩ : Hdr), (⟨A38, n39, c40⟩ : Hdr)] : List Hdr)) scal_35 rfl (RdH.own (k := 143) rfl) hr58 rfl) ?_
          refine WL.yld (by decide) (Yld.assign rfl) ?_
          refine WL.done (hK55 _ _ ?_)
          refine WC.seqRegion fun K63 hK63 => ?_
          obtain ⟨x64, hx64, h⟩ := bnd h
          refine WL.yld (by decide) (Yld.move rfl) ?_
          refine WL.eff (by decide) (Eff.callM 170 rfl Try.func23 nm_23 rfl rfl rfl (w_rs_Encode _ r_57.A r_57.n r_57.c rs60 _ hf61 hq62 hx64)) ?_
          rintro _ _ ⟨M76, _, ⟨A77, n78, c79, rs80, rfl, rfl, hq81⟩, hm_M76, rfl⟩
          refine WL.yld (by decide) (Yld.move rfl) ?_
          refine WL.yld (by decide) (Yld.extract rfl rfl) ?_
          refine WL.yld (by decide) (Yld.extract rfl rfl) ?_
          refine WL.yld (by decide) (Yld.assign rfl) ?_
          refine WL.yld (by decide) (Yld.assign rfl) ?_
          refine WL.done (hK63 _ _ ?_)
          refine WC.seqRegion fun K82 hK82 => ?_
          obtain ⟨x83, hx83, h⟩ := bnd h
          refine WL.yld (by decide) (Yld.move rfl) ?_
          refine WL.eff (by decide) (Eff.callM 190 rfl Try.func17 nm_17 rfl rfl rfl (w_r04_Encode _ r_57.A r_57.n r_57.c rs60 _ (SlRc.lift hf61 hm_M76) (Rels.lift hq62 hm_M76) hx83)) ?_
          rintro _ _ ⟨M97, _, ⟨A98, n99, c100, rs101, rfl, rfl, hf103, hq102⟩, hm_M97, rfl⟩
          refine WL.yld (by decide) (Yld.move rfl) ?_
          refine WL.yld (by decide) (Yld.extract rfl rfl) ?_
          refine WL.yld (by decide) (Yld.extract rfl rfl) ?_
          refine WL.yld (by decide) (Yld.assign rfl) ?_
          refine WL.yld (by decide) (Yld.assign rfl) ?_
          refine WL.done (hK82 _ _ ?_)
          refine WC.seqRegion fun K104 hK104 => ?_
          by_cases hc105 : x64.2 = x83.2
          · replace h := of_t hc105 h
            obtain ⟨x106, hx106, h⟩ := bnd h
            refine WL.yld (by decide) (Yld.move rfl) ?_
            refine WL.yld (by decide) (Yld.move rfl) ?_
            refine WL.yld (by decide) (Yld.neqI rfl rfl) ?_
            refine WL.yld (by decide) (Yld.move rfl) ?_
            refine WL.new (v' := .bool false) (congrArg Value.bool (bne_eq_false_iff_eq.2 hc105)) ?_
            refine WL.yldG (by decide) rfl (Yld.move rfl) ?_
            refine WL.yldG (by decide) rfl (Yld.move rfl) ?_
            refine WL.effG (by decide) rfl (Eff.callS 207 rfl Try.func21 nm_21 rfl rfl (fun w hb hh => w_r03_SameRows (Mem.snap w) A77 n78 c79 rs80 _ (RdH.sn (RdH.own (k := 170) rfl) w hb hh) (Rels.sn (Rels.lift hq81 hm_M97) (hh.sat 0 _ rfl)) A98 n99 c100 rs101 _ (RdH.sn (RdH.memM (k := 0) rfl hf103) w hb hh) (Rels.sn hq102 (hh.sat 0 _ rfl)) hx106)) ?_
            rintro _ _ ⟨_, ⟨rfl, rfl⟩, rfl⟩
            refine WL.yldG (by decide) rfl (Yld.notB rfl) ?_
            refine WL.yld (by decide) (Yld.pickF rfl rfl) ?_
            refine WL.done (hK104 _ _ ?_)
            by_cases hc108 : x106 = true
            · replace h := of_t hc108 h
              refine WC.condFe rfl (not_f hc108) ?_
              refine WC.skip ?_
              refine QK.blockN ?_
              refine QK.thenN (hK54 _ _ ?_)
              refine WC.region fun K109 hK109 => ?_
              obtain ⟨x110, hx110, h⟩ := bnd h
              refine WL.yld (by decide) (Yld.addC rfl rfl hx110) ?_
              refine WL.yld (by decide) (Yld.move rfl) ?_
              refine WL.done (hK109 _ _ ?_)
              refine QK.thenN ?_
              refine hK50 ⟨q49, M97, x110⟩ _ _ ?_ (Nat.lt_succ_self _) (Sub.cons rfl (Sub.cons rfl (Sub.cons rfl (Sub.cons rfl (Sub.nil _))))) (Sub.cons rfl (Sub.cons rfl (Sub.nil _)))
              exact ⟨h, (Ext.trans (Ext.trans hm_M47 hm_M76) hm_M97)⟩
            · replace h := of_f hc108 h
              refine WC.condTe rfl (not_t (Bool.eq_false_iff.2 hc108)) ?_
              refine WC.seqRegion fun K111 hK111 => ?_
              refine WL.yld (by decide) (Yld.assign rfl) ?_
              refine WL.done (hK111 _ _ ?_)
              refine WC.ret (QK.blockR (QK.thenR (QK.thenR (QK.blockR (QK.thenR ?_)))))
              injection h with h; subst h
              exact Ret.fn [] (ResIs.one rfl rfl) rfl (Ext.trans (Ext.trans (Ext.trans (Ext.trans hm_M37 hm_M44) hm_M47) hm_M76) hm_M97) rfl (by decide) rfl rfl ⟨rfl, rfl⟩
          · replace h := of_f hc105 h
            refine WL.yld (by decide) (Yld.move rfl) ?_
            refine WL.yld (by decide) (Yld.move rfl) ?_
            refine WL.yld (by decide) (Yld.neqI rfl rfl) ?_
            refine WL.yld (by decide) (Yld.move rfl) ?_
            refine WL.new (v' := .bool true) (congrArg Value.bool (bne_iff_ne.2 hc105)) ?_
            refine WL.skip (by decide) rfl rfl ?_
            refine WL.skip (by decide) rfl rfl ?_
            refine WL.skip (by decide) rfl rfl ?_
            refine WL.skip (by decide) rfl rfl ?_
            refine WL.yld (by decide) (Yld.pickT rfl rfl) ?_
            refine WL.done (hK104 _ _ ?_)
            refine WC.condT rfl ?_
            refine WC.seqRegion fun K112 hK112 => ?_
            refine WL.yld (by decide) (Yld.assign rfl) ?_
            refine WL.done (hK112 _ _ ?_)
            refine WC.ret (QK.blockR (QK.thenR (QK.thenR (QK.blockR (QK.thenR ?_)))))
            injection h with h; subst h
            exact Ret.fn [] (ResIs.one rfl rfl) rfl (Ext.trans (Ext.trans (Ext.trans (Ext.trans hm_M37 hm_M44) hm_M47) hm_M76) hm_M97) rfl (by decide) rfl rfl ⟨rfl, rfl⟩
        · replace h := of_f hc53 h
          refine WC.condFe rfl (decide_eq_false hc53) ?_
          refine WC.exit (QK.thenE (QK.thenE (QK.blockX ?_)))
          refine QK.thenN ?_
          refine hK23 M47 _ _ ?_ (Sub.cons rfl (Sub.nil _)) (Sub.cons rfl (Sub.nil _))
          exact ⟨h, (Ext.trans (Ext.trans hm_M37 hm_M44) hm_M47)⟩
    · rintro M22 ⟨h, hm_M22⟩
      unfold m_law04_RsEncodes_j1 at h
      refine WC.seqRegion fun K113 hK113 => ?_
      obtain ⟨x114, hx114, h⟩ := bnd h
      obtain ⟨x116, hx116, h⟩ := bnd h
      by_cases hc118 : x114 = x116
      · replace h := of_t hc118 h
        obtain ⟨x119, hx119, h⟩ := bnd h
        refine WL.yld (by decide) (Yld.move rfl) ?_
        refine WL.eff (by decide) (Eff.callS 215 rfl Try.func24 nm_24 rfl rfl (fun w hb hh => w_rs_Verify (Mem.snap w) A01 n01 c01 rs01 _ (RdH.sn (RdH.memM (k := 0) rfl (SlRc.lift hf01 hm_M22)) w hb hh) (Rels.sn (Rels.lift hq01 hm_M22) (hh.sat 0 _ rfl)) hx114)) ?_
        rintro _ _ ⟨_, ⟨rfl, rfl⟩, rfl⟩
        refine WL.yld (by decide) (Yld.move rfl) ?_
        refine WL.eff (by decide) (Eff.callS 217 rfl Try.func25 nm_25 rfl rfl (fun w hb hh => w_r04_Verify (Mem.snap w) A01 n01 c01 rs01 _ (RdH.sn (RdH.memM (k := 0) rfl (SlRc.lift hf01 hm_M22)) w hb hh) (Rels.sn (Rels.lift hq01 hm_M22) (hh.sat 0 _ rfl)) hx116)) ?_
        rintro _ _ ⟨_, ⟨rfl, rfl⟩, rfl⟩
        refine WL.yld (by decide) (Yld.eqlB und_4 rfl rfl) ?_
        refine WL.yld (by decide) (Yld.move rfl) ?_
        refine WL.new (v' := .bool true) (congrArg Value.bool (beq_iff_eq.2 hc118)) ?_
        refine WL.effG (by decide) rfl (Eff.callS 220 rfl Try.func15 nm_15 rfl rfl (fun w hb hh => w_law04_awake (Mem.snap w) hx119)) ?_
        rintro _ _ ⟨_, ⟨rfl, rfl⟩, rfl⟩
        refine WL.yld (by decide) (Yld.pickT rfl rfl) ?_
        refine WL.yld (by decide) (Yld.assign rfl) ?_
        refine WL.done (hK113 _ _ ?_)
        refine WC.ret ?_
        injection h with h; subst h
        exact Ret.fn [] (ResIs.one rfl rfl) rfl hm_M22 rfl (by decide) rfl rfl ⟨rfl, rfl⟩
      · replace h := of_f hc118 h
        refine WL.yld (by decide) (Yld.move rfl) ?_
        refine WL.eff (by decide) (Eff.callS 215 rfl Try.func24 nm_24 rfl rfl (fun w hb hh => w_rs_Verify (Mem.snap w) A01 n01 c01 rs01 _ (RdH.sn (RdH.memM (k := 0) rfl (SlRc.lift hf01 hm_M22)) w hb hh) (Rels.sn (Rels.lift hq01 hm_M22) (hh.sat 0 _ rfl)) hx114)) ?_
        rintro _ _ ⟨_, ⟨rfl, rfl⟩, rfl⟩
        refine WL.yld (by decide) (Yld.move rfl) ?_
        refine WL.eff (by decide) (Eff.callS 217 rfl Try.func25 nm_25 rfl rfl (fun w hb hh => w_r04_Verify (Mem.snap w) A01 n01 c01 rs01 _ (RdH.sn (RdH.memM (k := 0) rfl (SlRc.lift hf01 hm_M22)) w hb hh) (Rels.sn (Rels.lift hq01 hm_M22) (hh.sat 0 _ rfl)) hx116)) ?_
        rintro _ _ ⟨_, ⟨rfl, rfl⟩, rfl⟩
        refine WL.yld (by decide) (Yld.eqlB und_4 rfl rfl) ?_
        refine WL.yld (by decide) (Yld.move rfl) ?_
        refine WL.new (v' := .bool false) (congrArg Value.bool (beq_eq_false_iff_ne.2 hc118)) ?_
        refine WL.skip (by decide) rfl rfl ?_
        refine WL.yld (by decide) (Yld.pickF rfl rfl) ?_
        refine WL.yld (by decide) (Yld.assign rfl) ?_
        refine WL.done (hK113 _ _ ?_)
        refine WC.ret ?_
        injection h with h; subst h
        exact Ret.fn [] (ResIs.one rfl rfl) rfl hm_M22 rfl (by decide) rfl rfl ⟨rfl, rfl⟩

end Go.Proofs.Ytnbcphofimicdaa
