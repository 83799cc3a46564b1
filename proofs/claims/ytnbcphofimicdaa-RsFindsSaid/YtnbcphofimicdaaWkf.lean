/-
 Walks (f): what a function's model gives, the function returns. Printed by a program of ours (vcm.py) from the function's operations. Conditions: as each theorem says.
-/
import Derived.Test.YtnbcphofimicdaaWke
import Derived.Test.YtnbcphofimicdaaMdf
namespace Go.Proofs.Ytnbcphofimicdaa
open Go Go.RowKit
set_option linter.unusedVariables false

theorem nm_18 : (Try.f18.name == "runtime.NumGoroutine") = false := by kernel_rfl
theorem nm_19 : (Try.f19.name == "runtime.NumGoroutine") = false := by kernel_rfl

set_option maxRecDepth 10000 in
theorem w_law04_data (M0 : Mem) (A00 : Option Addr) (n00 c00 : Nat) (x00 : List (BitVec 8)) (hf00 : SlT M0 A00 n00 c00 x00) (x01 : Int) {res : (List (List (BitVec 8)))} (h : m_law04_data x00 x01 = some res) :
  Fn Try.prog 18 #[.slice A00 n00 c00, I64 x01] M0 fun r M' es => ∃ (A1 : Option Addr) (n1 c1 : Nat), ∃ rs1 : List Hdr, r = .slice A1 n1 c1 ∧ es = [.own 22 (Lay.sz Hdr) A1 n1 c1 (cel rs1)] ∧ Rels ((RelB (α := BitVec 8)) M') rs1 res := by
 refine Fn.intro (N := 35) Try.func18 rfl rfl (Nat.le_of_ble_eq_true rfl) fun w0 => ?_
 unfold m_law04_data at h
 refine WC.seqRegion fun K1 hK1 => ?_
 refine WL.yld (by decide) (Yld.assign rfl) ?_
 refine WL.done (hK1 _ _ ?_)
 refine WC.seqRegion fun K2 hK2 => ?_
 refine WL.yld (by decide) (Yld.move rfl) ?_
 refine WL.yld (by decide) (Yld.andC rfl rfl) ?_
 refine WL.yld (by decide) (Yld.assign rfl) ?_
 refine WL.done (hK2 _ _ ?_)
 refine WC.seqRegion fun K3 hK3 => ?_
 refine WL.yld (by decide) (Yld.assign rfl) ?_
 refine WL.done (hK3 _ _ ?_)
 refine WC.seqCut (σ := Mem × (Option Addr) × Nat × Nat × (List (List (BitVec 8))) × (List Hdr)) (fun ⟨M4, A7, n8, c9, x10, rs11⟩ => [(6, .slice A7 n8 c9)]) (fun ⟨M4, A7, n8, c9, x10, rs11⟩ => [(0, .mem M4), (106, .own 22 (Lay.sz Hdr) A7 n8 c9 (cel rs11))]) (fun ⟨M4, A7, n8, c9, x10, rs11⟩ => m_law04_data_j0 x10 = some res ∧ Ext w0.heap.size M0 M4 ∧ Rels ((RelB (α := BitVec 8)) M4) rs11 x10) (fun K13 hK13 => ?_) ?_
 ·
  skip
  refine WC.seqRegion fun K14 hK14 => ?_
  refine WL.yld (by decide) (Yld.assign rfl) ?_
  refine WL.done (hK14 _ _ ?_)
  refine WC.block ?_
  refine WC.nilOwn 117 22 (Lay.sz Hdr) none ?_
  refine WC.loop (σ := Nat × Mem × (Option Addr) × Nat × Nat × (List (List (BitVec 8))) × (List Hdr) × Int) (fun ⟨q25, M15, A18, n19, c20, x21, rs22, x24⟩ => [(0, .slice A00 n00 c00), (5, I64 (andi x01 (31 : Int))), (6, .slice A18 n19 c20), (7, I64 x24)]) (fun ⟨q25, M15, A18, n19, c20, x21, rs22, x24⟩ => [(0, .mem M15), (117, .own 22 (Lay.sz Hdr) A18 n19 c20 (cel rs22))]) (fun ⟨q25, M15, A18, n19, c20, x21, rs22, x24⟩ => m_law04_data_l1 x00 x01 q25 x21 x24 = some res ∧ Ext w0.heap.size M0 M15 ∧ Rels ((RelB (α := BitVec 8)) M15) rs22 x21) (fun ⟨q25, M15, A18, n19, c20, x21, rs22, x24⟩ => q25) ⟨forever, M0, none, 0, 0, ([] : List (List (BitVec 8))), ([] : List Hdr), (0 : Int)⟩ ?_ (Sub.cons rfl (Sub.cons rfl (Sub.cons rfl (Sub.cons rfl (Sub.nil _))))) (Sub.cons rfl (Sub.cons rfl (Sub.nil _))) ?_
  ·
   exact ⟨h, (Ext.refl _ _), (Rels.nil (R := (RelB (α := BitVec 8)) M0))⟩
  rintro ⟨q25, M15, A18, n19, c20, x21, rs22, x24⟩ ⟨h, hm_M15, hq23⟩ K26 hK26
  cases q25 with
  | zero => exact absurd h (by simp [m_law04_data_l1])
  | succ q25 =>
   unfold m_law04_data_l1 at h
   refine WC.seq fun K27 hK27 => ?_
   refine WC.seqRegion fun K28 hK28 => ?_
   refine WL.yld (by decide) (Yld.move rfl) ?_
   refine WL.yld (by decide) (Yld.lss rfl rfl) ?_
   refine WL.done (hK28 _ _ ?_)
   by_cases hc29 : x24 < (4 : Int)
   ·
    replace h := of_t hc29 h
    refine WC.condTe rfl (decide_eq_true hc29) ?_
    refine WC.skip ?_
    refine QK.thenN (hK27 _ _ ?_)
    refine WC.seq fun K30 hK30 => ?_
    refine WC.block ?_
    refine WC.seqRegion fun K31 hK31 => ?_
    obtain ⟨x33, hx33, h⟩ := bnd h
    refine WL.yld (by decide) (Yld.move rfl) ?_
    refine WL.eff (by decide) (Eff.makeC 132 0#8 sty_22 rfl rfl rfl rfl rfl rfl hx33) ?_
    rintro _ _ ⟨g32, rfl, rfl⟩
    refine WL.yld (by decide) (Yld.assign rfl) ?_
    refine WL.done (hK31 _ _ ?_)
    refine WC.seq fun K34 hK34 => ?_
    refine WC.seqRegion fun K35 hK35 => ?_
    obtain ⟨x36, hx36, h⟩ := bnd h
    refine WL.yld (by decide) (Yld.move rfl) ?_
    refine WL.yld (by decide) (Yld.move rfl) ?_
    refine WL.yld (by decide) (Yld.mulC rfl rfl hx36) ?_
    refine WL.yld (by decide) (Yld.move rfl) ?_
    refine WL.yld (by decide) (Yld.lenC (xs := x00) und_22 rfl (RdH.memM (k := 0) rfl (SlRc.lift hf00 hm_M15))) ?_
    refine WL.yld (by decide) (Yld.lss rfl rfl) ?_
    refine WL.done (hK35 _ _ ?_)
    by_cases hc37 : x36 < (x00.length : Int)
    ·
     replace h := of_t hc37 h
     refine WC.condTe rfl (decide_eq_true hc37) ?_
     refine WC.region fun K38 hK38 => ?_
     obtain ⟨x39, hx39, h⟩ := bnd h
     obtain ⟨x40, hx40, h⟩ := bnd h
     obtain ⟨x41, hx41, h⟩ := bnd h
     refine WL.yld (by decide) (Yld.move rfl) ?_
     refine WL.yld (by decide) (Yld.move rfl) ?_
     refine WL.yld (by decide) (Yld.move rfl) ?_
     refine WL.yld (by decide) (Yld.move rfl) ?_
     refine WL.yld (by decide) (Yld.mulC rfl rfl hx39) ?_
     refine WL.yld (by decide) (Yld.sliceLC (xs := x00) sty_22 rfl rfl (RdH.memM (k := 0) rfl (SlRc.lift hf00 hm_M15)) hx40) ?_
     refine WL.eff (by decide) (Eff.copyC 132 (xs := x33) (ys := x40) sty_22 rfl rfl rfl rfl (RdT.slc (RdH.memM (k := 0) rfl (SlRc.lift hf00 hm_M15)) hx40) hx41) ?_
     rintro _ _ ⟨rfl, rfl⟩
     refine WL.done (hK38 _ _ ?_)
     refine QK.thenN (hK34 _ _ ?_)
     refine WC.region fun K42 hK42 => ?_
     obtain ⟨x47, hx47, h⟩ := bnd h
     refine WL.yld (by decide) (Yld.move rfl) ?_
     refine WL.yld (by decide) (Yld.move rfl) ?_
     refine WL.freeze 132 rfl rfl rfl fun M44 hm_M44 hf45 => ?_
     have hq46 : Rels ((RelB (α := BitVec 8)) M44) ([(⟨(some ⟨g32, 0, none⟩), x33.length, x33.length⟩ : Hdr)] : List Hdr) ([x41] : List (List (BitVec 8))) := (Rels.cons hf45 Rels.nil)
     refine WL.eff (by decide) (Eff.buildC 143 ([(⟨(some ⟨g32, 0, none⟩), x33.length, x33.length⟩ : Hdr)] : List Hdr) sty_35 rfl rfl rfl rfl rfl (by decide)) ?_
     rintro _ _ ⟨g43, rfl, rfl⟩
     obtain ⟨hu50, hq51⟩ := Rels.apd (Rels.lift hq23 hm_M44) hq46 hx47
     refine WL.eff (by decide) (Eff.appendC 117 (xs := rs22) (ys := ([(⟨(some ⟨g32, 0, none⟩), x33.length, x33.length⟩ : Hdr)] : List Hdr)) sty_35 rfl rfl rfl (RdH.own (k := 143) rfl) hu50) ?_
     rintro _ _ ⟨A48, c49, rfl, rfl⟩
     refine WL.yld (by decide) (Yld.assign rfl) ?_
     refine WL.done (hK42 _ _ ?_)
     refine QK.blockN ?_
     refine QK.thenN (hK30 _ _ ?_)
     refine WC.region fun K52 hK52 => ?_
     obtain ⟨x53, hx53, h⟩ := bnd h
     refine WL.yld (by decide) (Yld.move rfl) ?_
     refine WL.yld (by decide) (Yld.addC rfl rfl hx53) ?_
     refine WL.yld (by decide) (Yld.assign rfl) ?_
     refine WL.done (hK52 _ _ ?_)
     refine QK.thenN ?_
     refine hK26 ⟨q25, M44, A48, (rs22 ++ ([(⟨(some ⟨g32, 0, none⟩), x33.length, x33.length⟩ : Hdr)] : List Hdr)).length, c49, x47, (rs22 ++ ([(⟨(some ⟨g32, 0, none⟩), x33.length, x33.length⟩ : Hdr)] : List Hdr)), x53⟩ _ _ ?_ (Nat.lt_succ_self _) (Sub.cons rfl (Sub.cons rfl (Sub.cons rfl (Sub.cons rfl (Sub.nil _))))) (Sub.cons rfl (Sub.cons rfl (Sub.nil _)))
     exact ⟨h, (Ext.trans hm_M15 hm_M44), hq51⟩
    ·
     replace h := of_f hc37 h
     refine WC.condFe rfl (decide_eq_false hc37) ?_
     refine WC.skip ?_
     refine QK.thenN (hK34 _ _ ?_)
     refine WC.region fun K54 hK54 => ?_
     obtain ⟨x59, hx59, h⟩ := bnd h
     refine WL.yld (by decide) (Yld.move rfl) ?_
     refine WL.yld (by decide) (Yld.move rfl) ?_
     refine WL.freeze 132 rfl rfl rfl fun M56 hm_M56 hf57 => ?_
     have hq58 : Rels ((RelB (α := BitVec 8)) M56) ([(⟨(some ⟨g32, 0, none⟩), x33.length, x33.length⟩ : Hdr)] : List Hdr) ([x33] : List (List (BitVec 8))) := (Rels.cons hf57 Rels.nil)
     refine WL.eff (by decide) (Eff.buildC 155 ([(⟨(some ⟨g32, 0, none⟩), x33.length, x33.length⟩ : Hdr)] : List Hdr) sty_35 rfl rfl rfl rfl rfl (by decide)) ?_
     rintro _ _ ⟨g55, rfl, rfl⟩
     obtain ⟨hu62, hq63⟩ := Rels.apd (Rels.lift hq23 hm_M56) hq58 hx59
     refine WL.eff (by decide) (Eff.appendC 117 (xs := rs22) (ys := ([(⟨(some ⟨g32, 0, none⟩), x33.length, x33.length⟩ : Hdr)] : List Hdr)) sty_35 rfl rfl rfl (RdH.own (k := 155) rfl) hu62) ?_
     rintro _ _ ⟨A60, c61, rfl, rfl⟩
     refine WL.yld (by decide) (Yld.assign rfl) ?_
     refine WL.done (hK54 _ _ ?_)
     refine QK.blockN ?_
     refine QK.thenN (hK30 _ _ ?_)
     refine WC.region fun K64 hK64 => ?_
     obtain ⟨x65, hx65, h⟩ := bnd h
     refine WL.yld (by decide) (Yld.move rfl) ?_
     refine WL.yld (by decide) (Yld.addC rfl rfl hx65) ?_
     refine WL.yld (by decide) (Yld.assign rfl) ?_
     refine WL.done (hK64 _ _ ?_)
     refine QK.thenN ?_
     refine hK26 ⟨q25, M56, A60, (rs22 ++ ([(⟨(some ⟨g32, 0, none⟩), x33.length, x33.length⟩ : Hdr)] : List Hdr)).length, c61, x59, (rs22 ++ ([(⟨(some ⟨g32, 0, none⟩), x33.length, x33.length⟩ : Hdr)] : List Hdr)), x65⟩ _ _ ?_ (Nat.lt_succ_self _) (Sub.cons rfl (Sub.cons rfl (Sub.cons rfl (Sub.cons rfl (Sub.nil _))))) (Sub.cons rfl (Sub.cons rfl (Sub.nil _)))
     exact ⟨h, (Ext.trans hm_M15 hm_M56), hq63⟩
   ·
    replace h := of_f hc29 h
    refine WC.condFe rfl (decide_eq_false hc29) ?_
    refine WC.exit (QK.thenE (QK.thenE (QK.blockX ?_)))
    refine QK.thenN ?_
    refine KK.move 117 106 rfl rfl ?_
    refine hK13 ⟨M15, A18, n19, c20, x21, rs22⟩ _ _ ?_ (Sub.cons rfl (Sub.nil _)) (Sub.cons rfl (Sub.cons rfl (Sub.nil _)))
    exact ⟨h, hm_M15, hq23⟩
 ·
  rintro ⟨M4, A7, n8, c9, x10, rs11⟩ ⟨h, hm_M4, hq12⟩
  unfold m_law04_data_j0 at h
  refine WC.seqRegion fun K66 hK66 => ?_
  refine WL.yld (by decide) (Yld.move rfl) ?_
  refine WL.yld (by decide) (Yld.assign rfl) ?_
  refine WL.done (hK66 _ _ ?_)
  refine WC.ret ?_
  injection h with h; subst h
  exact Ret.fn [106] (ResIs.one rfl rfl) rfl hm_M4 rfl (by decide) rfl rfl ⟨A7, n8, c9, rs11, rfl, rfl, hq12⟩

set_option maxRecDepth 10000 in
theorem ws_gfmatrix_Apply (Mr M0 : Mem) (x00_0 : Int) (x00_1 : Int) (A00_2 : Option Addr) (n00_2 c00_2 : Nat) (x00_2 : List (BitVec 8)) (hf00_2 : SlT M0 A00_2 n00_2 c00_2 x00_2) (A01 : Option Addr) (n01 c01 : Nat) (rs01 : List Hdr) (x01 : List (List (BitVec 8))) (hf01 : SlT Mr A01 n01 c01 rs01) (hq01 : Rels ((RelB (α := BitVec 8)) M0) rs01 x01) {res : (List (List (BitVec 8))) × Int} (h : m_gfmatrix_Apply x00_0 x00_1 x00_2 x01 = some res) :
  FnS Try.prog 48 #[.agg ([I64 x00_0, I64 x00_1, .slice A00_2 n00_2 c00_2] : List Value).toArray, .slice A01 n01 c01] Mr M0 fun r M' es => ∃ (A1 : Option Addr) (n1 c1 : Nat), ∃ rs1 : List Hdr, r = .tuple #[.slice A1 n1 c1, I64 res.2] ∧ es = [.own 22 (Lay.sz Hdr) A1 n1 c1 (cel rs1)] ∧ Rels ((RelB (α := BitVec 8)) M') rs1 res.1 := by
 refine FnS.intro (N := 78) Try.func48 rfl rfl (Nat.le_of_ble_eq_true rfl) fun w0 => ?_
 unfold m_gfmatrix_Apply at h
 refine WC.seqRegion fun K1 hK1 => ?_
 refine WL.eff (by decide) (Eff.box 102 (us := [I64 x00_0, I64 x00_1, .slice A00_2 n00_2 c00_2]) rfl rfl rfl) ?_
 rintro _ _ ⟨g2, rfl, rfl⟩
 refine WL.yld (by decide) (Yld.assign rfl) ?_
 refine WL.yld (by decide) (Yld.assign rfl) ?_
 refine WL.done (hK1 _ _ ?_)
 refine WC.seqCut (σ := Unit) (fun _ => [(1, .slice A01 n01 c01), (2, .pointer (some ⟨g2, 0, none⟩))]) (fun _ => [(0, .mem M0), (7, .mem Mr), (102, .blk g2 24 [I64 x00_0, I64 x00_1, .slice A00_2 n00_2 c00_2])]) (fun _ => m_gfmatrix_Apply_j0 x00_0 x00_1 x00_2 x01 = some res) (fun K3 hK3 => ?_) ?_
 ·
  skip
  refine WC.seqRegion fun K4 hK4 => ?_
  obtain ⟨x5, hx5, h⟩ := bnd h
  by_cases hc7 : x5 = true
  ·
   replace h := of_t hc7 h
   refine WL.yld (by decide) (Yld.loadBM (k := 102) agg_24 rfl rfl rfl) ?_
   refine WL.eff (by decide) (Eff.callS 106 rfl Try.func34 nm_34 rfl rfl (fun w hb hh => w_gfmatrix_Valid (Mem.snap w) x00_0 x00_1 A00_2 n00_2 c00_2 _ (RdH.sn (RdH.memM (k := 0) rfl hf00_2) w hb hh) hx5)) ?_
   rintro _ _ ⟨_, ⟨rfl, rfl⟩, rfl⟩
   refine WL.yld (by decide) (Yld.notB rfl) ?_
   refine WL.yld (by decide) (Yld.move rfl) ?_
   refine WL.new (v' := .bool false) (congrArg Value.bool (not_f hc7)) ?_
   refine WL.yldG (by decide) rfl (Yld.move rfl) ?_
   refine WL.yldG (by decide) rfl (Yld.lenD (rs := rs01) (xs := x01) (Rels.len hq01) und_35 rfl (RdH.memM (k := 7) rfl hf01)) ?_
   refine WL.yldG (by decide) rfl (Yld.fieldAddr Try.underlying24 rfl nz_3 rfl rfl) ?_
   refine WL.yldG (by decide) rfl (Yld.loadB (k := 102) scal_3 rfl rfl rfl) ?_
   refine WL.yldG (by decide) rfl (Yld.neqI rfl rfl) ?_
   refine WL.yld (by decide) (Yld.pickF rfl rfl) ?_
   refine WL.done (hK4 _ _ ?_)
   by_cases hc8 : (x01.length : Int) = x00_1
   ·
    replace h := of_t hc8 h
    refine WC.condFe rfl (bne_eq_false_iff_eq.2 hc8) ?_
    refine WC.skip ?_
    refine QK.thenN ?_
    refine hK3 () _ _ ?_ (Sub.cons rfl (Sub.cons rfl (Sub.nil _))) (Sub.cons rfl (Sub.cons rfl (Sub.cons rfl (Sub.nil _))))
    exact h
   ·
    replace h := of_f hc8 h
    refine WC.condTe rfl (bne_iff_ne.2 hc8) ?_
    refine WC.seqRegion fun K9 hK9 => ?_
    refine WL.yld (by decide) (Yld.assign rfl) ?_
    refine WL.yld (by decide) (Yld.assign rfl) ?_
    refine WL.done (hK9 _ _ ?_)
    refine WC.ret (QK.thenR ?_)
    refine QK.nilOwn 110 22 (Lay.sz Hdr) none ?_
    injection h with h; subst h
    exact Ret.fn [110] (ResIs.two rfl rfl rfl) rfl (Ext.refl _ _) rfl (by decide) rfl rfl ⟨none, 0, 0, ([] : List Hdr), rfl, rfl, (Rels.nil (R := (RelB (α := BitVec 8)) M0))⟩
  ·
   replace h := of_f hc7 h
   refine WL.yld (by decide) (Yld.loadBM (k := 102) agg_24 rfl rfl rfl) ?_
   refine WL.eff (by decide) (Eff.callS 106 rfl Try.func34 nm_34 rfl rfl (fun w hb hh => w_gfmatrix_Valid (Mem.snap w) x00_0 x00_1 A00_2 n00_2 c00_2 _ (RdH.sn (RdH.memM (k := 0) rfl hf00_2) w hb hh) hx5)) ?_
   rintro _ _ ⟨_, ⟨rfl, rfl⟩, rfl⟩
   refine WL.yld (by decide) (Yld.notB rfl) ?_
   refine WL.yld (by decide) (Yld.move rfl) ?_
   refine WL.new (v' := .bool true) (congrArg Value.bool (not_t (Bool.eq_false_iff.2 hc7))) ?_
   refine WL.skip (by decide) rfl rfl ?_
   refine WL.skip (by decide) rfl rfl ?_
   refine WL.skip (by decide) rfl rfl ?_
   refine WL.skip (by decide) rfl rfl ?_
   refine WL.skip (by decide) rfl rfl ?_
   refine WL.yld (by decide) (Yld.pickT rfl rfl) ?_
   refine WL.done (hK4 _ _ ?_)
   refine WC.condT rfl ?_
   refine WC.seqRegion fun K11 hK11 => ?_
   refine WL.yld (by decide) (Yld.assign rfl) ?_
   refine WL.yld (by decide) (Yld.assign rfl) ?_
   refine WL.done (hK11 _ _ ?_)
   refine WC.ret (QK.thenR ?_)
   refine QK.nilOwn 112 22 (Lay.sz Hdr) none ?_
   injection h with h; subst h
   exact Ret.fn [112] (ResIs.two rfl rfl rfl) rfl (Ext.refl _ _) rfl (by decide) rfl rfl ⟨none, 0, 0, ([] : List Hdr), rfl, rfl, (Rels.nil (R := (RelB (α := BitVec 8)) M0))⟩
 ·
  rintro _ h
  unfold m_gfmatrix_Apply_j0 at h
  refine WC.seqCut (σ := Unit) (fun _ => [(1, .slice A01 n01 c01), (2, .pointer (some ⟨g2, 0, none⟩))]) (fun _ => [(0, .mem M0), (7, .mem Mr), (102, .blk g2 24 [I64 x00_0, I64 x00_1, .slice A00_2 n00_2 c00_2])]) (fun _ => m_gfmatrix_Apply_j1 x00_0 x00_1 x00_2 x01 = some res) (fun K13 hK13 => ?_) ?_
  ·
   skip
   refine WC.seqRegion fun K14 hK14 => ?_
   refine WL.yld (by decide) (Yld.move rfl) ?_
   refine WL.yld (by decide) (Yld.lenD (rs := rs01) (xs := x01) (Rels.len hq01) und_35 rfl (RdH.memM (k := 7) rfl hf01)) ?_
   refine WL.yld (by decide) (Yld.move rfl) ?_
   refine WL.done (hK14 _ _ ?_)
   refine WC.block ?_
   refine WC.loop (σ := Nat × Int) (fun ⟨q16, x15⟩ => [(1, .slice A01 n01 c01), (2, .pointer (some ⟨g2, 0, none⟩)), (22, .slice A01 n01 c01), (23, I64 (x01.length : Int)), (24, I64 x15)]) (fun ⟨q16, x15⟩ => [(0, .mem M0), (7, .mem Mr), (102, .blk g2 24 [I64 x00_0, I64 x00_1, .slice A00_2 n00_2 c00_2])]) (fun ⟨q16, x15⟩ => m_gfmatrix_Apply_l2 x00_0 x00_1 x00_2 x01 q16 x15 = some res) (fun ⟨q16, x15⟩ => q16) ⟨forever, (0 : Int)⟩ ?_ (Sub.cons rfl (Sub.cons rfl (Sub.cons rfl (Sub.cons rfl (Sub.cons rfl (Sub.nil _)))))) (Sub.cons rfl (Sub.cons rfl (Sub.cons rfl (Sub.nil _)))) ?_
   ·
    exact h
   rintro ⟨q16, x15⟩ h K17 hK17
   cases q16 with
   | zero => exact absurd h (by simp [m_gfmatrix_Apply_l2])
   | succ q16 =>
    unfold m_gfmatrix_Apply_l2 at h
    refine WC.seqRegion fun K18 hK18 => ?_
    refine WL.yld (by decide) (Yld.lss rfl rfl) ?_
    refine WL.done (hK18 _ _ ?_)
    refine WC.seq fun K19 hK19 => ?_
    by_cases hc20 : x15 < (x01.length : Int)
    ·
     replace h := of_t hc20 h
     refine WC.condTe rfl (decide_eq_true hc20) ?_
     refine WC.skip ?_
     refine QK.thenN (hK19 _ _ ?_)
     refine WC.seq fun K21 hK21 => ?_
     refine WC.block ?_
     refine WC.seqRegion fun K22 hK22 => ?_
     obtain ⟨x23, hx23, h⟩ := bnd h
     obtain ⟨r_24, hr25, hq26⟩ := Rels.idx hq01 hx23
     refine WL.yld (by decide) (Yld.idxC (xs := rs01) sty_35 rfl rfl (RdH.memM (k := 7) rfl hf01) hr25) ?_
     refine WL.yld (by decide) (Yld.loadC0 (xs := rs01) scal_22 rfl (RdH.memM (k := 7) rfl hf01) hr25 rfl) ?_
     refine WL.yld (by decide) (Yld.assign rfl) ?_
     refine WL.done (hK22 _ _ ?_)
     refine WC.seqRegion fun K27 hK27 => ?_
     obtain ⟨x28, hx28, h⟩ := bnd h
     refine WL.yld (by decide) (Yld.move rfl) ?_
     refine WL.yld (by decide) (Yld.lenC (xs := x23) und_22 rfl (RdH.memM (k := 0) rfl hq26)) ?_
     refine WL.yld (by decide) (Yld.move rfl) ?_
     obtain ⟨r_29, hr30, hq31⟩ := Rels.idx hq01 hx28
     refine WL.yld (by decide) (Yld.idxC (xs := rs01) sty_35 rfl rfl (RdH.memM (k := 7) rfl hf01) hr30) ?_
     refine WL.yld (by decide) (Yld.loadC0 (xs := rs01) scal_22 rfl (RdH.memM (k := 7) rfl hf01) hr30 rfl) ?_
     refine WL.yld (by decide) (Yld.lenC (xs := x28) und_22 rfl (RdH.memM (k := 0) rfl hq31)) ?_
     refine WL.yld (by decide) (Yld.neqI rfl rfl) ?_
     refine WL.done (hK27 _ _ ?_)
     by_cases hc32 : (x23.length : Int) = (x28.length : Int)
     ·
      replace h := of_t hc32 h
      refine WC.condFe rfl (bne_eq_false_iff_eq.2 hc32) ?_
      refine WC.skip ?_
      refine QK.blockN ?_
      refine QK.thenN (hK21 _ _ ?_)
      refine WC.region fun K33 hK33 => ?_
      obtain ⟨x34, hx34, h⟩ := bnd h
      refine WL.yld (by decide) (Yld.addC rfl rfl hx34) ?_
      refine WL.yld (by decide) (Yld.move rfl) ?_
      refine WL.done (hK33 _ _ ?_)
      refine QK.thenN ?_
      refine hK17 ⟨q16, x34⟩ _ _ ?_ (Nat.lt_succ_self _) (Sub.cons rfl (Sub.cons rfl (Sub.cons rfl (Sub.cons rfl (Sub.cons rfl (Sub.nil _)))))) (Sub.cons rfl (Sub.cons rfl (Sub.cons rfl (Sub.nil _))))
      exact h
     ·
      replace h := of_f hc32 h
      refine WC.condTe rfl (bne_iff_ne.2 hc32) ?_
      refine WC.seqRegion fun K35 hK35 => ?_
      refine WL.yld (by decide) (Yld.assign rfl) ?_
      refine WL.yld (by decide) (Yld.assign rfl) ?_
      refine WL.done (hK35 _ _ ?_)
      refine WC.ret (QK.blockR (QK.thenR (QK.thenR (QK.blockR (QK.thenR ?_)))))
      refine QK.nilOwn 136 22 (Lay.sz Hdr) none ?_
      injection h with h; subst h
      exact Ret.fn [136] (ResIs.two rfl rfl rfl) rfl (Ext.refl _ _) rfl (by decide) rfl rfl ⟨none, 0, 0, ([] : List Hdr), rfl, rfl, (Rels.nil (R := (RelB (α := BitVec 8)) M0))⟩
    ·
     replace h := of_f hc20 h
     refine WC.condFe rfl (decide_eq_false hc20) ?_
     refine WC.exit (QK.thenE (QK.thenE (QK.blockX ?_)))
     refine QK.thenN ?_
     refine hK13 () _ _ ?_ (Sub.cons rfl (Sub.cons rfl (Sub.nil _))) (Sub.cons rfl (Sub.cons rfl (Sub.cons rfl (Sub.nil _))))
     exact h
  ·
   rintro _ h
   unfold m_gfmatrix_Apply_j1 at h
   refine WC.seqRegion fun K37 hK37 => ?_
   obtain ⟨x39, hx39, h⟩ := bnd h
   refine WL.yld (by decide) (Yld.fieldAddr Try.underlying24 rfl nz_3 rfl rfl) ?_
   refine WL.yld (by decide) (Yld.loadB (k := 102) scal_3 rfl rfl rfl) ?_
   obtain ⟨hu40, hq41⟩ := Rels.mks (R := (RelB (α := BitVec 8)) M0) (r := (⟨none, 0, 0⟩ : Hdr)) hx39 RelB.nil
   refine WL.eff (by decide) (Eff.makeC 138 (⟨none, 0, 0⟩ : Hdr) sty_35 rfl rfl rfl rfl rfl rfl hu40) ?_
   rintro _ _ ⟨g38, rfl, rfl⟩
   refine WL.yld (by decide) (Yld.assign rfl) ?_
   refine WL.done (hK37 _ _ ?_)
   refine WC.seqCut (σ := Mem × (List (List (BitVec 8))) × (List Hdr)) (fun ⟨M42, x43, rs44⟩ => [(8, .slice (some ⟨g38, 0, none⟩) ((List.replicate (x00_0).toNat (⟨none, 0, 0⟩ : Hdr)).length) ((List.replicate (x00_0).toNat (⟨none, 0, 0⟩ : Hdr)).length))]) (fun ⟨M42, x43, rs44⟩ => [(0, .mem M42), (7, .mem Mr), (138, .own 22 (Lay.sz Hdr) (some ⟨g38, 0, none⟩) ((List.replicate (x00_0).toNat (⟨none, 0, 0⟩ : Hdr)).length) ((List.replicate (x00_0).toNat (⟨none, 0, 0⟩ : Hdr)).length) (cel rs44))]) (fun ⟨M42, x43, rs44⟩ => m_gfmatrix_Apply_j3 x43 = some res ∧ Ext w0.heap.size M0 M42 ∧ Rels ((RelB (α := BitVec 8)) M42) rs44 x43) (fun K46 hK46 => ?_) ?_
   ·
    skip
    refine WC.seqRegion fun K47 hK47 => ?_
    refine WL.yld (by decide) (Yld.move rfl) ?_
    refine WL.yld (by decide) (Yld.lenD (rs := (List.replicate (x00_0).toNat (⟨none, 0, 0⟩ : Hdr))) (xs := x39) (Rels.len hq41) und_35 rfl (RdH.own (k := 138) rfl)) ?_
    refine WL.yld (by decide) (Yld.move rfl) ?_
    refine WL.done (hK47 _ _ ?_)
    refine WC.block ?_
    refine WC.loop (σ := Nat × Mem × (List (List (BitVec 8))) × (List Hdr) × Int) (fun ⟨q53, M48, x49, rs50, x52⟩ => [(1, .slice A01 n01 c01), (2, .pointer (some ⟨g2, 0, none⟩)), (8, .slice (some ⟨g38, 0, none⟩) ((List.replicate (x00_0).toNat (⟨none, 0, 0⟩ : Hdr)).length) ((List.replicate (x00_0).toNat (⟨none, 0, 0⟩ : Hdr)).length)), (40, I64 (x39.length : Int)), (41, I64 x52)]) (fun ⟨q53, M48, x49, rs50, x52⟩ => [(0, .mem M48), (7, .mem Mr), (102, .blk g2 24 [I64 x00_0, I64 x00_1, .slice A00_2 n00_2 c00_2]), (138, .own 22 (Lay.sz Hdr) (some ⟨g38, 0, none⟩) ((List.replicate (x00_0).toNat (⟨none, 0, 0⟩ : Hdr)).length) ((List.replicate (x00_0).toNat (⟨none, 0, 0⟩ : Hdr)).length) (cel rs50))]) (fun ⟨q53, M48, x49, rs50, x52⟩ => m_gfmatrix_Apply_l4 x00_0 x00_1 x00_2 x01 x39 q53 x49 x52 = some res ∧ Ext w0.heap.size M0 M48 ∧ Rels ((RelB (α := BitVec 8)) M48) rs50 x49) (fun ⟨q53, M48, x49, rs50, x52⟩ => q53) ⟨forever, M0, x39, (List.replicate (x00_0).toNat (⟨none, 0, 0⟩ : Hdr)), (0 : Int)⟩ ?_ (Sub.cons rfl (Sub.cons rfl (Sub.cons rfl (Sub.cons rfl (Sub.cons rfl (Sub.nil _)))))) (Sub.cons rfl (Sub.cons rfl (Sub.cons rfl (Sub.cons rfl (Sub.nil _))))) ?_
    ·
     exact ⟨h, (Ext.refl _ _), hq41⟩
    rintro ⟨q53, M48, x49, rs50, x52⟩ ⟨h, hm_M48, hq51⟩ K54 hK54
    cases q53 with
    | zero => exact absurd h (by simp [m_gfmatrix_Apply_l4])
    | succ q53 =>
     unfold m_gfmatrix_Apply_l4 at h
     refine WC.seqRegion fun K55 hK55 => ?_
     refine WL.yld (by decide) (Yld.lss rfl rfl) ?_
     refine WL.done (hK55 _ _ ?_)
     refine WC.seq fun K56 hK56 => ?_
     by_cases hc57 : x52 < (x39.length : Int)
     ·
      replace h := of_t hc57 h
      refine WC.condTe rfl (decide_eq_true hc57) ?_
      refine WC.skip ?_
      refine QK.thenN (hK56 _ _ ?_)
      refine WC.seqCut (σ := Mem × (List (List (BitVec 8))) × (List Hdr)) (fun ⟨M58, x59, rs60⟩ => [(1, .slice A01 n01 c01), (2, .pointer (some ⟨g2, 0, none⟩)), (8, .slice (some ⟨g38, 0, none⟩) ((List.replicate (x00_0).toNat (⟨none, 0, 0⟩ : Hdr)).length) ((List.replicate (x00_0).toNat (⟨none, 0, 0⟩ : Hdr)).length)), (40, I64 (x39.length : Int)), (41, I64 x52)]) (fun ⟨M58, x59, rs60⟩ => [(0, .mem M58), (7, .mem Mr), (102, .blk g2 24 [I64 x00_0, I64 x00_1, .slice A00_2 n00_2 c00_2]), (138, .own 22 (Lay.sz Hdr) (some ⟨g38, 0, none⟩) ((List.replicate (x00_0).toNat (⟨none, 0, 0⟩ : Hdr)).length) ((List.replicate (x00_0).toNat (⟨none, 0, 0⟩ : Hdr)).length) (cel rs60))]) (fun ⟨M58, x59, rs60⟩ => m_gfmatrix_Apply_j5 x52 (m_gfmatrix_Apply_l4 x00_0 x00_1 x00_2 x01 x39 q53) x59 = some res ∧ Ext w0.heap.size M48 M58 ∧ Rels ((RelB (α := BitVec 8)) M58) rs60 x59) (fun K62 hK62 => ?_) ?_
      ·
       skip
       refine WC.block ?_
       refine WC.seqRegion fun K63 hK63 => ?_
       refine WL.yld (by decide) (Yld.move rfl) ?_
       refine WL.yld (by decide) (Yld.assign rfl) ?_
       refine WL.done (hK63 _ _ ?_)
       refine WC.seqRegion fun K64 hK64 => ?_
       obtain ⟨x65, hx65, h⟩ := bnd h
       obtain ⟨x70, hx70, h⟩ := bnd h
       obtain ⟨x71, hx71, h⟩ := bnd h
       obtain ⟨x77, hx77, h⟩ := bnd h
       refine WL.yld (by decide) (Yld.move rfl) ?_
       refine WL.yld (by decide) (Yld.move rfl) ?_
       refine WL.yld (by decide) (Yld.move rfl) ?_
       obtain ⟨r_66, hr67, hq68⟩ := Rels.idx (Rels.lift hq01 hm_M48) hx65
       refine WL.yld (by decide) (Yld.idxC (xs := rs01) sty_35 rfl rfl (RdH.memM (k := 7) rfl hf01) hr67) ?_
       refine WL.yld (by decide) (Yld.loadC0 (xs := rs01) scal_22 rfl (RdH.memM (k := 7) rfl hf01) hr67 rfl) ?_
       refine WL.yld (by decide) (Yld.lenC (xs := x65) und_22 rfl (RdH.memM (k := 0) rfl hq68)) ?_
       refine WL.eff (by decide) (Eff.makeC 169 0#8 sty_22 rfl rfl rfl rfl rfl rfl hx70) ?_
       rintro _ _ ⟨g69, rfl, rfl⟩
       obtain ⟨r_72, hr73, hq74⟩ := Rels.idx hq51 hx71
       refine WL.yld (by decide) (Yld.idxC (xs := rs50) sty_35 rfl rfl (RdH.own (k := 138) rfl) hr73) ?_
       refine WL.freeze 169 rfl rfl rfl fun M75 hm_M75 hf76 => ?_
       obtain ⟨hu78, hq79⟩ := Rels.upd (r := (⟨(some ⟨g69, 0, none⟩), x70.length, x70.length⟩ : Hdr)) (Rels.lift hq51 hm_M75) hx77 hf76
       refine WL.eff0 (Eff0.storeC1 138 (xs := rs50) (a' := (⟨(some ⟨g69, 0, none⟩), x70.length, x70.length⟩ : Hdr)) siz_22 rfl rfl rfl rfl rfl rfl hu78) ?_
       refine WL.done (hK64 _ _ ?_)
       refine WC.seqRegion fun K80 hK80 => ?_
       refine WL.yld (by decide) (Yld.move rfl) ?_
       refine WL.yld (by decide) (Yld.lenD (rs := rs01) (xs := x01) (Rels.len (Rels.lift (Rels.lift hq01 hm_M48) hm_M75)) und_35 rfl (RdH.memM (k := 7) rfl hf01)) ?_
       refine WL.yld (by decide) (Yld.move rfl) ?_
       refine WL.done (hK80 _ _ ?_)
       refine WC.block ?_
       refine WC.loop (σ := Nat × Mem × (List (List (BitVec 8))) × (List Hdr) × Int) (fun ⟨q86, M81, x82, rs83, x85⟩ => [(1, .slice A01 n01 c01), (2, .pointer (some ⟨g2, 0, none⟩)), (8, .slice (some ⟨g38, 0, none⟩) ((List.replicate (x00_0).toNat (⟨none, 0, 0⟩ : Hdr)).length) ((List.replicate (x00_0).toNat (⟨none, 0, 0⟩ : Hdr)).length)), (9, I64 x52), (40, I64 (x39.length : Int)), (41, I64 x52), (52, .slice A01 n01 c01), (53, I64 (x01.length : Int)), (54, I64 x85)]) (fun ⟨q86, M81, x82, rs83, x85⟩ => [(0, .mem M81), (7, .mem Mr), (102, .blk g2 24 [I64 x00_0, I64 x00_1, .slice A00_2 n00_2 c00_2]), (138, .own 22 (Lay.sz Hdr) (some ⟨g38, 0, none⟩) ((List.replicate (x00_0).toNat (⟨none, 0, 0⟩ : Hdr)).length) ((List.replicate (x00_0).toNat (⟨none, 0, 0⟩ : Hdr)).length) (cel rs83))]) (fun ⟨q86, M81, x82, rs83, x85⟩ => m_gfmatrix_Apply_l6 x00_0 x00_1 x00_2 x01 x52 (m_gfmatrix_Apply_l4 x00_0 x00_1 x00_2 x01 x39 q53) q86 x82 x85 = some res ∧ Ext w0.heap.size M75 M81 ∧ Rels ((RelB (α := BitVec 8)) M81) rs83 x82) (fun ⟨q86, M81, x82, rs83, x85⟩ => q86) ⟨forever, M75, x77, (rs50.set (x52).toNat (⟨(some ⟨g69, 0, none⟩), x70.length, x70.length⟩ : Hdr)), (0 : Int)⟩ ?_ (Sub.cons rfl (Sub.cons rfl (Sub.cons rfl (Sub.cons rfl (Sub.cons rfl (Sub.cons rfl (Sub.cons rfl (Sub.cons rfl (Sub.cons rfl (Sub.nil _)))))))))) (Sub.cons rfl (Sub.cons rfl (Sub.cons rfl (Sub.cons rfl (Sub.nil _))))) ?_
       ·
        exact ⟨h, (Ext.refl _ _), hq79⟩
       rintro ⟨q86, M81, x82, rs83, x85⟩ ⟨h, hm_M81, hq84⟩ K87 hK87
       cases q86 with
       | zero => exact absurd h (by simp [m_gfmatrix_Apply_l6])
       | succ q86 =>
        unfold m_gfmatrix_Apply_l6 at h
        refine WC.seqRegion fun K88 hK88 => ?_
        refine WL.yld (by decide) (Yld.lss rfl rfl) ?_
        refine WL.done (hK88 _ _ ?_)
        refine WC.seq fun K89 hK89 => ?_
        by_cases hc90 : x85 < (x01.length : Int)
        ·
         replace h := of_t hc90 h
         refine WC.condTe rfl (decide_eq_true hc90) ?_
         refine WC.skip ?_
         refine QK.thenN (hK89 _ _ ?_)
         refine WC.seq fun K91 hK91 => ?_
         refine WC.block ?_
         refine WC.seqRegion fun K92 hK92 => ?_
         obtain ⟨x93, hx93, h⟩ := bnd h
         refine WL.yld (by decide) (Yld.move rfl) ?_
         obtain ⟨r_94, hr95, hq96⟩ := Rels.idx (Rels.lift (Rels.lift (Rels.lift hq01 hm_M48) hm_M75) hm_M81) hx93
         refine WL.yld (by decide) (Yld.idxC (xs := rs01) sty_35 rfl rfl (RdH.memM (k := 7) rfl hf01) hr95) ?_
         refine WL.yld (by decide) (Yld.loadC0 (xs := rs01) scal_22 rfl (RdH.memM (k := 7) rfl hf01) hr95 rfl) ?_
         refine WL.yld (by decide) (Yld.assign rfl) ?_
         refine WL.yld (by decide) (Yld.assign rfl) ?_
         refine WL.done (hK92 _ _ ?_)
         refine WC.regionD (n := 17) [(7, _), (102, _)] rfl mixed (Sub.cons rfl (Sub.cons rfl (Sub.nil _))) fun K97 hK97 => ?_
         obtain ⟨x98, hx98, h⟩ := bnd h
         obtain ⟨x102, hx102, h⟩ := bnd h
         obtain ⟨x104, hx104, h⟩ := bnd h
         obtain ⟨x112, hx112, h⟩ := bnd h
         obtain ⟨x118, hx118, h⟩ := bnd h
         refine WD.take 0 rfl (by kernel_rfl) (by kernel_rfl) (by kernel_rfl) (by decide) (Yld.move rfl) ?_
         refine WD.take 1 rfl (by kernel_rfl) (by kernel_rfl) (by kernel_rfl) (by decide) (Yld.move rfl) ?_
         refine WD.take 2 rfl (by kernel_rfl) (by kernel_rfl) (by kernel_rfl) (by decide) (Yld.move rfl) ?_
         refine WD.take 3 rfl (by kernel_rfl) (by kernel_rfl) (by kernel_rfl) (by decide) (Yld.move rfl) ?_
         refine WD.take 6 rfl (by kernel_rfl) (by kernel_rfl) (by kernel_rfl) (by decide) (Yld.move rfl) ?_
         refine WD.take 7 rfl (by kernel_rfl) (by kernel_rfl) (by kernel_rfl) (by decide) (Yld.loadBM (k := 102) agg_24 rfl rfl rfl) ?_
         refine WD.take 8 rfl (by kernel_rfl) (by kernel_rfl) (by kernel_rfl) (by decide) (Yld.move rfl) ?_
         refine WD.take 9 rfl (by kernel_rfl) (by kernel_rfl) (by kernel_rfl) (by decide) (Yld.move rfl) ?_
         refine WD.two 4 10 (by kernel_rfl) ?_ ?_
         ·
          skip
          obtain ⟨r_99, hr100, hq101⟩ := Rels.idx hq84 hx98
          refine WS.yld rfl (by decide) (Yld.idxC (xs := rs83) sty_35 rfl rfl (RdH.own (k := 138) rfl) hr100) ?_
          refine WD.two 5 10 (by kernel_rfl) ?_ ?_
          ·
           skip
           refine WS.yld rfl (by decide) (Yld.loadC0 (xs := rs83) scal_22 rfl (RdH.own (k := 138) rfl) hr100 rfl) ?_
           refine WD.one 10 (by kernel_rfl) ?_
           refine WS.eff rfl (by decide) (Eff.callS 203 rfl Try.func40 nm_40 rfl rfl (fun w hb hh => w_gfmatrix_Matrix_at (Mem.snap w) x00_0 x00_1 A00_2 n00_2 c00_2 _ (RdH.sn (RdH.memM (k := 0) rfl (SlRc.lift (SlRc.lift (SlRc.lift hf00_2 hm_M48) hm_M75) hm_M81)) w hb hh) x52 x85 hx102)) ?_
           rintro _ _ ⟨_, ⟨rfl, rfl⟩, rfl⟩
           refine ⟨(Sub.cons rfl (Sub.cons rfl (Sub.nil _))), ?_⟩
           refine WD.one 11 (by kernel_rfl) ?_
           refine WS.eff rfl (by decide) (Eff.callS 208 rfl Try.func63 nm_63 rfl rfl (fun w hb hh => w_gf256_MulAdd (Mem.snap w) r_99.A r_99.n r_99.c _ (RdH.sn (RdH.memM (k := 0) rfl hq101) w hb hh) r_94.A r_94.n r_94.c _ (RdH.sn (RdH.memM (k := 0) rfl hq96) w hb hh) x102 hx104)) ?_
           rintro _ _ ⟨_, ⟨A109, n110, c111, rfl, rfl⟩, rfl⟩
           refine ⟨(Sub.cons rfl (Sub.cons rfl (Sub.nil _))), ?_⟩
           refine WD.take 12 rfl (by kernel_rfl) (by kernel_rfl) (by kernel_rfl) (by decide) (Yld.move rfl) ?_
           refine WD.take 13 rfl (by kernel_rfl) (by kernel_rfl) (by kernel_rfl) (by decide) (Yld.extract rfl rfl) ?_
           refine WD.take 14 rfl (by kernel_rfl) (by kernel_rfl) (by kernel_rfl) (by decide) (Yld.extract rfl rfl) ?_
           refine WD.one 15 (by kernel_rfl) ?_
           obtain ⟨r_113, hr114, hq115⟩ := Rels.idx hq84 hx112
           refine WS.yld rfl (by decide) (Yld.idxC (xs := rs83) sty_35 rfl rfl (RdH.own (k := 138) rfl) hr114) ?_
           refine WD.one 16 (by kernel_rfl) ?_
           refine WS.freeze 208 rfl rfl rfl rfl rfl fun M116 hm_M116 hf117 => ?_
           obtain ⟨hu119, hq120⟩ := Rels.upd (r := (⟨A109, n110, c111⟩ : Hdr)) (Rels.lift hq84 hm_M116) hx118 hf117
           refine WS.eff0 rfl (Eff0.storeC1 138 (xs := rs83) (a' := (⟨A109, n110, c111⟩ : Hdr)) siz_22 rfl rfl rfl rfl rfl rfl hu119) (Sub.cons rfl (Sub.cons rfl (Sub.nil _))) ?_
           refine WD.done (by kernel_rfl) (hK97 _ _ ?_)
           refine QK.blockN ?_
           refine QK.thenN (hK91 _ _ ?_)
           refine WC.region fun K121 hK121 => ?_
           obtain ⟨x122, hx122, h⟩ := bnd h
           refine WL.yld (by decide) (Yld.addC rfl rfl hx122) ?_
           refine WL.yld (by decide) (Yld.move rfl) ?_
           refine WL.done (hK121 _ _ ?_)
           refine QK.thenN ?_
           refine hK87 ⟨q86, M116, x118, (rs83.set (x52).toNat (⟨A109, n110, c111⟩ : Hdr)), x122⟩ _ _ ?_ (Nat.lt_succ_self _) (Sub.cons rfl (Sub.cons rfl (Sub.cons rfl (Sub.cons rfl (Sub.cons rfl (Sub.cons rfl (Sub.cons rfl (Sub.cons rfl (Sub.cons rfl (Sub.nil _)))))))))) (Sub.cons rfl (Sub.cons rfl (Sub.cons rfl (Sub.cons rfl (Sub.nil _)))))
           exact ⟨h, (Ext.trans hm_M81 hm_M116), hq120⟩
          ·
           skip
           refine WS.eff rfl (by decide) (Eff.callS 203 rfl Try.func40 nm_40 rfl rfl (fun w hb hh => w_gfmatrix_Matrix_at (Mem.snap w) x00_0 x00_1 A00_2 n00_2 c00_2 _ (RdH.sn (RdH.memM (k := 0) rfl (SlRc.lift (SlRc.lift (SlRc.lift hf00_2 hm_M48) hm_M75) hm_M81)) w hb hh) x52 x85 hx102)) ?_
           rintro _ _ ⟨_, ⟨rfl, rfl⟩, rfl⟩
           refine ⟨(Sub.cons rfl (Sub.cons rfl (Sub.nil _))), ?_⟩
           refine WD.one 5 (by kernel_rfl) ?_
           refine WS.yld rfl (by decide) (Yld.loadC0 (xs := rs83) scal_22 rfl (RdH.own (k := 138) rfl) hr100 rfl) ?_
           refine WD.one 11 (by kernel_rfl) ?_
           refine WS.eff rfl (by decide) (Eff.callS 208 rfl Try.func63 nm_63 rfl rfl (fun w hb hh => w_gf256_MulAdd (Mem.snap w) r_99.A r_99.n r_99.c _ (RdH.sn (RdH.memM (k := 0) rfl hq101) w hb hh) r_94.A r_94.n r_94.c _ (RdH.sn (RdH.memM (k := 0) rfl hq96) w hb hh) x102 hx104)) ?_
           rintro _ _ ⟨_, ⟨A109, n110, c111, rfl, rfl⟩, rfl⟩
           refine ⟨(Sub.cons rfl (Sub.cons rfl (Sub.nil _))), ?_⟩
           refine WD.take 12 rfl (by kernel_rfl) (by kernel_rfl) (by kernel_rfl) (by decide) (Yld.move rfl) ?_
           refine WD.take 13 rfl (by kernel_rfl) (by kernel_rfl) (by kernel_rfl) (by decide) (Yld.extract rfl rfl) ?_
           refine WD.take 14 rfl (by kernel_rfl) (by kernel_rfl) (by kernel_rfl) (by decide) (Yld.extract rfl rfl) ?_
           refine WD.one 15 (by kernel_rfl) ?_
           obtain ⟨r_113, hr114, hq115⟩ := Rels.idx hq84 hx112
           refine WS.yld rfl (by decide) (Yld.idxC (xs := rs83) sty_35 rfl rfl (RdH.own (k := 138) rfl) hr114) ?_
           refine WD.one 16 (by kernel_rfl) ?_
           refine WS.freeze 208 rfl rfl rfl rfl rfl fun M116 hm_M116 hf117 => ?_
           obtain ⟨hu119, hq120⟩ := Rels.upd (r := (⟨A109, n110, c111⟩ : Hdr)) (Rels.lift hq84 hm_M116) hx118 hf117
           refine WS.eff0 rfl (Eff0.storeC1 138 (xs := rs83) (a' := (⟨A109, n110, c111⟩ : Hdr)) siz_22 rfl rfl rfl rfl rfl rfl hu119) (Sub.cons rfl (Sub.cons rfl (Sub.nil _))) ?_
           refine WD.done (by kernel_rfl) (hK97 _ _ ?_)
           refine QK.blockN ?_
           refine QK.thenN (hK91 _ _ ?_)
           refine WC.region fun K123 hK123 => ?_
           obtain ⟨x124, hx124, h⟩ := bnd h
           refine WL.yld (by decide) (Yld.addC rfl rfl hx124) ?_
           refine WL.yld (by decide) (Yld.move rfl) ?_
           refine WL.done (hK123 _ _ ?_)
           refine QK.thenN ?_
           refine hK87 ⟨q86, M116, x118, (rs83.set (x52).toNat (⟨A109, n110, c111⟩ : Hdr)), x124⟩ _ _ ?_ (Nat.lt_succ_self _) (Sub.cons rfl (Sub.cons rfl (Sub.cons rfl (Sub.cons rfl (Sub.cons rfl (Sub.cons rfl (Sub.cons rfl (Sub.cons rfl (Sub.cons rfl (Sub.nil _)))))))))) (Sub.cons rfl (Sub.cons rfl (Sub.cons rfl (Sub.cons rfl (Sub.nil _)))))
           exact ⟨h, (Ext.trans hm_M81 hm_M116), hq120⟩
         ·
          skip
          refine WS.eff rfl (by decide) (Eff.callS 203 rfl Try.func40 nm_40 rfl rfl (fun w hb hh => w_gfmatrix_Matrix_at (Mem.snap w) x00_0 x00_1 A00_2 n00_2 c00_2 _ (RdH.sn (RdH.memM (k := 0) rfl (SlRc.lift (SlRc.lift (SlRc.lift hf00_2 hm_M48) hm_M75) hm_M81)) w hb hh) x52 x85 hx102)) ?_
          rintro _ _ ⟨_, ⟨rfl, rfl⟩, rfl⟩
          refine ⟨(Sub.cons rfl (Sub.cons rfl (Sub.nil _))), ?_⟩
          refine WD.one 4 (by kernel_rfl) ?_
          obtain ⟨r_99, hr100, hq101⟩ := Rels.idx hq84 hx98
          refine WS.yld rfl (by decide) (Yld.idxC (xs := rs83) sty_35 rfl rfl (RdH.own (k := 138) rfl) hr100) ?_
          refine WD.one 5 (by kernel_rfl) ?_
          refine WS.yld rfl (by decide) (Yld.loadC0 (xs := rs83) scal_22 rfl (RdH.own (k := 138) rfl) hr100 rfl) ?_
          refine WD.one 11 (by kernel_rfl) ?_
          refine WS.eff rfl (by decide) (Eff.callS 208 rfl Try.func63 nm_63 rfl rfl (fun w hb hh => w_gf256_MulAdd (Mem.snap w) r_99.A r_99.n r_99.c _ (RdH.sn (RdH.memM (k := 0) rfl hq101) w hb hh) r_94.A r_94.n r_94.c _ (RdH.sn (RdH.memM (k := 0) rfl hq96) w hb hh) x102 hx104)) ?_
          rintro _ _ ⟨_, ⟨A109, n110, c111, rfl, rfl⟩, rfl⟩
          refine ⟨(Sub.cons rfl (Sub.cons rfl (Sub.nil _))), ?_⟩
          refine WD.take 12 rfl (by kernel_rfl) (by kernel_rfl) (by kernel_rfl) (by decide) (Yld.move rfl) ?_
          refine WD.take 13 rfl (by kernel_rfl) (by kernel_rfl) (by kernel_rfl) (by decide) (Yld.extract rfl rfl) ?_
          refine WD.take 14 rfl (by kernel_rfl) (by kernel_rfl) (by kernel_rfl) (by decide) (Yld.extract rfl rfl) ?_
          refine WD.one 15 (by kernel_rfl) ?_
          obtain ⟨r_113, hr114, hq115⟩ := Rels.idx hq84 hx112
          refine WS.yld rfl (by decide) (Yld.idxC (xs := rs83) sty_35 rfl rfl (RdH.own (k := 138) rfl) hr114) ?_
          refine WD.one 16 (by kernel_rfl) ?_
          refine WS.freeze 208 rfl rfl rfl rfl rfl fun M116 hm_M116 hf117 => ?_
          obtain ⟨hu119, hq120⟩ := Rels.upd (r := (⟨A109, n110, c111⟩ : Hdr)) (Rels.lift hq84 hm_M116) hx118 hf117
          refine WS.eff0 rfl (Eff0.storeC1 138 (xs := rs83) (a' := (⟨A109, n110, c111⟩ : Hdr)) siz_22 rfl rfl rfl rfl rfl rfl hu119) (Sub.cons rfl (Sub.cons rfl (Sub.nil _))) ?_
          refine WD.done (by kernel_rfl) (hK97 _ _ ?_)
          refine QK.blockN ?_
          refine QK.thenN (hK91 _ _ ?_)
          refine WC.region fun K125 hK125 => ?_
          obtain ⟨x126, hx126, h⟩ := bnd h
          refine WL.yld (by decide) (Yld.addC rfl rfl hx126) ?_
          refine WL.yld (by decide) (Yld.move rfl) ?_
          refine WL.done (hK125 _ _ ?_)
          refine QK.thenN ?_
          refine hK87 ⟨q86, M116, x118, (rs83.set (x52).toNat (⟨A109, n110, c111⟩ : Hdr)), x126⟩ _ _ ?_ (Nat.lt_succ_self _) (Sub.cons rfl (Sub.cons rfl (Sub.cons rfl (Sub.cons rfl (Sub.cons rfl (Sub.cons rfl (Sub.cons rfl (Sub.cons rfl (Sub.cons rfl (Sub.nil _)))))))))) (Sub.cons rfl (Sub.cons rfl (Sub.cons rfl (Sub.cons rfl (Sub.nil _)))))
          exact ⟨h, (Ext.trans hm_M81 hm_M116), hq120⟩
        ·
         replace h := of_f hc90 h
         refine WC.condFe rfl (decide_eq_false hc90) ?_
         refine WC.exit (QK.thenE (QK.thenE (QK.blockX ?_)))
         refine QK.blockN ?_
         refine QK.thenN ?_
         refine hK62 ⟨M81, x82, rs83⟩ _ _ ?_ (Sub.cons rfl (Sub.cons rfl (Sub.cons rfl (Sub.cons rfl (Sub.cons rfl (Sub.nil _)))))) (Sub.cons rfl (Sub.cons rfl (Sub.cons rfl (Sub.cons rfl (Sub.nil _)))))
         exact ⟨h, (Ext.trans hm_M75 hm_M81), hq84⟩
      ·
       rintro ⟨M58, x59, rs60⟩ ⟨h, hm_M58, hq61⟩
       unfold m_gfmatrix_Apply_j5 at h
       refine WC.region fun K127 hK127 => ?_
       obtain ⟨x128, hx128, h⟩ := bnd h
       refine WL.yld (by decide) (Yld.addC rfl rfl hx128) ?_
       refine WL.yld (by decide) (Yld.move rfl) ?_
       refine WL.done (hK127 _ _ ?_)
       refine QK.thenN ?_
       refine hK54 ⟨q53, M58, x59, rs60, x128⟩ _ _ ?_ (Nat.lt_succ_self _) (Sub.cons rfl (Sub.cons rfl (Sub.cons rfl (Sub.cons rfl (Sub.cons rfl (Sub.nil _)))))) (Sub.cons rfl (Sub.cons rfl (Sub.cons rfl (Sub.cons rfl (Sub.nil _)))))
       exact ⟨h, (Ext.trans hm_M48 hm_M58), hq61⟩
     ·
      replace h := of_f hc57 h
      refine WC.condFe rfl (decide_eq_false hc57) ?_
      refine WC.exit (QK.thenE (QK.thenE (QK.blockX ?_)))
      refine QK.thenN ?_
      refine hK46 ⟨M48, x49, rs50⟩ _ _ ?_ (Sub.cons rfl (Sub.nil _)) (Sub.cons rfl (Sub.cons rfl (Sub.cons rfl (Sub.nil _))))
      exact ⟨h, hm_M48, hq51⟩
   ·
    rintro ⟨M42, x43, rs44⟩ ⟨h, hm_M42, hq45⟩
    unfold m_gfmatrix_Apply_j3 at h
    refine WC.seqRegion fun K129 hK129 => ?_
    refine WL.yld (by decide) (Yld.move rfl) ?_
    refine WL.yld (by decide) (Yld.assign rfl) ?_
    refine WL.yld (by decide) (Yld.assign rfl) ?_
    refine WL.done (hK129 _ _ ?_)
    refine WC.ret ?_
    injection h with h; subst h
    exact Ret.fn [138] (ResIs.two rfl rfl rfl) rfl hm_M42 rfl (by decide) rfl rfl ⟨(some ⟨g38, 0, none⟩), (List.replicate (x00_0).toNat (⟨none, 0, 0⟩ : Hdr)).length, (List.replicate (x00_0).toNat (⟨none, 0, 0⟩ : Hdr)).length, rs44, rfl, rfl, hq45⟩

set_option maxRecDepth 10000 in
theorem ws_rs_Encode (Mr M0 : Mem) (A00 : Option Addr) (n00 c00 : Nat) (rs00 : List Hdr) (x00 : List (List (BitVec 8))) (hf00 : SlT Mr A00 n00 c00 rs00) (hq00 : Rels ((RelB (α := BitVec 8)) M0) rs00 x00) {res : (List (List (BitVec 8))) × Int} (h : m_rs_Encode x00 = some res) :
  FnS Try.prog 23 #[.slice A00 n00 c00] Mr M0 fun r M' es => ∃ (A1 : Option Addr) (n1 c1 : Nat), ∃ rs1 : List Hdr, r = .tuple #[.slice A1 n1 c1, I64 res.2] ∧ es = [.own 22 (Lay.sz Hdr) A1 n1 c1 (cel rs1)] ∧ Rels ((RelB (α := BitVec 8)) M') rs1 res.1 := by
 refine FnS.intro (N := 20) Try.func23 rfl rfl (Nat.le_of_ble_eq_true rfl) fun w0 => ?_
 unfold m_rs_Encode at h
 refine WC.seqRegion fun K1 hK1 => ?_
 refine WL.yld (by decide) (Yld.assign rfl) ?_
 refine WL.yld (by decide) (Yld.assign rfl) ?_
 refine WL.done (hK1 _ _ ?_)
 refine WC.seq fun K2 hK2 => ?_
 refine WC.seqRegion fun K3 hK3 => ?_
 refine WL.yld (by decide) (Yld.move rfl) ?_
 refine WL.yld (by decide) (Yld.lenD (rs := rs00) (xs := x00) (Rels.len hq00) und_35 rfl (RdH.memM (k := 7) rfl hf00)) ?_
 refine WL.yld (by decide) (Yld.neqI rfl rfl) ?_
 refine WL.done (hK3 _ _ ?_)
 by_cases hc4 : (x00.length : Int) = (4 : Int)
 ·
  replace h := of_t hc4 h
  refine WC.condFe rfl (bne_eq_false_iff_eq.2 hc4) ?_
  refine WC.skip ?_
  refine QK.thenN (hK2 _ _ ?_)
  refine WC.seqRegion fun K5 hK5 => ?_
  obtain ⟨x6, hx6, h⟩ := bnd h
  obtain ⟨x15, hx15, h⟩ := bnd h
  refine WL.eff (by decide) (Eff.callS 110 rfl Try.func11 nm_11 rfl rfl (fun w hb hh => w_rs_Code (Mem.snap w) hx6)) ?_
  rintro _ _ ⟨_, ⟨A11, n12, c13, rfl, rfl⟩, rfl⟩
  refine WL.eff (by decide) (Eff.buildC 114 ([(4 : Int), (5 : Int)] : List (Int)) sty_28 rfl rfl rfl rfl rfl (by decide)) ?_
  rintro _ _ ⟨g14, rfl, rfl⟩
  refine WL.eff (by decide) (Eff.callS 119 rfl Try.func13 nm_13 rfl rfl (fun w hb hh => w_gfmatrix_Pick (Mem.snap w) x6.1 x6.2.1 A11 n12 c13 _ (RdH.sn (RdH.own (k := 110) rfl) w hb hh) (some ⟨g14, 0, none⟩) (([(4 : Int), (5 : Int)] : List (Int)).length) (([(4 : Int), (5 : Int)] : List (Int)).length) _ (RdH.sn (RdH.own (k := 114) rfl) w hb hh) hx15)) ?_
  rintro _ _ ⟨_, ⟨A20, n21, c22, rfl, rfl⟩, rfl⟩
  refine WL.yld (by decide) (Yld.move rfl) ?_
  refine WL.yld (by decide) (Yld.extract rfl rfl) ?_
  refine WL.yld (by decide) (Yld.extract rfl rfl) ?_
  refine WL.eff (by decide) (Eff.alloc 123 rfl zr_24) ?_
  rintro _ _ ⟨g23, rfl, rfl⟩
  refine WL.eff0 (Eff0.storeBAM 123 agg_24 rfl rfl rfl ⟨rfl, rfl⟩ rfl) ?_
  refine WL.yld (by decide) (Yld.assign rfl) ?_
  refine WL.done (hK5 _ _ ?_)
  refine WC.seqRegion fun K24 hK24 => ?_
  obtain ⟨x25, hx25, h⟩ := bnd h
  refine WL.yld (by decide) (Yld.loadBM (k := 123) agg_24 rfl rfl rfl) ?_
  refine WL.yld (by decide) (Yld.move rfl) ?_
  refine WL.freeze 119 rfl rfl rfl fun M37 hm_M37 hf38 => ?_
  refine WL.eff (by decide) (Eff.callMS 131 rfl Try.func48 nm_48 rfl rfl rfl (fun w hb hh => ws_gfmatrix_Apply _ _ x15.1 x15.2.1 A20 n21 c22 _ hf38 A00 n00 c00 rs00 _ (RdH.mem_less (k := 7) rfl rfl rfl hf00 w hb hh) (Rels.lift hq00 hm_M37) hx25)) ?_
  rintro _ _ ⟨M39, _, ⟨A40, n41, c42, rs43, rfl, rfl, hq44⟩, hm_M39, rfl⟩
  refine WL.yld (by decide) (Yld.extract rfl rfl) ?_
  refine WL.yld (by decide) (Yld.extract rfl rfl) ?_
  refine WL.yld (by decide) (Yld.assign rfl) ?_
  refine WL.yld (by decide) (Yld.assign rfl) ?_
  refine WL.done (hK24 _ _ ?_)
  refine WC.ret ?_
  injection h with h; subst h
  exact Ret.fn [131] (ResIs.two rfl rfl rfl) rfl (Ext.trans hm_M37 hm_M39) rfl (by decide) rfl rfl ⟨A40, n41, c42, rs43, rfl, rfl, hq44⟩
 ·
  replace h := of_f hc4 h
  refine WC.condTe rfl (bne_iff_ne.2 hc4) ?_
  refine WC.seqRegion fun K45 hK45 => ?_
  refine WL.yld (by decide) (Yld.assign rfl) ?_
  refine WL.yld (by decide) (Yld.assign rfl) ?_
  refine WL.done (hK45 _ _ ?_)
  refine WC.ret (QK.thenR ?_)
  refine QK.nilOwn 146 22 (Lay.sz Hdr) none ?_
  injection h with h; subst h
  exact Ret.fn [146] (ResIs.two rfl rfl rfl) rfl (Ext.refl _ _) rfl (by decide) rfl rfl ⟨none, 0, 0, ([] : List Hdr), rfl, rfl, (Rels.nil (R := (RelB (α := BitVec 8)) M0))⟩

set_option maxRecDepth 10000 in
theorem w_law04_full (M0 : Mem) (A00 : Option Addr) (n00 c00 : Nat) (x00 : List (BitVec 8)) (hf00 : SlT M0 A00 n00 c00 x00) (x01 : Int) {res : (List (List (BitVec 8))) × Bool} (h : m_law04_full x00 x01 = some res) :
  Fn Try.prog 22 #[.slice A00 n00 c00, I64 x01] M0 fun r M' es => ∃ (A1 : Option Addr) (n1 c1 : Nat), ∃ rs1 : List Hdr, r = .tuple #[.slice A1 n1 c1, .bool res.2] ∧ es = [.own 22 (Lay.sz Hdr) A1 n1 c1 (cel rs1)] ∧ Rels ((RelB (α := BitVec 8)) M') rs1 res.1 := by
 refine Fn.intro (N := 27) Try.func22 rfl rfl (Nat.le_of_ble_eq_true rfl) fun w0 => ?_
 unfold m_law04_full at h
 refine WC.seqRegion fun K1 hK1 => ?_
 refine WL.yld (by decide) (Yld.assign rfl) ?_
 refine WL.yld (by decide) (Yld.assign rfl) ?_
 refine WL.done (hK1 _ _ ?_)
 refine WC.seqRegion fun K2 hK2 => ?_
 obtain ⟨x3, hx3, h⟩ := bnd h
 refine WL.yld (by decide) (Yld.move rfl) ?_
 refine WL.yld (by decide) (Yld.move rfl) ?_
 refine WL.eff (by decide) (Eff.callM 109 rfl Try.func18 nm_18 rfl rfl rfl (w_law04_data _ A00 n00 c00 _ hf00 x01 hx3)) ?_
 rintro _ _ ⟨M15, _, ⟨A16, n17, c18, rs19, rfl, rfl, hq20⟩, hm_M15, rfl⟩
 refine WL.yld (by decide) (Yld.assign rfl) ?_
 refine WL.done (hK2 _ _ ?_)
 refine WC.seqRegion fun K21 hK21 => ?_
 obtain ⟨x22, hx22, h⟩ := bnd h
 refine WL.yld (by decide) (Yld.move rfl) ?_
 refine WL.eff (by decide) (Eff.callMS 128 rfl Try.func23 nm_23 rfl rfl rfl (fun w hb hh => ws_rs_Encode _ _ A16 n17 c18 rs19 _ (RdH.own_less (k := 109) rfl rfl rfl w hb hh) hq20 hx22)) ?_
 rintro _ _ ⟨M34, _, ⟨A35, n36, c37, rs38, rfl, rfl, hq39⟩, hm_M34, rfl⟩
 refine WL.yld (by decide) (Yld.move rfl) ?_
 refine WL.yld (by decide) (Yld.extract rfl rfl) ?_
 refine WL.yld (by decide) (Yld.extract rfl rfl) ?_
 refine WL.yld (by decide) (Yld.assign rfl) ?_
 refine WL.yld (by decide) (Yld.assign rfl) ?_
 refine WL.done (hK21 _ _ ?_)
 refine WC.seqRegion fun K40 hK40 => ?_
 obtain ⟨x41, hx41, h⟩ := bnd h
 by_cases hc46 : x22.2 = (0 : Int)
 ·
  replace h := of_t hc46 h
  refine WL.yld (by decide) (Yld.move rfl) ?_
  refine WL.yld (by decide) (Yld.move rfl) ?_
  obtain ⟨hu44, hq45⟩ := Rels.apd (Rels.lift hq20 hm_M34) hq39 hx41
  refine WL.eff (by decide) (Eff.appendC 109 (xs := rs19) (ys := rs38) sty_35 rfl rfl rfl (RdH.own (k := 128) rfl) hu44) ?_
  rintro _ _ ⟨A42, c43, rfl, rfl⟩
  refine WL.yld (by decide) (Yld.move rfl) ?_
  refine WL.yld (by decide) (Yld.eqlI rfl rfl) ?_
  refine WL.yld (by decide) (Yld.move rfl) ?_
  refine WL.new (v' := .bool true) (congrArg Value.bool (beq_iff_eq.2 hc46)) ?_
  refine WL.yldG (by decide) rfl (Yld.move rfl) ?_
  refine WL.yldG (by decide) rfl (Yld.lenD (rs := rs38) (xs := x22.1) (Rels.len hq39) und_35 rfl (RdH.own (k := 128) rfl)) ?_
  refine WL.yldG (by decide) rfl (Yld.eqlI rfl rfl) ?_
  refine WL.yld (by decide) (Yld.pickT rfl rfl) ?_
  refine WL.yld (by decide) (Yld.assign rfl) ?_
  refine WL.yld (by decide) (Yld.assign rfl) ?_
  refine WL.done (hK40 _ _ ?_)
  refine WC.ret ?_
  injection h with h; subst h
  exact Ret.fn [109] (ResIs.two rfl rfl rfl) rfl (Ext.trans hm_M15 hm_M34) rfl (by decide) rfl rfl ⟨A42, (rs19 ++ rs38).length, c43, (rs19 ++ rs38), rfl, rfl, hq45⟩
 ·
  replace h := of_f hc46 h
  refine WL.yld (by decide) (Yld.move rfl) ?_
  refine WL.yld (by decide) (Yld.move rfl) ?_
  obtain ⟨hu44, hq45⟩ := Rels.apd (Rels.lift hq20 hm_M34) hq39 hx41
  refine WL.eff (by decide) (Eff.appendC 109 (xs := rs19) (ys := rs38) sty_35 rfl rfl rfl (RdH.own (k := 128) rfl) hu44) ?_
  rintro _ _ ⟨A42, c43, rfl, rfl⟩
  refine WL.yld (by decide) (Yld.move rfl) ?_
  refine WL.yld (by decide) (Yld.eqlI rfl rfl) ?_
  refine WL.yld (by decide) (Yld.move rfl) ?_
  refine WL.new (v' := .bool false) (congrArg Value.bool (beq_eq_false_iff_ne.2 hc46)) ?_
  refine WL.skip (by decide) rfl rfl ?_
  refine WL.skip (by decide) rfl rfl ?_
  refine WL.skip (by decide) rfl rfl ?_
  refine WL.yld (by decide) (Yld.pickF rfl rfl) ?_
  refine WL.yld (by decide) (Yld.assign rfl) ?_
  refine WL.yld (by decide) (Yld.assign rfl) ?_
  refine WL.done (hK40 _ _ ?_)
  refine WC.ret ?_
  injection h with h; subst h
  exact Ret.fn [109] (ResIs.two rfl rfl rfl) rfl (Ext.trans hm_M15 hm_M34) rfl (by decide) rfl rfl ⟨A42, (rs19 ++ rs38).length, c43, (rs19 ++ rs38), rfl, rfl, hq45⟩

set_option maxRecDepth 10000 in
theorem w_law04_awake (M0 : Mem)  {res : Bool} (h : m_law04_awake = some res) :
  Fn Try.prog 15 #[] M0 fun r M' es => r = .bool res ∧ es = [] := by
 refine Fn.intro (N := 49) Try.func15 rfl rfl (Nat.le_of_ble_eq_true rfl) fun w0 => ?_
 unfold m_law04_awake at h
 refine WC.seqRegion fun K1 hK1 => ?_
 refine WL.yld (by decide) (Yld.assign rfl) ?_
 refine WL.done (hK1 _ _ ?_)
 refine WC.seqRegion fun K2 hK2 => ?_
 obtain ⟨x17, hx17, h⟩ := bnd h
 refine WL.eff (by decide) (Eff.buildC 103 ([7#8] : List (BitVec 8)) sty_22 rfl rfl rfl rfl rfl (by decide)) ?_
 rintro _ _ ⟨g3, rfl, rfl⟩
 refine WL.eff (by decide) (Eff.buildC 104 ([7#8] : List (BitVec 8)) sty_22 rfl rfl rfl rfl rfl (by decide)) ?_
 rintro _ _ ⟨g4, rfl, rfl⟩
 refine WL.eff (by decide) (Eff.buildC 105 ([7#8] : List (BitVec 8)) sty_22 rfl rfl rfl rfl rfl (by decide)) ?_
 rintro _ _ ⟨g5, rfl, rfl⟩
 refine WL.eff (by decide) (Eff.buildC 106 ([7#8] : List (BitVec 8)) sty_22 rfl rfl rfl rfl rfl (by decide)) ?_
 rintro _ _ ⟨g6, rfl, rfl⟩
 refine WL.freeze 103 rfl rfl rfl fun M8 hm_M8 hf9 => ?_
 refine WL.freeze 104 rfl rfl rfl fun M10 hm_M10 hf11 => ?_
 refine WL.freeze 105 rfl rfl rfl fun M12 hm_M12 hf13 => ?_
 refine WL.freeze 106 rfl rfl rfl fun M14 hm_M14 hf15 => ?_
 have hq16 : Rels ((RelB (α := BitVec 8)) M14) ([(⟨(some ⟨g3, 0, none⟩), ([7#8] : List (BitVec 8)).length, ([7#8] : List (BitVec 8)).length⟩ : Hdr), (⟨(some ⟨g4, 0, none⟩), ([7#8] : List (BitVec 8)).length, ([7#8] : List (BitVec 8)).length⟩ : Hdr), (⟨(some ⟨g5, 0, none⟩), ([7#8] : List (BitVec 8)).length, ([7#8] : List (BitVec 8)).length⟩ : Hdr), (⟨(some ⟨g6, 0, none⟩), ([7#8] : List (BitVec 8)).length, ([7#8] : List (BitVec 8)).length⟩ : Hdr)] : List Hdr) ([([7#8] : List (BitVec 8)), ([7#8] : List (BitVec 8)), ([7#8] : List (BitVec 8)), ([7#8] : List (BitVec 8))] : List (List (BitVec 8))) := (Rels.cons (SlRc.lift (SlRc.lift (SlRc.lift hf9 hm_M10) hm_M12) hm_M14) (Rels.cons (SlRc.lift (SlRc.lift hf11 hm_M12) hm_M14) (Rels.cons (SlRc.lift hf13 hm_M14) (Rels.cons hf15 Rels.nil))))
 refine WL.eff (by decide) (Eff.buildC 107 ([(⟨(some ⟨g3, 0, none⟩), ([7#8] : List (BitVec 8)).length, ([7#8] : List (BitVec 8)).length⟩ : Hdr), (⟨(some ⟨g4, 0, none⟩), ([7#8] : List (BitVec 8)).length, ([7#8] : List (BitVec 8)).length⟩ : Hdr), (⟨(some ⟨g5, 0, none⟩), ([7#8] : List (BitVec 8)).length, ([7#8] : List (BitVec 8)).length⟩ : Hdr), (⟨(some ⟨g6, 0, none⟩), ([7#8] : List (BitVec 8)).length, ([7#8] : List (BitVec 8)).length⟩ : Hdr)] : List Hdr) sty_35 rfl rfl rfl rfl rfl (by decide)) ?_
 rintro _ _ ⟨g7, rfl, rfl⟩
 refine WL.freeze 107 rfl rfl rfl fun M29 hm_M29 hf30 => ?_
 refine WL.eff (by decide) (Eff.callM 123 rfl Try.func23 nm_23 rfl rfl rfl (w_rs_Encode _ (some ⟨g7, 0, none⟩) (([(⟨(some ⟨g3, 0, none⟩), ([7#8] : List (BitVec 8)).length, ([7#8] : List (BitVec 8)).length⟩ : Hdr), (⟨(some ⟨g4, 0, none⟩), ([7#8] : List (BitVec 8)).length, ([7#8] : List (BitVec 8)).length⟩ : Hdr), (⟨(some ⟨g5, 0, none⟩), ([7#8] : List (BitVec 8)).length, ([7#8] : List (BitVec 8)).length⟩ : Hdr), (⟨(some ⟨g6, 0, none⟩), ([7#8] : List (BitVec 8)).length, ([7#8] : List (BitVec 8)).length⟩ : Hdr)] : List Hdr).length) (([(⟨(some ⟨g3, 0, none⟩), ([7#8] : List (BitVec 8)).length, ([7#8] : List (BitVec 8)).length⟩ : Hdr), (⟨(some ⟨g4, 0, none⟩), ([7#8] : List (BitVec 8)).length, ([7#8] : List (BitVec 8)).length⟩ : Hdr), (⟨(some ⟨g5, 0, none⟩), ([7#8] : List (BitVec 8)).length, ([7#8] : List (BitVec 8)).length⟩ : Hdr), (⟨(some ⟨g6, 0, none⟩), ([7#8] : List (BitVec 8)).length, ([7#8] : List (BitVec 8)).length⟩ : Hdr)] : List Hdr).length) ([(⟨(some ⟨g3, 0, none⟩), ([7#8] : List (BitVec 8)).length, ([7#8] : List (BitVec 8)).length⟩ : Hdr), (⟨(some ⟨g4, 0, none⟩), ([7#8] : List (BitVec 8)).length, ([7#8] : List (BitVec 8)).length⟩ : Hdr), (⟨(some ⟨g5, 0, none⟩), ([7#8] : List (BitVec 8)).length, ([7#8] : List (BitVec 8)).length⟩ : Hdr), (⟨(some ⟨g6, 0, none⟩), ([7#8] : List (BitVec 8)).length, ([7#8] : List (BitVec 8)).length⟩ : Hdr)] : List Hdr) _ hf30 (Rels.lift hq16 hm_M29) hx17)) ?_
 rintro _ _ ⟨M31, _, ⟨A32, n33, c34, rs35, rfl, rfl, hq36⟩, hm_M31, rfl⟩
 refine WL.yld (by decide) (Yld.move rfl) ?_
 refine WL.yld (by decide) (Yld.extract rfl rfl) ?_
 refine WL.yld (by decide) (Yld.extract rfl rfl) ?_
 refine WL.yld (by decide) (Yld.assign rfl) ?_
 refine WL.yld (by decide) (Yld.assign rfl) ?_
 refine WL.done (hK2 _ _ ?_)
 refine WC.seqRegion fun K37 hK37 => ?_
 obtain ⟨x39, hx39, h⟩ := bnd h
 obtain ⟨x43, hx43, h⟩ := bnd h
 obtain ⟨hu40, hq41⟩ := Rels.mks (R := (RelB (α := BitVec 8)) M31) (r := (⟨none, 0, 0⟩ : Hdr)) hx39 RelB.nil
 refine WL.eff (by decide) (Eff.makeC 138 (⟨none, 0, 0⟩ : Hdr) sty_35 rfl rfl rfl rfl rfl rfl hu40) ?_
 rintro _ _ ⟨g38, rfl, rfl⟩
 refine WL.eff (by decide) (Eff.buildC 142 ([true, true, true, false, false, false] : List (Bool)) sty_36 rfl rfl rfl rfl rfl (by decide)) ?_
 rintro _ _ ⟨g42, rfl, rfl⟩
 refine WL.freeze 138 rfl rfl rfl fun M55 hm_M55 hf56 => ?_
 refine WL.freeze 142 rfl rfl rfl fun M57 hm_M57 hf58 => ?_
 refine WL.eff (by decide) (Eff.callM 149 rfl Try.func19 nm_19 rfl rfl rfl (w_rs_Restore _ (some ⟨g38, 0, none⟩) ((List.replicate ((6 : Int)).toNat (⟨none, 0, 0⟩ : Hdr)).length) ((List.replicate ((6 : Int)).toNat (⟨none, 0, 0⟩ : Hdr)).length) (List.replicate ((6 : Int)).toNat (⟨none, 0, 0⟩ : Hdr)) _ (SlRc.lift hf56 hm_M57) (Rels.lift (Rels.lift hq41 hm_M55) hm_M57) (some ⟨g42, 0, none⟩) (([true, true, true, false, false, false] : List (Bool)).length) (([true, true, true, false, false, false] : List (Bool)).length) _ hf58 hx43)) ?_
 rintro _ _ ⟨M59, _, ⟨A60, n61, c62, rs63, rfl, rfl, hq64⟩, hm_M59, rfl⟩
 refine WL.yld (by decide) (Yld.move rfl) ?_
 refine WL.yld (by decide) (Yld.extract rfl rfl) ?_
 refine WL.yld (by decide) (Yld.extract rfl rfl) ?_
 refine WL.yld (by decide) (Yld.assign rfl) ?_
 refine WL.yld (by decide) (Yld.assign rfl) ?_
 refine WL.done (hK37 _ _ ?_)
 refine WC.seqRegionD (n := 30) [(0, _), (123, _), (149, _)] rfl mixed (Sub.cons rfl (Sub.cons rfl (Sub.cons rfl (Sub.nil _)))) fun K65 hK65 => ?_
 by_cases hc66 : x17.2 = (0 : Int)
 ·
  replace h := of_t hc66 h
  by_cases hc67 : (x17.1.length : Int) = (2 : Int)
  ·
   replace h := of_t hc67 h
   obtain ⟨x68, hx68, h⟩ := bnd h
   by_cases hc73 : x68 = ([7#8] : List (BitVec 8))
   ·
    replace h := of_t hc73 h
    obtain ⟨x74, hx74, h⟩ := bnd h
    by_cases hc79 : x74 = ([7#8] : List (BitVec 8))
    ·
     replace h := of_t hc79 h
     refine WD.take 0 rfl (by kernel_rfl) (by kernel_rfl) (by kernel_rfl) (by decide) (Yld.move rfl) ?_
     refine WD.take 1 rfl (by kernel_rfl) (by kernel_rfl) (by kernel_rfl) (by decide) (Yld.eqlI rfl rfl) ?_
     refine WD.take 2 rfl (by kernel_rfl) (by kernel_rfl) (by kernel_rfl) (by decide) (Yld.move rfl) ?_
     refine WD.new (v' := .bool true) (congrArg Value.bool (beq_iff_eq.2 hc66)) ?_
     refine WD.takeG 3 rfl (by kernel_rfl) (by kernel_rfl) (by kernel_rfl) (by decide) rfl (Yld.move rfl) ?_
     refine WD.takeG 4 rfl (by kernel_rfl) (by kernel_rfl) (by kernel_rfl) (by decide) rfl (Yld.lenD (rs := rs35) (xs := x17.1) (Rels.len (Rels.lift (Rels.lift (Rels.lift hq36 hm_M55) hm_M57) hm_M59)) und_35 rfl (RdH.own (k := 123) rfl)) ?_
     refine WD.takeG 5 rfl (by kernel_rfl) (by kernel_rfl) (by kernel_rfl) (by decide) rfl (Yld.eqlI rfl rfl) ?_
     refine WD.take 6 rfl (by kernel_rfl) (by kernel_rfl) (by kernel_rfl) (by decide) (Yld.pickT rfl rfl) ?_
     refine WD.take 7 rfl (by kernel_rfl) (by kernel_rfl) (by kernel_rfl) (by decide) (Yld.move rfl) ?_
     refine WD.new (v' := .bool true) (congrArg Value.bool (beq_iff_eq.2 hc67)) ?_
     refine WD.takeG 8 rfl (by kernel_rfl) (by kernel_rfl) (by kernel_rfl) (by decide) rfl (Yld.move rfl) ?_
     obtain ⟨r_69, hr70, hq71⟩ := Rels.idx (Rels.lift (Rels.lift (Rels.lift hq36 hm_M55) hm_M57) hm_M59) hx68
     refine WD.takeG 9 rfl (by kernel_rfl) (by kernel_rfl) (by kernel_rfl) (by decide) rfl (Yld.idxC (xs := rs35) sty_35 rfl rfl (RdH.own (k := 123) rfl) hr70) ?_
     refine WD.takeG 10 rfl (by kernel_rfl) (by kernel_rfl) (by kernel_rfl) (by decide) rfl (Yld.loadC0 (xs := rs35) scal_22 rfl (RdH.own (k := 123) rfl) hr70 rfl) ?_
     refine WD.takeG 11 rfl (by kernel_rfl) (by kernel_rfl) (by kernel_rfl) (by decide) rfl (Yld.b2sC (xs := x68) und_22 und_5 und_9 rfl (RdH.memM (k := 0) rfl hq71)) ?_
     refine WD.one 12 (by kernel_rfl) ?_
     refine WS.effG rfl (by decide) rfl (Eff.buildC 172 ([7#8] : List (BitVec 8)) sty_22 rfl rfl rfl rfl rfl (by decide)) ?_
     rintro _ _ ⟨g72, rfl, rfl⟩
     refine ⟨(Sub.cons rfl (Sub.cons rfl (Sub.cons rfl (Sub.nil _)))), ?_⟩
     refine WD.one 13 (by kernel_rfl) ?_
     refine WS.yldG rfl (by decide) rfl (Yld.b2sC (xs := ([7#8] : List (BitVec 8))) und_22 und_5 und_9 rfl (RdH.own (k := 172) rfl)) ?_
     refine WD.takeG 14 rfl (by kernel_rfl) (by kernel_rfl) (by kernel_rfl) (by decide) rfl (Yld.eqlStr (a := x68) (b := ([7#8] : List (BitVec 8))) rfl rfl) ?_
     refine WD.take 15 rfl (by kernel_rfl) (by kernel_rfl) (by kernel_rfl) (by decide) (Yld.pickT rfl rfl) ?_
     refine WD.take 16 rfl (by kernel_rfl) (by kernel_rfl) (by kernel_rfl) (by decide) (Yld.move rfl) ?_
     refine WD.new (v' := .bool true) (congrArg Value.bool (beq_iff_eq.2 hc73)) ?_
     refine WD.takeG 17 rfl (by kernel_rfl) (by kernel_rfl) (by kernel_rfl) (by decide) rfl (Yld.move rfl) ?_
     obtain ⟨r_75, hr76, hq77⟩ := Rels.idx (Rels.lift (Rels.lift (Rels.lift hq36 hm_M55) hm_M57) hm_M59) hx74
     refine WD.takeG 18 rfl (by kernel_rfl) (by kernel_rfl) (by kernel_rfl) (by decide) rfl (Yld.idxC (xs := rs35) sty_35 rfl rfl (RdH.own (k := 123) rfl) hr76) ?_
     refine WD.takeG 19 rfl (by kernel_rfl) (by kernel_rfl) (by kernel_rfl) (by decide) rfl (Yld.loadC0 (xs := rs35) scal_22 rfl (RdH.own (k := 123) rfl) hr76 rfl) ?_
     refine WD.takeG 20 rfl (by kernel_rfl) (by kernel_rfl) (by kernel_rfl) (by decide) rfl (Yld.b2sC (xs := x74) und_22 und_5 und_9 rfl (RdH.memM (k := 0) rfl hq77)) ?_
     refine WD.one 21 (by kernel_rfl) ?_
     refine WS.effG rfl (by decide) rfl (Eff.buildC 178 ([7#8] : List (BitVec 8)) sty_22 rfl rfl rfl rfl rfl (by decide)) ?_
     rintro _ _ ⟨g78, rfl, rfl⟩
     refine ⟨(Sub.cons rfl (Sub.cons rfl (Sub.cons rfl (Sub.nil _)))), ?_⟩
     refine WD.one 22 (by kernel_rfl) ?_
     refine WS.yldG rfl (by decide) rfl (Yld.b2sC (xs := ([7#8] : List (BitVec 8))) und_22 und_5 und_9 rfl (RdH.own (k := 178) rfl)) ?_
     refine WD.takeG 23 rfl (by kernel_rfl) (by kernel_rfl) (by kernel_rfl) (by decide) rfl (Yld.eqlStr (a := x74) (b := ([7#8] : List (BitVec 8))) rfl rfl) ?_
     refine WD.take 24 rfl (by kernel_rfl) (by kernel_rfl) (by kernel_rfl) (by decide) (Yld.pickT rfl rfl) ?_
     refine WD.take 25 rfl (by kernel_rfl) (by kernel_rfl) (by kernel_rfl) (by decide) (Yld.move rfl) ?_
     refine WD.new (v' := .bool true) (congrArg Value.bool (beq_iff_eq.2 hc79)) ?_
     refine WD.takeG 26 rfl (by kernel_rfl) (by kernel_rfl) (by kernel_rfl) (by decide) rfl (Yld.move rfl) ?_
     refine WD.takeG 27 rfl (by kernel_rfl) (by kernel_rfl) (by kernel_rfl) (by decide) rfl (Yld.eqlI rfl rfl) ?_
     refine WD.take 28 rfl (by kernel_rfl) (by kernel_rfl) (by kernel_rfl) (by decide) (Yld.pickT rfl rfl) ?_
     refine WD.take 29 rfl (by kernel_rfl) (by kernel_rfl) (by kernel_rfl) (by decide) (Yld.assign rfl) ?_
     refine WD.done (by kernel_rfl) (hK65 _ _ ?_)
     refine WC.ret ?_
     injection h with h; subst h
     exact Ret.fn [] (ResIs.one rfl rfl) rfl (Ext.trans (Ext.trans (Ext.trans (Ext.trans (Ext.trans (Ext.trans (Ext.trans (Ext.trans hm_M8 hm_M10) hm_M12) hm_M14) hm_M29) hm_M31) hm_M55) hm_M57) hm_M59) rfl (by decide) rfl rfl ⟨rfl, rfl⟩
    ·
     replace h := of_f hc79 h
     refine WD.take 0 rfl (by kernel_rfl) (by kernel_rfl) (by kernel_rfl) (by decide) (Yld.move rfl) ?_
     refine WD.take 1 rfl (by kernel_rfl) (by kernel_rfl) (by kernel_rfl) (by decide) (Yld.eqlI rfl rfl) ?_
     refine WD.take 2 rfl (by kernel_rfl) (by kernel_rfl) (by kernel_rfl) (by decide) (Yld.move rfl) ?_
     refine WD.new (v' := .bool true) (congrArg Value.bool (beq_iff_eq.2 hc66)) ?_
     refine WD.takeG 3 rfl (by kernel_rfl) (by kernel_rfl) (by kernel_rfl) (by decide) rfl (Yld.move rfl) ?_
     refine WD.takeG 4 rfl (by kernel_rfl) (by kernel_rfl) (by kernel_rfl) (by decide) rfl (Yld.lenD (rs := rs35) (xs := x17.1) (Rels.len (Rels.lift (Rels.lift (Rels.lift hq36 hm_M55) hm_M57) hm_M59)) und_35 rfl (RdH.own (k := 123) rfl)) ?_
     refine WD.takeG 5 rfl (by kernel_rfl) (by kernel_rfl) (by kernel_rfl) (by decide) rfl (Yld.eqlI rfl rfl) ?_
     refine WD.take 6 rfl (by kernel_rfl) (by kernel_rfl) (by kernel_rfl) (by decide) (Yld.pickT rfl rfl) ?_
     refine WD.take 7 rfl (by kernel_rfl) (by kernel_rfl) (by kernel_rfl) (by decide) (Yld.move rfl) ?_
     refine WD.new (v' := .bool true) (congrArg Value.bool (beq_iff_eq.2 hc67)) ?_
     refine WD.takeG 8 rfl (by kernel_rfl) (by kernel_rfl) (by kernel_rfl) (by decide) rfl (Yld.move rfl) ?_
     obtain ⟨r_69, hr70, hq71⟩ := Rels.idx (Rels.lift (Rels.lift (Rels.lift hq36 hm_M55) hm_M57) hm_M59) hx68
     refine WD.takeG 9 rfl (by kernel_rfl) (by kernel_rfl) (by kernel_rfl) (by decide) rfl (Yld.idxC (xs := rs35) sty_35 rfl rfl (RdH.own (k := 123) rfl) hr70) ?_
     refine WD.takeG 10 rfl (by kernel_rfl) (by kernel_rfl) (by kernel_rfl) (by decide) rfl (Yld.loadC0 (xs := rs35) scal_22 rfl (RdH.own (k := 123) rfl) hr70 rfl) ?_
     refine WD.takeG 11 rfl (by kernel_rfl) (by kernel_rfl) (by kernel_rfl) (by decide) rfl (Yld.b2sC (xs := x68) und_22 und_5 und_9 rfl (RdH.memM (k := 0) rfl hq71)) ?_
     refine WD.one 12 (by kernel_rfl) ?_
     refine WS.effG rfl (by decide) rfl (Eff.buildC 172 ([7#8] : List (BitVec 8)) sty_22 rfl rfl rfl rfl rfl (by decide)) ?_
     rintro _ _ ⟨g72, rfl, rfl⟩
     refine ⟨(Sub.cons rfl (Sub.cons rfl (Sub.cons rfl (Sub.nil _)))), ?_⟩
     refine WD.one 13 (by kernel_rfl) ?_
     refine WS.yldG rfl (by decide) rfl (Yld.b2sC (xs := ([7#8] : List (BitVec 8))) und_22 und_5 und_9 rfl (RdH.own (k := 172) rfl)) ?_
     refine WD.takeG 14 rfl (by kernel_rfl) (by kernel_rfl) (by kernel_rfl) (by decide) rfl (Yld.eqlStr (a := x68) (b := ([7#8] : List (BitVec 8))) rfl rfl) ?_
     refine WD.take 15 rfl (by kernel_rfl) (by kernel_rfl) (by kernel_rfl) (by decide) (Yld.pickT rfl rfl) ?_
     refine WD.take 16 rfl (by kernel_rfl) (by kernel_rfl) (by kernel_rfl) (by decide) (Yld.move rfl) ?_
     refine WD.new (v' := .bool true) (congrArg Value.bool (beq_iff_eq.2 hc73)) ?_
     refine WD.takeG 17 rfl (by kernel_rfl) (by kernel_rfl) (by kernel_rfl) (by decide) rfl (Yld.move rfl) ?_
     obtain ⟨r_75, hr76, hq77⟩ := Rels.idx (Rels.lift (Rels.lift (Rels.lift hq36 hm_M55) hm_M57) hm_M59) hx74
     refine WD.takeG 18 rfl (by kernel_rfl) (by kernel_rfl) (by kernel_rfl) (by decide) rfl (Yld.idxC (xs := rs35) sty_35 rfl rfl (RdH.own (k := 123) rfl) hr76) ?_
     refine WD.takeG 19 rfl (by kernel_rfl) (by kernel_rfl) (by kernel_rfl) (by decide) rfl (Yld.loadC0 (xs := rs35) scal_22 rfl (RdH.own (k := 123) rfl) hr76 rfl) ?_
     refine WD.takeG 20 rfl (by kernel_rfl) (by kernel_rfl) (by kernel_rfl) (by decide) rfl (Yld.b2sC (xs := x74) und_22 und_5 und_9 rfl (RdH.memM (k := 0) rfl hq77)) ?_
     refine WD.one 21 (by kernel_rfl) ?_
     refine WS.effG rfl (by decide) rfl (Eff.buildC 178 ([7#8] : List (BitVec 8)) sty_22 rfl rfl rfl rfl rfl (by decide)) ?_
     rintro _ _ ⟨g78, rfl, rfl⟩
     refine ⟨(Sub.cons rfl (Sub.cons rfl (Sub.cons rfl (Sub.nil _)))), ?_⟩
     refine WD.one 22 (by kernel_rfl) ?_
     refine WS.yldG rfl (by decide) rfl (Yld.b2sC (xs := ([7#8] : List (BitVec 8))) und_22 und_5 und_9 rfl (RdH.own (k := 178) rfl)) ?_
     refine WD.takeG 23 rfl (by kernel_rfl) (by kernel_rfl) (by kernel_rfl) (by decide) rfl (Yld.eqlStr (a := x74) (b := ([7#8] : List (BitVec 8))) rfl rfl) ?_
     refine WD.take 24 rfl (by kernel_rfl) (by kernel_rfl) (by kernel_rfl) (by decide) (Yld.pickT rfl rfl) ?_
     refine WD.take 25 rfl (by kernel_rfl) (by kernel_rfl) (by kernel_rfl) (by decide) (Yld.move rfl) ?_
     refine WD.new (v' := .bool false) (congrArg Value.bool (beq_eq_false_iff_ne.2 hc79)) ?_
     refine WD.takeS 26 rfl (by kernel_rfl) (by kernel_rfl) (by kernel_rfl) (by decide) rfl rfl ?_
     refine WD.takeS 27 rfl (by kernel_rfl) (by kernel_rfl) (by kernel_rfl) (by decide) rfl rfl ?_
     refine WD.take 28 rfl (by kernel_rfl) (by kernel_rfl) (by kernel_rfl) (by decide) (Yld.pickF rfl rfl) ?_
     refine WD.take 29 rfl (by kernel_rfl) (by kernel_rfl) (by kernel_rfl) (by decide) (Yld.assign rfl) ?_
     refine WD.done (by kernel_rfl) (hK65 _ _ ?_)
     refine WC.ret ?_
     injection h with h; subst h
     exact Ret.fn [] (ResIs.one rfl rfl) rfl (Ext.trans (Ext.trans (Ext.trans (Ext.trans (Ext.trans (Ext.trans (Ext.trans (Ext.trans hm_M8 hm_M10) hm_M12) hm_M14) hm_M29) hm_M31) hm_M55) hm_M57) hm_M59) rfl (by decide) rfl rfl ⟨rfl, rfl⟩
   ·
    replace h := of_f hc73 h
    refine WD.take 0 rfl (by kernel_rfl) (by kernel_rfl) (by kernel_rfl) (by decide) (Yld.move rfl) ?_
    refine WD.take 1 rfl (by kernel_rfl) (by kernel_rfl) (by kernel_rfl) (by decide) (Yld.eqlI rfl rfl) ?_
    refine WD.take 2 rfl (by kernel_rfl) (by kernel_rfl) (by kernel_rfl) (by decide) (Yld.move rfl) ?_
    refine WD.new (v' := .bool true) (congrArg Value.bool (beq_iff_eq.2 hc66)) ?_
    refine WD.takeG 3 rfl (by kernel_rfl) (by kernel_rfl) (by kernel_rfl) (by decide) rfl (Yld.move rfl) ?_
    refine WD.takeG 4 rfl (by kernel_rfl) (by kernel_rfl) (by kernel_rfl) (by decide) rfl (Yld.lenD (rs := rs35) (xs := x17.1) (Rels.len (Rels.lift (Rels.lift (Rels.lift hq36 hm_M55) hm_M57) hm_M59)) und_35 rfl (RdH.own (k := 123) rfl)) ?_
    refine WD.takeG 5 rfl (by kernel_rfl) (by kernel_rfl) (by kernel_rfl) (by decide) rfl (Yld.eqlI rfl rfl) ?_
    refine WD.take 6 rfl (by kernel_rfl) (by kernel_rfl) (by kernel_rfl) (by decide) (Yld.pickT rfl rfl) ?_
    refine WD.take 7 rfl (by kernel_rfl) (by kernel_rfl) (by kernel_rfl) (by decide) (Yld.move rfl) ?_
    refine WD.new (v' := .bool true) (congrArg Value.bool (beq_iff_eq.2 hc67)) ?_
    refine WD.takeG 8 rfl (by kernel_rfl) (by kernel_rfl) (by kernel_rfl) (by decide) rfl (Yld.move rfl) ?_
    obtain ⟨r_69, hr70, hq71⟩ := Rels.idx (Rels.lift (Rels.lift (Rels.lift hq36 hm_M55) hm_M57) hm_M59) hx68
    refine WD.takeG 9 rfl (by kernel_rfl) (by kernel_rfl) (by kernel_rfl) (by decide) rfl (Yld.idxC (xs := rs35) sty_35 rfl rfl (RdH.own (k := 123) rfl) hr70) ?_
    refine WD.takeG 10 rfl (by kernel_rfl) (by kernel_rfl) (by kernel_rfl) (by decide) rfl (Yld.loadC0 (xs := rs35) scal_22 rfl (RdH.own (k := 123) rfl) hr70 rfl) ?_
    refine WD.takeG 11 rfl (by kernel_rfl) (by kernel_rfl) (by kernel_rfl) (by decide) rfl (Yld.b2sC (xs := x68) und_22 und_5 und_9 rfl (RdH.memM (k := 0) rfl hq71)) ?_
    refine WD.one 12 (by kernel_rfl) ?_
    refine WS.effG rfl (by decide) rfl (Eff.buildC 172 ([7#8] : List (BitVec 8)) sty_22 rfl rfl rfl rfl rfl (by decide)) ?_
    rintro _ _ ⟨g72, rfl, rfl⟩
    refine ⟨(Sub.cons rfl (Sub.cons rfl (Sub.cons rfl (Sub.nil _)))), ?_⟩
    refine WD.one 13 (by kernel_rfl) ?_
    refine WS.yldG rfl (by decide) rfl (Yld.b2sC (xs := ([7#8] : List (BitVec 8))) und_22 und_5 und_9 rfl (RdH.own (k := 172) rfl)) ?_
    refine WD.takeG 14 rfl (by kernel_rfl) (by kernel_rfl) (by kernel_rfl) (by decide) rfl (Yld.eqlStr (a := x68) (b := ([7#8] : List (BitVec 8))) rfl rfl) ?_
    refine WD.take 15 rfl (by kernel_rfl) (by kernel_rfl) (by kernel_rfl) (by decide) (Yld.pickT rfl rfl) ?_
    refine WD.take 16 rfl (by kernel_rfl) (by kernel_rfl) (by kernel_rfl) (by decide) (Yld.move rfl) ?_
    refine WD.new (v' := .bool false) (congrArg Value.bool (beq_eq_false_iff_ne.2 hc73)) ?_
    refine WD.takeS 17 rfl (by kernel_rfl) (by kernel_rfl) (by kernel_rfl) (by decide) rfl rfl ?_
    refine WD.takeS 18 rfl (by kernel_rfl) (by kernel_rfl) (by kernel_rfl) (by decide) rfl rfl ?_
    refine WD.takeS 19 rfl (by kernel_rfl) (by kernel_rfl) (by kernel_rfl) (by decide) rfl rfl ?_
    refine WD.takeS 20 rfl (by kernel_rfl) (by kernel_rfl) (by kernel_rfl) (by decide) rfl rfl ?_
    refine WD.takeS 21 rfl (by kernel_rfl) (by kernel_rfl) (by kernel_rfl) (by decide) rfl rfl ?_
    refine WD.takeS 22 rfl (by kernel_rfl) (by kernel_rfl) (by kernel_rfl) (by decide) rfl rfl ?_
    refine WD.takeS 23 rfl (by kernel_rfl) (by kernel_rfl) (by kernel_rfl) (by decide) rfl rfl ?_
    refine WD.take 24 rfl (by kernel_rfl) (by kernel_rfl) (by kernel_rfl) (by decide) (Yld.pickF rfl rfl) ?_
    refine WD.take 25 rfl (by kernel_rfl) (by kernel_rfl) (by kernel_rfl) (by decide) (Yld.move rfl) ?_
    refine WD.takeS 26 rfl (by kernel_rfl) (by kernel_rfl) (by kernel_rfl) (by decide) rfl rfl ?_
    refine WD.takeS 27 rfl (by kernel_rfl) (by kernel_rfl) (by kernel_rfl) (by decide) rfl rfl ?_
    refine WD.take 28 rfl (by kernel_rfl) (by kernel_rfl) (by kernel_rfl) (by decide) (Yld.pickF rfl rfl) ?_
    refine WD.take 29 rfl (by kernel_rfl) (by kernel_rfl) (by kernel_rfl) (by decide) (Yld.assign rfl) ?_
    refine WD.done (by kernel_rfl) (hK65 _ _ ?_)
    refine WC.ret ?_
    injection h with h; subst h
    exact Ret.fn [] (ResIs.one rfl rfl) rfl (Ext.trans (Ext.trans (Ext.trans (Ext.trans (Ext.trans (Ext.trans (Ext.trans (Ext.trans hm_M8 hm_M10) hm_M12) hm_M14) hm_M29) hm_M31) hm_M55) hm_M57) hm_M59) rfl (by decide) rfl rfl ⟨rfl, rfl⟩
  ·
   replace h := of_f hc67 h
   refine WD.take 0 rfl (by kernel_rfl) (by kernel_rfl) (by kernel_rfl) (by decide) (Yld.move rfl) ?_
   refine WD.take 1 rfl (by kernel_rfl) (by kernel_rfl) (by kernel_rfl) (by decide) (Yld.eqlI rfl rfl) ?_
   refine WD.take 2 rfl (by kernel_rfl) (by kernel_rfl) (by kernel_rfl) (by decide) (Yld.move rfl) ?_
   refine WD.new (v' := .bool true) (congrArg Value.bool (beq_iff_eq.2 hc66)) ?_
   refine WD.takeG 3 rfl (by kernel_rfl) (by kernel_rfl) (by kernel_rfl) (by decide) rfl (Yld.move rfl) ?_
   refine WD.takeG 4 rfl (by kernel_rfl) (by kernel_rfl) (by kernel_rfl) (by decide) rfl (Yld.lenD (rs := rs35) (xs := x17.1) (Rels.len (Rels.lift (Rels.lift (Rels.lift hq36 hm_M55) hm_M57) hm_M59)) und_35 rfl (RdH.own (k := 123) rfl)) ?_
   refine WD.takeG 5 rfl (by kernel_rfl) (by kernel_rfl) (by kernel_rfl) (by decide) rfl (Yld.eqlI rfl rfl) ?_
   refine WD.take 6 rfl (by kernel_rfl) (by kernel_rfl) (by kernel_rfl) (by decide) (Yld.pickT rfl rfl) ?_
   refine WD.take 7 rfl (by kernel_rfl) (by kernel_rfl) (by kernel_rfl) (by decide) (Yld.move rfl) ?_
   refine WD.new (v' := .bool false) (congrArg Value.bool (beq_eq_false_iff_ne.2 hc67)) ?_
   refine WD.takeS 8 rfl (by kernel_rfl) (by kernel_rfl) (by kernel_rfl) (by decide) rfl rfl ?_
   refine WD.takeS 9 rfl (by kernel_rfl) (by kernel_rfl) (by kernel_rfl) (by decide) rfl rfl ?_
   refine WD.takeS 10 rfl (by kernel_rfl) (by kernel_rfl) (by kernel_rfl) (by decide) rfl rfl ?_
   refine WD.takeS 11 rfl (by kernel_rfl) (by kernel_rfl) (by kernel_rfl) (by decide) rfl rfl ?_
   refine WD.takeS 12 rfl (by kernel_rfl) (by kernel_rfl) (by kernel_rfl) (by decide) rfl rfl ?_
   refine WD.takeS 13 rfl (by kernel_rfl) (by kernel_rfl) (by kernel_rfl) (by decide) rfl rfl ?_
   refine WD.takeS 14 rfl (by kernel_rfl) (by kernel_rfl) (by kernel_rfl) (by decide) rfl rfl ?_
   refine WD.take 15 rfl (by kernel_rfl) (by kernel_rfl) (by kernel_rfl) (by decide) (Yld.pickF rfl rfl) ?_
   refine WD.take 16 rfl (by kernel_rfl) (by kernel_rfl) (by kernel_rfl) (by decide) (Yld.move rfl) ?_
   refine WD.takeS 17 rfl (by kernel_rfl) (by kernel_rfl) (by kernel_rfl) (by decide) rfl rfl ?_
   refine WD.takeS 18 rfl (by kernel_rfl) (by kernel_rfl) (by kernel_rfl) (by decide) rfl rfl ?_
   refine WD.takeS 19 rfl (by kernel_rfl) (by kernel_rfl) (by kernel_rfl) (by decide) rfl rfl ?_
   refine WD.takeS 20 rfl (by kernel_rfl) (by kernel_rfl) (by kernel_rfl) (by decide) rfl rfl ?_
   refine WD.takeS 21 rfl (by kernel_rfl) (by kernel_rfl) (by kernel_rfl) (by decide) rfl rfl ?_
   refine WD.takeS 22 rfl (by kernel_rfl) (by kernel_rfl) (by kernel_rfl) (by decide) rfl rfl ?_
   refine WD.takeS 23 rfl (by kernel_rfl) (by kernel_rfl) (by kernel_rfl) (by decide) rfl rfl ?_
   refine WD.take 24 rfl (by kernel_rfl) (by kernel_rfl) (by kernel_rfl) (by decide) (Yld.pickF rfl rfl) ?_
   refine WD.take 25 rfl (by kernel_rfl) (by kernel_rfl) (by kernel_rfl) (by decide) (Yld.move rfl) ?_
   refine WD.takeS 26 rfl (by kernel_rfl) (by kernel_rfl) (by kernel_rfl) (by decide) rfl rfl ?_
   refine WD.takeS 27 rfl (by kernel_rfl) (by kernel_rfl) (by kernel_rfl) (by decide) rfl rfl ?_
   refine WD.take 28 rfl (by kernel_rfl) (by kernel_rfl) (by kernel_rfl) (by decide) (Yld.pickF rfl rfl) ?_
   refine WD.take 29 rfl (by kernel_rfl) (by kernel_rfl) (by kernel_rfl) (by decide) (Yld.assign rfl) ?_
   refine WD.done (by kernel_rfl) (hK65 _ _ ?_)
   refine WC.ret ?_
   injection h with h; subst h
   exact Ret.fn [] (ResIs.one rfl rfl) rfl (Ext.trans (Ext.trans (Ext.trans (Ext.trans (Ext.trans (Ext.trans (Ext.trans (Ext.trans hm_M8 hm_M10) hm_M12) hm_M14) hm_M29) hm_M31) hm_M55) hm_M57) hm_M59) rfl (by decide) rfl rfl ⟨rfl, rfl⟩
 ·
  replace h := of_f hc66 h
  refine WD.take 0 rfl (by kernel_rfl) (by kernel_rfl) (by kernel_rfl) (by decide) (Yld.move rfl) ?_
  refine WD.take 1 rfl (by kernel_rfl) (by kernel_rfl) (by kernel_rfl) (by decide) (Yld.eqlI rfl rfl) ?_
  refine WD.take 2 rfl (by kernel_rfl) (by kernel_rfl) (by kernel_rfl) (by decide) (Yld.move rfl) ?_
  refine WD.new (v' := .bool false) (congrArg Value.bool (beq_eq_false_iff_ne.2 hc66)) ?_
  refine WD.takeS 3 rfl (by kernel_rfl) (by kernel_rfl) (by kernel_rfl) (by decide) rfl rfl ?_
  refine WD.takeS 4 rfl (by kernel_rfl) (by kernel_rfl) (by kernel_rfl) (by decide) rfl rfl ?_
  refine WD.takeS 5 rfl (by kernel_rfl) (by kernel_rfl) (by kernel_rfl) (by decide) rfl rfl ?_
  refine WD.take 6 rfl (by kernel_rfl) (by kernel_rfl) (by kernel_rfl) (by decide) (Yld.pickF rfl rfl) ?_
  refine WD.take 7 rfl (by kernel_rfl) (by kernel_rfl) (by kernel_rfl) (by decide) (Yld.move rfl) ?_
  refine WD.takeS 8 rfl (by kernel_rfl) (by kernel_rfl) (by kernel_rfl) (by decide) rfl rfl ?_
  refine WD.takeS 9 rfl (by kernel_rfl) (by kernel_rfl) (by kernel_rfl) (by decide) rfl rfl ?_
  refine WD.takeS 10 rfl (by kernel_rfl) (by kernel_rfl) (by kernel_rfl) (by decide) rfl rfl ?_
  refine WD.takeS 11 rfl (by kernel_rfl) (by kernel_rfl) (by kernel_rfl) (by decide) rfl rfl ?_
  refine WD.takeS 12 rfl (by kernel_rfl) (by kernel_rfl) (by kernel_rfl) (by decide) rfl rfl ?_
  refine WD.takeS 13 rfl (by kernel_rfl) (by kernel_rfl) (by kernel_rfl) (by decide) rfl rfl ?_
  refine WD.takeS 14 rfl (by kernel_rfl) (by kernel_rfl) (by kernel_rfl) (by decide) rfl rfl ?_
  refine WD.take 15 rfl (by kernel_rfl) (by kernel_rfl) (by kernel_rfl) (by decide) (Yld.pickF rfl rfl) ?_
  refine WD.take 16 rfl (by kernel_rfl) (by kernel_rfl) (by kernel_rfl) (by decide) (Yld.move rfl) ?_
  refine WD.takeS 17 rfl (by kernel_rfl) (by kernel_rfl) (by kernel_rfl) (by decide) rfl rfl ?_
  refine WD.takeS 18 rfl (by kernel_rfl) (by kernel_rfl) (by kernel_rfl) (by decide) rfl rfl ?_
  refine WD.takeS 19 rfl (by kernel_rfl) (by kernel_rfl) (by kernel_rfl) (by decide) rfl rfl ?_
  refine WD.takeS 20 rfl (by kernel_rfl) (by kernel_rfl) (by kernel_rfl) (by decide) rfl rfl ?_
  refine WD.takeS 21 rfl (by kernel_rfl) (by kernel_rfl) (by kernel_rfl) (by decide) rfl rfl ?_
  refine WD.takeS 22 rfl (by kernel_rfl) (by kernel_rfl) (by kernel_rfl) (by decide) rfl rfl ?_
  refine WD.takeS 23 rfl (by kernel_rfl) (by kernel_rfl) (by kernel_rfl) (by decide) rfl rfl ?_
  refine WD.take 24 rfl (by kernel_rfl) (by kernel_rfl) (by kernel_rfl) (by decide) (Yld.pickF rfl rfl) ?_
  refine WD.take 25 rfl (by kernel_rfl) (by kernel_rfl) (by kernel_rfl) (by decide) (Yld.move rfl) ?_
  refine WD.takeS 26 rfl (by kernel_rfl) (by kernel_rfl) (by kernel_rfl) (by decide) rfl rfl ?_
  refine WD.takeS 27 rfl (by kernel_rfl) (by kernel_rfl) (by kernel_rfl) (by decide) rfl rfl ?_
  refine WD.take 28 rfl (by kernel_rfl) (by kernel_rfl) (by kernel_rfl) (by decide) (Yld.pickF rfl rfl) ?_
  refine WD.take 29 rfl (by kernel_rfl) (by kernel_rfl) (by kernel_rfl) (by decide) (Yld.assign rfl) ?_
  refine WD.done (by kernel_rfl) (hK65 _ _ ?_)
  refine WC.ret ?_
  injection h with h; subst h
  exact Ret.fn [] (ResIs.one rfl rfl) rfl (Ext.trans (Ext.trans (Ext.trans (Ext.trans (Ext.trans (Ext.trans (Ext.trans (Ext.trans hm_M8 hm_M10) hm_M12) hm_M14) hm_M29) hm_M31) hm_M55) hm_M57) hm_M59) rfl (by decide) rfl rfl ⟨rfl, rfl⟩

set_option maxRecDepth 10000 in
theorem w_law04_light (M0 : Mem) (A00 : Option Addr) (n00 c00 : Nat) (rs00 : List Hdr) (x00 : List (List (BitVec 8))) (hf00 : SlT M0 A00 n00 c00 rs00) (hq00 : Rels ((RelB (α := BitVec 8)) M0) rs00 x00) {res : Bool} (h : m_law04_light x00 = some res) :
  Fn Try.prog 16 #[.slice A00 n00 c00] M0 fun r M' es => r = .bool res ∧ es = [] := by
 refine Fn.intro (N := 19) Try.func16 rfl rfl (Nat.le_of_ble_eq_true rfl) fun w0 => ?_
 unfold m_law04_light at h
 refine WC.seqRegion fun K1 hK1 => ?_
 refine WL.yld (by decide) (Yld.assign rfl) ?_
 refine WL.done (hK1 _ _ ?_)
 refine WC.seqCut (σ := Unit) (fun _ => [(0, .slice A00 n00 c00)]) (fun _ => [(0, .mem M0)]) (fun _ => m_law04_light_j0 x00 = some res) (fun K2 hK2 => ?_) ?_
 ·
  skip
  refine WC.seqRegion fun K3 hK3 => ?_
  refine WL.yld (by decide) (Yld.move rfl) ?_
  refine WL.yld (by decide) (Yld.lenD (rs := rs00) (xs := x00) (Rels.len hq00) und_35 rfl (RdH.memM (k := 0) rfl hf00)) ?_
  refine WL.yld (by decide) (Yld.move rfl) ?_
  refine WL.done (hK3 _ _ ?_)
  refine WC.block ?_
  refine WC.loop (σ := Nat × Int) (fun ⟨q5, x4⟩ => [(0, .slice A00 n00 c00), (5, I64 (x00.length : Int)), (6, I64 x4)]) (fun ⟨q5, x4⟩ => [(0, .mem M0)]) (fun ⟨q5, x4⟩ => m_law04_light_l1 x00 q5 x4 = some res) (fun ⟨q5, x4⟩ => q5) ⟨forever, (0 : Int)⟩ ?_ (Sub.cons rfl (Sub.cons rfl (Sub.cons rfl (Sub.nil _)))) (Sub.cons rfl (Sub.nil _)) ?_
  ·
   exact h
  rintro ⟨q5, x4⟩ h K6 hK6
  cases q5 with
  | zero => exact absurd h (by simp [m_law04_light_l1])
  | succ q5 =>
   unfold m_law04_light_l1 at h
   refine WC.seqRegion fun K7 hK7 => ?_
   refine WL.yld (by decide) (Yld.lss rfl rfl) ?_
   refine WL.done (hK7 _ _ ?_)
   refine WC.seq fun K8 hK8 => ?_
   by_cases hc9 : x4 < (x00.length : Int)
   ·
    replace h := of_t hc9 h
    refine WC.condTe rfl (decide_eq_true hc9) ?_
    refine WC.skip ?_
    refine QK.thenN (hK8 _ _ ?_)
    refine WC.seq fun K10 hK10 => ?_
    refine WC.block ?_
    refine WC.seqRegion fun K11 hK11 => ?_
    refine WL.yld (by decide) (Yld.move rfl) ?_
    refine WL.yld (by decide) (Yld.assign rfl) ?_
    refine WL.done (hK11 _ _ ?_)
    refine WC.seqRegion fun K12 hK12 => ?_
    obtain ⟨x13, hx13, h⟩ := bnd h
    refine WL.yld (by decide) (Yld.move rfl) ?_
    refine WL.yld (by decide) (Yld.move rfl) ?_
    obtain ⟨r_14, hr15, hq16⟩ := Rels.idx hq00 hx13
    refine WL.yld (by decide) (Yld.idxC (xs := rs00) sty_35 rfl rfl (RdH.memM (k := 0) rfl hf00) hr15) ?_
    refine WL.yld (by decide) (Yld.loadC0 (xs := rs00) scal_22 rfl (RdH.memM (k := 0) rfl hf00) hr15 rfl) ?_
    refine WL.yld (by decide) (Yld.lenC (xs := x13) und_22 rfl (RdH.memM (k := 0) rfl hq16)) ?_
    refine WL.yld (by decide) (Yld.gtr rfl rfl) ?_
    refine WL.done (hK12 _ _ ?_)
    by_cases hc17 : (200 : Int) < (x13.length : Int)
    ·
     replace h := of_t hc17 h
     refine WC.condTe rfl (decide_eq_true hc17) ?_
     refine WC.seqRegion fun K18 hK18 => ?_
     refine WL.yld (by decide) (Yld.assign rfl) ?_
     refine WL.done (hK18 _ _ ?_)
     refine WC.ret (QK.blockR (QK.thenR (QK.thenR (QK.blockR (QK.thenR ?_)))))
     injection h with h; subst h
     exact Ret.fn [] (ResIs.one rfl rfl) rfl (Ext.refl _ _) rfl (by decide) rfl rfl ⟨rfl, rfl⟩
    ·
     replace h := of_f hc17 h
     refine WC.condFe rfl (decide_eq_false hc17) ?_
     refine WC.skip ?_
     refine QK.blockN ?_
     refine QK.thenN (hK10 _ _ ?_)
     refine WC.region fun K19 hK19 => ?_
     obtain ⟨x20, hx20, h⟩ := bnd h
     refine WL.yld (by decide) (Yld.addC rfl rfl hx20) ?_
     refine WL.yld (by decide) (Yld.move rfl) ?_
     refine WL.done (hK19 _ _ ?_)
     refine QK.thenN ?_
     refine hK6 ⟨q5, x20⟩ _ _ ?_ (Nat.lt_succ_self _) (Sub.cons rfl (Sub.cons rfl (Sub.cons rfl (Sub.nil _)))) (Sub.cons rfl (Sub.nil _))
     exact h
   ·
    replace h := of_f hc9 h
    refine WC.condFe rfl (decide_eq_false hc9) ?_
    refine WC.exit (QK.thenE (QK.thenE (QK.blockX ?_)))
    refine QK.thenN ?_
    refine hK2 () _ _ ?_ (Sub.cons rfl (Sub.nil _)) (Sub.cons rfl (Sub.nil _))
    exact h
 ·
  rintro _ h
  unfold m_law04_light_j0 at h
  refine WC.seqRegion fun K21 hK21 => ?_
  refine WL.yld (by decide) (Yld.move rfl) ?_
  refine WL.yld (by decide) (Yld.lenD (rs := rs00) (xs := x00) (Rels.len hq00) und_35 rfl (RdH.memM (k := 0) rfl hf00)) ?_
  refine WL.yld (by decide) (Yld.leq rfl rfl) ?_
  refine WL.yld (by decide) (Yld.assign rfl) ?_
  refine WL.done (hK21 _ _ ?_)
  refine WC.ret ?_
  injection h with h; subst h
  exact Ret.fn [] (ResIs.one rfl rfl) rfl (Ext.refl _ _) rfl (by decide) rfl rfl ⟨rfl, rfl⟩

end Go.Proofs.Ytnbcphofimicdaa
