/-
  Walks (e8): what a function's model gives, the function returns. Printed by a program of ours (vcm.py) from the function's operations. Conditions: as each theorem says.
-/
import Derived.Test.YtnkahhipochakaaWkc
import Derived.Test.YtnkahhipochakaaWkd
import Derived.Test.YtnkahhipochakaaMde8
namespace Go.Proofs.Ytnkahhipochakaa
open Go Go.RowKit
set_option linter.unusedVariables false

theorem nm_13 : (Try.f13.name == "runtime.NumGoroutine") = false := by kernel_rfl
theorem nm_24 : (Try.f24.name == "runtime.NumGoroutine") = false := by kernel_rfl
theorem nm_28 : (Try.f28.name == "runtime.NumGoroutine") = false := by kernel_rfl
theorem nm_30 : (Try.f30.name == "runtime.NumGoroutine") = false := by kernel_rfl

set_option maxRecDepth 10000 in
theorem w_law03_GfmatrixComposes (M0 : Mem) (x00 : Int) (x01 : Int) (x02 : Int) (A03 : Option Addr) (n03 c03 : Nat) (x03 : List (BitVec 8)) (hf03 : SlT M0 A03 n03 c03 x03) (A04 : Option Addr) (n04 c04 : Nat) (x04 : List (BitVec 8)) (hf04 : SlT M0 A04 n04 c04 x04) (A05 : Option Addr) (n05 c05 : Nat) (rs05 : List Hdr) (x05 : List (List (BitVec 8))) (hf05 : SlT M0 A05 n05 c05 rs05) (hq05 : Rels ((RelB (α := BitVec 8)) M0) rs05 x05) {res : Bool} (h : m_law03_GfmatrixComposes x00 x01 x02 x03 x04 x05 = some res) :
    Fn Try.prog 10 #[I64 x00, I64 x01, I64 x02, .slice A03 n03 c03, .slice A04 n04 c04, .slice A05 n05 c05] M0 fun r M' es => r = .bool res ∧ es = [] := by
  refine Fn.intro (N := 103) Try.func10 rfl rfl (Nat.le_of_ble_eq_true rfl) fun w0 => ?_
  unfold m_law03_GfmatrixComposes at h
  refine WC.seqRegion fun K1 hK1 => ?_
  refine WL.yld (by decide) (Yld.assign rfl) ?_
  refine WL.done (hK1 _ _ ?_)
  refine WC.seqRegion fun K2 hK2 => ?_
  obtain ⟨x3, hx3, h⟩ := bnd h
  refine WL.yld (by decide) (Yld.move rfl) ?_
  refine WL.yld (by decide) (Yld.move rfl) ?_
  refine WL.yld (by decide) (Yld.move rfl) ?_
  refine WL.eff (by decide) (Eff.callS 107 rfl Try.func24 nm_24 rfl rfl (fun w hb hh => w_law03_made (Mem.snap w) x00 x01 A03 n03 c03 _ (RdH.sn (RdH.memM (k := 0) rfl hf03) w hb hh) hx3)) ?_
  rintro _ _ ⟨_, ⟨A8, n9, c10, rfl, rfl⟩, rfl⟩
  refine WL.eff (by decide) (Eff.alloc 111 rfl zr_27) ?_
  rintro _ _ ⟨g11, rfl, rfl⟩
  refine WL.eff0 (Eff0.storeBAM 111 agg_27 rfl rfl rfl ⟨rfl, rfl⟩ rfl) ?_
  refine WL.done (hK2 _ _ ?_)
  refine WC.seqRegion fun K12 hK12 => ?_
  obtain ⟨x13, hx13, h⟩ := bnd h
  obtain ⟨x14, hx14, h⟩ := bnd h
  refine WL.yld (by decide) (Yld.fieldAddr Try.underlying27 rfl nz_3 rfl rfl) ?_
  refine WL.yld (by decide) (Yld.loadB (k := 111) scal_3 rfl rfl rfl) ?_
  refine WL.yld (by decide) (Yld.subC rfl rfl hx13) ?_
  refine WL.yld (by decide) (Yld.move rfl) ?_
  refine WL.yld (by decide) (Yld.move rfl) ?_
  refine WL.eff (by decide) (Eff.callS 118 rfl Try.func24 nm_24 rfl rfl (fun w hb hh => w_law03_made (Mem.snap w) x13 x02 A04 n04 c04 _ (RdH.sn (RdH.memM (k := 0) rfl hf04) w hb hh) hx14)) ?_
  rintro _ _ ⟨_, ⟨A19, n20, c21, rfl, rfl⟩, rfl⟩
  refine WL.eff (by decide) (Eff.alloc 122 rfl zr_27) ?_
  rintro _ _ ⟨g22, rfl, rfl⟩
  refine WL.eff0 (Eff0.storeBAM 122 agg_27 rfl rfl rfl ⟨rfl, rfl⟩ rfl) ?_
  refine WL.done (hK12 _ _ ?_)
  refine WC.seqRegion fun K23 hK23 => ?_
  refine WL.yld (by decide) (Yld.assign rfl) ?_
  refine WL.done (hK23 _ _ ?_)
  refine WC.seqCut (σ := Mem × (Option Addr) × Nat × Nat × (List (List (BitVec 8))) × (List Hdr)) (fun ⟨M24, A27, n28, c29, x30, rs31⟩ => [(13, .pointer (some ⟨g11, 0, none⟩)), (14, .pointer (some ⟨g22, 0, none⟩)), (15, .slice A27 n28 c29)]) (fun ⟨M24, A27, n28, c29, x30, rs31⟩ => [(0, .mem M24), (107, .own 5 (Lay.sz (BitVec 8)) A8 n9 c10 (cel x3.2.2)), (111, .blk g11 27 [I64 x3.1, I64 x3.2.1, .slice A8 n9 c10]), (118, .own 5 (Lay.sz (BitVec 8)) A19 n20 c21 (cel x14.2.2)), (122, .blk g22 27 [I64 x14.1, I64 x14.2.1, .slice A19 n20 c21]), (126, .own 22 (Lay.sz Hdr) A27 n28 c29 (cel rs31))]) (fun ⟨M24, A27, n28, c29, x30, rs31⟩ => m_law03_GfmatrixComposes_j0 x3 x14 x30 = some res ∧ Ext w0.heap.size M0 M24 ∧ Rels ((RelB (α := BitVec 8)) M24) rs31 x30) (fun K33 hK33 => ?_) ?_
  · skip
    refine WC.seqRegion fun K34 hK34 => ?_
    refine WL.yld (by decide) (Yld.assign rfl) ?_
    refine WL.done (hK34 _ _ ?_)
    refine WC.block ?_
    refine WC.nilOwn 137 22 (Lay.sz Hdr) none ?_
    refine WC.loop (σ := Nat × Mem × (Option Addr) × Nat × Nat × (List (List (BitVec 8))) × (List Hdr) × Int) (fun ⟨q45, M35, A38, n39, c40, x41, rs42, x44⟩ => [(5, .slice A05 n05 c05), (13, .pointer (some ⟨g11, 0, none⟩)), (14, .pointer (some ⟨g22, 0, none⟩)), (15, .slice A38 n39 c40), (16, I64 x44)]) (fun ⟨q45, M35, A38, n39, c40, x41, rs42, x44⟩ => [(0, .mem M35), (107, .own 5 (Lay.sz (BitVec 8)) A8 n9 c10 (cel x3.2.2)), (111, .blk g11 27 [I64 x3.1, I64 x3.2.1, .slice A8 n9 c10]), (118, .own 5 (Lay.sz (BitVec 8)) A19 n20 c21 (cel x14.2.2)), (122, .blk g22 27 [I64 x14.1, I64 x14.2.1, .slice A19 n20 c21]), (137, .own 22 (Lay.sz Hdr) A38 n39 c40 (cel rs42))]) (fun ⟨q45, M35, A38, n39, c40, x41, rs42, x44⟩ => m_law03_GfmatrixComposes_l1 x05 x3 x14 q45 x41 x44 = some res ∧ Ext w0.heap.size M0 M35 ∧ Rels ((RelB (α := BitVec 8)) M35) rs42 x41) (fun ⟨q45, M35, A38, n39, c40, x41, rs42, x44⟩ => q45) ⟨forever, M0, none, 0, 0, ([] : List (List (BitVec 8))), ([] : List Hdr), (0 : Int)⟩ ?_ (Sub.cons rfl (Sub.cons rfl (Sub.cons rfl (Sub.cons rfl (Sub.cons rfl (Sub.nil _)))))) (Sub.cons rfl (Sub.cons rfl (Sub.cons rfl (Sub.cons rfl (Sub.cons rfl (Sub.cons rfl (Sub.nil _))))))) ?_
    · exact ⟨h, (Ext.refl _ _), (Rels.nil (R := (RelB (α := BitVec 8)) M0))⟩
    rintro ⟨q45, M35, A38, n39, c40, x41, rs42, x44⟩ ⟨h, hm_M35, hq43⟩ K46 hK46
    cases q45 with
    | zero => exact absurd h (by simp [m_law03_GfmatrixComposes_l1])
    | succ q45 =>
      unfold m_law03_GfmatrixComposes_l1 at h
      refine WC.seq fun K47 hK47 => ?_
      refine WC.seqRegion fun K48 hK48 => ?_
      refine WL.yld (by decide) (Yld.move rfl) ?_
      refine WL.yld (by decide) (Yld.fieldAddr Try.underlying27 rfl nz_3 rfl rfl) ?_
      refine WL.yld (by decide) (Yld.loadB (k := 122) scal_3 rfl rfl rfl) ?_
      refine WL.yld (by decide) (Yld.lss rfl rfl) ?_
      refine WL.done (hK48 _ _ ?_)
      by_cases hc49 : x44 < x14.2.1
      · replace h := of_t hc49 h
        refine WC.condTe rfl (decide_eq_true hc49) ?_
        refine WC.skip ?_
        refine QK.thenN (hK47 _ _ ?_)
        refine WC.seq fun K50 hK50 => ?_
        refine WC.block ?_
        refine WC.seqRegion fun K51 hK51 => ?_
        obtain ⟨x53, hx53, h⟩ := bnd h
        refine WL.eff (by decide) (Eff.makeC 152 0#8 sty_22 rfl rfl rfl rfl rfl rfl hx53) ?_
        rintro _ _ ⟨g52, rfl, rfl⟩
        refine WL.yld (by decide) (Yld.assign rfl) ?_
        refine WL.done (hK51 _ _ ?_)
        refine WC.seq fun K54 hK54 => ?_
        refine WC.seqRegion fun K55 hK55 => ?_
        refine WL.yld (by decide) (Yld.move rfl) ?_
        refine WL.yld (by decide) (Yld.move rfl) ?_
        refine WL.yld (by decide) (Yld.lenD (rs := rs05) (xs := x05) (Rels.len (Rels.lift hq05 hm_M35)) und_44 rfl (RdH.memM (k := 0) rfl (SlRc.lift hf05 hm_M35))) ?_
        refine WL.yld (by decide) (Yld.lss rfl rfl) ?_
        refine WL.done (hK55 _ _ ?_)
        by_cases hc56 : x44 < (x05.length : Int)
        · replace h := of_t hc56 h
          refine WC.condTe rfl (decide_eq_true hc56) ?_
          refine WC.region fun K57 hK57 => ?_
          obtain ⟨x58, hx58, h⟩ := bnd h
          obtain ⟨x62, hx62, h⟩ := bnd h
          refine WL.yld (by decide) (Yld.move rfl) ?_
          refine WL.yld (by decide) (Yld.move rfl) ?_
          refine WL.yld (by decide) (Yld.move rfl) ?_
          obtain ⟨r_59, hr60, hq61⟩ := Rels.idx (Rels.lift hq05 hm_M35) hx58
          refine WL.yld (by decide) (Yld.idxC (xs := rs05) sty_44 rfl rfl (RdH.memM (k := 0) rfl (SlRc.lift hf05 hm_M35)) hr60) ?_
          refine WL.yld (by decide) (Yld.loadC0 (xs := rs05) scal_22 rfl (RdH.memM (k := 0) rfl (SlRc.lift hf05 hm_M35)) hr60 rfl) ?_
          refine WL.eff (by decide) (Eff.copyC 152 (xs := x53) (ys := x58) sty_22 rfl rfl rfl rfl (RdH.memM (k := 0) rfl hq61) hx62) ?_
          rintro _ _ ⟨rfl, rfl⟩
          refine WL.done (hK57 _ _ ?_)
          refine QK.thenN (hK54 _ _ ?_)
          refine WC.region fun K63 hK63 => ?_
          obtain ⟨x68, hx68, h⟩ := bnd h
          refine WL.yld (by decide) (Yld.move rfl) ?_
          refine WL.yld (by decide) (Yld.move rfl) ?_
          refine WL.freeze 152 rfl rfl rfl fun M65 hm_M65 hf66 => ?_
          have hq67 : Rels ((RelB (α := BitVec 8)) M65) ([(⟨(some ⟨g52, 0, none⟩), x53.length, x53.length⟩ : Hdr)] : List Hdr) ([x62] : List (List (BitVec 8))) := (Rels.cons hf66 Rels.nil)
          refine WL.eff (by decide) (Eff.buildC 164 ([(⟨(some ⟨g52, 0, none⟩), x53.length, x53.length⟩ : Hdr)] : List Hdr) sty_44 rfl rfl rfl rfl rfl (by decide)) ?_
          rintro _ _ ⟨g64, rfl, rfl⟩
          obtain ⟨hu71, hq72⟩ := Rels.apd (Rels.lift hq43 hm_M65) hq67 hx68
          refine WL.eff (by decide) (Eff.appendC 137 (xs := rs42) (ys := ([(⟨(some ⟨g52, 0, none⟩), x53.length, x53.length⟩ : Hdr)] : List Hdr)) sty_44 rfl rfl rfl (RdH.own (k := 164) rfl) hu71) ?_
          rintro _ _ ⟨A69, c70, rfl, rfl⟩
          refine WL.yld (by decide) (Yld.assign rfl) ?_
          refine WL.done (hK63 _ _ ?_)
          refine QK.blockN ?_
          refine QK.thenN (hK50 _ _ ?_)
          refine WC.region fun K73 hK73 => ?_
          obtain ⟨x74, hx74, h⟩ := bnd h
          refine WL.yld (by decide) (Yld.move rfl) ?_
          refine WL.yld (by decide) (Yld.addC rfl rfl hx74) ?_
          refine WL.yld (by decide) (Yld.assign rfl) ?_
          refine WL.done (hK73 _ _ ?_)
          refine QK.thenN ?_
          refine hK46 ⟨q45, M65, A69, (rs42 ++ ([(⟨(some ⟨g52, 0, none⟩), x53.length, x53.length⟩ : Hdr)] : List Hdr)).length, c70, x68, (rs42 ++ ([(⟨(some ⟨g52, 0, none⟩), x53.length, x53.length⟩ : Hdr)] : List Hdr)), x74⟩ _ _ ?_ (Nat.lt_succ_self _) (Sub.cons rfl (Sub.cons rfl (Sub.cons rfl (Sub.cons rfl (Sub.cons rfl (Sub.nil _)))))) (Sub.cons rfl (Sub.cons rfl (Sub.cons rfl (Sub.cons rfl (Sub.cons rfl (Sub.cons rfl (Sub.nil _)))))))
          exact ⟨h, (Ext.trans hm_M35 hm_M65), hq72⟩
        · replace h := of_f hc56 h
          refine WC.condFe rfl (decide_eq_false hc56) ?_
          refine WC.skip ?_
          refine QK.thenN (hK54 _ _ ?_)
          refine WC.region fun K75 hK75 => ?_
          obtain ⟨x80, hx80, h⟩ := bnd h
          refine WL.yld (by decide) (Yld.move rfl) ?_
          refine WL.yld (by decide) (Yld.move rfl) ?_
          refine WL.freeze 152 rfl rfl rfl fun M77 hm_M77 hf78 => ?_
          have hq79 : Rels ((RelB (α := BitVec 8)) M77) ([(⟨(some ⟨g52, 0, none⟩), x53.length, x53.length⟩ : Hdr)] : List Hdr) ([x53] : List (List (BitVec 8))) := (Rels.cons hf78 Rels.nil)
          refine WL.eff (by decide) (Eff.buildC 176 ([(⟨(some ⟨g52, 0, none⟩), x53.length, x53.length⟩ : Hdr)] : List Hdr) sty_44 rfl rfl rfl rfl rfl (by decide)) ?_
          rintro _ _ ⟨g76, rfl, rfl⟩
          obtain ⟨hu83, hq84⟩ := Rels.apd (Rels.lift hq43 hm_M77) hq79 hx80
          refine WL.eff (by decide) (Eff.appendC 137 (xs := rs42) (ys := ([(⟨(some ⟨g52, 0, none⟩), x53.length, x53.length⟩ : Hdr)] : List Hdr)) sty_44 rfl rfl rfl (RdH.own (k := 176) rfl) hu83) ?_
          rintro _ _ ⟨A81, c82, rfl, rfl⟩
          refine WL.yld (by decide) (Yld.assign rfl) ?_
          refine WL.done (hK75 _ _ ?_)
          refine QK.blockN ?_
          refine QK.thenN (hK50 _ _ ?_)
          refine WC.region fun K85 hK85 => ?_
          obtain ⟨x86, hx86, h⟩ := bnd h
          refine WL.yld (by decide) (Yld.move rfl) ?_
          refine WL.yld (by decide) (Yld.addC rfl rfl hx86) ?_
          refine WL.yld (by decide) (Yld.assign rfl) ?_
          refine WL.done (hK85 _ _ ?_)
          refine QK.thenN ?_
          refine hK46 ⟨q45, M77, A81, (rs42 ++ ([(⟨(some ⟨g52, 0, none⟩), x53.length, x53.length⟩ : Hdr)] : List Hdr)).length, c82, x80, (rs42 ++ ([(⟨(some ⟨g52, 0, none⟩), x53.length, x53.length⟩ : Hdr)] : List Hdr)), x86⟩ _ _ ?_ (Nat.lt_succ_self _) (Sub.cons rfl (Sub.cons rfl (Sub.cons rfl (Sub.cons rfl (Sub.cons rfl (Sub.nil _)))))) (Sub.cons rfl (Sub.cons rfl (Sub.cons rfl (Sub.cons rfl (Sub.cons rfl (Sub.cons rfl (Sub.nil _)))))))
          exact ⟨h, (Ext.trans hm_M35 hm_M77), hq84⟩
      · replace h := of_f hc49 h
        refine WC.condFe rfl (decide_eq_false hc49) ?_
        refine WC.exit (QK.thenE (QK.thenE (QK.blockX ?_)))
        refine QK.thenN ?_
        refine KK.move 137 126 rfl rfl ?_
        refine hK33 ⟨M35, A38, n39, c40, x41, rs42⟩ _ _ ?_ (Sub.cons rfl (Sub.cons rfl (Sub.cons rfl (Sub.nil _)))) (Sub.cons rfl (Sub.cons rfl (Sub.cons rfl (Sub.cons rfl (Sub.cons rfl (Sub.cons rfl (Sub.nil _)))))))
        exact ⟨h, hm_M35, hq43⟩
  · rintro ⟨M24, A27, n28, c29, x30, rs31⟩ ⟨h, hm_M24, hq32⟩
    unfold m_law03_GfmatrixComposes_j0 at h
    refine WC.seqRegion fun K87 hK87 => ?_
    obtain ⟨x88, hx88, h⟩ := bnd h
    refine WL.yld (by decide) (Yld.loadBM (k := 111) agg_27 rfl rfl rfl) ?_
    refine WL.yld (by decide) (Yld.loadBM (k := 122) agg_27 rfl rfl rfl) ?_
    refine WL.eff (by decide) (Eff.callS 192 rfl Try.func30 nm_30 rfl rfl (fun w hb hh => w_gfmatrix_Mul (Mem.snap w) x3.1 x3.2.1 A8 n9 c10 _ (RdH.sn (RdH.own (k := 107) rfl) w hb hh) x14.1 x14.2.1 A19 n20 c21 _ (RdH.sn (RdH.own (k := 118) rfl) w hb hh) hx88)) ?_
    rintro _ _ ⟨_, ⟨A93, n94, c95, rfl, rfl⟩, rfl⟩
    refine WL.yld (by decide) (Yld.move rfl) ?_
    refine WL.yld (by decide) (Yld.extract rfl rfl) ?_
    refine WL.yld (by decide) (Yld.extract rfl rfl) ?_
    refine WL.eff (by decide) (Eff.alloc 196 rfl zr_27) ?_
    rintro _ _ ⟨g96, rfl, rfl⟩
    refine WL.eff0 (Eff0.storeBAM 196 agg_27 rfl rfl rfl ⟨rfl, rfl⟩ rfl) ?_
    refine WL.yld (by decide) (Yld.assign rfl) ?_
    refine WL.done (hK87 _ _ ?_)
    refine WC.seqRegion fun K97 hK97 => ?_
    obtain ⟨x98, hx98, h⟩ := bnd h
    refine WL.yld (by decide) (Yld.loadBM (k := 196) agg_27 rfl rfl rfl) ?_
    refine WL.yld (by decide) (Yld.move rfl) ?_
    refine WL.freeze 192 rfl rfl rfl fun M110 hm_M110 hf111 => ?_
    refine WL.freeze 126 rfl rfl rfl fun M112 hm_M112 hf113 => ?_
    refine WL.eff (by decide) (Eff.callM 204 rfl Try.func26 nm_26 rfl rfl rfl (w_gfmatrix_Apply _ x88.1 x88.2.1 A93 n94 c95 _ (SlRc.lift hf111 hm_M112) A27 n28 c29 rs31 _ hf113 (Rels.lift (Rels.lift hq32 hm_M110) hm_M112) hx98)) ?_
    rintro _ _ ⟨M114, _, ⟨A115, n116, c117, rs118, rfl, rfl, hq119⟩, hm_M114, rfl⟩
    refine WL.yld (by decide) (Yld.move rfl) ?_
    refine WL.yld (by decide) (Yld.extract rfl rfl) ?_
    refine WL.yld (by decide) (Yld.extract rfl rfl) ?_
    refine WL.yld (by decide) (Yld.assign rfl) ?_
    refine WL.yld (by decide) (Yld.assign rfl) ?_
    refine WL.done (hK97 _ _ ?_)
    refine WC.seqRegion fun K120 hK120 => ?_
    obtain ⟨x121, hx121, h⟩ := bnd h
    refine WL.yld (by decide) (Yld.loadBM (k := 122) agg_27 rfl rfl rfl) ?_
    refine WL.yld (by decide) (Yld.move rfl) ?_
    refine WL.freeze 118 rfl rfl rfl fun M133 hm_M133 hf134 => ?_
    refine WL.eff (by decide) (Eff.callM 227 rfl Try.func26 nm_26 rfl rfl rfl (w_gfmatrix_Apply _ x14.1 x14.2.1 A19 n20 c21 _ hf134 A27 n28 c29 rs31 _ (SlRc.lift (SlRc.lift hf113 hm_M114) hm_M133) (Rels.lift (Rels.lift (Rels.lift (Rels.lift hq32 hm_M110) hm_M112) hm_M114) hm_M133) hx121)) ?_
    rintro _ _ ⟨M135, _, ⟨A136, n137, c138, rs139, rfl, rfl, hq140⟩, hm_M135, rfl⟩
    refine WL.yld (by decide) (Yld.move rfl) ?_
    refine WL.yld (by decide) (Yld.extract rfl rfl) ?_
    refine WL.yld (by decide) (Yld.extract rfl rfl) ?_
    refine WL.yld (by decide) (Yld.assign rfl) ?_
    refine WL.yld (by decide) (Yld.assign rfl) ?_
    refine WL.done (hK120 _ _ ?_)
    refine WC.seqRegion fun K141 hK141 => ?_
    obtain ⟨x142, hx142, h⟩ := bnd h
    refine WL.yld (by decide) (Yld.loadBM (k := 111) agg_27 rfl rfl rfl) ?_
    refine WL.yld (by decide) (Yld.move rfl) ?_
    refine WL.freeze 107 rfl rfl rfl fun M154 hm_M154 hf155 => ?_
    refine WL.freeze 227 rfl rfl rfl fun M156 hm_M156 hf157 => ?_
    refine WL.eff (by decide) (Eff.callM 248 rfl Try.func26 nm_26 rfl rfl rfl (w_gfmatrix_Apply _ x3.1 x3.2.1 A8 n9 c10 _ (SlRc.lift hf155 hm_M156) A136 n137 c138 rs139 _ hf157 (Rels.lift (Rels.lift hq140 hm_M154) hm_M156) hx142)) ?_
    rintro _ _ ⟨M158, _, ⟨A159, n160, c161, rs162, rfl, rfl, hq163⟩, hm_M158, rfl⟩
    refine WL.yld (by decide) (Yld.move rfl) ?_
    refine WL.yld (by decide) (Yld.extract rfl rfl) ?_
    refine WL.yld (by decide) (Yld.extract rfl rfl) ?_
    refine WL.yld (by decide) (Yld.assign rfl) ?_
    refine WL.yld (by decide) (Yld.assign rfl) ?_
    refine WL.done (hK141 _ _ ?_)
    refine WC.seqRegion fun K164 hK164 => ?_
    by_cases hc165 : x88.2.2.2 = (0 : Int)
    · replace h := of_t hc165 h
      by_cases hc166 : x98.2 = (0 : Int)
      · replace h := of_t hc166 h
        by_cases hc167 : x121.2 = (0 : Int)
        · replace h := of_t hc167 h
          by_cases hc168 : x142.2 = (0 : Int)
          · replace h := of_t hc168 h
            obtain ⟨x169, hx169, h⟩ := bnd h
            by_cases hc171 : x169 = true
            · replace h := of_t hc171 h
              obtain ⟨x172, hx172, h⟩ := bnd h
              refine WL.yld (by decide) (Yld.move rfl) ?_
              refine WL.yld (by decide) (Yld.eqlI rfl rfl) ?_
              refine WL.yld (by decide) (Yld.move rfl) ?_
              refine WL.new (v' := .bool true) (congrArg Value.bool (beq_iff_eq.2 hc165)) ?_
              refine WL.yldG (by decide) rfl (Yld.move rfl) ?_
              refine WL.yldG (by decide) rfl (Yld.eqlI rfl rfl) ?_
              refine WL.yld (by decide) (Yld.pickT rfl rfl) ?_
              refine WL.yld (by decide) (Yld.move rfl) ?_
              refine WL.new (v' := .bool true) (congrArg Value.bool (beq_iff_eq.2 hc166)) ?_
              refine WL.yldG (by decide) rfl (Yld.move rfl) ?_
              refine WL.yldG (by decide) rfl (Yld.eqlI rfl rfl) ?_
              refine WL.yld (by decide) (Yld.pickT rfl rfl) ?_
              refine WL.yld (by decide) (Yld.move rfl) ?_
              refine WL.new (v' := .bool true) (congrArg Value.bool (beq_iff_eq.2 hc167)) ?_
              refine WL.yldG (by decide) rfl (Yld.move rfl) ?_
              refine WL.yldG (by decide) rfl (Yld.eqlI rfl rfl) ?_
              refine WL.yld (by decide) (Yld.pickT rfl rfl) ?_
              refine WL.yld (by decide) (Yld.move rfl) ?_
              refine WL.new (v' := .bool true) (congrArg Value.bool (beq_iff_eq.2 hc168)) ?_
              refine WL.yldG (by decide) rfl (Yld.move rfl) ?_
              refine WL.yldG (by decide) rfl (Yld.move rfl) ?_
              refine WL.effG (by decide) rfl (Eff.callS 270 rfl Try.func28 nm_28 rfl rfl (fun w hb hh => w_r03_SameRows (Mem.snap w) A115 n116 c117 rs118 _ (RdH.sn (RdH.own (k := 204) rfl) w hb hh) (Rels.sn (Rels.lift (Rels.lift (Rels.lift (Rels.lift (Rels.lift hq119 hm_M133) hm_M135) hm_M154) hm_M156) hm_M158) (hh.sat 0 _ rfl)) A159 n160 c161 rs162 _ (RdH.sn (RdH.own (k := 248) rfl) w hb hh) (Rels.sn hq163 (hh.sat 0 _ rfl)) hx169)) ?_
              rintro _ _ ⟨_, ⟨rfl, rfl⟩, rfl⟩
              refine WL.yld (by decide) (Yld.pickT rfl rfl) ?_
              refine WL.yld (by decide) (Yld.move rfl) ?_
              refine WL.new (v' := .bool true) (congrArg Value.bool hc171) ?_
              refine WL.effG (by decide) rfl (Eff.callS 273 rfl Try.func13 nm_13 rfl rfl (fun w hb hh => w_law03_awake (Mem.snap w) hx172)) ?_
              rintro _ _ ⟨_, ⟨rfl, rfl⟩, rfl⟩
              refine WL.yld (by decide) (Yld.pickT rfl rfl) ?_
              refine WL.yld (by decide) (Yld.assign rfl) ?_
              refine WL.done (hK164 _ _ ?_)
              refine WC.ret ?_
              injection h with h; subst h
              exact Ret.fn [] (ResIs.one rfl rfl) rfl (Ext.trans (Ext.trans (Ext.trans (Ext.trans (Ext.trans (Ext.trans (Ext.trans (Ext.trans hm_M24 hm_M110) hm_M112) hm_M114) hm_M133) hm_M135) hm_M154) hm_M156) hm_M158) rfl (by decide) rfl rfl ⟨rfl, rfl⟩
            · replace h := of_f hc171 h
              refine WL.yld (by decide) (Yld.move rfl) ?_
              refine WL.yld (by decide) (Yld.eqlI rfl rfl) ?_
              refine WL.yld (by decide) (Yld.move rfl) ?_
              refine WL.new (v' := .bool true) (congrArg Value.bool (beq_iff_eq.2 hc165)) ?_
              refine WL.yldG (by decide) rfl (Yld.move rfl) ?_
              refine WL.yldG (by decide) rfl (Yld.eqlI rfl rfl) ?_
              refine WL.yld (by decide) (Yld.pickT rfl rfl) ?_
              refine WL.yld (by decide) (Yld.move rfl) ?_
              refine WL.new (v' := .bool true) (congrArg Value.bool (beq_iff_eq.2 hc166)) ?_
              refine WL.yldG (by decide) rfl (Yld.move rfl) ?_
              refine WL.yldG (by decide) rfl (Yld.eqlI rfl rfl) ?_
              refine WL.yld (by decide) (Yld.pickT rfl rfl) ?_
              refine WL.yld (by decide) (Yld.move rfl) ?_
              refine WL.new (v' := .bool true) (congrArg Value.bool (beq_iff_eq.2 hc167)) ?_
              refine WL.yldG (by decide) rfl (Yld.move rfl) ?_
              refine WL.yldG (by decide) rfl (Yld.eqlI rfl rfl) ?_
              refine WL.yld (by decide) (Yld.pickT rfl rfl) ?_
              refine WL.yld (by decide) (Yld.move rfl) ?_
              refine WL.new (v' := .bool true) (congrArg Value.bool (beq_iff_eq.2 hc168)) ?_
              refine WL.yldG (by decide) rfl (Yld.move rfl) ?_
              refine WL.yldG (by decide) rfl (Yld.move rfl) ?_
              refine WL.effG (by decide) rfl (Eff.callS 270 rfl Try.func28 nm_28 rfl rfl (fun w hb hh => w_r03_SameRows (Mem.snap w) A115 n116 c117 rs118 _ (RdH.sn (RdH.own (k := 204) rfl) w hb hh) (Rels.sn (Rels.lift (Rels.lift (Rels.lift (Rels.lift (Rels.lift hq119 hm_M133) hm_M135) hm_M154) hm_M156) hm_M158) (hh.sat 0 _ rfl)) A159 n160 c161 rs162 _ (RdH.sn (RdH.own (k := 248) rfl) w hb hh) (Rels.sn hq163 (hh.sat 0 _ rfl)) hx169)) ?_
              rintro _ _ ⟨_, ⟨rfl, rfl⟩, rfl⟩
              refine WL.yld (by decide) (Yld.pickT rfl rfl) ?_
              refine WL.yld (by decide) (Yld.move rfl) ?_
              refine WL.new (v' := .bool false) (congrArg Value.bool (Bool.eq_false_iff.2 hc171)) ?_
              refine WL.skip (by decide) rfl rfl ?_
              refine WL.yld (by decide) (Yld.pickF rfl rfl) ?_
              refine WL.yld (by decide) (Yld.assign rfl) ?_
              refine WL.done (hK164 _ _ ?_)
              refine WC.ret ?_
              injection h with h; subst h
              exact Ret.fn [] (ResIs.one rfl rfl) rfl (Ext.trans (Ext.trans (Ext.trans (Ext.trans (Ext.trans (Ext.trans (Ext.trans (Ext.trans hm_M24 hm_M110) hm_M112) hm_M114) hm_M133) hm_M135) hm_M154) hm_M156) hm_M158) rfl (by decide) rfl rfl ⟨rfl, rfl⟩
          · replace h := of_f hc168 h
            refine WL.yld (by decide) (Yld.move rfl) ?_
            refine WL.yld (by decide) (Yld.eqlI rfl rfl) ?_
            refine WL.yld (by decide) (Yld.move rfl) ?_
            refine WL.new (v' := .bool true) (congrArg Value.bool (beq_iff_eq.2 hc165)) ?_
            refine WL.yldG (by decide) rfl (Yld.move rfl) ?_
            refine WL.yldG (by decide) rfl (Yld.eqlI rfl rfl) ?_
            refine WL.yld (by decide) (Yld.pickT rfl rfl) ?_
            refine WL.yld (by decide) (Yld.move rfl) ?_
            refine WL.new (v' := .bool true) (congrArg Value.bool (beq_iff_eq.2 hc166)) ?_
            refine WL.yldG (by decide) rfl (Yld.move rfl) ?_
            refine WL.yldG (by decide) rfl (Yld.eqlI rfl rfl) ?_
            refine WL.yld (by decide) (Yld.pickT rfl rfl) ?_
            refine WL.yld (by decide) (Yld.move rfl) ?_
            refine WL.new (v' := .bool true) (congrArg Value.bool (beq_iff_eq.2 hc167)) ?_
            refine WL.yldG (by decide) rfl (Yld.move rfl) ?_
            refine WL.yldG (by decide) rfl (Yld.eqlI rfl rfl) ?_
            refine WL.yld (by decide) (Yld.pickT rfl rfl) ?_
            refine WL.yld (by decide) (Yld.move rfl) ?_
            refine WL.new (v' := .bool false) (congrArg Value.bool (beq_eq_false_iff_ne.2 hc168)) ?_
            refine WL.skip (by decide) rfl rfl ?_
            refine WL.skip (by decide) rfl rfl ?_
            refine WL.skip (by decide) rfl rfl ?_
            refine WL.yld (by decide) (Yld.pickF rfl rfl) ?_
            refine WL.yld (by decide) (Yld.move rfl) ?_
            refine WL.skip (by decide) rfl rfl ?_
            refine WL.yld (by decide) (Yld.pickF rfl rfl) ?_
            refine WL.yld (by decide) (Yld.assign rfl) ?_
            refine WL.done (hK164 _ _ ?_)
            refine WC.ret ?_
            injection h with h; subst h
            exact Ret.fn [] (ResIs.one rfl rfl) rfl (Ext.trans (Ext.trans (Ext.trans (Ext.trans (Ext.trans (Ext.trans (Ext.trans (Ext.trans hm_M24 hm_M110) hm_M112) hm_M114) hm_M133) hm_M135) hm_M154) hm_M156) hm_M158) rfl (by decide) rfl rfl ⟨rfl, rfl⟩
        · replace h := of_f hc167 h
          refine WL.yld (by decide) (Yld.move rfl) ?_
          refine WL.yld (by decide) (Yld.eqlI rfl rfl) ?_
          refine WL.yld (by decide) (Yld.move rfl) ?_
          refine WL.new (v' := .bool true) (congrArg Value.bool (beq_iff_eq.2 hc165)) ?_
          refine WL.yldG (by decide) rfl (Yld.move rfl) ?_
          refine WL.yldG (by decide) rfl (Yld.eqlI rfl rfl) ?_
          refine WL.yld (by decide) (Yld.pickT rfl rfl) ?_
          refine WL.yld (by decide) (Yld.move rfl) ?_
          refine WL.new (v' := .bool true) (congrArg Value.bool (beq_iff_eq.2 hc166)) ?_
          refine WL.yldG (by decide) rfl (Yld.move rfl) ?_
          refine WL.yldG (by decide) rfl (Yld.eqlI rfl rfl) ?_
          refine WL.yld (by decide) (Yld.pickT rfl rfl) ?_
          refine WL.yld (by decide) (Yld.move rfl) ?_
          refine WL.new (v' := .bool false) (congrArg Value.bool (beq_eq_false_iff_ne.2 hc167)) ?_
          refine WL.skip (by decide) rfl rfl ?_
          refine WL.skip (by decide) rfl rfl ?_
          refine WL.yld (by decide) (Yld.pickF rfl rfl) ?_
          refine WL.yld (by decide) (Yld.move rfl) ?_
          refine WL.skip (by decide) rfl rfl ?_
          refine WL.skip (by decide) rfl rfl ?_
          refine WL.skip (by decide) rfl rfl ?_
          refine WL.yld (by decide) (Yld.pickF rfl rfl) ?_
          refine WL.yld (by decide) (Yld.move rfl) ?_
          refine WL.skip (by decide) rfl rfl ?_
          refine WL.yld (by decide) (Yld.pickF rfl rfl) ?_
          refine WL.yld (by decide) (Yld.assign rfl) ?_
          refine WL.done (hK164 _ _ ?_)
          refine WC.ret ?_
          injection h with h; subst h
          exact Ret.fn [] (ResIs.one rfl rfl) rfl (Ext.trans (Ext.trans (Ext.trans (Ext.trans (Ext.trans (Ext.trans (Ext.trans (Ext.trans hm_M24 hm_M110) hm_M112) hm_M114) hm_M133) hm_M135) hm_M154) hm_M156) hm_M158) rfl (by decide) rfl rfl ⟨rfl, rfl⟩
      · replace h := of_f hc166 h
        refine WL.yld (by decide) (Yld.move rfl) ?_
        refine WL.yld (by decide) (Yld.eqlI rfl rfl) ?_
        refine WL.yld (by decide) (Yld.move rfl) ?_
        refine WL.new (v' := .bool true) (congrArg Value.bool (beq_iff_eq.2 hc165)) ?_
        refine WL.yldG (by decide) rfl (Yld.move rfl) ?_
        refine WL.yldG (by decide) rfl (Yld.eqlI rfl rfl) ?_
        refine WL.yld (by decide) (Yld.pickT rfl rfl) ?_
        refine WL.yld (by decide) (Yld.move rfl) ?_
        refine WL.new (v' := .bool false) (congrArg Value.bool (beq_eq_false_iff_ne.2 hc166)) ?_
        refine WL.skip (by decide) rfl rfl ?_
        refine WL.skip (by decide) rfl rfl ?_
        refine WL.yld (by decide) (Yld.pickF rfl rfl) ?_
        refine WL.yld (by decide) (Yld.move rfl) ?_
        refine WL.skip (by decide) rfl rfl ?_
        refine WL.skip (by decide) rfl rfl ?_
        refine WL.yld (by decide) (Yld.pickF rfl rfl) ?_
        refine WL.yld (by decide) (Yld.move rfl) ?_
        refine WL.skip (by decide) rfl rfl ?_
        refine WL.skip (by decide) rfl rfl ?_
        refine WL.skip (by decide) rfl rfl ?_
        refine WL.yld (by decide) (Yld.pickF rfl rfl) ?_
        refine WL.yld (by decide) (Yld.move rfl) ?_
        refine WL.skip (by decide) rfl rfl ?_
        refine WL.yld (by decide) (Yld.pickF rfl rfl) ?_
        refine WL.yld (by decide) (Yld.assign rfl) ?_
        refine WL.done (hK164 _ _ ?_)
        refine WC.ret ?_
        injection h with h; subst h
        exact Ret.fn [] (ResIs.one rfl rfl) rfl (Ext.trans (Ext.trans (Ext.trans (Ext.trans (Ext.trans (Ext.trans (Ext.trans (Ext.trans hm_M24 hm_M110) hm_M112) hm_M114) hm_M133) hm_M135) hm_M154) hm_M156) hm_M158) rfl (by decide) rfl rfl ⟨rfl, rfl⟩
    · replace h := of_f hc165 h
      refine WL.yld (by decide) (Yld.move rfl) ?_
      refine WL.yld (by decide) (Yld.eqlI rfl rfl) ?_
      refine WL.yld (by decide) (Yld.move rfl) ?_
      refine WL.new (v' := .bool false) (congrArg Value.bool (beq_eq_false_iff_ne.2 hc165)) ?_
      refine WL.skip (by decide) rfl rfl ?_
      refine WL.skip (by decide) rfl rfl ?_
      refine WL.yld (by decide) (Yld.pickF rfl rfl) ?_
      refine WL.yld (by decide) (Yld.move rfl) ?_
      refine WL.skip (by decide) rfl rfl ?_
      refine WL.skip (by decide) rfl rfl ?_
      refine WL.yld (by decide) (Yld.pickF rfl rfl) ?_
      refine WL.yld (by decide) (Yld.move rfl) ?_
      refine WL.skip (by decide) rfl rfl ?_
      refine WL.skip (by decide) rfl rfl ?_
      refine WL.yld (by decide) (Yld.pickF rfl rfl) ?_
      refine WL.yld (by decide) (Yld.move rfl) ?_
      refine WL.skip (by decide) rfl rfl ?_
      refine WL.skip (by decide) rfl rfl ?_
      refine WL.skip (by decide) rfl rfl ?_
      refine WL.yld (by decide) (Yld.pickF rfl rfl) ?_
      refine WL.yld (by decide) (Yld.move rfl) ?_
      refine WL.skip (by decide) rfl rfl ?_
      refine WL.yld (by decide) (Yld.pickF rfl rfl) ?_
      refine WL.yld (by decide) (Yld.assign rfl) ?_
      refine WL.done (hK164 _ _ ?_)
      refine WC.ret ?_
      injection h with h; subst h
      exact Ret.fn [] (ResIs.one rfl rfl) rfl (Ext.trans (Ext.trans (Ext.trans (Ext.trans (Ext.trans (Ext.trans (Ext.trans (Ext.trans hm_M24 hm_M110) hm_M112) hm_M114) hm_M133) hm_M135) hm_M154) hm_M156) hm_M158) rfl (by decide) rfl rfl ⟨rfl, rfl⟩

end Go.Proofs.Ytnkahhipochakaa
