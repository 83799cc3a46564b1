/-
  Walks (e4): what a function's model gives, the function returns. Printed by a program of ours (vcm.py) from the function's operations. Conditions: as each theorem says.
-/
import Derived.Test.YtnkahhipochakaaWkc
import Derived.Test.YtnkahhipochakaaWkd
import Derived.Test.YtnkahhipochakaaMde4
namespace Go.Proofs.Ytnkahhipochakaa
open Go Go.RowKit
set_option linter.unusedVariables false

theorem nm_13 : (Try.f13.name == "runtime.NumGoroutine") = false := by kernel_rfl
theorem nm_24 : (Try.f24.name == "runtime.NumGoroutine") = false := by kernel_rfl

set_option maxRecDepth 10000 in
theorem w_law03_GfmatrixSingular (M0 : Mem) (x00 : Int) (A01 : Option Addr) (n01 c01 : Nat) (x01 : List (BitVec 8)) (hf01 : SlT M0 A01 n01 c01 x01) (x02 : Int) (x03 : Int) (x04 : BitVec 8) {res : Bool} (h : m_law03_GfmatrixSingular x00 x01 x02 x03 x04 = some res) :
    Fn Try.prog 5 #[I64 x00, .slice A01 n01 c01, I64 x02, I64 x03, U8 x04] M0 fun r M' es => r = .bool res ∧ es = [] := by
  refine Fn.intro (N := 94) Try.func5 rfl rfl (Nat.le_of_ble_eq_true rfl) fun w0 => ?_
  unfold m_law03_GfmatrixSingular at h
  refine WC.seqRegion fun K1 hK1 => ?_
  refine WL.yld (by decide) (Yld.assign rfl) ?_
  refine WL.done (hK1 _ _ ?_)
  refine WC.seqRegion fun K2 hK2 => ?_
  obtain ⟨x3, hx3, h⟩ := bnd h
  refine WL.yld (by decide) (Yld.move rfl) ?_
  refine WL.yld (by decide) (Yld.move rfl) ?_
  refine WL.yld (by decide) (Yld.move rfl) ?_
  refine WL.eff (by decide) (Eff.callS 107 rfl Try.func24 nm_24 rfl rfl (fun w hb hh => w_law03_made (Mem.snap w) x00 x00 A01 n01 c01 _ (RdH.sn (RdH.memM (k := 0) rfl hf01) w hb hh) hx3)) ?_
  rintro _ _ ⟨_, ⟨A8, n9, c10, rfl, rfl⟩, rfl⟩
  refine WL.eff (by decide) (Eff.alloc 111 rfl zr_27) ?_
  rintro _ _ ⟨g11, rfl, rfl⟩
  refine WL.eff0 (Eff0.storeBAM 111 agg_27 rfl rfl rfl ⟨rfl, rfl⟩ rfl) ?_
  refine WL.done (hK2 _ _ ?_)
  refine WC.seq fun K12 hK12 => ?_
  refine WC.seqRegion fun K13 hK13 => ?_
  refine WL.yld (by decide) (Yld.fieldAddr Try.underlying27 rfl nz_3 rfl rfl) ?_
  refine WL.yld (by decide) (Yld.loadB (k := 111) scal_3 rfl rfl rfl) ?_
  refine WL.yld (by decide) (Yld.lss rfl rfl) ?_
  refine WL.done (hK13 _ _ ?_)
  by_cases hc14 : x3.1 < (2 : Int)
  · replace h := of_t hc14 h
    refine WC.condTe rfl (decide_eq_true hc14) ?_
    refine WC.seqRegion fun K15 hK15 => ?_
    obtain ⟨x16, hx16, h⟩ := bnd h
    refine WL.eff (by decide) (Eff.callS 117 rfl Try.func13 nm_13 rfl rfl (fun w hb hh => w_law03_awake (Mem.snap w) hx16)) ?_
    rintro _ _ ⟨_, ⟨rfl, rfl⟩, rfl⟩
    refine WL.yld (by decide) (Yld.assign rfl) ?_
    refine WL.done (hK15 _ _ ?_)
    refine WC.ret (QK.thenR ?_)
    injection h with h; subst h
    exact Ret.fn [] (ResIs.one rfl rfl) rfl (Ext.refl _ _) rfl (by decide) rfl rfl ⟨rfl, rfl⟩
  · replace h := of_f hc14 h
    refine WC.condFe rfl (decide_eq_false hc14) ?_
    refine WC.skip ?_
    refine QK.thenN (hK12 _ _ ?_)
    refine WC.seqRegionD (n := 11) [(0, _), (107, _), (111, _)] rfl mixed (Sub.cons rfl (Sub.cons rfl (Sub.cons rfl (Sub.nil _)))) fun K18 hK18 => ?_
    obtain ⟨x19, hx19, h⟩ := bnd h
    obtain ⟨x20, hx20, h⟩ := bnd h
    obtain ⟨x21, hx21, h⟩ := bnd h
    refine WD.take 0 rfl (by kernel_rfl) (by kernel_rfl) (by kernel_rfl) (by decide) (Yld.move rfl) ?_
    refine WD.take 1 rfl (by kernel_rfl) (by kernel_rfl) (by kernel_rfl) (by decide) (Yld.fieldAddr Try.underlying27 rfl nz_3 rfl rfl) ?_
    refine WD.take 2 rfl (by kernel_rfl) (by kernel_rfl) (by kernel_rfl) (by decide) (Yld.loadB (k := 111) scal_3 rfl rfl rfl) ?_
    refine WD.take 3 rfl (by kernel_rfl) (by kernel_rfl) (by kernel_rfl) (by decide) (Yld.remC rfl rfl hx19) ?_
    refine WD.take 4 rfl (by kernel_rfl) (by kernel_rfl) (by kernel_rfl) (by decide) (Yld.fieldAddr Try.underlying27 rfl nz_3 rfl rfl) ?_
    refine WD.take 5 rfl (by kernel_rfl) (by kernel_rfl) (by kernel_rfl) (by decide) (Yld.loadB (k := 111) scal_3 rfl rfl rfl) ?_
    refine WD.take 6 rfl (by kernel_rfl) (by kernel_rfl) (by kernel_rfl) (by decide) (Yld.addC rfl rfl hx20) ?_
    refine WD.take 7 rfl (by kernel_rfl) (by kernel_rfl) (by kernel_rfl) (by decide) (Yld.fieldAddr Try.underlying27 rfl nz_3 rfl rfl) ?_
    refine WD.take 8 rfl (by kernel_rfl) (by kernel_rfl) (by kernel_rfl) (by decide) (Yld.loadB (k := 111) scal_3 rfl rfl rfl) ?_
    refine WD.take 9 rfl (by kernel_rfl) (by kernel_rfl) (by kernel_rfl) (by decide) (Yld.remC rfl rfl hx21) ?_
    refine WD.take 10 rfl (by kernel_rfl) (by kernel_rfl) (by kernel_rfl) (by decide) (Yld.assign rfl) ?_
    refine WD.done (by kernel_rfl) (hK18 _ _ ?_)
    refine WC.seqRegionD (n := 11) [(0, _), (107, _), (111, _)] rfl mixed (Sub.cons rfl (Sub.cons rfl (Sub.cons rfl (Sub.nil _)))) fun K22 hK22 => ?_
    obtain ⟨x23, hx23, h⟩ := bnd h
    obtain ⟨x24, hx24, h⟩ := bnd h
    obtain ⟨x25, hx25, h⟩ := bnd h
    refine WD.take 0 rfl (by kernel_rfl) (by kernel_rfl) (by kernel_rfl) (by decide) (Yld.move rfl) ?_
    refine WD.take 1 rfl (by kernel_rfl) (by kernel_rfl) (by kernel_rfl) (by decide) (Yld.fieldAddr Try.underlying27 rfl nz_3 rfl rfl) ?_
    refine WD.take 2 rfl (by kernel_rfl) (by kernel_rfl) (by kernel_rfl) (by decide) (Yld.loadB (k := 111) scal_3 rfl rfl rfl) ?_
    refine WD.take 3 rfl (by kernel_rfl) (by kernel_rfl) (by kernel_rfl) (by decide) (Yld.remC rfl rfl hx23) ?_
    refine WD.take 4 rfl (by kernel_rfl) (by kernel_rfl) (by kernel_rfl) (by decide) (Yld.fieldAddr Try.underlying27 rfl nz_3 rfl rfl) ?_
    refine WD.take 5 rfl (by kernel_rfl) (by kernel_rfl) (by kernel_rfl) (by decide) (Yld.loadB (k := 111) scal_3 rfl rfl rfl) ?_
    refine WD.take 6 rfl (by kernel_rfl) (by kernel_rfl) (by kernel_rfl) (by decide) (Yld.addC rfl rfl hx24) ?_
    refine WD.take 7 rfl (by kernel_rfl) (by kernel_rfl) (by kernel_rfl) (by decide) (Yld.fieldAddr Try.underlying27 rfl nz_3 rfl rfl) ?_
    refine WD.take 8 rfl (by kernel_rfl) (by kernel_rfl) (by kernel_rfl) (by decide) (Yld.loadB (k := 111) scal_3 rfl rfl rfl) ?_
    refine WD.take 9 rfl (by kernel_rfl) (by kernel_rfl) (by kernel_rfl) (by decide) (Yld.remC rfl rfl hx25) ?_
    refine WD.take 10 rfl (by kernel_rfl) (by kernel_rfl) (by kernel_rfl) (by decide) (Yld.assign rfl) ?_
    refine WD.done (by kernel_rfl) (hK22 _ _ ?_)
    refine WC.seq fun K26 hK26 => ?_
    refine WC.seqRegion fun K27 hK27 => ?_
    refine WL.yld (by decide) (Yld.move rfl) ?_
    refine WL.yld (by decide) (Yld.move rfl) ?_
    refine WL.yld (by decide) (Yld.eqlI rfl rfl) ?_
    refine WL.done (hK27 _ _ ?_)
    by_cases hc28 : x21 = x25
    · replace h := of_t hc28 h
      refine WC.condTe rfl (beq_iff_eq.2 hc28) ?_
      refine WC.seqRegion fun K29 hK29 => ?_
      obtain ⟨x30, hx30, h⟩ := bnd h
      refine WL.eff (by decide) (Eff.callS 131 rfl Try.func13 nm_13 rfl rfl (fun w hb hh => w_law03_awake (Mem.snap w) hx30)) ?_
      rintro _ _ ⟨_, ⟨rfl, rfl⟩, rfl⟩
      refine WL.yld (by decide) (Yld.assign rfl) ?_
      refine WL.done (hK29 _ _ ?_)
      refine WC.ret (QK.thenR ?_)
      injection h with h; subst h
      exact Ret.fn [] (ResIs.one rfl rfl) rfl (Ext.refl _ _) rfl (by decide) rfl rfl ⟨rfl, rfl⟩
    · replace h := of_f hc28 h
      refine WC.condFe rfl (beq_eq_false_iff_ne.2 hc28) ?_
      refine WC.skip ?_
      refine QK.thenN (hK26 _ _ ?_)
      refine WC.seqRegion fun K32 hK32 => ?_
      obtain ⟨x34, hx34, h⟩ := bnd h
      refine WL.eff (by decide) (Eff.buildC 133 ([] : List (BitVec 8)) sty_22 rfl rfl rfl rfl rfl (by decide)) ?_
      rintro _ _ ⟨g33, rfl, rfl⟩
      refine WL.yld (by decide) (Yld.fieldAddr Try.underlying27 rfl nz_22 rfl rfl) ?_
      refine WL.yld (by decide) (Yld.loadB (k := 111) scal_22 rfl rfl rfl) ?_
      refine WL.eff (by decide) (Eff.appendC 133 (xs := ([] : List (BitVec 8))) (ys := x3.2.2) sty_22 rfl rfl rfl (RdH.own (k := 107) rfl) hx34) ?_
      rintro _ _ ⟨A35, c36, rfl, rfl⟩
      refine WL.yld (by decide) (Yld.assign rfl) ?_
      refine WL.done (hK32 _ _ ?_)
      refine WC.seqCut (σ := (List (BitVec 8))) (fun x37 => [(11, .pointer (some ⟨g11, 0, none⟩)), (14, .slice A35 x34.length c36)]) (fun x37 => [(0, .mem M0), (107, .own 5 (Lay.sz (BitVec 8)) A8 n9 c10 (cel x3.2.2)), (111, .blk g11 27 [I64 x3.1, I64 x3.2.1, .slice A8 n9 c10]), (133, .own 5 (Lay.sz (BitVec 8)) A35 x34.length c36 (cel x37))]) (fun x37 => m_law03_GfmatrixSingular_j0 x3 x37 = some res) (fun K38 hK38 => ?_) ?_
      · skip
        refine WC.seqRegion fun K39 hK39 => ?_
        refine WL.yld (by decide) (Yld.assign rfl) ?_
        refine WL.done (hK39 _ _ ?_)
        refine WC.block ?_
        refine WC.loop (σ := Nat × (List (BitVec 8)) × Int) (fun ⟨q42, x40, x41⟩ => [(4, U8 x04), (11, .pointer (some ⟨g11, 0, none⟩)), (12, I64 x21), (13, I64 x25), (14, .slice A35 x34.length c36), (15, I64 x41)]) (fun ⟨q42, x40, x41⟩ => [(0, .mem M0), (107, .own 5 (Lay.sz (BitVec 8)) A8 n9 c10 (cel x3.2.2)), (111, .blk g11 27 [I64 x3.1, I64 x3.2.1, .slice A8 n9 c10]), (133, .own 5 (Lay.sz (BitVec 8)) A35 x34.length c36 (cel x40))]) (fun ⟨q42, x40, x41⟩ => m_law03_GfmatrixSingular_l1 x04 x3 x21 x25 q42 x40 x41 = some res) (fun ⟨q42, x40, x41⟩ => q42) ⟨forever, x34, (0 : Int)⟩ ?_ (Sub.cons rfl (Sub.cons rfl (Sub.cons rfl (Sub.cons rfl (Sub.cons rfl (Sub.cons rfl (Sub.nil _))))))) (Sub.cons rfl (Sub.cons rfl (Sub.cons rfl (Sub.cons rfl (Sub.nil _))))) ?_
        · exact h
        rintro ⟨q42, x40, x41⟩ h K43 hK43
        cases q42 with
        | zero => exact absurd h (by simp [m_law03_GfmatrixSingular_l1])
        | succ q42 =>
          unfold m_law03_GfmatrixSingular_l1 at h
          refine WC.seq fun K44 hK44 => ?_
          refine WC.seqRegion fun K45 hK45 => ?_
          refine WL.yld (by decide) (Yld.move rfl) ?_
          refine WL.yld (by decide) (Yld.fieldAddr Try.underlying27 rfl nz_3 rfl rfl) ?_
          refine WL.yld (by decide) (Yld.loadB (k := 111) scal_3 rfl rfl rfl) ?_
          refine WL.yld (by decide) (Yld.lss rfl rfl) ?_
          refine WL.done (hK45 _ _ ?_)
          by_cases hc46 : x41 < x3.2.1
          · replace h := of_t hc46 h
            refine WC.condTe rfl (decide_eq_true hc46) ?_
            refine WC.skip ?_
            refine QK.thenN (hK44 _ _ ?_)
            refine WC.seq fun K47 hK47 => ?_
            refine WC.block ?_
            refine WC.regionD (n := 20) [(0, _), (107, _), (111, _)] rfl mixed (Sub.cons rfl (Sub.cons rfl (Sub.cons rfl (Sub.nil _)))) fun K48 hK48 => ?_
            obtain ⟨x49, hx49, h⟩ := bnd h
            obtain ⟨x50, hx50, h⟩ := bnd h
            obtain ⟨x51, hx51, h⟩ := bnd h
            obtain ⟨x52, hx52, h⟩ := bnd h
            obtain ⟨x53, hx53, h⟩ := bnd h
            obtain ⟨x54, hx54, h⟩ := bnd h
            obtain ⟨x56, hx56, h⟩ := bnd h
            obtain ⟨x57, hx57, h⟩ := bnd h
            refine WD.take 0 rfl (by kernel_rfl) (by kernel_rfl) (by kernel_rfl) (by decide) (Yld.move rfl) ?_
            refine WD.take 1 rfl (by kernel_rfl) (by kernel_rfl) (by kernel_rfl) (by decide) (Yld.move rfl) ?_
            refine WD.take 2 rfl (by kernel_rfl) (by kernel_rfl) (by kernel_rfl) (by decide) (Yld.fieldAddr Try.underlying27 rfl nz_3 rfl rfl) ?_
            refine WD.take 3 rfl (by kernel_rfl) (by kernel_rfl) (by kernel_rfl) (by decide) (Yld.loadB (k := 111) scal_3 rfl rfl rfl) ?_
            refine WD.take 4 rfl (by kernel_rfl) (by kernel_rfl) (by kernel_rfl) (by decide) (Yld.mulC rfl rfl hx49) ?_
            refine WD.take 5 rfl (by kernel_rfl) (by kernel_rfl) (by kernel_rfl) (by decide) (Yld.move rfl) ?_
            refine WD.take 6 rfl (by kernel_rfl) (by kernel_rfl) (by kernel_rfl) (by decide) (Yld.addC rfl rfl hx50) ?_
            refine WD.take 7 rfl (by kernel_rfl) (by kernel_rfl) (by kernel_rfl) (by decide) (Yld.move rfl) ?_
            refine WD.take 8 rfl (by kernel_rfl) (by kernel_rfl) (by kernel_rfl) (by decide) (Yld.move rfl) ?_
            refine WD.take 9 rfl (by kernel_rfl) (by kernel_rfl) (by kernel_rfl) (by decide) (Yld.move rfl) ?_
            refine WD.take 10 rfl (by kernel_rfl) (by kernel_rfl) (by kernel_rfl) (by decide) (Yld.fieldAddr Try.underlying27 rfl nz_3 rfl rfl) ?_
            refine WD.take 11 rfl (by kernel_rfl) (by kernel_rfl) (by kernel_rfl) (by decide) (Yld.loadB (k := 111) scal_3 rfl rfl rfl) ?_
            refine WD.take 12 rfl (by kernel_rfl) (by kernel_rfl) (by kernel_rfl) (by decide) (Yld.mulC rfl rfl hx51) ?_
            refine WD.take 13 rfl (by kernel_rfl) (by kernel_rfl) (by kernel_rfl) (by decide) (Yld.move rfl) ?_
            refine WD.take 14 rfl (by kernel_rfl) (by kernel_rfl) (by kernel_rfl) (by decide) (Yld.addC rfl rfl hx52) ?_
            refine WD.one 15 (by kernel_rfl) ?_
            refine WS.yld rfl (by decide) (Yld.idxC (xs := x40) sty_22 rfl rfl (RdH.own (k := 133) rfl) hx53) ?_
            refine WD.one 16 (by kernel_rfl) ?_
            refine WS.yld rfl (by decide) (Yld.loadC0 (xs := x40) scal_5 rfl (RdH.own (k := 133) rfl) hx53 rfl) ?_
            refine WD.one 17 (by kernel_rfl) ?_
            refine WS.eff rfl (by decide) (Eff.callS 155 rfl Try.func25 nm_25 rfl rfl (fun w hb hh => w_gf256_Mul (Mem.snap w) x04 x53 hx54)) ?_
            rintro _ _ ⟨_, ⟨rfl, rfl⟩, rfl⟩
            refine ⟨(Sub.cons rfl (Sub.cons rfl (Sub.cons rfl (Sub.nil _)))), ?_⟩
            refine WD.one 18 (by kernel_rfl) ?_
            refine WS.yld rfl (by decide) (Yld.idxC (xs := x40) sty_22 rfl rfl (RdH.own (k := 133) rfl) hx56) ?_
            refine WD.one 19 (by kernel_rfl) ?_
            refine WS.eff0 rfl (Eff0.storeC1 133 (xs := x40) (a' := x54) siz_5 rfl rfl rfl rfl rfl rfl hx57) (Sub.cons rfl (Sub.cons rfl (Sub.cons rfl (Sub.nil _)))) ?_
            refine WD.done (by kernel_rfl) (hK48 _ _ ?_)
            refine QK.blockN ?_
            refine QK.thenN (hK47 _ _ ?_)
            refine WC.region fun K58 hK58 => ?_
            obtain ⟨x59, hx59, h⟩ := bnd h
            refine WL.yld (by decide) (Yld.move rfl) ?_
            refine WL.yld (by decide) (Yld.addC rfl rfl hx59) ?_
            refine WL.yld (by decide) (Yld.assign rfl) ?_
            refine WL.done (hK58 _ _ ?_)
            refine QK.thenN ?_
            refine hK43 ⟨q42, x57, x59⟩ _ _ ?_ (Nat.lt_succ_self _) (Sub.cons rfl (Sub.cons rfl (Sub.cons rfl (Sub.cons rfl (Sub.cons rfl (Sub.cons rfl (Sub.nil _))))))) (Sub.cons rfl (Sub.cons rfl (Sub.cons rfl (Sub.cons rfl (Sub.nil _)))))
            exact h
          · replace h := of_f hc46 h
            refine WC.condFe rfl (decide_eq_false hc46) ?_
            refine WC.exit (QK.thenE (QK.thenE (QK.blockX ?_)))
            refine QK.thenN ?_
            refine hK38 x40 _ _ ?_ (Sub.cons rfl (Sub.cons rfl (Sub.nil _))) (Sub.cons rfl (Sub.cons rfl (Sub.cons rfl (Sub.cons rfl (Sub.nil _)))))
            exact h
      · rintro x37 h
        unfold m_law03_GfmatrixSingular_j0 at h
        refine WC.seqRegion fun K60 hK60 => ?_
        obtain ⟨x61, hx61, h⟩ := bnd h
        refine WL.yld (by decide) (Yld.fieldAddr Try.underlying27 rfl nz_3 rfl rfl) ?_
        refine WL.yld (by decide) (Yld.loadB (k := 111) scal_3 rfl rfl rfl) ?_
        refine WL.yld (by decide) (Yld.fieldAddr Try.underlying27 rfl nz_3 rfl rfl) ?_
        refine WL.yld (by decide) (Yld.loadB (k := 111) scal_3 rfl rfl rfl) ?_
        refine WL.yld (by decide) (Yld.move rfl) ?_
        refine WL.yld (by decide) (Yld.build rfl (bu_27_0_1_2 x3.1 x3.2.1 A35 x34.length c36)) ?_
        refine WL.eff (by decide) (Eff.callS 165 rfl Try.func22 nm_22 rfl rfl (fun w hb hh => w_gfmatrix_Invert (Mem.snap w) x3.1 x3.2.1 A35 x34.length c36 _ (RdH.sn (RdH.own (k := 133) rfl) w hb hh) hx61)) ?_
        rintro _ _ ⟨_, ⟨A66, n67, c68, rfl, rfl⟩, rfl⟩
        refine WL.yld (by decide) (Yld.move rfl) ?_
        refine WL.yld (by decide) (Yld.extract rfl rfl) ?_
        refine WL.yld (by decide) (Yld.extract rfl rfl) ?_
        refine WL.eff (by decide) (Eff.alloc 169 rfl zr_27) ?_
        rintro _ _ ⟨g69, rfl, rfl⟩
        refine WL.eff0 (Eff0.storeBAM 169 agg_27 rfl rfl rfl ⟨rfl, rfl⟩ rfl) ?_
        refine WL.yld (by decide) (Yld.assign rfl) ?_
        refine WL.done (hK60 _ _ ?_)
        refine WC.seqRegion fun K70 hK70 => ?_
        by_cases hc71 : x61.2.2.2 = (14 : Int)
        · replace h := of_t hc71 h
          obtain ⟨x72, hx72, h⟩ := bnd h
          refine WL.yld (by decide) (Yld.move rfl) ?_
          refine WL.yld (by decide) (Yld.eqlI rfl rfl) ?_
          refine WL.yld (by decide) (Yld.move rfl) ?_
          refine WL.new (v' := .bool true) (congrArg Value.bool (beq_iff_eq.2 hc71)) ?_
          refine WL.effG (by decide) rfl (Eff.callS 173 rfl Try.func13 nm_13 rfl rfl (fun w hb hh => w_law03_awake (Mem.snap w) hx72)) ?_
          rintro _ _ ⟨_, ⟨rfl, rfl⟩, rfl⟩
          refine WL.yld (by decide) (Yld.pickT rfl rfl) ?_
          refine WL.yld (by decide) (Yld.assign rfl) ?_
          refine WL.done (hK70 _ _ ?_)
          refine WC.ret ?_
          injection h with h; subst h
          exact Ret.fn [] (ResIs.one rfl rfl) rfl (Ext.refl _ _) rfl (by decide) rfl rfl ⟨rfl, rfl⟩
        · replace h := of_f hc71 h
          refine WL.yld (by decide) (Yld.move rfl) ?_
          refine WL.yld (by decide) (Yld.eqlI rfl rfl) ?_
          refine WL.yld (by decide) (Yld.move rfl) ?_
          refine WL.new (v' := .bool false) (congrArg Value.bool (beq_eq_false_iff_ne.2 hc71)) ?_
          refine WL.skip (by decide) rfl rfl ?_
          refine WL.yld (by decide) (Yld.pickF rfl rfl) ?_
          refine WL.yld (by decide) (Yld.assign rfl) ?_
          refine WL.done (hK70 _ _ ?_)
          refine WC.ret ?_
          injection h with h; subst h
          exact Ret.fn [] (ResIs.one rfl rfl) rfl (Ext.refl _ _) rfl (by decide) rfl rfl ⟨rfl, rfl⟩

end Go.Proofs.Ytnkahhipochakaa
