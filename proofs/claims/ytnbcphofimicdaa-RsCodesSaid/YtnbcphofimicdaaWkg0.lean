/-
  Walks (g0): what a function's model gives, the function returns. Printed by a program of ours (vcm.py) from the function's operations. Conditions: as each theorem says.
-/
import Derived.Test.YtnbcphofimicdaaWkf
import Derived.Test.YtnbcphofimicdaaMdg0
namespace Go.Proofs.Ytnbcphofimicdaa
open Go Go.RowKit
set_option linter.unusedVariables false

theorem nm_15 : (Try.f15.name == "runtime.NumGoroutine") = false := by kernel_rfl

set_option maxRecDepth 10000 in
theorem w_law04_RsCodes (M0 : Mem) (x00 : Int) (x01 : Int) {res : Bool} (h : m_law04_RsCodes x00 x01 = some res) :
    Fn Try.prog 3 #[I64 x00, I64 x01] M0 fun r M' es => r = .bool res ∧ es = [] := by
  refine Fn.intro (N := 86) Try.func3 rfl rfl (Nat.le_of_ble_eq_true rfl) fun w0 => ?_
  unfold m_law04_RsCodes at h
  refine WC.seqRegion fun K1 hK1 => ?_
  refine WL.yld (by decide) (Yld.assign rfl) ?_
  refine WL.done (hK1 _ _ ?_)
  refine WC.seqRegion fun K2 hK2 => ?_
  obtain ⟨x3, hx3, h⟩ := bnd h
  obtain ⟨x11, hx11, h⟩ := bnd h
  refine WL.eff (by decide) (Eff.callS 107 rfl Try.func11 nm_11 rfl rfl (fun w hb hh => w_rs_Code (Mem.snap w) hx3)) ?_
  rintro _ _ ⟨_, ⟨A8, n9, c10, rfl, rfl⟩, rfl⟩
  refine WL.eff (by decide) (Eff.callS 115 rfl Try.func12 nm_12 rfl rfl (fun w hb hh => w_r04_Code (Mem.snap w) hx11)) ?_
  rintro _ _ ⟨_, ⟨A16, n17, c18, rfl, rfl⟩, rfl⟩
  refine WL.eff (by decide) (Eff.alloc 119 rfl zr_24) ?_
  rintro _ _ ⟨g19, rfl, rfl⟩
  refine WL.eff (by decide) (Eff.alloc 120 rfl zr_26) ?_
  rintro _ _ ⟨g20, rfl, rfl⟩
  refine WL.eff0 (Eff0.storeBAM 119 agg_24 rfl rfl rfl ⟨rfl, rfl⟩ rfl) ?_
  refine WL.eff0 (Eff0.storeBAM 120 agg_26 rfl rfl rfl ⟨rfl, rfl⟩ rfl) ?_
  refine WL.done (hK2 _ _ ?_)
  refine WC.seqCut (σ := Unit) (fun _ => [(0, I64 x00), (1, I64 x01), (5, .pointer (some ⟨g19, 0, none⟩))]) (fun _ => [(0, .mem M0), (107, .own 5 (Lay.sz (BitVec 8)) A8 n9 c10 (cel x3.2.2)), (119, .blk g19 24 [I64 x3.1, I64 x3.2.1, .slice A8 n9 c10])]) (fun _ => m_law04_RsCodes_j0 x00 x01 x3 = some res) (fun K21 hK21 => ?_) ?_
  · skip
    refine WC.seqRegion fun K22 hK22 => ?_
    by_cases hc23 : x3.1 = x11.1
    · replace h := of_t hc23 h
      by_cases hc24 : x3.2.1 = x11.2.1
      · replace h := of_t hc24 h
        refine WL.yld (by decide) (Yld.fieldAddr Try.underlying24 rfl nz_3 rfl rfl) ?_
        refine WL.yld (by decide) (Yld.loadB (k := 119) scal_3 rfl rfl rfl) ?_
        refine WL.yld (by decide) (Yld.fieldAddr Try.underlying26 rfl nz_3 rfl rfl) ?_
        refine WL.yld (by decide) (Yld.loadB (k := 120) scal_3 rfl rfl rfl) ?_
        refine WL.yld (by decide) (Yld.neqI rfl rfl) ?_
        refine WL.yld (by decide) (Yld.move rfl) ?_
        refine WL.new (v' := .bool false) (congrArg Value.bool (bne_eq_false_iff_eq.2 hc23)) ?_
        refine WL.yldG (by decide) rfl (Yld.fieldAddr Try.underlying24 rfl nz_3 rfl rfl) ?_
        refine WL.yldG (by decide) rfl (Yld.loadB (k := 119) scal_3 rfl rfl rfl) ?_
        refine WL.yldG (by decide) rfl (Yld.fieldAddr Try.underlying26 rfl nz_3 rfl rfl) ?_
        refine WL.yldG (by decide) rfl (Yld.loadB (k := 120) scal_3 rfl rfl rfl) ?_
        refine WL.yldG (by decide) rfl (Yld.neqI rfl rfl) ?_
        refine WL.yld (by decide) (Yld.pickF rfl rfl) ?_
        refine WL.yld (by decide) (Yld.move rfl) ?_
        refine WL.new (v' := .bool false) (congrArg Value.bool (bne_eq_false_iff_eq.2 hc24)) ?_
        refine WL.yldG (by decide) rfl (Yld.fieldAddr Try.underlying24 rfl nz_22 rfl rfl) ?_
        refine WL.yldG (by decide) rfl (Yld.loadB (k := 119) scal_22 rfl rfl rfl) ?_
        refine WL.yldG (by decide) rfl (Yld.b2sC (xs := x3.2.2) und_22 und_5 und_9 rfl (RdH.own (k := 107) rfl)) ?_
        refine WL.yldG (by decide) rfl (Yld.fieldAddr Try.underlying26 rfl nz_22 rfl rfl) ?_
        refine WL.yldG (by decide) rfl (Yld.loadB (k := 120) scal_22 rfl rfl rfl) ?_
        refine WL.yldG (by decide) rfl (Yld.b2sC (xs := x11.2.2) und_22 und_5 und_9 rfl (RdH.own (k := 115) rfl)) ?_
        refine WL.yldG (by decide) rfl (Yld.neqStr (a := x3.2.2) (b := x11.2.2) rfl rfl) ?_
        refine WL.yld (by decide) (Yld.pickF rfl rfl) ?_
        refine WL.done (hK22 _ _ ?_)
        by_cases hc25 : x3.2.2 = x11.2.2
        · replace h := of_t hc25 h
          refine WC.condFe rfl (neq_of_eq hc25) ?_
          refine WC.skip ?_
          refine QK.thenN ?_
          refine hK21 () _ _ ?_ (Sub.cons rfl (Sub.cons rfl (Sub.cons rfl (Sub.nil _)))) (Sub.cons rfl (Sub.cons rfl (Sub.cons rfl (Sub.nil _))))
          exact h
        · replace h := of_f hc25 h
          refine WC.condTe rfl (neq_of_ne hc25) ?_
          refine WC.seqRegion fun K26 hK26 => ?_
          refine WL.yld (by decide) (Yld.assign rfl) ?_
          refine WL.done (hK26 _ _ ?_)
          refine WC.ret (QK.thenR ?_)
          injection h with h; subst h
          exact Ret.fn [] (ResIs.one rfl rfl) rfl (Ext.refl _ _) rfl (by decide) rfl rfl ⟨rfl, rfl⟩
      · replace h := of_f hc24 h
        refine WL.yld (by decide) (Yld.fieldAddr Try.underlying24 rfl nz_3 rfl rfl) ?_
        refine WL.yld (by decide) (Yld.loadB (k := 119) scal_3 rfl rfl rfl) ?_
        refine WL.yld (by decide) (Yld.fieldAddr Try.underlying26 rfl nz_3 rfl rfl) ?_
        refine WL.yld (by decide) (Yld.loadB (k := 120) scal_3 rfl rfl rfl) ?_
        refine WL.yld (by decide) (Yld.neqI rfl rfl) ?_
        refine WL.yld (by decide) (Yld.move rfl) ?_
        refine WL.new (v' := .bool false) (congrArg Value.bool (bne_eq_false_iff_eq.2 hc23)) ?_
        refine WL.yldG (by decide) rfl (Yld.fieldAddr Try.underlying24 rfl nz_3 rfl rfl) ?_
        refine WL.yldG (by decide) rfl (Yld.loadB (k := 119) scal_3 rfl rfl rfl) ?_
        refine WL.yldG (by decide) rfl (Yld.fieldAddr Try.underlying26 rfl nz_3 rfl rfl) ?_
        refine WL.yldG (by decide) rfl (Yld.loadB (k := 120) scal_3 rfl rfl rfl) ?_
        refine WL.yldG (by decide) rfl (Yld.neqI rfl rfl) ?_
        refine WL.yld (by decide) (Yld.pickF rfl rfl) ?_
        refine WL.yld (by decide) (Yld.move rfl) ?_
        refine WL.new (v' := .bool true) (congrArg Value.bool (bne_iff_ne.2 hc24)) ?_
        refine WL.skip (by decide) rfl rfl ?_
        refine WL.skip (by decide) rfl rfl ?_
        refine WL.skip (by decide) rfl rfl ?_
        refine WL.skip (by decide) rfl rfl ?_
        refine WL.skip (by decide) rfl rfl ?_
        refine WL.skip (by decide) rfl rfl ?_
        refine WL.skip (by decide) rfl rfl ?_
        refine WL.yld (by decide) (Yld.pickT rfl rfl) ?_
        refine WL.done (hK22 _ _ ?_)
        refine WC.condT rfl ?_
        refine WC.seqRegion fun K27 hK27 => ?_
        refine WL.yld (by decide) (Yld.assign rfl) ?_
        refine WL.done (hK27 _ _ ?_)
        refine WC.ret (QK.thenR ?_)
        injection h with h; subst h
        exact Ret.fn [] (ResIs.one rfl rfl) rfl (Ext.refl _ _) rfl (by decide) rfl rfl ⟨rfl, rfl⟩
    · replace h := of_f hc23 h
      refine WL.yld (by decide) (Yld.fieldAddr Try.underlying24 rfl nz_3 rfl rfl) ?_
      refine WL.yld (by decide) (Yld.loadB (k := 119) scal_3 rfl rfl rfl) ?_
      refine WL.yld (by decide) (Yld.fieldAddr Try.underlying26 rfl nz_3 rfl rfl) ?_
      refine WL.yld (by decide) (Yld.loadB (k := 120) scal_3 rfl rfl rfl) ?_
      refine WL.yld (by decide) (Yld.neqI rfl rfl) ?_
      refine WL.yld (by decide) (Yld.move rfl) ?_
      refine WL.new (v' := .bool true) (congrArg Value.bool (bne_iff_ne.2 hc23)) ?_
      refine WL.skip (by decide) rfl rfl ?_
      refine WL.skip (by decide) rfl rfl ?_
      refine WL.skip (by decide) rfl rfl ?_
      refine WL.skip (by decide) rfl rfl ?_
      refine WL.skip (by decide) rfl rfl ?_
      refine WL.yld (by decide) (Yld.pickT rfl rfl) ?_
      refine WL.yld (by decide) (Yld.move rfl) ?_
      refine WL.skip (by decide) rfl rfl ?_
      refine WL.skip (by decide) rfl rfl ?_
      refine WL.skip (by decide) rfl rfl ?_
      refine WL.skip (by decide) rfl rfl ?_
      refine WL.skip (by decide) rfl rfl ?_
      refine WL.skip (by decide) rfl rfl ?_
      refine WL.skip (by decide) rfl rfl ?_
      refine WL.yld (by decide) (Yld.pickT rfl rfl) ?_
      refine WL.done (hK22 _ _ ?_)
      refine WC.condT rfl ?_
      refine WC.seqRegion fun K28 hK28 => ?_
      refine WL.yld (by decide) (Yld.assign rfl) ?_
      refine WL.done (hK28 _ _ ?_)
      refine WC.ret (QK.thenR ?_)
      injection h with h; subst h
      exact Ret.fn [] (ResIs.one rfl rfl) rfl (Ext.refl _ _) rfl (by decide) rfl rfl ⟨rfl, rfl⟩
  · rintro _ h
    unfold m_law04_RsCodes_j0 at h
    refine WC.seqRegion fun K29 hK29 => ?_
    obtain ⟨x30, hx30, h⟩ := bnd h
    obtain ⟨x31, hx31, h⟩ := bnd h
    obtain ⟨x32, hx32, h⟩ := bnd h
    refine WL.yld (by decide) (Yld.move rfl) ?_
    refine WL.yld (by decide) (Yld.remC rfl rfl hx30) ?_
    refine WL.yld (by decide) (Yld.addC rfl rfl hx31) ?_
    refine WL.yld (by decide) (Yld.remC rfl rfl hx32) ?_
    refine WL.yld (by decide) (Yld.assign rfl) ?_
    refine WL.done (hK29 _ _ ?_)
    refine WC.seqRegion fun K33 hK33 => ?_
    obtain ⟨x34, hx34, h⟩ := bnd h
    obtain ⟨x35, hx35, h⟩ := bnd h
    obtain ⟨x36, hx36, h⟩ := bnd h
    obtain ⟨x37, hx37, h⟩ := bnd h
    obtain ⟨x38, hx38, h⟩ := bnd h
    obtain ⟨x39, hx39, h⟩ := bnd h
    refine WL.yld (by decide) (Yld.move rfl) ?_
    refine WL.yld (by decide) (Yld.addC rfl rfl hx34) ?_
    refine WL.yld (by decide) (Yld.move rfl) ?_
    refine WL.yld (by decide) (Yld.remC rfl rfl hx35) ?_
    refine WL.yld (by decide) (Yld.addC rfl rfl hx36) ?_
    refine WL.yld (by decide) (Yld.remC rfl rfl hx37) ?_
    refine WL.yld (by decide) (Yld.addC rfl rfl hx38) ?_
    refine WL.yld (by decide) (Yld.remC rfl rfl hx39) ?_
    refine WL.yld (by decide) (Yld.assign rfl) ?_
    refine WL.done (hK33 _ _ ?_)
    refine WC.seqRegion fun K40 hK40 => ?_
    refine WL.yld (by decide) (Yld.assign rfl) ?_
    refine WL.done (hK40 _ _ ?_)
    refine WC.seqCut (σ := (Option Addr) × Nat × Nat × (List (Int))) (fun ⟨A43, n44, c45, x46⟩ => [(5, .pointer (some ⟨g19, 0, none⟩)), (9, .slice A43 n44 c45)]) (fun ⟨A43, n44, c45, x46⟩ => [(0, .mem M0), (107, .own 5 (Lay.sz (BitVec 8)) A8 n9 c10 (cel x3.2.2)), (119, .blk g19 24 [I64 x3.1, I64 x3.2.1, .slice A8 n9 c10]), (142, .own 3 (Lay.sz Int) A43 n44 c45 (cel x46))]) (fun ⟨A43, n44, c45, x46⟩ => m_law04_RsCodes_j1 x3 x46 = some res) (fun K47 hK47 => ?_) ?_
    · skip
      refine WC.seqRegion fun K48 hK48 => ?_
      refine WL.yld (by decide) (Yld.assign rfl) ?_
      refine WL.done (hK48 _ _ ?_)
      refine WC.block ?_
      refine WC.nilOwn 150 3 (Lay.sz Int) none ?_
      refine WC.loop (σ := Nat × (Option Addr) × Nat × Nat × (List (Int)) × Int) (fun ⟨q56, A51, n52, c53, x54, x55⟩ => [(5, .pointer (some ⟨g19, 0, none⟩)), (7, I64 x32), (8, I64 x39), (9, .slice A51 n52 c53), (10, I64 x55)]) (fun ⟨q56, A51, n52, c53, x54, x55⟩ => [(0, .mem M0), (107, .own 5 (Lay.sz (BitVec 8)) A8 n9 c10 (cel x3.2.2)), (119, .blk g19 24 [I64 x3.1, I64 x3.2.1, .slice A8 n9 c10]), (150, .own 3 (Lay.sz Int) A51 n52 c53 (cel x54))]) (fun ⟨q56, A51, n52, c53, x54, x55⟩ => m_law04_RsCodes_l2 x3 x32 x39 q56 x54 x55 = some res) (fun ⟨q56, A51, n52, c53, x54, x55⟩ => q56) ⟨forever, none, 0, 0, ([] : List (Int)), (0 : Int)⟩ ?_ (Sub.cons rfl (Sub.cons rfl (Sub.cons rfl (Sub.cons rfl (Sub.cons rfl (Sub.nil _)))))) (Sub.cons rfl (Sub.cons rfl (Sub.cons rfl (Sub.cons rfl (Sub.nil _))))) ?_
      · exact h
      rintro ⟨q56, A51, n52, c53, x54, x55⟩ h K57 hK57
      cases q56 with
      | zero => exact absurd h (by simp [m_law04_RsCodes_l2])
      | succ q56 =>
        unfold m_law04_RsCodes_l2 at h
        refine WC.seq fun K58 hK58 => ?_
        refine WC.seqRegion fun K59 hK59 => ?_
        refine WL.yld (by decide) (Yld.move rfl) ?_
        refine WL.yld (by decide) (Yld.lss rfl rfl) ?_
        refine WL.done (hK59 _ _ ?_)
        by_cases hc60 : x55 < (6 : Int)
        · replace h := of_t hc60 h
          refine WC.condTe rfl (decide_eq_true hc60) ?_
          refine WC.skip ?_
          refine QK.thenN (hK58 _ _ ?_)
          refine WC.seq fun K61 hK61 => ?_
          refine WC.block ?_
          refine WC.seqRegion fun K62 hK62 => ?_
          by_cases hc63 : x55 = x32
          · replace h := of_t hc63 h
            refine WL.yld (by decide) (Yld.move rfl) ?_
            refine WL.yld (by decide) (Yld.move rfl) ?_
            refine WL.yld (by decide) (Yld.neqI rfl rfl) ?_
            refine WL.yld (by decide) (Yld.move rfl) ?_
            refine WL.new (v' := .bool false) (congrArg Value.bool (bne_eq_false_iff_eq.2 hc63)) ?_
            refine WL.skip (by decide) rfl rfl ?_
            refine WL.skip (by decide) rfl rfl ?_
            refine WL.skip (by decide) rfl rfl ?_
            refine WL.yld (by decide) (Yld.pickF rfl rfl) ?_
            refine WL.done (hK62 _ _ ?_)
            refine WC.condF rfl ?_
            refine WC.skip ?_
            refine QK.blockN ?_
            refine QK.thenN (hK61 _ _ ?_)
            refine WC.region fun K64 hK64 => ?_
            obtain ⟨x65, hx65, h⟩ := bnd h
            refine WL.yld (by decide) (Yld.move rfl) ?_
            refine WL.yld (by decide) (Yld.addC rfl rfl hx65) ?_
            refine WL.yld (by decide) (Yld.assign rfl) ?_
            refine WL.done (hK64 _ _ ?_)
            refine QK.thenN ?_
            refine hK57 ⟨q56, A51, n52, c53, x54, x65⟩ _ _ ?_ (Nat.lt_succ_self _) (Sub.cons rfl (Sub.cons rfl (Sub.cons rfl (Sub.cons rfl (Sub.cons rfl (Sub.nil _)))))) (Sub.cons rfl (Sub.cons rfl (Sub.cons rfl (Sub.cons rfl (Sub.nil _)))))
            exact h
          · replace h := of_f hc63 h
            refine WL.yld (by decide) (Yld.move rfl) ?_
            refine WL.yld (by decide) (Yld.move rfl) ?_
            refine WL.yld (by decide) (Yld.neqI rfl rfl) ?_
            refine WL.yld (by decide) (Yld.move rfl) ?_
            refine WL.new (v' := .bool true) (congrArg Value.bool (bne_iff_ne.2 hc63)) ?_
            refine WL.yldG (by decide) rfl (Yld.move rfl) ?_
            refine WL.yldG (by decide) rfl (Yld.move rfl) ?_
            refine WL.yldG (by decide) rfl (Yld.neqI rfl rfl) ?_
            refine WL.yld (by decide) (Yld.pickT rfl rfl) ?_
            refine WL.done (hK62 _ _ ?_)
            by_cases hc66 : x55 = x39
            · replace h := of_t hc66 h
              refine WC.condFe rfl (bne_eq_false_iff_eq.2 hc66) ?_
              refine WC.skip ?_
              refine QK.blockN ?_
              refine QK.thenN (hK61 _ _ ?_)
              refine WC.region fun K67 hK67 => ?_
              obtain ⟨x68, hx68, h⟩ := bnd h
              refine WL.yld (by decide) (Yld.move rfl) ?_
              refine WL.yld (by decide) (Yld.addC rfl rfl hx68) ?_
              refine WL.yld (by decide) (Yld.assign rfl) ?_
              refine WL.done (hK67 _ _ ?_)
              refine QK.thenN ?_
              refine hK57 ⟨q56, A51, n52, c53, x54, x68⟩ _ _ ?_ (Nat.lt_succ_self _) (Sub.cons rfl (Sub.cons rfl (Sub.cons rfl (Sub.cons rfl (Sub.cons rfl (Sub.nil _)))))) (Sub.cons rfl (Sub.cons rfl (Sub.cons rfl (Sub.cons rfl (Sub.nil _)))))
              exact h
            · replace h := of_f hc66 h
              refine WC.condTe rfl (bne_iff_ne.2 hc66) ?_
              refine WC.region fun K69 hK69 => ?_
              obtain ⟨x71, hx71, h⟩ := bnd h
              refine WL.yld (by decide) (Yld.move rfl) ?_
              refine WL.yld (by decide) (Yld.move rfl) ?_
              refine WL.eff (by decide) (Eff.buildC 170 ([x55] : List (Int)) sty_28 rfl rfl rfl rfl rfl (by decide)) ?_
              rintro _ _ ⟨g70, rfl, rfl⟩
              refine WL.eff (by decide) (Eff.appendC 150 (xs := x54) (ys := ([x55] : List (Int))) sty_28 rfl rfl rfl (RdH.own (k := 170) rfl) hx71) ?_
              rintro _ _ ⟨A72, c73, rfl, rfl⟩
              refine WL.yld (by decide) (Yld.assign rfl) ?_
              refine WL.done (hK69 _ _ ?_)
              refine QK.blockN ?_
              refine QK.thenN (hK61 _ _ ?_)
              refine WC.region fun K74 hK74 => ?_
              obtain ⟨x75, hx75, h⟩ := bnd h
              refine WL.yld (by decide) (Yld.move rfl) ?_
              refine WL.yld (by decide) (Yld.addC rfl rfl hx75) ?_
              refine WL.yld (by decide) (Yld.assign rfl) ?_
              refine WL.done (hK74 _ _ ?_)
              refine QK.thenN ?_
              refine hK57 ⟨q56, A72, x71.length, c73, x71, x75⟩ _ _ ?_ (Nat.lt_succ_self _) (Sub.cons rfl (Sub.cons rfl (Sub.cons rfl (Sub.cons rfl (Sub.cons rfl (Sub.nil _)))))) (Sub.cons rfl (Sub.cons rfl (Sub.cons rfl (Sub.cons rfl (Sub.nil _)))))
              exact h
        · replace h := of_f hc60 h
          refine WC.condFe rfl (decide_eq_false hc60) ?_
          refine WC.exit (QK.thenE (QK.thenE (QK.blockX ?_)))
          refine QK.thenN ?_
          refine KK.move 150 142 rfl rfl ?_
          refine hK47 ⟨A51, n52, c53, x54⟩ _ _ ?_ (Sub.cons rfl (Sub.cons rfl (Sub.nil _))) (Sub.cons rfl (Sub.cons rfl (Sub.cons rfl (Sub.cons rfl (Sub.nil _)))))
          exact h
    · rintro ⟨A43, n44, c45, x46⟩ h
      unfold m_law04_RsCodes_j1 at h
      refine WC.seqRegion fun K76 hK76 => ?_
      obtain ⟨x77, hx77, h⟩ := bnd h
      refine WL.yld (by decide) (Yld.loadBM (k := 119) agg_24 rfl rfl rfl) ?_
      refine WL.yld (by decide) (Yld.move rfl) ?_
      refine WL.eff (by decide) (Eff.callS 181 rfl Try.func13 nm_13 rfl rfl (fun w hb hh => w_gfmatrix_Pick (Mem.snap w) x3.1 x3.2.1 A8 n9 c10 _ (RdH.sn (RdH.own (k := 107) rfl) w hb hh) A43 n44 c45 _ (RdH.sn (RdH.own (k := 142) rfl) w hb hh) hx77)) ?_
      rintro _ _ ⟨_, ⟨A82, n83, c84, rfl, rfl⟩, rfl⟩
      refine WL.yld (by decide) (Yld.move rfl) ?_
      refine WL.yld (by decide) (Yld.extract rfl rfl) ?_
      refine WL.yld (by decide) (Yld.extract rfl rfl) ?_
      refine WL.eff (by decide) (Eff.alloc 185 rfl zr_24) ?_
      rintro _ _ ⟨g85, rfl, rfl⟩
      refine WL.eff0 (Eff0.storeBAM 185 agg_24 rfl rfl rfl ⟨rfl, rfl⟩ rfl) ?_
      refine WL.yld (by decide) (Yld.assign rfl) ?_
      refine WL.done (hK76 _ _ ?_)
      refine WC.seqRegion fun K86 hK86 => ?_
      obtain ⟨x87, hx87, h⟩ := bnd h
      refine WL.yld (by decide) (Yld.loadBM (k := 185) agg_24 rfl rfl rfl) ?_
      refine WL.eff (by decide) (Eff.callS 191 rfl Try.func14 nm_14 rfl rfl (fun w hb hh => w_gfmatrix_Invert (Mem.snap w) x77.1 x77.2.1 A82 n83 c84 _ (RdH.sn (RdH.own (k := 181) rfl) w hb hh) hx87)) ?_
      rintro _ _ ⟨_, ⟨A92, n93, c94, rfl, rfl⟩, rfl⟩
      refine WL.yld (by decide) (Yld.move rfl) ?_
      refine WL.yld (by decide) (Yld.extract rfl rfl) ?_
      refine WL.yld (by decide) (Yld.extract rfl rfl) ?_
      refine WL.eff (by decide) (Eff.alloc 195 rfl zr_24) ?_
      rintro _ _ ⟨g95, rfl, rfl⟩
      refine WL.eff0 (Eff0.storeBAM 195 agg_24 rfl rfl rfl ⟨rfl, rfl⟩ rfl) ?_
      refine WL.yld (by decide) (Yld.assign rfl) ?_
      refine WL.done (hK86 _ _ ?_)
      refine WC.seqRegion fun K96 hK96 => ?_
      by_cases hc97 : x77.2.2.2 = (0 : Int)
      · replace h := of_t hc97 h
        by_cases hc98 : x87.2.2.2 = (0 : Int)
        · replace h := of_t hc98 h
          obtain ⟨x99, hx99, h⟩ := bnd h
          refine WL.yld (by decide) (Yld.move rfl) ?_
          refine WL.yld (by decide) (Yld.eqlI rfl rfl) ?_
          refine WL.yld (by decide) (Yld.move rfl) ?_
          refine WL.new (v' := .bool true) (congrArg Value.bool (beq_iff_eq.2 hc97)) ?_
          refine WL.yldG (by decide) rfl (Yld.move rfl) ?_
          refine WL.yldG (by decide) rfl (Yld.eqlI rfl rfl) ?_
          refine WL.yld (by decide) (Yld.pickT rfl rfl) ?_
          refine WL.yld (by decide) (Yld.move rfl) ?_
          refine WL.new (v' := .bool true) (congrArg Value.bool (beq_iff_eq.2 hc98)) ?_
          refine WL.effG (by decide) rfl (Eff.callS 200 rfl Try.func15 nm_15 rfl rfl (fun w hb hh => w_law04_awake (Mem.snap w) hx99)) ?_
          rintro _ _ ⟨_, ⟨rfl, rfl⟩, rfl⟩
          refine WL.yld (by decide) (Yld.pickT rfl rfl) ?_
          refine WL.yld (by decide) (Yld.assign rfl) ?_
          refine WL.done (hK96 _ _ ?_)
          refine WC.ret ?_
          injection h with h; subst h
          exact Ret.fn [] (ResIs.one rfl rfl) rfl (Ext.refl _ _) rfl (by decide) rfl rfl ⟨rfl, rfl⟩
        · replace h := of_f hc98 h
          refine WL.yld (by decide) (Yld.move rfl) ?_
          refine WL.yld (by decide) (Yld.eqlI rfl rfl) ?_
          refine WL.yld (by decide) (Yld.move rfl) ?_
          refine WL.new (v' := .bool true) (congrArg Value.bool (beq_iff_eq.2 hc97)) ?_
          refine WL.yldG (by decide) rfl (Yld.move rfl) ?_
          refine WL.yldG (by decide) rfl (Yld.eqlI rfl rfl) ?_
          refine WL.yld (by decide) (Yld.pickT rfl rfl) ?_
          refine WL.yld (by decide) (Yld.move rfl) ?_
          refine WL.new (v' := .bool false) (congrArg Value.bool (beq_eq_false_iff_ne.2 hc98)) ?_
          refine WL.skip (by decide) rfl rfl ?_
          refine WL.yld (by decide) (Yld.pickF rfl rfl) ?_
          refine WL.yld (by decide) (Yld.assign rfl) ?_
          refine WL.done (hK96 _ _ ?_)
          refine WC.ret ?_
          injection h with h; subst h
          exact Ret.fn [] (ResIs.one rfl rfl) rfl (Ext.refl _ _) rfl (by decide) rfl rfl ⟨rfl, rfl⟩
      · replace h := of_f hc97 h
        refine WL.yld (by decide) (Yld.move rfl) ?_
        refine WL.yld (by decide) (Yld.eqlI rfl rfl) ?_
        refine WL.yld (by decide) (Yld.move rfl) ?_
        refine WL.new (v' := .bool false) (congrArg Value.bool (beq_eq_false_iff_ne.2 hc97)) ?_
        refine WL.skip (by decide) rfl rfl ?_
        refine WL.skip (by decide) rfl rfl ?_
        refine WL.yld (by decide) (Yld.pickF rfl rfl) ?_
        refine WL.yld (by decide) (Yld.move rfl) ?_
        refine WL.skip (by decide) rfl rfl ?_
        refine WL.yld (by decide) (Yld.pickF rfl rfl) ?_
        refine WL.yld (by decide) (Yld.assign rfl) ?_
        refine WL.done (hK96 _ _ ?_)
        refine WC.ret ?_
        injection h with h; subst h
        exact Ret.fn [] (ResIs.one rfl rfl) rfl (Ext.refl _ _) rfl (by decide) rfl rfl ⟨rfl, rfl⟩

end Go.Proofs.Ytnbcphofimicdaa
