/-
 Walks (d): what a function's model gives, the function returns. Printed by a program of ours (vcm.py) from the function's operations. Conditions: as each theorem says.
-/
import Derived.Test.YtcncappgheopgaaWkc
import Derived.Test.YtcncappgheopgaaMdd
namespace Go.Proofs.Ytcncappgheopgaa
open Go Go.RowKit
set_option linter.unusedVariables false

theorem und_4 : Try.prog.underlying 4 = some .bool := by kernel_rfl
theorem mixed : Try.prog.follows .mixedOrders = true := by kernel_rfl
theorem nm_5 : (Try.f5.name == "runtime.NumGoroutine") = false := by kernel_rfl
theorem nm_6 : (Try.f6.name == "runtime.NumGoroutine") = false := by kernel_rfl

set_option maxRecDepth 10000 in
theorem w_law18_EcreadSets (M0 : Mem) (x00 : Int) (x01 : Int) {res : Bool} (h : m_law18_EcreadSets x00 x01 = some res) :
  Fn Try.prog 3 #[I64 x00, I64 x01] M0 fun r M' es => r = .bool res ∧ es = [] := by
 refine Fn.intro (N := 95) Try.func3 rfl rfl (Nat.le_of_ble_eq_true rfl) fun w0 => ?_
 unfold m_law18_EcreadSets at h
 refine WC.seqRegion fun K1 hK1 => ?_
 refine WL.yld (by decide) (Yld.assign rfl) ?_
 refine WL.done (hK1 _ _ ?_)
 refine WC.seqCut (σ := Mem) (fun M2 => [(0, I64 x00), (1, I64 x01)]) (fun M2 => [(0, .mem M2)]) (fun M2 => m_law18_EcreadSets_j0 x00 x01 = some res ∧ Ext w0.heap.size M0 M2) (fun K3 hK3 => ?_) ?_
 ·
  skip
  refine WC.seqRegion fun K4 hK4 => ?_
  refine WL.yld (by decide) (Yld.move rfl) ?_
  refine WL.yld (by decide) (Yld.move rfl) ?_
  refine WL.yld (by decide) (Yld.andC rfl rfl) ?_
  refine WL.eff (by decide) (Eff.buildC 105 ([x00, andi x00 (31 : Int)] : List (Int)) sty_22 rfl rfl rfl rfl rfl (by decide)) ?_
  rintro _ _ ⟨g5, rfl, rfl⟩
  refine WL.yld (by decide) (Yld.lenC (xs := ([x00, andi x00 (31 : Int)] : List (Int))) und_22 rfl (RdH.own (k := 105) rfl)) ?_
  refine WL.yld (by decide) (Yld.move rfl) ?_
  refine WL.done (hK4 _ _ ?_)
  refine WC.block ?_
  refine WC.loop (σ := Nat × Mem × Int) (fun ⟨q8, M6, x7⟩ => [(0, I64 x00), (1, I64 x01), (17, .slice (some ⟨g5, 0, none⟩) (([x00, andi x00 (31 : Int)] : List (Int)).length) (([x00, andi x00 (31 : Int)] : List (Int)).length)), (18, I64 (([x00, andi x00 (31 : Int)] : List (Int)).length : Int)), (19, I64 x7)]) (fun ⟨q8, M6, x7⟩ => [(0, .mem M6), (105, .own 3 (Lay.sz Int) (some ⟨g5, 0, none⟩) (([x00, andi x00 (31 : Int)] : List (Int)).length) (([x00, andi x00 (31 : Int)] : List (Int)).length) (cel ([x00, andi x00 (31 : Int)] : List (Int))))]) (fun ⟨q8, M6, x7⟩ => m_law18_EcreadSets_l1 x00 x01 q8 x7 = some res ∧ Ext w0.heap.size M0 M6) (fun ⟨q8, M6, x7⟩ => q8) ⟨forever, M0, (0 : Int)⟩ ?_ (Sub.cons rfl (Sub.cons rfl (Sub.cons rfl (Sub.cons rfl (Sub.cons rfl (Sub.nil _)))))) (Sub.cons rfl (Sub.cons rfl (Sub.nil _))) ?_
  ·
   exact ⟨h, (Ext.refl _ _)⟩
  rintro ⟨q8, M6, x7⟩ ⟨h, hm_M6⟩ K9 hK9
  cases q8 with
  | zero => exact absurd h (by simp [m_law18_EcreadSets_l1])
  | succ q8 =>
   unfold m_law18_EcreadSets_l1 at h
   refine WC.seqRegion fun K10 hK10 => ?_
   refine WL.yld (by decide) (Yld.lss rfl rfl) ?_
   refine WL.done (hK10 _ _ ?_)
   refine WC.seq fun K11 hK11 => ?_
   by_cases hc12 : x7 < (([x00, andi x00 (31 : Int)] : List (Int)).length : Int)
   ·
    replace h := of_t hc12 h
    refine WC.condTe rfl (decide_eq_true hc12) ?_
    refine WC.skip ?_
    refine QK.thenN (hK11 _ _ ?_)
    refine WC.seqCut (σ := Mem) (fun M13 => [(0, I64 x00), (1, I64 x01), (17, .slice (some ⟨g5, 0, none⟩) (([x00, andi x00 (31 : Int)] : List (Int)).length) (([x00, andi x00 (31 : Int)] : List (Int)).length)), (18, I64 (([x00, andi x00 (31 : Int)] : List (Int)).length : Int)), (19, I64 x7)]) (fun M13 => [(0, .mem M13), (105, .own 3 (Lay.sz Int) (some ⟨g5, 0, none⟩) (([x00, andi x00 (31 : Int)] : List (Int)).length) (([x00, andi x00 (31 : Int)] : List (Int)).length) (cel ([x00, andi x00 (31 : Int)] : List (Int))))]) (fun M13 => m_law18_EcreadSets_j2 x7 (m_law18_EcreadSets_l1 x00 x01 q8) = some res ∧ Ext w0.heap.size M6 M13) (fun K14 hK14 => ?_) ?_
    ·
     skip
     refine WC.block ?_
     refine WC.seqRegion fun K15 hK15 => ?_
     obtain ⟨x16, hx16, h⟩ := bnd h
     refine WL.yld (by decide) (Yld.idxC (xs := ([x00, andi x00 (31 : Int)] : List (Int))) sty_22 rfl rfl (RdH.own (k := 105) rfl) hx16) ?_
     refine WL.yld (by decide) (Yld.loadC0 (xs := ([x00, andi x00 (31 : Int)] : List (Int))) scal_3 rfl (RdH.own (k := 105) rfl) hx16 rfl) ?_
     refine WL.yld (by decide) (Yld.assign rfl) ?_
     refine WL.done (hK15 _ _ ?_)
     refine WC.seqRegion fun K17 hK17 => ?_
     obtain ⟨x18, hx18, h⟩ := bnd h
     obtain ⟨x26, hx26, h⟩ := bnd h
     refine WL.yld (by decide) (Yld.move rfl) ?_
     refine WL.eff (by decide) (Eff.callS 122 rfl Try.func4 nm_4 rfl rfl (fun w hb hh => w_ecread_Exclude (Mem.snap w) x16 hx18)) ?_
     rintro _ _ ⟨_, ⟨A23, n24, c25, rfl, rfl⟩, rfl⟩
     refine WL.yld (by decide) (Yld.move rfl) ?_
     refine WL.eff (by decide) (Eff.callM 131 rfl Try.func5 nm_5 rfl rfl rfl (w_r18_Exclude _ x16 hx26)) ?_
     rintro _ _ ⟨M36, _, ⟨A37, n38, c39, rfl, rfl, hf40⟩, hm_M36, rfl⟩
     refine WL.yld (by decide) (Yld.assign rfl) ?_
     refine WL.yld (by decide) (Yld.assign rfl) ?_
     refine WL.done (hK17 _ _ ?_)
     refine WC.seq fun K41 hK41 => ?_
     refine WC.seqRegion fun K42 hK42 => ?_
     refine WL.yld (by decide) (Yld.move rfl) ?_
     refine WL.yld (by decide) (Yld.lenC (xs := x18) und_22 rfl (RdH.own (k := 122) rfl)) ?_
     refine WL.yld (by decide) (Yld.move rfl) ?_
     refine WL.yld (by decide) (Yld.lenC (xs := x26) und_22 rfl (RdH.memM (k := 0) rfl hf40)) ?_
     refine WL.yld (by decide) (Yld.neqI rfl rfl) ?_
     refine WL.done (hK42 _ _ ?_)
     by_cases hc43 : (x18.length : Int) = (x26.length : Int)
     ·
      replace h := of_t hc43 h
      refine WC.condFe rfl (bne_eq_false_iff_eq.2 hc43) ?_
      refine WC.skip ?_
      refine QK.thenN (hK41 _ _ ?_)
      refine WC.seqRegion fun K44 hK44 => ?_
      refine WL.yld (by decide) (Yld.move rfl) ?_
      refine WL.yld (by decide) (Yld.lenC (xs := x18) und_22 rfl (RdH.own (k := 122) rfl)) ?_
      refine WL.yld (by decide) (Yld.move rfl) ?_
      refine WL.done (hK44 _ _ ?_)
      refine WC.block ?_
      refine WC.loop (σ := Nat × Int) (fun ⟨q46, x45⟩ => [(0, I64 x00), (1, I64 x01), (7, .slice A23 n24 c25), (8, .slice A37 n38 c39), (17, .slice (some ⟨g5, 0, none⟩) (([x00, andi x00 (31 : Int)] : List (Int)).length) (([x00, andi x00 (31 : Int)] : List (Int)).length)), (18, I64 (([x00, andi x00 (31 : Int)] : List (Int)).length : Int)), (19, I64 x7), (33, I64 (x18.length : Int)), (34, I64 x45)]) (fun ⟨q46, x45⟩ => [(0, .mem M36), (105, .own 3 (Lay.sz Int) (some ⟨g5, 0, none⟩) (([x00, andi x00 (31 : Int)] : List (Int)).length) (([x00, andi x00 (31 : Int)] : List (Int)).length) (cel ([x00, andi x00 (31 : Int)] : List (Int)))), (122, .own 3 (Lay.sz Int) A23 n24 c25 (cel x18))]) (fun ⟨q46, x45⟩ => m_law18_EcreadSets_l3 x7 x18 x26 (m_law18_EcreadSets_l1 x00 x01 q8) q46 x45 = some res) (fun ⟨q46, x45⟩ => q46) ⟨forever, (0 : Int)⟩ ?_ (Sub.cons rfl (Sub.cons rfl (Sub.cons rfl (Sub.cons rfl (Sub.cons rfl (Sub.cons rfl (Sub.cons rfl (Sub.cons rfl (Sub.cons rfl (Sub.nil _)))))))))) (Sub.cons rfl (Sub.cons rfl (Sub.cons rfl (Sub.nil _)))) ?_
      ·
       exact h
      rintro ⟨q46, x45⟩ h K47 hK47
      cases q46 with
      | zero => exact absurd h (by simp [m_law18_EcreadSets_l3])
      | succ q46 =>
       unfold m_law18_EcreadSets_l3 at h
       refine WC.seqRegion fun K48 hK48 => ?_
       refine WL.yld (by decide) (Yld.lss rfl rfl) ?_
       refine WL.done (hK48 _ _ ?_)
       refine WC.seq fun K49 hK49 => ?_
       by_cases hc50 : x45 < (x18.length : Int)
       ·
        replace h := of_t hc50 h
        refine WC.condTe rfl (decide_eq_true hc50) ?_
        refine WC.skip ?_
        refine QK.thenN (hK49 _ _ ?_)
        refine WC.seq fun K51 hK51 => ?_
        refine WC.block ?_
        refine WC.seqRegion fun K52 hK52 => ?_
        refine WL.yld (by decide) (Yld.move rfl) ?_
        refine WL.yld (by decide) (Yld.assign rfl) ?_
        refine WL.done (hK52 _ _ ?_)
        refine WC.seqRegionD (n := 9) [(0, _), (105, _), (122, _)] rfl mixed (Sub.cons rfl (Sub.cons rfl (Sub.cons rfl (Sub.nil _)))) fun K53 hK53 => ?_
        obtain ⟨x54, hx54, h⟩ := bnd h
        obtain ⟨x55, hx55, h⟩ := bnd h
        refine WD.take 0 rfl (by kernel_rfl) (by kernel_rfl) (by kernel_rfl) (by decide) (Yld.move rfl) ?_
        refine WD.take 1 rfl (by kernel_rfl) (by kernel_rfl) (by kernel_rfl) (by decide) (Yld.move rfl) ?_
        refine WD.take 2 rfl (by kernel_rfl) (by kernel_rfl) (by kernel_rfl) (by decide) (Yld.idxC (xs := x18) sty_22 rfl rfl (RdH.own (k := 122) rfl) hx54) ?_
        refine WD.take 3 rfl (by kernel_rfl) (by kernel_rfl) (by kernel_rfl) (by decide) (Yld.loadC0 (xs := x18) scal_3 rfl (RdH.own (k := 122) rfl) hx54 rfl) ?_
        refine WD.take 4 rfl (by kernel_rfl) (by kernel_rfl) (by kernel_rfl) (by decide) (Yld.move rfl) ?_
        refine WD.take 5 rfl (by kernel_rfl) (by kernel_rfl) (by kernel_rfl) (by decide) (Yld.move rfl) ?_
        refine WD.take 6 rfl (by kernel_rfl) (by kernel_rfl) (by kernel_rfl) (by decide) (Yld.idxC (xs := x26) sty_22 rfl rfl (RdH.memM (k := 0) rfl hf40) hx55) ?_
        refine WD.take 7 rfl (by kernel_rfl) (by kernel_rfl) (by kernel_rfl) (by decide) (Yld.loadC0 (xs := x26) scal_3 rfl (RdH.memM (k := 0) rfl hf40) hx55 rfl) ?_
        refine WD.take 8 rfl (by kernel_rfl) (by kernel_rfl) (by kernel_rfl) (by decide) (Yld.neqI rfl rfl) ?_
        refine WD.done (by kernel_rfl) (hK53 _ _ ?_)
        by_cases hc56 : x54 = x55
        ·
         replace h := of_t hc56 h
         refine WC.condFe rfl (bne_eq_false_iff_eq.2 hc56) ?_
         refine WC.skip ?_
         refine QK.blockN ?_
         refine QK.thenN (hK51 _ _ ?_)
         refine WC.region fun K57 hK57 => ?_
         obtain ⟨x58, hx58, h⟩ := bnd h
         refine WL.yld (by decide) (Yld.addC rfl rfl hx58) ?_
         refine WL.yld (by decide) (Yld.move rfl) ?_
         refine WL.done (hK57 _ _ ?_)
         refine QK.thenN ?_
         refine hK47 ⟨q46, x58⟩ _ _ ?_ (Nat.lt_succ_self _) (Sub.cons rfl (Sub.cons rfl (Sub.cons rfl (Sub.cons rfl (Sub.cons rfl (Sub.cons rfl (Sub.cons rfl (Sub.cons rfl (Sub.cons rfl (Sub.nil _)))))))))) (Sub.cons rfl (Sub.cons rfl (Sub.cons rfl (Sub.nil _))))
         exact h
        ·
         replace h := of_f hc56 h
         refine WC.condTe rfl (bne_iff_ne.2 hc56) ?_
         refine WC.seqRegion fun K59 hK59 => ?_
         refine WL.yld (by decide) (Yld.assign rfl) ?_
         refine WL.done (hK59 _ _ ?_)
         refine WC.ret (QK.blockR (QK.thenR (QK.thenR (QK.blockR (QK.blockR (QK.thenR (QK.thenR (QK.blockR (QK.thenR ?_)))))))))
         injection h with h; subst h
         exact Ret.fn [] (ResIs.one rfl rfl) rfl (Ext.trans hm_M6 hm_M36) rfl (by decide) rfl rfl ⟨rfl, rfl⟩
       ·
        replace h := of_f hc50 h
        refine WC.condFe rfl (decide_eq_false hc50) ?_
        refine WC.exit (QK.thenE (QK.thenE (QK.blockX ?_)))
        refine QK.blockN ?_
        refine QK.thenN ?_
        refine hK14 M36 _ _ ?_ (Sub.cons rfl (Sub.cons rfl (Sub.cons rfl (Sub.cons rfl (Sub.cons rfl (Sub.nil _)))))) (Sub.cons rfl (Sub.cons rfl (Sub.nil _)))
        exact ⟨h, hm_M36⟩
     ·
      replace h := of_f hc43 h
      refine WC.condTe rfl (bne_iff_ne.2 hc43) ?_
      refine WC.seqRegion fun K60 hK60 => ?_
      refine WL.yld (by decide) (Yld.assign rfl) ?_
      refine WL.done (hK60 _ _ ?_)
      refine WC.ret (QK.thenR (QK.blockR (QK.thenR (QK.thenR (QK.blockR (QK.thenR ?_))))))
      injection h with h; subst h
      exact Ret.fn [] (ResIs.one rfl rfl) rfl (Ext.trans hm_M6 hm_M36) rfl (by decide) rfl rfl ⟨rfl, rfl⟩
    ·
     rintro M13 ⟨h, hm_M13⟩
     unfold m_law18_EcreadSets_j2 at h
     refine WC.region fun K61 hK61 => ?_
     obtain ⟨x62, hx62, h⟩ := bnd h
     refine WL.yld (by decide) (Yld.addC rfl rfl hx62) ?_
     refine WL.yld (by decide) (Yld.move rfl) ?_
     refine WL.done (hK61 _ _ ?_)
     refine QK.thenN ?_
     refine hK9 ⟨q8, M13, x62⟩ _ _ ?_ (Nat.lt_succ_self _) (Sub.cons rfl (Sub.cons rfl (Sub.cons rfl (Sub.cons rfl (Sub.cons rfl (Sub.nil _)))))) (Sub.cons rfl (Sub.cons rfl (Sub.nil _)))
     exact ⟨h, (Ext.trans hm_M6 hm_M13)⟩
   ·
    replace h := of_f hc12 h
    refine WC.condFe rfl (decide_eq_false hc12) ?_
    refine WC.exit (QK.thenE (QK.thenE (QK.blockX ?_)))
    refine QK.thenN ?_
    refine hK3 M6 _ _ ?_ (Sub.cons rfl (Sub.cons rfl (Sub.nil _))) (Sub.cons rfl (Sub.nil _))
    exact ⟨h, hm_M6⟩
 ·
  rintro M2 ⟨h, hm_M2⟩
  unfold m_law18_EcreadSets_j0 at h
  refine WC.seqRegion fun K63 hK63 => ?_
  obtain ⟨x64, hx64, h⟩ := bnd h
  obtain ⟨x65, hx65, h⟩ := bnd h
  obtain ⟨x66, hx66, h⟩ := bnd h
  obtain ⟨x67, hx67, h⟩ := bnd h
  obtain ⟨x75, hx75, h⟩ := bnd h
  obtain ⟨x76, hx76, h⟩ := bnd h
  obtain ⟨x77, hx77, h⟩ := bnd h
  obtain ⟨x78, hx78, h⟩ := bnd h
  refine WL.yld (by decide) (Yld.move rfl) ?_
  refine WL.yld (by decide) (Yld.remC rfl rfl hx64) ?_
  refine WL.yld (by decide) (Yld.addC rfl rfl hx65) ?_
  refine WL.yld (by decide) (Yld.remC rfl rfl hx66) ?_
  refine WL.eff (by decide) (Eff.callS 171 rfl Try.func4 nm_4 rfl rfl (fun w hb hh => w_ecread_Exclude (Mem.snap w) x66 hx67)) ?_
  rintro _ _ ⟨_, ⟨A72, n73, c74, rfl, rfl⟩, rfl⟩
  refine WL.yld (by decide) (Yld.move rfl) ?_
  refine WL.yld (by decide) (Yld.remC rfl rfl hx75) ?_
  refine WL.yld (by decide) (Yld.addC rfl rfl hx76) ?_
  refine WL.yld (by decide) (Yld.remC rfl rfl hx77) ?_
  refine WL.eff (by decide) (Eff.callS 182 rfl Try.func4 nm_4 rfl rfl (fun w hb hh => w_ecread_Exclude (Mem.snap w) x77 hx78)) ?_
  rintro _ _ ⟨_, ⟨A83, n84, c85, rfl, rfl⟩, rfl⟩
  refine WL.yld (by decide) (Yld.assign rfl) ?_
  refine WL.yld (by decide) (Yld.assign rfl) ?_
  refine WL.done (hK63 _ _ ?_)
  refine WC.seqRegion fun K86 hK86 => ?_
  refine WL.yld (by decide) (Yld.move rfl) ?_
  refine WL.yld (by decide) (Yld.lenC (xs := x67) und_22 rfl (RdH.own (k := 171) rfl)) ?_
  refine WL.yld (by decide) (Yld.move rfl) ?_
  refine WL.yld (by decide) (Yld.lenC (xs := x78) und_22 rfl (RdH.own (k := 182) rfl)) ?_
  refine WL.yld (by decide) (Yld.eqlI rfl rfl) ?_
  refine WL.yld (by decide) (Yld.assign rfl) ?_
  refine WL.done (hK86 _ _ ?_)
  refine WC.seqCut (σ := Bool) (fun x87 => [(0, I64 x00), (1, I64 x01), (12, .bool x87)]) (fun x87 => [(0, .mem M2)]) (fun x87 => m_law18_EcreadSets_j4 x00 x01 x87 = some res) (fun K88 hK88 => ?_) ?_
  ·
   skip
   refine WC.seqRegion fun K89 hK89 => ?_
   refine WL.yld (by decide) (Yld.assign rfl) ?_
   refine WL.done (hK89 _ _ ?_)
   refine WC.block ?_
   refine WC.loop (σ := Nat × Bool × Int) (fun ⟨q92, x90, x91⟩ => [(0, I64 x00), (1, I64 x01), (10, .slice A72 n73 c74), (11, .slice A83 n84 c85), (12, .bool x90), (13, I64 x91)]) (fun ⟨q92, x90, x91⟩ => [(0, .mem M2), (171, .own 3 (Lay.sz Int) A72 n73 c74 (cel x67)), (182, .own 3 (Lay.sz Int) A83 n84 c85 (cel x78))]) (fun ⟨q92, x90, x91⟩ => m_law18_EcreadSets_l5 x00 x01 x67 x78 q92 x90 x91 = some res) (fun ⟨q92, x90, x91⟩ => q92) ⟨forever, ((x67.length : Int) == (x78.length : Int)), (0 : Int)⟩ ?_ (Sub.cons rfl (Sub.cons rfl (Sub.cons rfl (Sub.cons rfl (Sub.cons rfl (Sub.cons rfl (Sub.nil _))))))) (Sub.cons rfl (Sub.cons rfl (Sub.cons rfl (Sub.nil _)))) ?_
   ·
    exact h
   rintro ⟨q92, x90, x91⟩ h K93 hK93
   cases q92 with
   | zero => exact absurd h (by simp [m_law18_EcreadSets_l5])
   | succ q92 =>
    unfold m_law18_EcreadSets_l5 at h
    refine WC.seq fun K94 hK94 => ?_
    refine WC.seqRegion fun K95 hK95 => ?_
    by_cases hc96 : x91 < (x67.length : Int)
    ·
     replace h := of_t hc96 h
     refine WL.yld (by decide) (Yld.move rfl) ?_
     refine WL.yld (by decide) (Yld.move rfl) ?_
     refine WL.yld (by decide) (Yld.lenC (xs := x67) und_22 rfl (RdH.own (k := 171) rfl)) ?_
     refine WL.yld (by decide) (Yld.lss rfl rfl) ?_
     refine WL.yld (by decide) (Yld.move rfl) ?_
     refine WL.new (v' := .bool true) (congrArg Value.bool (decide_eq_true hc96)) ?_
     refine WL.yldG (by decide) rfl (Yld.move rfl) ?_
     refine WL.yld (by decide) (Yld.pickT rfl rfl) ?_
     refine WL.done (hK95 _ _ ?_)
     by_cases hc97 : x90 = true
     ·
      replace h := of_t hc97 h
      refine WC.condTe rfl hc97 ?_
      refine WC.skip ?_
      refine QK.thenN (hK94 _ _ ?_)
      refine WC.seq fun K98 hK98 => ?_
      refine WC.block ?_
      refine WC.regionD (n := 10) [(0, _), (171, _), (182, _)] rfl mixed (Sub.cons rfl (Sub.cons rfl (Sub.cons rfl (Sub.nil _)))) fun K99 hK99 => ?_
      obtain ⟨x100, hx100, h⟩ := bnd h
      obtain ⟨x101, hx101, h⟩ := bnd h
      refine WD.take 0 rfl (by kernel_rfl) (by kernel_rfl) (by kernel_rfl) (by decide) (Yld.move rfl) ?_
      refine WD.take 1 rfl (by kernel_rfl) (by kernel_rfl) (by kernel_rfl) (by decide) (Yld.move rfl) ?_
      refine WD.take 2 rfl (by kernel_rfl) (by kernel_rfl) (by kernel_rfl) (by decide) (Yld.idxC (xs := x67) sty_22 rfl rfl (RdH.own (k := 171) rfl) hx100) ?_
      refine WD.take 3 rfl (by kernel_rfl) (by kernel_rfl) (by kernel_rfl) (by decide) (Yld.loadC0 (xs := x67) scal_3 rfl (RdH.own (k := 171) rfl) hx100 rfl) ?_
      refine WD.take 4 rfl (by kernel_rfl) (by kernel_rfl) (by kernel_rfl) (by decide) (Yld.move rfl) ?_
      refine WD.take 5 rfl (by kernel_rfl) (by kernel_rfl) (by kernel_rfl) (by decide) (Yld.move rfl) ?_
      refine WD.take 6 rfl (by kernel_rfl) (by kernel_rfl) (by kernel_rfl) (by decide) (Yld.idxC (xs := x78) sty_22 rfl rfl (RdH.own (k := 182) rfl) hx101) ?_
      refine WD.take 7 rfl (by kernel_rfl) (by kernel_rfl) (by kernel_rfl) (by decide) (Yld.loadC0 (xs := x78) scal_3 rfl (RdH.own (k := 182) rfl) hx101 rfl) ?_
      refine WD.take 8 rfl (by kernel_rfl) (by kernel_rfl) (by kernel_rfl) (by decide) (Yld.eqlI rfl rfl) ?_
      refine WD.take 9 rfl (by kernel_rfl) (by kernel_rfl) (by kernel_rfl) (by decide) (Yld.assign rfl) ?_
      refine WD.done (by kernel_rfl) (hK99 _ _ ?_)
      refine QK.blockN ?_
      refine QK.thenN (hK98 _ _ ?_)
      refine WC.region fun K102 hK102 => ?_
      obtain ⟨x103, hx103, h⟩ := bnd h
      refine WL.yld (by decide) (Yld.move rfl) ?_
      refine WL.yld (by decide) (Yld.addC rfl rfl hx103) ?_
      refine WL.yld (by decide) (Yld.assign rfl) ?_
      refine WL.done (hK102 _ _ ?_)
      refine QK.thenN ?_
      refine hK93 ⟨q92, (x100 == x101), x103⟩ _ _ ?_ (Nat.lt_succ_self _) (Sub.cons rfl (Sub.cons rfl (Sub.cons rfl (Sub.cons rfl (Sub.cons rfl (Sub.cons rfl (Sub.nil _))))))) (Sub.cons rfl (Sub.cons rfl (Sub.cons rfl (Sub.nil _))))
      exact h
     ·
      replace h := of_f hc97 h
      refine WC.condFe rfl (Bool.eq_false_iff.2 hc97) ?_
      refine WC.exit (QK.thenE (QK.thenE (QK.blockX ?_)))
      refine QK.thenN ?_
      refine hK88 x90 _ _ ?_ (Sub.cons rfl (Sub.cons rfl (Sub.cons rfl (Sub.nil _)))) (Sub.cons rfl (Sub.nil _))
      exact h
    ·
     replace h := of_f hc96 h
     refine WL.yld (by decide) (Yld.move rfl) ?_
     refine WL.yld (by decide) (Yld.move rfl) ?_
     refine WL.yld (by decide) (Yld.lenC (xs := x67) und_22 rfl (RdH.own (k := 171) rfl)) ?_
     refine WL.yld (by decide) (Yld.lss rfl rfl) ?_
     refine WL.yld (by decide) (Yld.move rfl) ?_
     refine WL.new (v' := .bool false) (congrArg Value.bool (decide_eq_false hc96)) ?_
     refine WL.skip (by decide) rfl rfl ?_
     refine WL.yld (by decide) (Yld.pickF rfl rfl) ?_
     refine WL.done (hK95 _ _ ?_)
     refine WC.condF rfl ?_
     refine WC.exit (QK.thenE (QK.thenE (QK.blockX ?_)))
     refine QK.thenN ?_
     refine hK88 x90 _ _ ?_ (Sub.cons rfl (Sub.cons rfl (Sub.cons rfl (Sub.nil _)))) (Sub.cons rfl (Sub.nil _))
     exact h
  ·
   rintro x87 h
   unfold m_law18_EcreadSets_j4 at h
   refine WC.seqRegion fun K104 hK104 => ?_
   obtain ⟨x105, hx105, h⟩ := bnd h
   obtain ⟨x106, hx106, h⟩ := bnd h
   obtain ⟨x107, hx107, h⟩ := bnd h
   obtain ⟨x108, hx108, h⟩ := bnd h
   obtain ⟨x109, hx109, h⟩ := bnd h
   obtain ⟨x110, hx110, h⟩ := bnd h
   by_cases hc111 : x87 = (x107 == x110)
   ·
    replace h := of_t hc111 h
    obtain ⟨x112, hx112, h⟩ := bnd h
    refine WL.yld (by decide) (Yld.move rfl) ?_
    refine WL.yld (by decide) (Yld.move rfl) ?_
    refine WL.yld (by decide) (Yld.remC rfl rfl hx105) ?_
    refine WL.yld (by decide) (Yld.addC rfl rfl hx106) ?_
    refine WL.yld (by decide) (Yld.remC rfl rfl hx107) ?_
    refine WL.yld (by decide) (Yld.move rfl) ?_
    refine WL.yld (by decide) (Yld.remC rfl rfl hx108) ?_
    refine WL.yld (by decide) (Yld.addC rfl rfl hx109) ?_
    refine WL.yld (by decide) (Yld.remC rfl rfl hx110) ?_
    refine WL.yld (by decide) (Yld.eqlI rfl rfl) ?_
    refine WL.yld (by decide) (Yld.eqlB und_4 rfl rfl) ?_
    refine WL.yld (by decide) (Yld.move rfl) ?_
    refine WL.new (v' := .bool true) (congrArg Value.bool (beq_iff_eq.2 hc111)) ?_
    refine WL.effG (by decide) rfl (Eff.callS 213 rfl Try.func6 nm_6 rfl rfl (fun w hb hh => w_law18_awake (Mem.snap w) hx112)) ?_
    rintro _ _ ⟨_, ⟨rfl, rfl⟩, rfl⟩
    refine WL.yld (by decide) (Yld.pickT rfl rfl) ?_
    refine WL.yld (by decide) (Yld.assign rfl) ?_
    refine WL.done (hK104 _ _ ?_)
    refine WC.ret ?_
    injection h with h; subst h
    exact Ret.fn [] (ResIs.one rfl rfl) rfl hm_M2 rfl (by decide) rfl rfl ⟨rfl, rfl⟩
   ·
    replace h := of_f hc111 h
    refine WL.yld (by decide) (Yld.move rfl) ?_
    refine WL.yld (by decide) (Yld.move rfl) ?_
    refine WL.yld (by decide) (Yld.remC rfl rfl hx105) ?_
    refine WL.yld (by decide) (Yld.addC rfl rfl hx106) ?_
    refine WL.yld (by decide) (Yld.remC rfl rfl hx107) ?_
    refine WL.yld (by decide) (Yld.move rfl) ?_
    refine WL.yld (by decide) (Yld.remC rfl rfl hx108) ?_
    refine WL.yld (by decide) (Yld.addC rfl rfl hx109) ?_
    refine WL.yld (by decide) (Yld.remC rfl rfl hx110) ?_
    refine WL.yld (by decide) (Yld.eqlI rfl rfl) ?_
    refine WL.yld (by decide) (Yld.eqlB und_4 rfl rfl) ?_
    refine WL.yld (by decide) (Yld.move rfl) ?_
    refine WL.new (v' := .bool false) (congrArg Value.bool (beq_eq_false_iff_ne.2 hc111)) ?_
    refine WL.skip (by decide) rfl rfl ?_
    refine WL.yld (by decide) (Yld.pickF rfl rfl) ?_
    refine WL.yld (by decide) (Yld.assign rfl) ?_
    refine WL.done (hK104 _ _ ?_)
    refine WC.ret ?_
    injection h with h; subst h
    exact Ret.fn [] (ResIs.one rfl rfl) rfl hm_M2 rfl (by decide) rfl rfl ⟨rfl, rfl⟩

end Go.Proofs.Ytcncappgheopgaa
