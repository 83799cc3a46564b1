/-
  Walks (e6): what a function's model gives, the function returns. Printed by a program of ours (vcm.py) from the function's operations. Conditions: as each theorem says.
-/
import Derived.Test.YtnkahhipochakaaWkc
import Derived.Test.YtnkahhipochakaaWkd
import Derived.Test.YtnkahhipochakaaMde6
namespace Go.Proofs.Ytnkahhipochakaa
open Go Go.RowKit
set_option linter.unusedVariables false

theorem nm_13 : (Try.f13.name == "runtime.NumGoroutine") = false := by kernel_rfl
theorem nm_29 : (Try.f29.name == "runtime.NumGoroutine") = false := by kernel_rfl

set_option maxRecDepth 10000 in
theorem w_law03_GfmatrixRows (M0 : Mem) (x00 : Int) (A01 : Option Addr) (n01 c01 : Nat) (x01 : List (Int)) (hf01 : SlT M0 A01 n01 c01 x01) {res : Bool} (h : m_law03_GfmatrixRows x00 x01 = some res) :
    Fn Try.prog 7 #[I64 x00, .slice A01 n01 c01] M0 fun r M' es => r = .bool res ∧ es = [] := by
  refine Fn.intro (N := 96) Try.func7 rfl rfl (Nat.le_of_ble_eq_true rfl) fun w0 => ?_
  unfold m_law03_GfmatrixRows at h
  refine WC.seqRegion fun K1 hK1 => ?_
  refine WL.yld (by decide) (Yld.assign rfl) ?_
  refine WL.done (hK1 _ _ ?_)
  refine WC.seqRegion fun K2 hK2 => ?_
  obtain ⟨x3, hx3, h⟩ := bnd h
  obtain ⟨x4, hx4, h⟩ := bnd h
  refine WL.yld (by decide) (Yld.move rfl) ?_
  refine WL.yld (by decide) (Yld.andC rfl rfl) ?_
  refine WL.yld (by decide) (Yld.remC rfl rfl hx3) ?_
  refine WL.yld (by decide) (Yld.addC rfl rfl hx4) ?_
  refine WL.yld (by decide) (Yld.assign rfl) ?_
  refine WL.done (hK2 _ _ ?_)
  refine WC.seqRegion fun K5 hK5 => ?_
  obtain ⟨x6, hx6, h⟩ := bnd h
  refine WL.yld (by decide) (Yld.move rfl) ?_
  refine WL.eff (by decide) (Eff.callS 110 rfl Try.func16 nm_16 rfl rfl (fun w hb hh => w_gfmatrix_Vandermonde (Mem.snap w) (16 : Int) x4 hx6)) ?_
  rintro _ _ ⟨_, ⟨A11, n12, c13, rfl, rfl⟩, rfl⟩
  refine WL.yld (by decide) (Yld.move rfl) ?_
  refine WL.yld (by decide) (Yld.extract rfl rfl) ?_
  refine WL.yld (by decide) (Yld.extract rfl rfl) ?_
  refine WL.eff (by decide) (Eff.alloc 114 rfl zr_27) ?_
  rintro _ _ ⟨g14, rfl, rfl⟩
  refine WL.eff0 (Eff0.storeBAM 114 agg_27 rfl rfl rfl ⟨rfl, rfl⟩ rfl) ?_
  refine WL.yld (by decide) (Yld.assign rfl) ?_
  refine WL.done (hK5 _ _ ?_)
  refine WC.seqRegion fun K15 hK15 => ?_
  refine WL.yld (by decide) (Yld.assign rfl) ?_
  refine WL.done (hK15 _ _ ?_)
  refine WC.seqCut (σ := (Option Addr) × Nat × Nat × (List (Int))) (fun ⟨A18, n19, c20, x21⟩ => [(5, I64 x4), (6, .pointer (some ⟨g14, 0, none⟩)), (7, I64 x6.2.2.2), (8, .slice A18 n19 c20)]) (fun ⟨A18, n19, c20, x21⟩ => [(0, .mem M0), (110, .own 5 (Lay.sz (BitVec 8)) A11 n12 c13 (cel x6.2.2.1)), (114, .blk g14 27 [I64 x6.1, I64 x6.2.1, .slice A11 n12 c13]), (117, .own 3 (Lay.sz Int) A18 n19 c20 (cel x21))]) (fun ⟨A18, n19, c20, x21⟩ => m_law03_GfmatrixRows_j0 x4 x6 x21 = some res) (fun K22 hK22 => ?_) ?_
  · skip
    refine WC.seqRegion fun K23 hK23 => ?_
    refine WL.yld (by decide) (Yld.assign rfl) ?_
    refine WL.done (hK23 _ _ ?_)
    refine WC.block ?_
    refine WC.nilOwn 125 3 (Lay.sz Int) none ?_
    refine WC.loop (σ := Nat × (Option Addr) × Nat × Nat × (List (Int)) × Int) (fun ⟨q31, A26, n27, c28, x29, x30⟩ => [(1, .slice A01 n01 c01), (5, I64 x4), (6, .pointer (some ⟨g14, 0, none⟩)), (7, I64 x6.2.2.2), (8, .slice A26 n27 c28), (9, I64 x30)]) (fun ⟨q31, A26, n27, c28, x29, x30⟩ => [(0, .mem M0), (110, .own 5 (Lay.sz (BitVec 8)) A11 n12 c13 (cel x6.2.2.1)), (114, .blk g14 27 [I64 x6.1, I64 x6.2.1, .slice A11 n12 c13]), (125, .own 3 (Lay.sz Int) A26 n27 c28 (cel x29))]) (fun ⟨q31, A26, n27, c28, x29, x30⟩ => m_law03_GfmatrixRows_l1 x01 x4 x6 q31 x29 x30 = some res) (fun ⟨q31, A26, n27, c28, x29, x30⟩ => q31) ⟨forever, none, 0, 0, ([] : List (Int)), (0 : Int)⟩ ?_ (Sub.cons rfl (Sub.cons rfl (Sub.cons rfl (Sub.cons rfl (Sub.cons rfl (Sub.cons rfl (Sub.nil _))))))) (Sub.cons rfl (Sub.cons rfl (Sub.cons rfl (Sub.cons rfl (Sub.nil _))))) ?_
    · exact h
    rintro ⟨q31, A26, n27, c28, x29, x30⟩ h K32 hK32
    cases q31 with
    | zero => exact absurd h (by simp [m_law03_GfmatrixRows_l1])
    | succ q31 =>
      unfold m_law03_GfmatrixRows_l1 at h
      refine WC.seqCut (σ := Unit) (fun _ => [(1, .slice A01 n01 c01), (5, I64 x4), (6, .pointer (some ⟨g14, 0, none⟩)), (7, I64 x6.2.2.2), (8, .slice A26 n27 c28), (9, I64 x30)]) (fun _ => [(0, .mem M0), (110, .own 5 (Lay.sz (BitVec 8)) A11 n12 c13 (cel x6.2.2.1)), (114, .blk g14 27 [I64 x6.1, I64 x6.2.1, .slice A11 n12 c13]), (125, .own 3 (Lay.sz Int) A26 n27 c28 (cel x29))]) (fun _ => m_law03_GfmatrixRows_j2 x01 x29 x30 (m_law03_GfmatrixRows_l1 x01 x4 x6 q31) = some res) (fun K33 hK33 => ?_) ?_
      · skip
        refine WC.seqRegion fun K34 hK34 => ?_
        by_cases hc35 : x30 < (x01.length : Int)
        · replace h := of_t hc35 h
          by_cases hc36 : x30 < (60 : Int)
          · replace h := of_t hc36 h
            refine WL.yld (by decide) (Yld.move rfl) ?_
            refine WL.yld (by decide) (Yld.move rfl) ?_
            refine WL.yld (by decide) (Yld.lenC (xs := x01) und_50 rfl (RdH.memM (k := 0) rfl hf01)) ?_
            refine WL.yld (by decide) (Yld.lss rfl rfl) ?_
            refine WL.yld (by decide) (Yld.move rfl) ?_
            refine WL.new (v' := .bool true) (congrArg Value.bool (decide_eq_true hc35)) ?_
            refine WL.yldG (by decide) rfl (Yld.move rfl) ?_
            refine WL.yldG (by decide) rfl (Yld.lss rfl rfl) ?_
            refine WL.yld (by decide) (Yld.pickT rfl rfl) ?_
            refine WL.yld (by decide) (Yld.move rfl) ?_
            refine WL.new (v' := .bool true) (congrArg Value.bool (decide_eq_true hc36)) ?_
            refine WL.yldG (by decide) rfl (Yld.move rfl) ?_
            refine WL.yldG (by decide) rfl (Yld.lenC (xs := x29) und_50 rfl (RdH.own (k := 125) rfl)) ?_
            refine WL.yldG (by decide) rfl (Yld.move rfl) ?_
            refine WL.yldG (by decide) rfl (Yld.lss rfl rfl) ?_
            refine WL.yld (by decide) (Yld.pickT rfl rfl) ?_
            refine WL.done (hK34 _ _ ?_)
            by_cases hc37 : (x29.length : Int) < x4
            · replace h := of_t hc37 h
              refine WC.condTe rfl (decide_eq_true hc37) ?_
              refine WC.skip ?_
              refine QK.thenN ?_
              refine hK33 () _ _ ?_ (Sub.cons rfl (Sub.cons rfl (Sub.cons rfl (Sub.cons rfl (Sub.cons rfl (Sub.cons rfl (Sub.nil _))))))) (Sub.cons rfl (Sub.cons rfl (Sub.cons rfl (Sub.cons rfl (Sub.nil _)))))
              exact h
            · replace h := of_f hc37 h
              refine WC.condFe rfl (decide_eq_false hc37) ?_
              refine WC.exit (QK.thenE (QK.thenE (QK.blockX ?_)))
              refine QK.thenN ?_
              refine KK.move 125 117 rfl rfl ?_
              refine hK22 ⟨A26, n27, c28, x29⟩ _ _ ?_ (Sub.cons rfl (Sub.cons rfl (Sub.cons rfl (Sub.cons rfl (Sub.nil _))))) (Sub.cons rfl (Sub.cons rfl (Sub.cons rfl (Sub.cons rfl (Sub.nil _)))))
              exact h
          · replace h := of_f hc36 h
            refine WL.yld (by decide) (Yld.move rfl) ?_
            refine WL.yld (by decide) (Yld.move rfl) ?_
            refine WL.yld (by decide) (Yld.lenC (xs := x01) und_50 rfl (RdH.memM (k := 0) rfl hf01)) ?_
            refine WL.yld (by decide) (Yld.lss rfl rfl) ?_
            refine WL.yld (by decide) (Yld.move rfl) ?_
            refine WL.new (v' := .bool true) (congrArg Value.bool (decide_eq_true hc35)) ?_
            refine WL.yldG (by decide) rfl (Yld.move rfl) ?_
            refine WL.yldG (by decide) rfl (Yld.lss rfl rfl) ?_
            refine WL.yld (by decide) (Yld.pickT rfl rfl) ?_
            refine WL.yld (by decide) (Yld.move rfl) ?_
            refine WL.new (v' := .bool false) (congrArg Value.bool (decide_eq_false hc36)) ?_
            refine WL.skip (by decide) rfl rfl ?_
            refine WL.skip (by decide) rfl rfl ?_
            refine WL.skip (by decide) rfl rfl ?_
            refine WL.skip (by decide) rfl rfl ?_
            refine WL.yld (by decide) (Yld.pickF rfl rfl) ?_
            refine WL.done (hK34 _ _ ?_)
            refine WC.condF rfl ?_
            refine WC.exit (QK.thenE (QK.thenE (QK.blockX ?_)))
            refine QK.thenN ?_
            refine KK.move 125 117 rfl rfl ?_
            refine hK22 ⟨A26, n27, c28, x29⟩ _ _ ?_ (Sub.cons rfl (Sub.cons rfl (Sub.cons rfl (Sub.cons rfl (Sub.nil _))))) (Sub.cons rfl (Sub.cons rfl (Sub.cons rfl (Sub.cons rfl (Sub.nil _)))))
            exact h
        · replace h := of_f hc35 h
          refine WL.yld (by decide) (Yld.move rfl) ?_
          refine WL.yld (by decide) (Yld.move rfl) ?_
          refine WL.yld (by decide) (Yld.lenC (xs := x01) und_50 rfl (RdH.memM (k := 0) rfl hf01)) ?_
          refine WL.yld (by decide) (Yld.lss rfl rfl) ?_
          refine WL.yld (by decide) (Yld.move rfl) ?_
          refine WL.new (v' := .bool false) (congrArg Value.bool (decide_eq_false hc35)) ?_
          refine WL.skip (by decide) rfl rfl ?_
          refine WL.skip (by decide) rfl rfl ?_
          refine WL.yld (by decide) (Yld.pickF rfl rfl) ?_
          refine WL.yld (by decide) (Yld.move rfl) ?_
          refine WL.skip (by decide) rfl rfl ?_
          refine WL.skip (by decide) rfl rfl ?_
          refine WL.skip (by decide) rfl rfl ?_
          refine WL.skip (by decide) rfl rfl ?_
          refine WL.yld (by decide) (Yld.pickF rfl rfl) ?_
          refine WL.done (hK34 _ _ ?_)
          refine WC.condF rfl ?_
          refine WC.exit (QK.thenE (QK.thenE (QK.blockX ?_)))
          refine QK.thenN ?_
          refine KK.move 125 117 rfl rfl ?_
          refine hK22 ⟨A26, n27, c28, x29⟩ _ _ ?_ (Sub.cons rfl (Sub.cons rfl (Sub.cons rfl (Sub.cons rfl (Sub.nil _))))) (Sub.cons rfl (Sub.cons rfl (Sub.cons rfl (Sub.cons rfl (Sub.nil _)))))
          exact h
      · rintro _ h
        unfold m_law03_GfmatrixRows_j2 at h
        refine WC.seqCut (σ := (Option Addr) × Nat × Nat × (List (Int))) (fun ⟨A38, n39, c40, x41⟩ => [(1, .slice A01 n01 c01), (5, I64 x4), (6, .pointer (some ⟨g14, 0, none⟩)), (7, I64 x6.2.2.2), (8, .slice A38 n39 c40), (9, I64 x30)]) (fun ⟨A38, n39, c40, x41⟩ => [(0, .mem M0), (110, .own 5 (Lay.sz (BitVec 8)) A11 n12 c13 (cel x6.2.2.1)), (114, .blk g14 27 [I64 x6.1, I64 x6.2.1, .slice A11 n12 c13]), (125, .own 3 (Lay.sz Int) A38 n39 c40 (cel x41))]) (fun ⟨A38, n39, c40, x41⟩ => m_law03_GfmatrixRows_j3 x30 (m_law03_GfmatrixRows_l1 x01 x4 x6 q31) x41 = some res) (fun K42 hK42 => ?_) ?_
        · skip
          refine WC.block ?_
          refine WC.seqRegion fun K43 hK43 => ?_
          obtain ⟨x44, hx44, h⟩ := bnd h
          refine WL.yld (by decide) (Yld.move rfl) ?_
          refine WL.yld (by decide) (Yld.move rfl) ?_
          refine WL.yld (by decide) (Yld.idxC (xs := x01) sty_50 rfl rfl (RdH.memM (k := 0) rfl hf01) hx44) ?_
          refine WL.yld (by decide) (Yld.loadC0 (xs := x01) scal_3 rfl (RdH.memM (k := 0) rfl hf01) hx44 rfl) ?_
          refine WL.yld (by decide) (Yld.andC rfl rfl) ?_
          refine WL.yld (by decide) (Yld.assign rfl) ?_
          refine WL.done (hK43 _ _ ?_)
          refine WC.seqRegion fun K45 hK45 => ?_
          refine WL.yld (by decide) (Yld.assign rfl) ?_
          refine WL.done (hK45 _ _ ?_)
          refine WC.seqCut (σ := Bool) (fun x46 => [(1, .slice A01 n01 c01), (5, I64 x4), (6, .pointer (some ⟨g14, 0, none⟩)), (7, I64 x6.2.2.2), (8, .slice A26 n27 c28), (9, I64 x30), (10, I64 (andi x44 (15 : Int))), (11, .bool x46)]) (fun x46 => [(0, .mem M0), (110, .own 5 (Lay.sz (BitVec 8)) A11 n12 c13 (cel x6.2.2.1)), (114, .blk g14 27 [I64 x6.1, I64 x6.2.1, .slice A11 n12 c13]), (125, .own 3 (Lay.sz Int) A26 n27 c28 (cel x29))]) (fun x46 => m_law03_GfmatrixRows_j4 x29 x30 x44 (m_law03_GfmatrixRows_l1 x01 x4 x6 q31) x46 = some res) (fun K47 hK47 => ?_) ?_
          · skip
            refine WC.seqRegion fun K48 hK48 => ?_
            refine WL.yld (by decide) (Yld.move rfl) ?_
            refine WL.yld (by decide) (Yld.lenC (xs := x29) und_50 rfl (RdH.own (k := 125) rfl)) ?_
            refine WL.yld (by decide) (Yld.move rfl) ?_
            refine WL.done (hK48 _ _ ?_)
            refine WC.block ?_
            refine WC.loop (σ := Nat × Bool × Int) (fun ⟨q51, x49, x50⟩ => [(1, .slice A01 n01 c01), (5, I64 x4), (6, .pointer (some ⟨g14, 0, none⟩)), (7, I64 x6.2.2.2), (8, .slice A26 n27 c28), (9, I64 x30), (10, I64 (andi x44 (15 : Int))), (11, .bool x49), (48, I64 (x29.length : Int)), (49, I64 x50)]) (fun ⟨q51, x49, x50⟩ => [(0, .mem M0), (110, .own 5 (Lay.sz (BitVec 8)) A11 n12 c13 (cel x6.2.2.1)), (114, .blk g14 27 [I64 x6.1, I64 x6.2.1, .slice A11 n12 c13]), (125, .own 3 (Lay.sz Int) A26 n27 c28 (cel x29))]) (fun ⟨q51, x49, x50⟩ => m_law03_GfmatrixRows_l5 x29 x30 x44 (m_law03_GfmatrixRows_l1 x01 x4 x6 q31) q51 x49 x50 = some res) (fun ⟨q51, x49, x50⟩ => q51) ⟨forever, true, (0 : Int)⟩ ?_ (Sub.cons rfl (Sub.cons rfl (Sub.cons rfl (Sub.cons rfl (Sub.cons rfl (Sub.cons rfl (Sub.cons rfl (Sub.cons rfl (Sub.cons rfl (Sub.cons rfl (Sub.nil _))))))))))) (Sub.cons rfl (Sub.cons rfl (Sub.cons rfl (Sub.cons rfl (Sub.nil _))))) ?_
            · exact h
            rintro ⟨q51, x49, x50⟩ h K52 hK52
            cases q51 with
            | zero => exact absurd h (by simp [m_law03_GfmatrixRows_l5])
            | succ q51 =>
              unfold m_law03_GfmatrixRows_l5 at h
              refine WC.seqRegion fun K53 hK53 => ?_
              refine WL.yld (by decide) (Yld.lss rfl rfl) ?_
              refine WL.done (hK53 _ _ ?_)
              refine WC.seq fun K54 hK54 => ?_
              by_cases hc55 : x50 < (x29.length : Int)
              · replace h := of_t hc55 h
                refine WC.condTe rfl (decide_eq_true hc55) ?_
                refine WC.skip ?_
                refine QK.thenN (hK54 _ _ ?_)
                refine WC.seq fun K56 hK56 => ?_
                refine WC.block ?_
                refine WC.seqRegion fun K57 hK57 => ?_
                refine WL.yld (by decide) (Yld.move rfl) ?_
                refine WL.yld (by decide) (Yld.assign rfl) ?_
                refine WL.done (hK57 _ _ ?_)
                refine WC.region fun K58 hK58 => ?_
                by_cases hc59 : x49 = true
                · replace h := of_t hc59 h
                  obtain ⟨x60, hx60, h⟩ := bnd h
                  refine WL.yld (by decide) (Yld.move rfl) ?_
                  refine WL.yld (by decide) (Yld.move rfl) ?_
                  refine WL.new (v' := .bool true) (congrArg Value.bool hc59) ?_
                  refine WL.yldG (by decide) rfl (Yld.move rfl) ?_
                  refine WL.yldG (by decide) rfl (Yld.move rfl) ?_
                  refine WL.yldG (by decide) rfl (Yld.idxC (xs := x29) sty_50 rfl rfl (RdH.own (k := 125) rfl) hx60) ?_
                  refine WL.yldG (by decide) rfl (Yld.loadC0 (xs := x29) scal_3 rfl (RdH.own (k := 125) rfl) hx60 rfl) ?_
                  refine WL.yldG (by decide) rfl (Yld.move rfl) ?_
                  refine WL.yldG (by decide) rfl (Yld.neqI rfl rfl) ?_
                  refine WL.yld (by decide) (Yld.pickT rfl rfl) ?_
                  refine WL.yld (by decide) (Yld.assign rfl) ?_
                  refine WL.done (hK58 _ _ ?_)
                  refine QK.blockN ?_
                  refine QK.thenN (hK56 _ _ ?_)
                  refine WC.region fun K61 hK61 => ?_
                  obtain ⟨x62, hx62, h⟩ := bnd h
                  refine WL.yld (by decide) (Yld.addC rfl rfl hx62) ?_
                  refine WL.yld (by decide) (Yld.move rfl) ?_
                  refine WL.done (hK61 _ _ ?_)
                  refine QK.thenN ?_
                  refine hK52 ⟨q51, (x60 != (andi x44 (15 : Int))), x62⟩ _ _ ?_ (Nat.lt_succ_self _) (Sub.cons rfl (Sub.cons rfl (Sub.cons rfl (Sub.cons rfl (Sub.cons rfl (Sub.cons rfl (Sub.cons rfl (Sub.cons rfl (Sub.cons rfl (Sub.cons rfl (Sub.nil _))))))))))) (Sub.cons rfl (Sub.cons rfl (Sub.cons rfl (Sub.cons rfl (Sub.nil _)))))
                  exact h
                · replace h := of_f hc59 h
                  refine WL.yld (by decide) (Yld.move rfl) ?_
                  refine WL.yld (by decide) (Yld.move rfl) ?_
                  refine WL.new (v' := .bool false) (congrArg Value.bool (Bool.eq_false_iff.2 hc59)) ?_
                  refine WL.skip (by decide) rfl rfl ?_
                  refine WL.skip (by decide) rfl rfl ?_
                  refine WL.skip (by decide) rfl rfl ?_
                  refine WL.skip (by decide) rfl rfl ?_
                  refine WL.skip (by decide) rfl rfl ?_
                  refine WL.skip (by decide) rfl rfl ?_
                  refine WL.yld (by decide) (Yld.pickF rfl rfl) ?_
                  refine WL.yld (by decide) (Yld.assign rfl) ?_
                  refine WL.done (hK58 _ _ ?_)
                  refine QK.blockN ?_
                  refine QK.thenN (hK56 _ _ ?_)
                  refine WC.region fun K63 hK63 => ?_
                  obtain ⟨x64, hx64, h⟩ := bnd h
                  refine WL.yld (by decide) (Yld.addC rfl rfl hx64) ?_
                  refine WL.yld (by decide) (Yld.move rfl) ?_
                  refine WL.done (hK63 _ _ ?_)
                  refine QK.thenN ?_
                  refine hK52 ⟨q51, false, x64⟩ _ _ ?_ (Nat.lt_succ_self _) (Sub.cons rfl (Sub.cons rfl (Sub.cons rfl (Sub.cons rfl (Sub.cons rfl (Sub.cons rfl (Sub.cons rfl (Sub.cons rfl (Sub.cons rfl (Sub.cons rfl (Sub.nil _))))))))))) (Sub.cons rfl (Sub.cons rfl (Sub.cons rfl (Sub.cons rfl (Sub.nil _)))))
                  exact h
              · replace h := of_f hc55 h
                refine WC.condFe rfl (decide_eq_false hc55) ?_
                refine WC.exit (QK.thenE (QK.thenE (QK.blockX ?_)))
                refine QK.thenN ?_
                refine hK47 x49 _ _ ?_ (Sub.cons rfl (Sub.cons rfl (Sub.cons rfl (Sub.cons rfl (Sub.cons rfl (Sub.cons rfl (Sub.cons rfl (Sub.cons rfl (Sub.nil _))))))))) (Sub.cons rfl (Sub.cons rfl (Sub.cons rfl (Sub.cons rfl (Sub.nil _)))))
                exact h
          · rintro x46 h
            unfold m_law03_GfmatrixRows_j4 at h
            refine WC.seqRegion fun K65 hK65 => ?_
            refine WL.yld (by decide) (Yld.move rfl) ?_
            refine WL.done (hK65 _ _ ?_)
            by_cases hc66 : x46 = true
            · replace h := of_t hc66 h
              refine WC.condTe rfl hc66 ?_
              refine WC.region fun K67 hK67 => ?_
              obtain ⟨x69, hx69, h⟩ := bnd h
              refine WL.yld (by decide) (Yld.move rfl) ?_
              refine WL.yld (by decide) (Yld.move rfl) ?_
              refine WL.eff (by decide) (Eff.buildC 168 ([andi x44 (15 : Int)] : List (Int)) sty_50 rfl rfl rfl rfl rfl (by decide)) ?_
              rintro _ _ ⟨g68, rfl, rfl⟩
              refine WL.eff (by decide) (Eff.appendC 125 (xs := x29) (ys := ([andi x44 (15 : Int)] : List (Int))) sty_50 rfl rfl rfl (RdH.own (k := 168) rfl) hx69) ?_
              rintro _ _ ⟨A70, c71, rfl, rfl⟩
              refine WL.yld (by decide) (Yld.assign rfl) ?_
              refine WL.done (hK67 _ _ ?_)
              refine QK.blockN ?_
              refine QK.thenN ?_
              refine hK42 ⟨A70, x69.length, c71, x69⟩ _ _ ?_ (Sub.cons rfl (Sub.cons rfl (Sub.cons rfl (Sub.cons rfl (Sub.cons rfl (Sub.cons rfl (Sub.nil _))))))) (Sub.cons rfl (Sub.cons rfl (Sub.cons rfl (Sub.cons rfl (Sub.nil _)))))
              exact h
            · replace h := of_f hc66 h
              refine WC.condFe rfl (Bool.eq_false_iff.2 hc66) ?_
              refine WC.skip ?_
              refine QK.blockN ?_
              refine QK.thenN ?_
              refine hK42 ⟨A26, n27, c28, x29⟩ _ _ ?_ (Sub.cons rfl (Sub.cons rfl (Sub.cons rfl (Sub.cons rfl (Sub.cons rfl (Sub.cons rfl (Sub.nil _))))))) (Sub.cons rfl (Sub.cons rfl (Sub.cons rfl (Sub.cons rfl (Sub.nil _)))))
              exact h
        · rintro ⟨A38, n39, c40, x41⟩ h
          unfold m_law03_GfmatrixRows_j3 at h
          refine WC.region fun K72 hK72 => ?_
          obtain ⟨x73, hx73, h⟩ := bnd h
          refine WL.yld (by decide) (Yld.move rfl) ?_
          refine WL.yld (by decide) (Yld.addC rfl rfl hx73) ?_
          refine WL.yld (by decide) (Yld.assign rfl) ?_
          refine WL.done (hK72 _ _ ?_)
          refine QK.thenN ?_
          refine hK32 ⟨q31, A38, n39, c40, x41, x73⟩ _ _ ?_ (Nat.lt_succ_self _) (Sub.cons rfl (Sub.cons rfl (Sub.cons rfl (Sub.cons rfl (Sub.cons rfl (Sub.cons rfl (Sub.nil _))))))) (Sub.cons rfl (Sub.cons rfl (Sub.cons rfl (Sub.cons rfl (Sub.nil _)))))
          exact h
  · rintro ⟨A18, n19, c20, x21⟩ h
    unfold m_law03_GfmatrixRows_j0 at h
    refine WC.seq fun K74 hK74 => ?_
    refine WC.seqRegion fun K75 hK75 => ?_
    refine WL.yld (by decide) (Yld.move rfl) ?_
    refine WL.yld (by decide) (Yld.lenC (xs := x21) und_50 rfl (RdH.own (k := 117) rfl)) ?_
    refine WL.yld (by decide) (Yld.move rfl) ?_
    refine WL.yld (by decide) (Yld.lss rfl rfl) ?_
    refine WL.done (hK75 _ _ ?_)
    by_cases hc76 : (x21.length : Int) < x4
    · replace h := of_t hc76 h
      refine WC.condTe rfl (decide_eq_true hc76) ?_
      refine WC.seqRegion fun K77 hK77 => ?_
      obtain ⟨x78, hx78, h⟩ := bnd h
      refine WL.eff (by decide) (Eff.callS 179 rfl Try.func13 nm_13 rfl rfl (fun w hb hh => w_law03_awake (Mem.snap w) hx78)) ?_
      rintro _ _ ⟨_, ⟨rfl, rfl⟩, rfl⟩
      refine WL.yld (by decide) (Yld.assign rfl) ?_
      refine WL.done (hK77 _ _ ?_)
      refine WC.ret (QK.thenR ?_)
      injection h with h; subst h
      exact Ret.fn [] (ResIs.one rfl rfl) rfl (Ext.refl _ _) rfl (by decide) rfl rfl ⟨rfl, rfl⟩
    · replace h := of_f hc76 h
      refine WC.condFe rfl (decide_eq_false hc76) ?_
      refine WC.skip ?_
      refine QK.thenN (hK74 _ _ ?_)
      refine WC.seqRegion fun K80 hK80 => ?_
      obtain ⟨x81, hx81, h⟩ := bnd h
      refine WL.yld (by decide) (Yld.loadBM (k := 114) agg_27 rfl rfl rfl) ?_
      refine WL.yld (by decide) (Yld.move rfl) ?_
      refine WL.eff (by decide) (Eff.callS 185 rfl Try.func29 nm_29 rfl rfl (fun w hb hh => w_gfmatrix_Pick (Mem.snap w) x6.1 x6.2.1 A11 n12 c13 _ (RdH.sn (RdH.own (k := 110) rfl) w hb hh) A18 n19 c20 _ (RdH.sn (RdH.own (k := 117) rfl) w hb hh) hx81)) ?_
      rintro _ _ ⟨_, ⟨A86, n87, c88, rfl, rfl⟩, rfl⟩
      refine WL.yld (by decide) (Yld.move rfl) ?_
      refine WL.yld (by decide) (Yld.extract rfl rfl) ?_
      refine WL.yld (by decide) (Yld.extract rfl rfl) ?_
      refine WL.eff (by decide) (Eff.alloc 189 rfl zr_27) ?_
      rintro _ _ ⟨g89, rfl, rfl⟩
      refine WL.eff0 (Eff0.storeBAM 189 agg_27 rfl rfl rfl ⟨rfl, rfl⟩ rfl) ?_
      refine WL.yld (by decide) (Yld.assign rfl) ?_
      refine WL.done (hK80 _ _ ?_)
      refine WC.seqRegion fun K90 hK90 => ?_
      obtain ⟨x91, hx91, h⟩ := bnd h
      refine WL.yld (by decide) (Yld.loadBM (k := 189) agg_27 rfl rfl rfl) ?_
      refine WL.eff (by decide) (Eff.callS 195 rfl Try.func22 nm_22 rfl rfl (fun w hb hh => w_gfmatrix_Invert (Mem.snap w) x81.1 x81.2.1 A86 n87 c88 _ (RdH.sn (RdH.own (k := 185) rfl) w hb hh) hx91)) ?_
      rintro _ _ ⟨_, ⟨A96, n97, c98, rfl, rfl⟩, rfl⟩
      refine WL.yld (by decide) (Yld.move rfl) ?_
      refine WL.yld (by decide) (Yld.extract rfl rfl) ?_
      refine WL.yld (by decide) (Yld.extract rfl rfl) ?_
      refine WL.eff (by decide) (Eff.alloc 199 rfl zr_27) ?_
      rintro _ _ ⟨g99, rfl, rfl⟩
      refine WL.eff0 (Eff0.storeBAM 199 agg_27 rfl rfl rfl ⟨rfl, rfl⟩ rfl) ?_
      refine WL.yld (by decide) (Yld.assign rfl) ?_
      refine WL.done (hK90 _ _ ?_)
      refine WC.seqRegion fun K100 hK100 => ?_
      by_cases hc101 : x6.2.2.2 = (0 : Int)
      · replace h := of_t hc101 h
        by_cases hc102 : x81.2.2.2 = (0 : Int)
        · replace h := of_t hc102 h
          by_cases hc103 : x91.2.2.2 = (0 : Int)
          · replace h := of_t hc103 h
            obtain ⟨x104, hx104, h⟩ := bnd h
            refine WL.yld (by decide) (Yld.move rfl) ?_
            refine WL.yld (by decide) (Yld.eqlI rfl rfl) ?_
            refine WL.yld (by decide) (Yld.move rfl) ?_
            refine WL.new (v' := .bool true) (congrArg Value.bool (beq_iff_eq.2 hc101)) ?_
            refine WL.yldG (by decide) rfl (Yld.move rfl) ?_
            refine WL.yldG (by decide) rfl (Yld.eqlI rfl rfl) ?_
            refine WL.yld (by decide) (Yld.pickT rfl rfl) ?_
            refine WL.yld (by decide) (Yld.move rfl) ?_
            refine WL.new (v' := .bool true) (congrArg Value.bool (beq_iff_eq.2 hc102)) ?_
            refine WL.yldG (by decide) rfl (Yld.move rfl) ?_
            refine WL.yldG (by decide) rfl (Yld.eqlI rfl rfl) ?_
            refine WL.yld (by decide) (Yld.pickT rfl rfl) ?_
            refine WL.yld (by decide) (Yld.move rfl) ?_
            refine WL.new (v' := .bool true) (congrArg Value.bool (beq_iff_eq.2 hc103)) ?_
            refine WL.effG (by decide) rfl (Eff.callS 205 rfl Try.func13 nm_13 rfl rfl (fun w hb hh => w_law03_awake (Mem.snap w) hx104)) ?_
            rintro _ _ ⟨_, ⟨rfl, rfl⟩, rfl⟩
            refine WL.yld (by decide) (Yld.pickT rfl rfl) ?_
            refine WL.yld (by decide) (Yld.assign rfl) ?_
            refine WL.done (hK100 _ _ ?_)
            refine WC.ret ?_
            injection h with h; subst h
            exact Ret.fn [] (ResIs.one rfl rfl) rfl (Ext.refl _ _) rfl (by decide) rfl rfl ⟨rfl, rfl⟩
          · replace h := of_f hc103 h
            refine WL.yld (by decide) (Yld.move rfl) ?_
            refine WL.yld (by decide) (Yld.eqlI rfl rfl) ?_
            refine WL.yld (by decide) (Yld.move rfl) ?_
            refine WL.new (v' := .bool true) (congrArg Value.bool (beq_iff_eq.2 hc101)) ?_
            refine WL.yldG (by decide) rfl (Yld.move rfl) ?_
            refine WL.yldG (by decide) rfl (Yld.eqlI rfl rfl) ?_
            refine WL.yld (by decide) (Yld.pickT rfl rfl) ?_
            refine WL.yld (by decide) (Yld.move rfl) ?_
            refine WL.new (v' := .bool true) (congrArg Value.bool (beq_iff_eq.2 hc102)) ?_
            refine WL.yldG (by decide) rfl (Yld.move rfl) ?_
            refine WL.yldG (by decide) rfl (Yld.eqlI rfl rfl) ?_
            refine WL.yld (by decide) (Yld.pickT rfl rfl) ?_
            refine WL.yld (by decide) (Yld.move rfl) ?_
            refine WL.new (v' := .bool false) (congrArg Value.bool (beq_eq_false_iff_ne.2 hc103)) ?_
            refine WL.skip (by decide) rfl rfl ?_
            refine WL.yld (by decide) (Yld.pickF rfl rfl) ?_
            refine WL.yld (by decide) (Yld.assign rfl) ?_
            refine WL.done (hK100 _ _ ?_)
            refine WC.ret ?_
            injection h with h; subst h
            exact Ret.fn [] (ResIs.one rfl rfl) rfl (Ext.refl _ _) rfl (by decide) rfl rfl ⟨rfl, rfl⟩
        · replace h := of_f hc102 h
          refine WL.yld (by decide) (Yld.move rfl) ?_
          refine WL.yld (by decide) (Yld.eqlI rfl rfl) ?_
          refine WL.yld (by decide) (Yld.move rfl) ?_
          refine WL.new (v' := .bool true) (congrArg Value.bool (beq_iff_eq.2 hc101)) ?_
          refine WL.yldG (by decide) rfl (Yld.move rfl) ?_
          refine WL.yldG (by decide) rfl (Yld.eqlI rfl rfl) ?_
          refine WL.yld (by decide) (Yld.pickT rfl rfl) ?_
          refine WL.yld (by decide) (Yld.move rfl) ?_
          refine WL.new (v' := .bool false) (congrArg Value.bool (beq_eq_false_iff_ne.2 hc102)) ?_
          refine WL.skip (by decide) rfl rfl ?_
          refine WL.skip (by decide) rfl rfl ?_
          refine WL.yld (by decide) (Yld.pickF rfl rfl) ?_
          refine WL.yld (by decide) (Yld.move rfl) ?_
          refine WL.skip (by decide) rfl rfl ?_
          refine WL.yld (by decide) (Yld.pickF rfl rfl) ?_
          refine WL.yld (by decide) (Yld.assign rfl) ?_
          refine WL.done (hK100 _ _ ?_)
          refine WC.ret ?_
          injection h with h; subst h
          exact Ret.fn [] (ResIs.one rfl rfl) rfl (Ext.refl _ _) rfl (by decide) rfl rfl ⟨rfl, rfl⟩
      · replace h := of_f hc101 h
        refine WL.yld (by decide) (Yld.move rfl) ?_
        refine WL.yld (by decide) (Yld.eqlI rfl rfl) ?_
        refine WL.yld (by decide) (Yld.move rfl) ?_
        refine WL.new (v' := .bool false) (congrArg Value.bool (beq_eq_false_iff_ne.2 hc101)) ?_
        refine WL.skip (by decide) rfl rfl ?_
        refine WL.skip (by decide) rfl rfl ?_
        refine WL.yld (by decide) (Yld.pickF rfl rfl) ?_
        refine WL.yld (by decide) (Yld.move rfl) ?_
        refine WL.skip (by decide) rfl rfl ?_
        refine WL.skip (by decide) rfl rfl ?_
        refine WL.yld (by decide) (Yld.pickF rfl rfl) ?_
        refine WL.yld (by decide) (Yld.move rfl) ?_
        refine WL.skip (by decide) rfl rfl ?_
        refine WL.yld (by decide) (Yld.pickF rfl rfl) ?_
        refine WL.yld (by decide) (Yld.assign rfl) ?_
        refine WL.done (hK100 _ _ ?_)
        refine WC.ret ?_
        injection h with h; subst h
        exact Ret.fn [] (ResIs.one rfl rfl) rfl (Ext.refl _ _) rfl (by decide) rfl rfl ⟨rfl, rfl⟩

end Go.Proofs.Ytnkahhipochakaa
