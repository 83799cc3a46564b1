/-
 Walks (d): what a function's model gives, the function returns. Printed by a program of ours (vcm.py) from the function's operations. Conditions: as each theorem says.
-/
import Derived.Test.YtpebhdepmbnjbaaWkc
import Derived.Test.YtpebhdepmbnjbaaMdd
namespace Go.Proofs.Ytpebhdepmbnjbaa
open Go Go.RowKit
set_option linter.unusedVariables false

theorem nm_15 : (Try.f15.name == "runtime.NumGoroutine") = false := by kernel_rfl
theorem nm_25 : (Try.f25.name == "runtime.NumGoroutine") = false := by kernel_rfl

set_option maxRecDepth 10000 in
theorem w_history_End (M0 : Mem) (x00_0 : Int) (x00_1 : Int) (x00_2 : BitVec 64) (x00_3 : BitVec 32) (A00_4 : Option Addr) (n00_4 c00_4 : Nat) (x00_4 : List (BitVec 8)) (hf00_4 : SlT M0 A00_4 n00_4 c00_4 x00_4) (A00_5 : Option Addr) (n00_5 c00_5 : Nat) (x00_5 : List (BitVec 8)) (hf00_5 : SlT M0 A00_5 n00_5 c00_5 x00_5) (x00_6 : Int) (x00_7 : Int) (x00_8 : Int) (x00_9 : Int) {res : Int} (h : m_history_End x00_0 x00_1 x00_2 x00_3 x00_4 x00_5 x00_6 x00_7 x00_8 x00_9 = some res) :
  Fn Try.prog 25 #[.agg ([I64 x00_0, I64 x00_1, U64 x00_2, U32 x00_3, .slice A00_4 n00_4 c00_4, .slice A00_5 n00_5 c00_5, I64 x00_6, I64 x00_7, I64 x00_8, I64 x00_9] : List Value).toArray] M0 fun r M' es => r = I64 res ∧ es = [] := by
 refine Fn.intro (N := 15) Try.func25 rfl rfl (Nat.le_of_ble_eq_true rfl) fun w0 => ?_
 unfold m_history_End at h
 refine WC.seqRegion fun K1 hK1 => ?_
 refine WL.eff (by decide) (Eff.box 102 (us := [I64 x00_0, I64 x00_1, U64 x00_2, U32 x00_3, .slice A00_4 n00_4 c00_4, .slice A00_5 n00_5 c00_5, I64 x00_6, I64 x00_7, I64 x00_8, I64 x00_9]) rfl rfl rfl) ?_
 rintro _ _ ⟨g2, rfl, rfl⟩
 refine WL.yld (by decide) (Yld.assign rfl) ?_
 refine WL.done (hK1 _ _ ?_)
 refine WC.seq fun K3 hK3 => ?_
 refine WC.block ?_
 refine WC.seqRegion fun K4 hK4 => ?_
 refine WL.yld (by decide) (Yld.fieldAddr Try.underlying42 rfl nz_3 rfl rfl) ?_
 refine WL.yld (by decide) (Yld.loadB (k := 102) scal_3 rfl rfl rfl) ?_
 refine WL.yld (by decide) (Yld.neqI rfl rfl) ?_
 refine WL.yld (by decide) (Yld.assign rfl) ?_
 refine WL.done (hK4 _ _ ?_)
 by_cases hc5 : x00_7 = (-1 : Int)
 ·
  replace h := of_t hc5 h
  refine WC.condFe rfl (bne_eq_false_iff_eq.2 hc5) ?_
  refine WC.seqRegion fun K6 hK6 => ?_
  refine WL.yld (by decide) (Yld.fieldAddr Try.underlying42 rfl nz_3 rfl rfl) ?_
  refine WL.yld (by decide) (Yld.loadB (k := 102) scal_3 rfl rfl rfl) ?_
  refine WL.yld (by decide) (Yld.neqI rfl rfl) ?_
  refine WL.yld (by decide) (Yld.assign rfl) ?_
  refine WL.done (hK6 _ _ ?_)
  by_cases hc7 : x00_8 = (-1 : Int)
  ·
   replace h := of_t hc7 h
   refine WC.condFe rfl (bne_eq_false_iff_eq.2 hc7) ?_
   refine WC.skip ?_
   refine QK.blockN ?_
   refine QK.thenN (hK3 _ _ ?_)
   refine WC.seqRegion fun K8 hK8 => ?_
   refine WL.yld (by decide) (Yld.assign rfl) ?_
   refine WL.done (hK8 _ _ ?_)
   refine WC.ret ?_
   injection h with h; subst h
   exact Ret.fn [] (ResIs.one rfl rfl) rfl (Ext.refl _ _) rfl (by decide) rfl rfl ⟨rfl, rfl⟩
  ·
   replace h := of_f hc7 h
   refine WC.condTe rfl (bne_iff_ne.2 hc7) ?_
   refine WC.seqRegion fun K9 hK9 => ?_
   refine WL.yld (by decide) (Yld.fieldAddr Try.underlying42 rfl nz_3 rfl rfl) ?_
   refine WL.yld (by decide) (Yld.loadB (k := 102) scal_3 rfl rfl rfl) ?_
   refine WL.yld (by decide) (Yld.assign rfl) ?_
   refine WL.done (hK9 _ _ ?_)
   refine WC.ret (QK.blockR (QK.thenR ?_))
   injection h with h; subst h
   exact Ret.fn [] (ResIs.one rfl rfl) rfl (Ext.refl _ _) rfl (by decide) rfl rfl ⟨rfl, rfl⟩
 ·
  replace h := of_f hc5 h
  refine WC.condTe rfl (bne_iff_ne.2 hc5) ?_
  refine WC.seqRegion fun K10 hK10 => ?_
  refine WL.yld (by decide) (Yld.fieldAddr Try.underlying42 rfl nz_3 rfl rfl) ?_
  refine WL.yld (by decide) (Yld.loadB (k := 102) scal_3 rfl rfl rfl) ?_
  refine WL.yld (by decide) (Yld.assign rfl) ?_
  refine WL.done (hK10 _ _ ?_)
  refine WC.ret (QK.blockR (QK.thenR ?_))
  injection h with h; subst h
  exact Ret.fn [] (ResIs.one rfl rfl) rfl (Ext.refl _ _) rfl (by decide) rfl rfl ⟨rfl, rfl⟩

set_option maxRecDepth 10000 in
theorem w_history_Before (M0 : Mem) (x00_0 : Int) (x00_1 : Int) (x00_2 : BitVec 64) (x00_3 : BitVec 32) (A00_4 : Option Addr) (n00_4 c00_4 : Nat) (x00_4 : List (BitVec 8)) (hf00_4 : SlT M0 A00_4 n00_4 c00_4 x00_4) (A00_5 : Option Addr) (n00_5 c00_5 : Nat) (x00_5 : List (BitVec 8)) (hf00_5 : SlT M0 A00_5 n00_5 c00_5 x00_5) (x00_6 : Int) (x00_7 : Int) (x00_8 : Int) (x00_9 : Int) (x01_0 : Int) (x01_1 : Int) (x01_2 : BitVec 64) (x01_3 : BitVec 32) (A01_4 : Option Addr) (n01_4 c01_4 : Nat) (x01_4 : List (BitVec 8)) (hf01_4 : SlT M0 A01_4 n01_4 c01_4 x01_4) (A01_5 : Option Addr) (n01_5 c01_5 : Nat) (x01_5 : List (BitVec 8)) (hf01_5 : SlT M0 A01_5 n01_5 c01_5 x01_5) (x01_6 : Int) (x01_7 : Int) (x01_8 : Int) (x01_9 : Int) {res : Bool} (h : m_history_Before x00_0 x00_1 x00_2 x00_3 x00_4 x00_5 x00_6 x00_7 x00_8 x00_9 x01_0 x01_1 x01_2 x01_3 x01_4 x01_5 x01_6 x01_7 x01_8 x01_9 = some res) :
  Fn Try.prog 15 #[.agg ([I64 x00_0, I64 x00_1, U64 x00_2, U32 x00_3, .slice A00_4 n00_4 c00_4, .slice A00_5 n00_5 c00_5, I64 x00_6, I64 x00_7, I64 x00_8, I64 x00_9] : List Value).toArray, .agg ([I64 x01_0, I64 x01_1, U64 x01_2, U32 x01_3, .slice A01_4 n01_4 c01_4, .slice A01_5 n01_5 c01_5, I64 x01_6, I64 x01_7, I64 x01_8, I64 x01_9] : List Value).toArray] M0 fun r M' es => r = .bool res ∧ es = [] := by
 refine Fn.intro (N := 10) Try.func15 rfl rfl (Nat.le_of_ble_eq_true rfl) fun w0 => ?_
 unfold m_history_Before at h
 refine WC.seqRegion fun K1 hK1 => ?_
 refine WL.eff (by decide) (Eff.box 102 (us := [I64 x00_0, I64 x00_1, U64 x00_2, U32 x00_3, .slice A00_4 n00_4 c00_4, .slice A00_5 n00_5 c00_5, I64 x00_6, I64 x00_7, I64 x00_8, I64 x00_9]) rfl rfl rfl) ?_
 rintro _ _ ⟨g2, rfl, rfl⟩
 refine WL.eff (by decide) (Eff.box 103 (us := [I64 x01_0, I64 x01_1, U64 x01_2, U32 x01_3, .slice A01_4 n01_4 c01_4, .slice A01_5 n01_5 c01_5, I64 x01_6, I64 x01_7, I64 x01_8, I64 x01_9]) rfl rfl rfl) ?_
 rintro _ _ ⟨g3, rfl, rfl⟩
 refine WL.yld (by decide) (Yld.assign rfl) ?_
 refine WL.done (hK1 _ _ ?_)
 refine WC.seqRegionD (n := 6) [(0, _), (102, _), (103, _)] rfl mixed (Sub.cons rfl (Sub.cons rfl (Sub.cons rfl (Sub.nil _)))) fun K4 hK4 => ?_
 obtain ⟨x5, hx5, h⟩ := bnd h
 refine WD.take 0 rfl (by kernel_rfl) (by kernel_rfl) (by kernel_rfl) (by decide) (Yld.loadBM (k := 102) agg_42 rfl rfl rfl) ?_
 refine WD.take 2 rfl (by kernel_rfl) (by kernel_rfl) (by kernel_rfl) (by decide) (Yld.fieldAddr Try.underlying42 rfl nz_3 rfl rfl) ?_
 refine WD.take 3 rfl (by kernel_rfl) (by kernel_rfl) (by kernel_rfl) (by decide) (Yld.loadB (k := 103) scal_3 rfl rfl rfl) ?_
 refine WD.one 1 (by kernel_rfl) ?_
 refine WS.eff rfl (by decide) (Eff.callS 106 rfl Try.func25 nm_25 rfl rfl (fun w hb hh => w_history_End (Mem.snap w) x00_0 x00_1 x00_2 x00_3 A00_4 n00_4 c00_4 _ (RdH.sn (RdH.memM (k := 0) rfl hf00_4) w hb hh) A00_5 n00_5 c00_5 _ (RdH.sn (RdH.memM (k := 0) rfl hf00_5) w hb hh) x00_6 x00_7 x00_8 x00_9 hx5)) ?_
 rintro _ _ ⟨_, ⟨rfl, rfl⟩, rfl⟩
 refine ⟨(Sub.cons rfl (Sub.cons rfl (Sub.cons rfl (Sub.nil _)))), ?_⟩
 refine WD.take 4 rfl (by kernel_rfl) (by kernel_rfl) (by kernel_rfl) (by decide) (Yld.lss rfl rfl) ?_
 refine WD.take 5 rfl (by kernel_rfl) (by kernel_rfl) (by kernel_rfl) (by decide) (Yld.assign rfl) ?_
 refine WD.done (by kernel_rfl) (hK4 _ _ ?_)
 refine WC.ret ?_
 injection h with h; subst h
 exact Ret.fn [] (ResIs.one rfl rfl) rfl (Ext.refl _ _) rfl (by decide) rfl rfl ⟨rfl, rfl⟩

set_option maxRecDepth 10000 in
theorem w_history_Valid (M0 : Mem) (A00 : Option Addr) (n00 c00 : Nat) (rs00 : List Rhistory_Op) (x00 : List (Shistory_Op)) (hf00 : SlT M0 A00 n00 c00 rs00) (hq00 : Rels (rel_history_Op M0) rs00 x00) {res : Bool} (h : m_history_Valid x00 = some res) :
  Fn Try.prog 16 #[.slice A00 n00 c00] M0 fun r M' es => r = .bool res ∧ es = [] := by
 refine Fn.intro (N := 86) Try.func16 rfl rfl (Nat.le_of_ble_eq_true rfl) fun w0 => ?_
 unfold m_history_Valid at h
 refine WC.seqRegion fun K1 hK1 => ?_
 refine WL.yld (by decide) (Yld.assign rfl) ?_
 refine WL.done (hK1 _ _ ?_)
 refine WC.seqCut (σ := Unit) (fun _ => []) (fun _ => [(0, .mem M0)]) (fun _ => m_history_Valid_j0 = some res) (fun K2 hK2 => ?_) ?_
 ·
  skip
  refine WC.seqRegion fun K3 hK3 => ?_
  refine WL.yld (by decide) (Yld.move rfl) ?_
  refine WL.yld (by decide) (Yld.lenD (rs := rs00) (xs := x00) (Rels.len hq00) und_27 rfl (RdH.memM (k := 0) rfl hf00)) ?_
  refine WL.yld (by decide) (Yld.move rfl) ?_
  refine WL.done (hK3 _ _ ?_)
  refine WC.block ?_
  refine WC.loop (σ := Nat × Int) (fun ⟨q5, x4⟩ => [(0, .slice A00 n00 c00), (7, .slice A00 n00 c00), (8, I64 (x00.length : Int)), (9, I64 x4)]) (fun ⟨q5, x4⟩ => [(0, .mem M0)]) (fun ⟨q5, x4⟩ => m_history_Valid_l1 x00 q5 x4 = some res) (fun ⟨q5, x4⟩ => q5) ⟨forever, (0 : Int)⟩ ?_ (Sub.cons rfl (Sub.cons rfl (Sub.cons rfl (Sub.cons rfl (Sub.nil _))))) (Sub.cons rfl (Sub.nil _)) ?_
  ·
   exact h
  rintro ⟨q5, x4⟩ h K6 hK6
  cases q5 with
  | zero => exact absurd h (by simp [m_history_Valid_l1])
  | succ q5 =>
   unfold m_history_Valid_l1 at h
   refine WC.seqRegion fun K7 hK7 => ?_
   refine WL.yld (by decide) (Yld.lss rfl rfl) ?_
   refine WL.done (hK7 _ _ ?_)
   refine WC.seq fun K8 hK8 => ?_
   by_cases hc9 : x4 < (x00.length : Int)
   ·
    replace h := of_t hc9 h
    refine WC.condTe rfl (decide_eq_true hc9) ?_
    refine WC.skip ?_
    refine QK.thenN (hK8 _ _ ?_)
    refine WC.seqCut (σ := Unit) (fun _ => [(0, .slice A00 n00 c00), (7, .slice A00 n00 c00), (8, I64 (x00.length : Int)), (9, I64 x4)]) (fun _ => [(0, .mem M0)]) (fun _ => m_history_Valid_j2 x4 (m_history_Valid_l1 x00 q5) = some res) (fun K10 hK10 => ?_) ?_
    ·
     skip
     refine WC.block ?_
     refine WC.seqRegion fun K11 hK11 => ?_
     obtain ⟨x12, hx12, h⟩ := bnd h
     refine WL.yld (by decide) (Yld.move rfl) ?_
     obtain ⟨⟨_, r_13_0, r_13_1⟩, hr14, rfl, hq15_0, hq15_1⟩ := Rels.idx hq00 hx12
     refine WL.yld (by decide) (Yld.idxC (xs := rs00) sty_27 rfl rfl (RdH.memM (k := 0) rfl hf00) hr14) ?_
     refine WL.yld (by decide) (Yld.loadA (xs := rs00) agg_42 rfl (RdH.memM (k := 0) rfl hf00) hr14 rfl) ?_
     refine WL.eff (by decide) (Eff.alloc 116 rfl zr_42) ?_
     rintro _ _ ⟨g16, rfl, rfl⟩
     refine WL.yld (by decide) (Yld.assign rfl) ?_
     refine WL.eff0 (Eff0.storeBAM 116 agg_42 rfl rfl rfl ⟨rfl, rfl⟩ rfl) ?_
     refine WL.done (hK11 _ _ ?_)
     refine WC.seqCut (σ := Unit) (fun _ => [(0, .slice A00 n00 c00), (3, I64 x4), (4, .pointer (some ⟨g16, 0, none⟩)), (7, .slice A00 n00 c00), (8, I64 (x00.length : Int)), (9, I64 x4)]) (fun _ => [(0, .mem M0), (116, .blk g16 42 [I64 x12.fClient, I64 x12.fKind, U64 x12.fKey, U32 x12.fCookie, .slice r_13_0.A r_13_0.n r_13_0.c, .slice r_13_1.A r_13_1.n r_13_1.c, I64 x12.fCall, I64 x12.fReturn, I64 x12.fClosed, I64 x12.fResult])]) (fun _ => m_history_Valid_j3 x00 x4 x12 (m_history_Valid_l1 x00 q5) = some res) (fun K17 hK17 => ?_) ?_
     ·
      skip
      refine WC.seqRegionD (n := 24) [(0, _), (116, _)] rfl mixed (Sub.cons rfl (Sub.cons rfl (Sub.nil _))) fun K18 hK18 => ?_
      obtain ⟨x19, hx19, h⟩ := bnd h
      by_cases hc21 : x19 = true
      ·
       replace h := of_t hc21 h
       by_cases hc22 : x12.fCall < (0 : Int)
       ·
        replace h := of_t hc22 h
        refine WD.take 0 rfl (by kernel_rfl) (by kernel_rfl) (by kernel_rfl) (by decide) (Yld.fieldAddr Try.underlying42 rfl nz_3 rfl rfl) ?_
        refine WD.take 1 rfl (by kernel_rfl) (by kernel_rfl) (by kernel_rfl) (by decide) (Yld.loadB (k := 116) scal_3 rfl rfl rfl) ?_
        refine WD.one 2 (by kernel_rfl) ?_
        refine WS.eff rfl (by decide) (Eff.callS 120 rfl Try.func20 nm_20 rfl rfl (fun w hb hh => w_history_known (Mem.snap w) x12.fKind hx19)) ?_
        rintro _ _ ⟨_, ⟨rfl, rfl⟩, rfl⟩
        refine ⟨(Sub.cons rfl (Sub.cons rfl (Sub.nil _))), ?_⟩
        refine WD.take 3 rfl (by kernel_rfl) (by kernel_rfl) (by kernel_rfl) (by decide) (Yld.notB rfl) ?_
        refine WD.take 4 rfl (by kernel_rfl) (by kernel_rfl) (by kernel_rfl) (by decide) (Yld.move rfl) ?_
        refine WD.new (v' := .bool false) (congrArg Value.bool (not_f hc21)) ?_
        refine WD.takeG 5 rfl (by kernel_rfl) (by kernel_rfl) (by kernel_rfl) (by decide) rfl (Yld.fieldAddr Try.underlying42 rfl nz_3 rfl rfl) ?_
        refine WD.takeG 6 rfl (by kernel_rfl) (by kernel_rfl) (by kernel_rfl) (by decide) rfl (Yld.loadB (k := 116) scal_3 rfl rfl rfl) ?_
        refine WD.takeG 7 rfl (by kernel_rfl) (by kernel_rfl) (by kernel_rfl) (by decide) rfl (Yld.lss rfl rfl) ?_
        refine WD.take 8 rfl (by kernel_rfl) (by kernel_rfl) (by kernel_rfl) (by decide) (Yld.pickF rfl rfl) ?_
        refine WD.take 9 rfl (by kernel_rfl) (by kernel_rfl) (by kernel_rfl) (by decide) (Yld.move rfl) ?_
        refine WD.new (v' := .bool true) (congrArg Value.bool (decide_eq_true hc22)) ?_
        refine WD.takeS 10 rfl (by kernel_rfl) (by kernel_rfl) (by kernel_rfl) (by decide) rfl rfl ?_
        refine WD.takeS 11 rfl (by kernel_rfl) (by kernel_rfl) (by kernel_rfl) (by decide) rfl rfl ?_
        refine WD.takeS 12 rfl (by kernel_rfl) (by kernel_rfl) (by kernel_rfl) (by decide) rfl rfl ?_
        refine WD.takeU 13 rfl (by kernel_rfl) (by kernel_rfl) (by kernel_rfl) (by decide) rfl ?_
        refine WD.takeU 14 rfl (by kernel_rfl) (by kernel_rfl) (by kernel_rfl) (by decide) rfl ?_
        refine WD.takeU 15 rfl (by kernel_rfl) (by kernel_rfl) (by kernel_rfl) (by decide) rfl ?_
        refine WD.takeU 16 rfl (by kernel_rfl) (by kernel_rfl) (by kernel_rfl) (by decide) rfl ?_
        refine WD.takeU 17 rfl (by kernel_rfl) (by kernel_rfl) (by kernel_rfl) (by decide) rfl ?_
        refine WD.takeU 18 rfl (by kernel_rfl) (by kernel_rfl) (by kernel_rfl) (by decide) rfl ?_
        refine WD.takeU 19 rfl (by kernel_rfl) (by kernel_rfl) (by kernel_rfl) (by decide) rfl ?_
        refine WD.takeU 20 rfl (by kernel_rfl) (by kernel_rfl) (by kernel_rfl) (by decide) rfl ?_
        refine WD.takeU 21 rfl (by kernel_rfl) (by kernel_rfl) (by kernel_rfl) (by decide) rfl ?_
        refine WD.takeS 22 rfl (by kernel_rfl) (by kernel_rfl) (by kernel_rfl) (by decide) rfl rfl ?_
        refine WD.take 23 rfl (by kernel_rfl) (by kernel_rfl) (by kernel_rfl) (by decide) (Yld.pickT rfl rfl) ?_
        refine WD.done (by kernel_rfl) (hK18 _ _ ?_)
        refine WC.condT rfl ?_
        refine WC.seqRegion fun K23 hK23 => ?_
        refine WL.yld (by decide) (Yld.assign rfl) ?_
        refine WL.done (hK23 _ _ ?_)
        refine WC.ret (QK.thenR (QK.blockR (QK.thenR (QK.thenR (QK.blockR (QK.thenR ?_))))))
        injection h with h; subst h
        exact Ret.fn [] (ResIs.one rfl rfl) rfl (Ext.refl _ _) rfl (by decide) rfl rfl ⟨rfl, rfl⟩
       ·
        replace h := of_f hc22 h
        by_cases hc24 : (0 : Int) < x4
        ·
         replace h := of_t hc24 h
         obtain ⟨x25, hx25, h⟩ := bnd h
         obtain ⟨x26, hx26, h⟩ := bnd h
         refine WD.take 0 rfl (by kernel_rfl) (by kernel_rfl) (by kernel_rfl) (by decide) (Yld.fieldAddr Try.underlying42 rfl nz_3 rfl rfl) ?_
         refine WD.take 1 rfl (by kernel_rfl) (by kernel_rfl) (by kernel_rfl) (by decide) (Yld.loadB (k := 116) scal_3 rfl rfl rfl) ?_
         refine WD.one 2 (by kernel_rfl) ?_
         refine WS.eff rfl (by decide) (Eff.callS 120 rfl Try.func20 nm_20 rfl rfl (fun w hb hh => w_history_known (Mem.snap w) x12.fKind hx19)) ?_
         rintro _ _ ⟨_, ⟨rfl, rfl⟩, rfl⟩
         refine ⟨(Sub.cons rfl (Sub.cons rfl (Sub.nil _))), ?_⟩
         refine WD.take 3 rfl (by kernel_rfl) (by kernel_rfl) (by kernel_rfl) (by decide) (Yld.notB rfl) ?_
         refine WD.take 4 rfl (by kernel_rfl) (by kernel_rfl) (by kernel_rfl) (by decide) (Yld.move rfl) ?_
         refine WD.new (v' := .bool false) (congrArg Value.bool (not_f hc21)) ?_
         refine WD.takeG 5 rfl (by kernel_rfl) (by kernel_rfl) (by kernel_rfl) (by decide) rfl (Yld.fieldAddr Try.underlying42 rfl nz_3 rfl rfl) ?_
         refine WD.takeG 6 rfl (by kernel_rfl) (by kernel_rfl) (by kernel_rfl) (by decide) rfl (Yld.loadB (k := 116) scal_3 rfl rfl rfl) ?_
         refine WD.takeG 7 rfl (by kernel_rfl) (by kernel_rfl) (by kernel_rfl) (by decide) rfl (Yld.lss rfl rfl) ?_
         refine WD.take 8 rfl (by kernel_rfl) (by kernel_rfl) (by kernel_rfl) (by decide) (Yld.pickF rfl rfl) ?_
         refine WD.take 9 rfl (by kernel_rfl) (by kernel_rfl) (by kernel_rfl) (by decide) (Yld.move rfl) ?_
         refine WD.new (v' := .bool false) (congrArg Value.bool (decide_eq_false hc22)) ?_
         refine WD.takeG 10 rfl (by kernel_rfl) (by kernel_rfl) (by kernel_rfl) (by decide) rfl (Yld.move rfl) ?_
         refine WD.takeG 11 rfl (by kernel_rfl) (by kernel_rfl) (by kernel_rfl) (by decide) rfl (Yld.gtr rfl rfl) ?_
         refine WD.takeG 12 rfl (by kernel_rfl) (by kernel_rfl) (by kernel_rfl) (by decide) rfl (Yld.move rfl) ?_
         refine WD.new (v' := .bool true) (congrArg Value.bool (decide_eq_true hc24)) ?_
         refine WD.takeG 13 rfl (by kernel_rfl) (by kernel_rfl) (by kernel_rfl) (by decide) rfl (Yld.fieldAddr Try.underlying42 rfl nz_3 rfl rfl) ?_
         refine WD.takeG 14 rfl (by kernel_rfl) (by kernel_rfl) (by kernel_rfl) (by decide) rfl (Yld.loadB (k := 116) scal_3 rfl rfl rfl) ?_
         refine WD.takeG 15 rfl (by kernel_rfl) (by kernel_rfl) (by kernel_rfl) (by decide) rfl (Yld.move rfl) ?_
         refine WD.takeG 16 rfl (by kernel_rfl) (by kernel_rfl) (by kernel_rfl) (by decide) rfl (Yld.move rfl) ?_
         refine WD.takeG 17 rfl (by kernel_rfl) (by kernel_rfl) (by kernel_rfl) (by decide) rfl (Yld.subC rfl rfl hx25) ?_
         obtain ⟨⟨_, r_27_0, r_27_1⟩, hr28, rfl, hq29_0, hq29_1⟩ := Rels.idx hq00 hx26
         refine WD.takeG 18 rfl (by kernel_rfl) (by kernel_rfl) (by kernel_rfl) (by decide) rfl (Yld.idxC (xs := rs00) sty_27 rfl rfl (RdH.memM (k := 0) rfl hf00) hr28) ?_
         refine WD.takeG 19 rfl (by kernel_rfl) (by kernel_rfl) (by kernel_rfl) (by decide) rfl (Yld.fieldAddrC Try.underlying42 rfl nz_3 rfl rfl) ?_
         refine WD.takeG 20 rfl (by kernel_rfl) (by kernel_rfl) (by kernel_rfl) (by decide) rfl (Yld.loadC (xs := rs00) (j := 6) scal_3 rfl (RdH.memM (k := 0) rfl hf00) hr28 rfl rfl) ?_
         refine WD.takeG 21 rfl (by kernel_rfl) (by kernel_rfl) (by kernel_rfl) (by decide) rfl (Yld.leq rfl rfl) ?_
         refine WD.takeG 22 rfl (by kernel_rfl) (by kernel_rfl) (by kernel_rfl) (by decide) rfl (Yld.pickT rfl rfl) ?_
         refine WD.take 23 rfl (by kernel_rfl) (by kernel_rfl) (by kernel_rfl) (by decide) (Yld.pickF rfl rfl) ?_
         refine WD.done (by kernel_rfl) (hK18 _ _ ?_)
         by_cases hc30 : x12.fCall ≤ x26.fCall
         ·
          replace h := of_t hc30 h
          refine WC.condTe rfl (decide_eq_true hc30) ?_
          refine WC.seqRegion fun K31 hK31 => ?_
          refine WL.yld (by decide) (Yld.assign rfl) ?_
          refine WL.done (hK31 _ _ ?_)
          refine WC.ret (QK.thenR (QK.blockR (QK.thenR (QK.thenR (QK.blockR (QK.thenR ?_))))))
          injection h with h; subst h
          exact Ret.fn [] (ResIs.one rfl rfl) rfl (Ext.refl _ _) rfl (by decide) rfl rfl ⟨rfl, rfl⟩
         ·
          replace h := of_f hc30 h
          refine WC.condFe rfl (decide_eq_false hc30) ?_
          refine WC.skip ?_
          refine QK.thenN ?_
          refine hK17 () _ _ ?_ (Sub.cons rfl (Sub.cons rfl (Sub.cons rfl (Sub.cons rfl (Sub.cons rfl (Sub.cons rfl (Sub.nil _))))))) (Sub.cons rfl (Sub.cons rfl (Sub.nil _)))
          exact h
        ·
         replace h := of_f hc24 h
         refine WD.take 0 rfl (by kernel_rfl) (by kernel_rfl) (by kernel_rfl) (by decide) (Yld.fieldAddr Try.underlying42 rfl nz_3 rfl rfl) ?_
         refine WD.take 1 rfl (by kernel_rfl) (by kernel_rfl) (by kernel_rfl) (by decide) (Yld.loadB (k := 116) scal_3 rfl rfl rfl) ?_
         refine WD.one 2 (by kernel_rfl) ?_
         refine WS.eff rfl (by decide) (Eff.callS 120 rfl Try.func20 nm_20 rfl rfl (fun w hb hh => w_history_known (Mem.snap w) x12.fKind hx19)) ?_
         rintro _ _ ⟨_, ⟨rfl, rfl⟩, rfl⟩
         refine ⟨(Sub.cons rfl (Sub.cons rfl (Sub.nil _))), ?_⟩
         refine WD.take 3 rfl (by kernel_rfl) (by kernel_rfl) (by kernel_rfl) (by decide) (Yld.notB rfl) ?_
         refine WD.take 4 rfl (by kernel_rfl) (by kernel_rfl) (by kernel_rfl) (by decide) (Yld.move rfl) ?_
         refine WD.new (v' := .bool false) (congrArg Value.bool (not_f hc21)) ?_
         refine WD.takeG 5 rfl (by kernel_rfl) (by kernel_rfl) (by kernel_rfl) (by decide) rfl (Yld.fieldAddr Try.underlying42 rfl nz_3 rfl rfl) ?_
         refine WD.takeG 6 rfl (by kernel_rfl) (by kernel_rfl) (by kernel_rfl) (by decide) rfl (Yld.loadB (k := 116) scal_3 rfl rfl rfl) ?_
         refine WD.takeG 7 rfl (by kernel_rfl) (by kernel_rfl) (by kernel_rfl) (by decide) rfl (Yld.lss rfl rfl) ?_
         refine WD.take 8 rfl (by kernel_rfl) (by kernel_rfl) (by kernel_rfl) (by decide) (Yld.pickF rfl rfl) ?_
         refine WD.take 9 rfl (by kernel_rfl) (by kernel_rfl) (by kernel_rfl) (by decide) (Yld.move rfl) ?_
         refine WD.new (v' := .bool false) (congrArg Value.bool (decide_eq_false hc22)) ?_
         refine WD.takeG 10 rfl (by kernel_rfl) (by kernel_rfl) (by kernel_rfl) (by decide) rfl (Yld.move rfl) ?_
         refine WD.takeG 11 rfl (by kernel_rfl) (by kernel_rfl) (by kernel_rfl) (by decide) rfl (Yld.gtr rfl rfl) ?_
         refine WD.takeG 12 rfl (by kernel_rfl) (by kernel_rfl) (by kernel_rfl) (by decide) rfl (Yld.move rfl) ?_
         refine WD.new (v' := .bool false) (congrArg Value.bool (decide_eq_false hc24)) ?_
         refine WD.takeS 13 rfl (by kernel_rfl) (by kernel_rfl) (by kernel_rfl) (by decide) rfl rfl ?_
         refine WD.takeS 14 rfl (by kernel_rfl) (by kernel_rfl) (by kernel_rfl) (by decide) rfl rfl ?_
         refine WD.takeS 15 rfl (by kernel_rfl) (by kernel_rfl) (by kernel_rfl) (by decide) rfl rfl ?_
         refine WD.takeS 16 rfl (by kernel_rfl) (by kernel_rfl) (by kernel_rfl) (by decide) rfl rfl ?_
         refine WD.takeS 17 rfl (by kernel_rfl) (by kernel_rfl) (by kernel_rfl) (by decide) rfl rfl ?_
         refine WD.takeS 18 rfl (by kernel_rfl) (by kernel_rfl) (by kernel_rfl) (by decide) rfl rfl ?_
         refine WD.takeS 19 rfl (by kernel_rfl) (by kernel_rfl) (by kernel_rfl) (by decide) rfl rfl ?_
         refine WD.takeS 20 rfl (by kernel_rfl) (by kernel_rfl) (by kernel_rfl) (by decide) rfl rfl ?_
         refine WD.takeS 21 rfl (by kernel_rfl) (by kernel_rfl) (by kernel_rfl) (by decide) rfl rfl ?_
         refine WD.takeG 22 rfl (by kernel_rfl) (by kernel_rfl) (by kernel_rfl) (by decide) rfl (Yld.pickF rfl rfl) ?_
         refine WD.take 23 rfl (by kernel_rfl) (by kernel_rfl) (by kernel_rfl) (by decide) (Yld.pickF rfl rfl) ?_
         refine WD.done (by kernel_rfl) (hK18 _ _ ?_)
         refine WC.condF rfl ?_
         refine WC.skip ?_
         refine QK.thenN ?_
         refine hK17 () _ _ ?_ (Sub.cons rfl (Sub.cons rfl (Sub.cons rfl (Sub.cons rfl (Sub.cons rfl (Sub.cons rfl (Sub.nil _))))))) (Sub.cons rfl (Sub.cons rfl (Sub.nil _)))
         exact h
      ·
       replace h := of_f hc21 h
       refine WD.take 0 rfl (by kernel_rfl) (by kernel_rfl) (by kernel_rfl) (by decide) (Yld.fieldAddr Try.underlying42 rfl nz_3 rfl rfl) ?_
       refine WD.take 1 rfl (by kernel_rfl) (by kernel_rfl) (by kernel_rfl) (by decide) (Yld.loadB (k := 116) scal_3 rfl rfl rfl) ?_
       refine WD.one 2 (by kernel_rfl) ?_
       refine WS.eff rfl (by decide) (Eff.callS 120 rfl Try.func20 nm_20 rfl rfl (fun w hb hh => w_history_known (Mem.snap w) x12.fKind hx19)) ?_
       rintro _ _ ⟨_, ⟨rfl, rfl⟩, rfl⟩
       refine ⟨(Sub.cons rfl (Sub.cons rfl (Sub.nil _))), ?_⟩
       refine WD.take 3 rfl (by kernel_rfl) (by kernel_rfl) (by kernel_rfl) (by decide) (Yld.notB rfl) ?_
       refine WD.take 4 rfl (by kernel_rfl) (by kernel_rfl) (by kernel_rfl) (by decide) (Yld.move rfl) ?_
       refine WD.new (v' := .bool true) (congrArg Value.bool (not_t (Bool.eq_false_iff.2 hc21))) ?_
       refine WD.takeS 5 rfl (by kernel_rfl) (by kernel_rfl) (by kernel_rfl) (by decide) rfl rfl ?_
       refine WD.takeS 6 rfl (by kernel_rfl) (by kernel_rfl) (by kernel_rfl) (by decide) rfl rfl ?_
       refine WD.takeS 7 rfl (by kernel_rfl) (by kernel_rfl) (by kernel_rfl) (by decide) rfl rfl ?_
       refine WD.take 8 rfl (by kernel_rfl) (by kernel_rfl) (by kernel_rfl) (by decide) (Yld.pickT rfl rfl) ?_
       refine WD.take 9 rfl (by kernel_rfl) (by kernel_rfl) (by kernel_rfl) (by decide) (Yld.move rfl) ?_
       refine WD.takeS 10 rfl (by kernel_rfl) (by kernel_rfl) (by kernel_rfl) (by decide) rfl rfl ?_
       refine WD.takeS 11 rfl (by kernel_rfl) (by kernel_rfl) (by kernel_rfl) (by decide) rfl rfl ?_
       refine WD.takeS 12 rfl (by kernel_rfl) (by kernel_rfl) (by kernel_rfl) (by decide) rfl rfl ?_
       refine WD.takeU 13 rfl (by kernel_rfl) (by kernel_rfl) (by kernel_rfl) (by decide) rfl ?_
       refine WD.takeU 14 rfl (by kernel_rfl) (by kernel_rfl) (by kernel_rfl) (by decide) rfl ?_
       refine WD.takeU 15 rfl (by kernel_rfl) (by kernel_rfl) (by kernel_rfl) (by decide) rfl ?_
       refine WD.takeU 16 rfl (by kernel_rfl) (by kernel_rfl) (by kernel_rfl) (by decide) rfl ?_
       refine WD.takeU 17 rfl (by kernel_rfl) (by kernel_rfl) (by kernel_rfl) (by decide) rfl ?_
       refine WD.takeU 18 rfl (by kernel_rfl) (by kernel_rfl) (by kernel_rfl) (by decide) rfl ?_
       refine WD.takeU 19 rfl (by kernel_rfl) (by kernel_rfl) (by kernel_rfl) (by decide) rfl ?_
       refine WD.takeU 20 rfl (by kernel_rfl) (by kernel_rfl) (by kernel_rfl) (by decide) rfl ?_
       refine WD.takeU 21 rfl (by kernel_rfl) (by kernel_rfl) (by kernel_rfl) (by decide) rfl ?_
       refine WD.takeS 22 rfl (by kernel_rfl) (by kernel_rfl) (by kernel_rfl) (by decide) rfl rfl ?_
       refine WD.take 23 rfl (by kernel_rfl) (by kernel_rfl) (by kernel_rfl) (by decide) (Yld.pickT rfl rfl) ?_
       refine WD.done (by kernel_rfl) (hK18 _ _ ?_)
       refine WC.condT rfl ?_
       refine WC.seqRegion fun K32 hK32 => ?_
       refine WL.yld (by decide) (Yld.assign rfl) ?_
       refine WL.done (hK32 _ _ ?_)
       refine WC.ret (QK.thenR (QK.blockR (QK.thenR (QK.thenR (QK.blockR (QK.thenR ?_))))))
       injection h with h; subst h
       exact Ret.fn [] (ResIs.one rfl rfl) rfl (Ext.refl _ _) rfl (by decide) rfl rfl ⟨rfl, rfl⟩
     ·
      rintro _ h
      unfold m_history_Valid_j3 at h
      refine WC.seqCut (σ := Unit) (fun _ => [(0, .slice A00 n00 c00), (3, I64 x4), (4, .pointer (some ⟨g16, 0, none⟩)), (7, .slice A00 n00 c00), (8, I64 (x00.length : Int)), (9, I64 x4)]) (fun _ => [(0, .mem M0), (116, .blk g16 42 [I64 x12.fClient, I64 x12.fKind, U64 x12.fKey, U32 x12.fCookie, .slice r_13_0.A r_13_0.n r_13_0.c, .slice r_13_1.A r_13_1.n r_13_1.c, I64 x12.fCall, I64 x12.fReturn, I64 x12.fClosed, I64 x12.fResult])]) (fun _ => m_history_Valid_j4 x00 x4 x12 (m_history_Valid_l1 x00 q5) = some res) (fun K33 hK33 => ?_) ?_
      ·
       skip
       refine WC.seqRegion fun K34 hK34 => ?_
       by_cases hc35 : x12.fReturn = (-1 : Int)
       ·
        replace h := of_t hc35 h
        by_cases hc36 : x12.fClosed = (-1 : Int)
        ·
         replace h := of_t hc36 h
         refine WL.yld (by decide) (Yld.fieldAddr Try.underlying42 rfl nz_3 rfl rfl) ?_
         refine WL.yld (by decide) (Yld.loadB (k := 116) scal_3 rfl rfl rfl) ?_
         refine WL.yld (by decide) (Yld.neqI rfl rfl) ?_
         refine WL.yld (by decide) (Yld.move rfl) ?_
         refine WL.new (v' := .bool false) (congrArg Value.bool (bne_eq_false_iff_eq.2 hc35)) ?_
         refine WL.skip (by decide) rfl rfl ?_
         refine WL.skip (by decide) rfl rfl ?_
         refine WL.skip (by decide) rfl rfl ?_
         refine WL.skip (by decide) rfl rfl ?_
         refine WL.skip (by decide) rfl rfl ?_
         refine WL.skip (by decide) rfl rfl ?_
         refine WL.skipU (by decide) rfl ?_
         refine WL.skipU (by decide) rfl ?_
         refine WL.skipU (by decide) rfl ?_
         refine WL.skip (by decide) rfl rfl ?_
         refine WL.yld (by decide) (Yld.pickF rfl rfl) ?_
         refine WL.yld (by decide) (Yld.move rfl) ?_
         refine WL.yldG (by decide) rfl (Yld.fieldAddr Try.underlying42 rfl nz_3 rfl rfl) ?_
         refine WL.yldG (by decide) rfl (Yld.loadB (k := 116) scal_3 rfl rfl rfl) ?_
         refine WL.yldG (by decide) rfl (Yld.neqI rfl rfl) ?_
         refine WL.yldG (by decide) rfl (Yld.move rfl) ?_
         refine WL.new (v' := .bool false) (congrArg Value.bool (bne_eq_false_iff_eq.2 hc36)) ?_
         refine WL.skip (by decide) rfl rfl ?_
         refine WL.skip (by decide) rfl rfl ?_
         refine WL.skip (by decide) rfl rfl ?_
         refine WL.skip (by decide) rfl rfl ?_
         refine WL.skip (by decide) rfl rfl ?_
         refine WL.yldG (by decide) rfl (Yld.pickF rfl rfl) ?_
         refine WL.yld (by decide) (Yld.pickF rfl rfl) ?_
         refine WL.done (hK34 _ _ ?_)
         refine WC.condF rfl ?_
         refine WC.skip ?_
         refine QK.thenN ?_
         refine hK33 () _ _ ?_ (Sub.cons rfl (Sub.cons rfl (Sub.cons rfl (Sub.cons rfl (Sub.cons rfl (Sub.cons rfl (Sub.nil _))))))) (Sub.cons rfl (Sub.cons rfl (Sub.nil _)))
         exact h
        ·
         replace h := of_f hc36 h
         refine WL.yld (by decide) (Yld.fieldAddr Try.underlying42 rfl nz_3 rfl rfl) ?_
         refine WL.yld (by decide) (Yld.loadB (k := 116) scal_3 rfl rfl rfl) ?_
         refine WL.yld (by decide) (Yld.neqI rfl rfl) ?_
         refine WL.yld (by decide) (Yld.move rfl) ?_
         refine WL.new (v' := .bool false) (congrArg Value.bool (bne_eq_false_iff_eq.2 hc35)) ?_
         refine WL.skip (by decide) rfl rfl ?_
         refine WL.skip (by decide) rfl rfl ?_
         refine WL.skip (by decide) rfl rfl ?_
         refine WL.skip (by decide) rfl rfl ?_
         refine WL.skip (by decide) rfl rfl ?_
         refine WL.skip (by decide) rfl rfl ?_
         refine WL.skipU (by decide) rfl ?_
         refine WL.skipU (by decide) rfl ?_
         refine WL.skipU (by decide) rfl ?_
         refine WL.skip (by decide) rfl rfl ?_
         refine WL.yld (by decide) (Yld.pickF rfl rfl) ?_
         refine WL.yld (by decide) (Yld.move rfl) ?_
         refine WL.yldG (by decide) rfl (Yld.fieldAddr Try.underlying42 rfl nz_3 rfl rfl) ?_
         refine WL.yldG (by decide) rfl (Yld.loadB (k := 116) scal_3 rfl rfl rfl) ?_
         refine WL.yldG (by decide) rfl (Yld.neqI rfl rfl) ?_
         refine WL.yldG (by decide) rfl (Yld.move rfl) ?_
         refine WL.new (v' := .bool true) (congrArg Value.bool (bne_iff_ne.2 hc36)) ?_
         refine WL.yldG (by decide) rfl (Yld.fieldAddr Try.underlying42 rfl nz_3 rfl rfl) ?_
         refine WL.yldG (by decide) rfl (Yld.loadB (k := 116) scal_3 rfl rfl rfl) ?_
         refine WL.yldG (by decide) rfl (Yld.fieldAddr Try.underlying42 rfl nz_3 rfl rfl) ?_
         refine WL.yldG (by decide) rfl (Yld.loadB (k := 116) scal_3 rfl rfl rfl) ?_
         refine WL.yldG (by decide) rfl (Yld.leq rfl rfl) ?_
         refine WL.yldG (by decide) rfl (Yld.pickT rfl rfl) ?_
         refine WL.yld (by decide) (Yld.pickF rfl rfl) ?_
         refine WL.done (hK34 _ _ ?_)
         by_cases hc37 : x12.fClosed ≤ x12.fCall
         ·
          replace h := of_t hc37 h
          refine WC.condTe rfl (decide_eq_true hc37) ?_
          refine WC.seqRegion fun K38 hK38 => ?_
          refine WL.yld (by decide) (Yld.assign rfl) ?_
          refine WL.done (hK38 _ _ ?_)
          refine WC.ret (QK.thenR (QK.blockR (QK.thenR (QK.thenR (QK.blockR (QK.thenR ?_))))))
          injection h with h; subst h
          exact Ret.fn [] (ResIs.one rfl rfl) rfl (Ext.refl _ _) rfl (by decide) rfl rfl ⟨rfl, rfl⟩
         ·
          replace h := of_f hc37 h
          refine WC.condFe rfl (decide_eq_false hc37) ?_
          refine WC.skip ?_
          refine QK.thenN ?_
          refine hK33 () _ _ ?_ (Sub.cons rfl (Sub.cons rfl (Sub.cons rfl (Sub.cons rfl (Sub.cons rfl (Sub.cons rfl (Sub.nil _))))))) (Sub.cons rfl (Sub.cons rfl (Sub.nil _)))
          exact h
       ·
        replace h := of_f hc35 h
        by_cases hc39 : x12.fReturn ≤ x12.fCall
        ·
         replace h := of_t hc39 h
         refine WL.yld (by decide) (Yld.fieldAddr Try.underlying42 rfl nz_3 rfl rfl) ?_
         refine WL.yld (by decide) (Yld.loadB (k := 116) scal_3 rfl rfl rfl) ?_
         refine WL.yld (by decide) (Yld.neqI rfl rfl) ?_
         refine WL.yld (by decide) (Yld.move rfl) ?_
         refine WL.new (v' := .bool true) (congrArg Value.bool (bne_iff_ne.2 hc35)) ?_
         refine WL.yldG (by decide) rfl (Yld.fieldAddr Try.underlying42 rfl nz_3 rfl rfl) ?_
         refine WL.yldG (by decide) rfl (Yld.loadB (k := 116) scal_3 rfl rfl rfl) ?_
         refine WL.yldG (by decide) rfl (Yld.fieldAddr Try.underlying42 rfl nz_3 rfl rfl) ?_
         refine WL.yldG (by decide) rfl (Yld.loadB (k := 116) scal_3 rfl rfl rfl) ?_
         refine WL.yldG (by decide) rfl (Yld.leq rfl rfl) ?_
         refine WL.yldG (by decide) rfl (Yld.move rfl) ?_
         refine WL.new (v' := .bool true) (congrArg Value.bool (decide_eq_true hc39)) ?_
         refine WL.skip (by decide) rfl rfl ?_
         refine WL.skip (by decide) rfl rfl ?_
         refine WL.skip (by decide) rfl rfl ?_
         refine WL.yldG (by decide) rfl (Yld.pickT rfl rfl) ?_
         refine WL.yld (by decide) (Yld.pickT rfl rfl) ?_
         refine WL.yld (by decide) (Yld.move rfl) ?_
         refine WL.skip (by decide) rfl rfl ?_
         refine WL.skip (by decide) rfl rfl ?_
         refine WL.skip (by decide) rfl rfl ?_
         refine WL.skip (by decide) rfl rfl ?_
         refine WL.skipU (by decide) rfl ?_
         refine WL.skipU (by decide) rfl ?_
         refine WL.skipU (by decide) rfl ?_
         refine WL.skipU (by decide) rfl ?_
         refine WL.skipU (by decide) rfl ?_
         refine WL.skip (by decide) rfl rfl ?_
         refine WL.yld (by decide) (Yld.pickT rfl rfl) ?_
         refine WL.done (hK34 _ _ ?_)
         refine WC.condT rfl ?_
         refine WC.seqRegion fun K40 hK40 => ?_
         refine WL.yld (by decide) (Yld.assign rfl) ?_
         refine WL.done (hK40 _ _ ?_)
         refine WC.ret (QK.thenR (QK.blockR (QK.thenR (QK.thenR (QK.blockR (QK.thenR ?_))))))
         injection h with h; subst h
         exact Ret.fn [] (ResIs.one rfl rfl) rfl (Ext.refl _ _) rfl (by decide) rfl rfl ⟨rfl, rfl⟩
        ·
         replace h := of_f hc39 h
         by_cases hc41 : x12.fClosed = (-1 : Int)
         ·
          replace h := of_t hc41 h
          by_cases hc42 : x12.fClosed = (-1 : Int)
          ·
           replace h := of_t hc42 h
           refine WL.yld (by decide) (Yld.fieldAddr Try.underlying42 rfl nz_3 rfl rfl) ?_
           refine WL.yld (by decide) (Yld.loadB (k := 116) scal_3 rfl rfl rfl) ?_
           refine WL.yld (by decide) (Yld.neqI rfl rfl) ?_
           refine WL.yld (by decide) (Yld.move rfl) ?_
           refine WL.new (v' := .bool true) (congrArg Value.bool (bne_iff_ne.2 hc35)) ?_
           refine WL.yldG (by decide) rfl (Yld.fieldAddr Try.underlying42 rfl nz_3 rfl rfl) ?_
           refine WL.yldG (by decide) rfl (Yld.loadB (k := 116) scal_3 rfl rfl rfl) ?_
           refine WL.yldG (by decide) rfl (Yld.fieldAddr Try.underlying42 rfl nz_3 rfl rfl) ?_
           refine WL.yldG (by decide) rfl (Yld.loadB (k := 116) scal_3 rfl rfl rfl) ?_
           refine WL.yldG (by decide) rfl (Yld.leq rfl rfl) ?_
           refine WL.yldG (by decide) rfl (Yld.move rfl) ?_
           refine WL.new (v' := .bool false) (congrArg Value.bool (decide_eq_false hc39)) ?_
           refine WL.yldG (by decide) rfl (Yld.fieldAddr Try.underlying42 rfl nz_3 rfl rfl) ?_
           refine WL.yldG (by decide) rfl (Yld.loadB (k := 116) scal_3 rfl rfl rfl) ?_
           refine WL.yldG (by decide) rfl (Yld.neqI rfl rfl) ?_
           refine WL.yldG (by decide) rfl (Yld.pickF rfl rfl) ?_
           refine WL.yld (by decide) (Yld.pickT rfl rfl) ?_
           refine WL.yld (by decide) (Yld.move rfl) ?_
           refine WL.new (v' := .bool false) (congrArg Value.bool (bne_eq_false_iff_eq.2 hc41)) ?_
           refine WL.yldG (by decide) rfl (Yld.fieldAddr Try.underlying42 rfl nz_3 rfl rfl) ?_
           refine WL.yldG (by decide) rfl (Yld.loadB (k := 116) scal_3 rfl rfl rfl) ?_
           refine WL.yldG (by decide) rfl (Yld.neqI rfl rfl) ?_
           refine WL.yldG (by decide) rfl (Yld.move rfl) ?_
           refine WL.new (v' := .bool false) (congrArg Value.bool (bne_eq_false_iff_eq.2 hc42)) ?_
           refine WL.skip (by decide) rfl rfl ?_
           refine WL.skip (by decide) rfl rfl ?_
           refine WL.skip (by decide) rfl rfl ?_
           refine WL.skip (by decide) rfl rfl ?_
           refine WL.skip (by decide) rfl rfl ?_
           refine WL.yldG (by decide) rfl (Yld.pickF rfl rfl) ?_
           refine WL.yld (by decide) (Yld.pickF rfl rfl) ?_
           refine WL.done (hK34 _ _ ?_)
           refine WC.condF rfl ?_
           refine WC.skip ?_
           refine QK.thenN ?_
           refine hK33 () _ _ ?_ (Sub.cons rfl (Sub.cons rfl (Sub.cons rfl (Sub.cons rfl (Sub.cons rfl (Sub.cons rfl (Sub.nil _))))))) (Sub.cons rfl (Sub.cons rfl (Sub.nil _)))
           exact h
          ·
           replace h := of_f hc42 h
           refine WL.yld (by decide) (Yld.fieldAddr Try.underlying42 rfl nz_3 rfl rfl) ?_
           refine WL.yld (by decide) (Yld.loadB (k := 116) scal_3 rfl rfl rfl) ?_
           refine WL.yld (by decide) (Yld.neqI rfl rfl) ?_
           refine WL.yld (by decide) (Yld.move rfl) ?_
           refine WL.new (v' := .bool true) (congrArg Value.bool (bne_iff_ne.2 hc35)) ?_
           refine WL.yldG (by decide) rfl (Yld.fieldAddr Try.underlying42 rfl nz_3 rfl rfl) ?_
           refine WL.yldG (by decide) rfl (Yld.loadB (k := 116) scal_3 rfl rfl rfl) ?_
           refine WL.yldG (by decide) rfl (Yld.fieldAddr Try.underlying42 rfl nz_3 rfl rfl) ?_
           refine WL.yldG (by decide) rfl (Yld.loadB (k := 116) scal_3 rfl rfl rfl) ?_
           refine WL.yldG (by decide) rfl (Yld.leq rfl rfl) ?_
           refine WL.yldG (by decide) rfl (Yld.move rfl) ?_
           refine WL.new (v' := .bool false) (congrArg Value.bool (decide_eq_false hc39)) ?_
           refine WL.yldG (by decide) rfl (Yld.fieldAddr Try.underlying42 rfl nz_3 rfl rfl) ?_
           refine WL.yldG (by decide) rfl (Yld.loadB (k := 116) scal_3 rfl rfl rfl) ?_
           refine WL.yldG (by decide) rfl (Yld.neqI rfl rfl) ?_
           refine WL.yldG (by decide) rfl (Yld.pickF rfl rfl) ?_
           refine WL.yld (by decide) (Yld.pickT rfl rfl) ?_
           refine WL.yld (by decide) (Yld.move rfl) ?_
           refine WL.new (v' := .bool false) (congrArg Value.bool (bne_eq_false_iff_eq.2 hc41)) ?_
           refine WL.yldG (by decide) rfl (Yld.fieldAddr Try.underlying42 rfl nz_3 rfl rfl) ?_
           refine WL.yldG (by decide) rfl (Yld.loadB (k := 116) scal_3 rfl rfl rfl) ?_
           refine WL.yldG (by decide) rfl (Yld.neqI rfl rfl) ?_
           refine WL.yldG (by decide) rfl (Yld.move rfl) ?_
           refine WL.new (v' := .bool true) (congrArg Value.bool (bne_iff_ne.2 hc42)) ?_
           refine WL.yldG (by decide) rfl (Yld.fieldAddr Try.underlying42 rfl nz_3 rfl rfl) ?_
           refine WL.yldG (by decide) rfl (Yld.loadB (k := 116) scal_3 rfl rfl rfl) ?_
           refine WL.yldG (by decide) rfl (Yld.fieldAddr Try.underlying42 rfl nz_3 rfl rfl) ?_
           refine WL.yldG (by decide) rfl (Yld.loadB (k := 116) scal_3 rfl rfl rfl) ?_
           refine WL.yldG (by decide) rfl (Yld.leq rfl rfl) ?_
           refine WL.yldG (by decide) rfl (Yld.pickT rfl rfl) ?_
           refine WL.yld (by decide) (Yld.pickF rfl rfl) ?_
           refine WL.done (hK34 _ _ ?_)
           by_cases hc43 : x12.fClosed ≤ x12.fCall
           ·
            replace h := of_t hc43 h
            refine WC.condTe rfl (decide_eq_true hc43) ?_
            refine WC.seqRegion fun K44 hK44 => ?_
            refine WL.yld (by decide) (Yld.assign rfl) ?_
            refine WL.done (hK44 _ _ ?_)
            refine WC.ret (QK.thenR (QK.blockR (QK.thenR (QK.thenR (QK.blockR (QK.thenR ?_))))))
            injection h with h; subst h
            exact Ret.fn [] (ResIs.one rfl rfl) rfl (Ext.refl _ _) rfl (by decide) rfl rfl ⟨rfl, rfl⟩
           ·
            replace h := of_f hc43 h
            refine WC.condFe rfl (decide_eq_false hc43) ?_
            refine WC.skip ?_
            refine QK.thenN ?_
            refine hK33 () _ _ ?_ (Sub.cons rfl (Sub.cons rfl (Sub.cons rfl (Sub.cons rfl (Sub.cons rfl (Sub.cons rfl (Sub.nil _))))))) (Sub.cons rfl (Sub.cons rfl (Sub.nil _)))
            exact h
         ·
          replace h := of_f hc41 h
          refine WL.yld (by decide) (Yld.fieldAddr Try.underlying42 rfl nz_3 rfl rfl) ?_
          refine WL.yld (by decide) (Yld.loadB (k := 116) scal_3 rfl rfl rfl) ?_
          refine WL.yld (by decide) (Yld.neqI rfl rfl) ?_
          refine WL.yld (by decide) (Yld.move rfl) ?_
          refine WL.new (v' := .bool true) (congrArg Value.bool (bne_iff_ne.2 hc35)) ?_
          refine WL.yldG (by decide) rfl (Yld.fieldAddr Try.underlying42 rfl nz_3 rfl rfl) ?_
          refine WL.yldG (by decide) rfl (Yld.loadB (k := 116) scal_3 rfl rfl rfl) ?_
          refine WL.yldG (by decide) rfl (Yld.fieldAddr Try.underlying42 rfl nz_3 rfl rfl) ?_
          refine WL.yldG (by decide) rfl (Yld.loadB (k := 116) scal_3 rfl rfl rfl) ?_
          refine WL.yldG (by decide) rfl (Yld.leq rfl rfl) ?_
          refine WL.yldG (by decide) rfl (Yld.move rfl) ?_
          refine WL.new (v' := .bool false) (congrArg Value.bool (decide_eq_false hc39)) ?_
          refine WL.yldG (by decide) rfl (Yld.fieldAddr Try.underlying42 rfl nz_3 rfl rfl) ?_
          refine WL.yldG (by decide) rfl (Yld.loadB (k := 116) scal_3 rfl rfl rfl) ?_
          refine WL.yldG (by decide) rfl (Yld.neqI rfl rfl) ?_
          refine WL.yldG (by decide) rfl (Yld.pickF rfl rfl) ?_
          refine WL.yld (by decide) (Yld.pickT rfl rfl) ?_
          refine WL.yld (by decide) (Yld.move rfl) ?_
          refine WL.new (v' := .bool true) (congrArg Value.bool (bne_iff_ne.2 hc41)) ?_
          refine WL.skip (by decide) rfl rfl ?_
          refine WL.skip (by decide) rfl rfl ?_
          refine WL.skip (by decide) rfl rfl ?_
          refine WL.skip (by decide) rfl rfl ?_
          refine WL.skipU (by decide) rfl ?_
          refine WL.skipU (by decide) rfl ?_
          refine WL.skipU (by decide) rfl ?_
          refine WL.skipU (by decide) rfl ?_
          refine WL.skipU (by decide) rfl ?_
          refine WL.skip (by decide) rfl rfl ?_
          refine WL.yld (by decide) (Yld.pickT rfl rfl) ?_
          refine WL.done (hK34 _ _ ?_)
          refine WC.condT rfl ?_
          refine WC.seqRegion fun K45 hK45 => ?_
          refine WL.yld (by decide) (Yld.assign rfl) ?_
          refine WL.done (hK45 _ _ ?_)
          refine WC.ret (QK.thenR (QK.blockR (QK.thenR (QK.thenR (QK.blockR (QK.thenR ?_))))))
          injection h with h; subst h
          exact Ret.fn [] (ResIs.one rfl rfl) rfl (Ext.refl _ _) rfl (by decide) rfl rfl ⟨rfl, rfl⟩
      ·
       rintro _ h
       unfold m_history_Valid_j4 at h
       refine WC.seqRegion fun K46 hK46 => ?_
       obtain ⟨x47, hx47, h⟩ := bnd h
       refine WL.yld (by decide) (Yld.move rfl) ?_
       refine WL.yld (by decide) (Yld.move rfl) ?_
       obtain ⟨rs48, hs49, hq50⟩ := Rels.slc hq00 hx47
       refine WL.yld (by decide) (Yld.sliceHC (xs := rs00) sty_27 rfl rfl (RdH.memM (k := 0) rfl hf00) hs49) ?_
       refine WL.yld (by decide) (Yld.lenD (rs := rs48) (xs := x47) (Rels.len hq50) und_27 rfl (RdT.slc0 (RdH.memM (k := 0) rfl hf00) hs49)) ?_
       refine WL.yld (by decide) (Yld.move rfl) ?_
       refine WL.done (hK46 _ _ ?_)
       refine WC.block ?_
       refine WC.loop (σ := Nat × Int) (fun ⟨q52, x51⟩ => [(0, .slice A00 n00 c00), (4, .pointer (some ⟨g16, 0, none⟩)), (7, .slice A00 n00 c00), (8, I64 (x00.length : Int)), (9, I64 x4), (67, .slice A00 rs48.length c00), (68, I64 (x47.length : Int)), (69, I64 x51)]) (fun ⟨q52, x51⟩ => [(0, .mem M0), (116, .blk g16 42 [I64 x12.fClient, I64 x12.fKind, U64 x12.fKey, U32 x12.fCookie, .slice r_13_0.A r_13_0.n r_13_0.c, .slice r_13_1.A r_13_1.n r_13_1.c, I64 x12.fCall, I64 x12.fReturn, I64 x12.fClosed, I64 x12.fResult])]) (fun ⟨q52, x51⟩ => m_history_Valid_l5 x4 x12 x47 (m_history_Valid_l1 x00 q5) q52 x51 = some res) (fun ⟨q52, x51⟩ => q52) ⟨forever, (0 : Int)⟩ ?_ (Sub.cons rfl (Sub.cons rfl (Sub.cons rfl (Sub.cons rfl (Sub.cons rfl (Sub.cons rfl (Sub.cons rfl (Sub.cons rfl (Sub.nil _))))))))) (Sub.cons rfl (Sub.cons rfl (Sub.nil _))) ?_
       ·
        exact h
       rintro ⟨q52, x51⟩ h K53 hK53
       cases q52 with
       | zero => exact absurd h (by simp [m_history_Valid_l5])
       | succ q52 =>
        unfold m_history_Valid_l5 at h
        refine WC.seqRegion fun K54 hK54 => ?_
        refine WL.yld (by decide) (Yld.lss rfl rfl) ?_
        refine WL.done (hK54 _ _ ?_)
        refine WC.seq fun K55 hK55 => ?_
        by_cases hc56 : x51 < (x47.length : Int)
        ·
         replace h := of_t hc56 h
         refine WC.condTe rfl (decide_eq_true hc56) ?_
         refine WC.skip ?_
         refine QK.thenN (hK55 _ _ ?_)
         refine WC.seq fun K57 hK57 => ?_
         refine WC.block ?_
         refine WC.seqRegion fun K58 hK58 => ?_
         obtain ⟨x59, hx59, h⟩ := bnd h
         obtain ⟨⟨_, r_60_0, r_60_1⟩, hr61, rfl, hq62_0, hq62_1⟩ := Rels.idx hq50 hx59
         refine WL.yld (by decide) (Yld.idxC (xs := rs48) sty_27 rfl rfl (RdT.slc0 (RdH.memM (k := 0) rfl hf00) hs49) hr61) ?_
         refine WL.yld (by decide) (Yld.loadA (xs := rs48) agg_42 rfl (RdT.slc0 (RdH.memM (k := 0) rfl hf00) hs49) hr61 rfl) ?_
         refine WL.eff (by decide) (Eff.alloc 163 rfl zr_42) ?_
         rintro _ _ ⟨g63, rfl, rfl⟩
         refine WL.eff0 (Eff0.storeBAM 163 agg_42 rfl rfl rfl ⟨rfl, rfl⟩ rfl) ?_
         refine WL.done (hK58 _ _ ?_)
         refine WC.seqRegion fun K64 hK64 => ?_
         by_cases hc65 : x59.fClient = x12.fClient
         ·
          replace h := of_t hc65 h
          obtain ⟨x66, hx66, h⟩ := bnd h
          refine WL.yld (by decide) (Yld.fieldAddr Try.underlying42 rfl nz_3 rfl rfl) ?_
          refine WL.yld (by decide) (Yld.loadB (k := 163) scal_3 rfl rfl rfl) ?_
          refine WL.yld (by decide) (Yld.fieldAddr Try.underlying42 rfl nz_3 rfl rfl) ?_
          refine WL.yld (by decide) (Yld.loadB (k := 116) scal_3 rfl rfl rfl) ?_
          refine WL.yld (by decide) (Yld.eqlI rfl rfl) ?_
          refine WL.yld (by decide) (Yld.move rfl) ?_
          refine WL.new (v' := .bool true) (congrArg Value.bool (beq_iff_eq.2 hc65)) ?_
          refine WL.yldG (by decide) rfl (Yld.loadBM (k := 163) agg_42 rfl rfl rfl) ?_
          refine WL.yldG (by decide) rfl (Yld.loadBM (k := 116) agg_42 rfl rfl rfl) ?_
          refine WL.effG (by decide) rfl (Eff.callS 167 rfl Try.func15 nm_15 rfl rfl (fun w hb hh => w_history_Before (Mem.snap w) x59.fClient x59.fKind x59.fKey x59.fCookie r_60_0.A r_60_0.n r_60_0.c _ (RdH.sn (RdH.memM (k := 0) rfl hq62_0) w hb hh) r_60_1.A r_60_1.n r_60_1.c _ (RdH.sn (RdH.memM (k := 0) rfl hq62_1) w hb hh) x59.fCall x59.fReturn x59.fClosed x59.fResult x12.fClient x12.fKind x12.fKey x12.fCookie r_13_0.A r_13_0.n r_13_0.c _ (RdH.sn (RdH.memM (k := 0) rfl hq15_0) w hb hh) r_13_1.A r_13_1.n r_13_1.c _ (RdH.sn (RdH.memM (k := 0) rfl hq15_1) w hb hh) x12.fCall x12.fReturn x12.fClosed x12.fResult hx66)) ?_
          rintro _ _ ⟨_, ⟨rfl, rfl⟩, rfl⟩
          refine WL.yldG (by decide) rfl (Yld.notB rfl) ?_
          refine WL.yld (by decide) (Yld.pickT rfl rfl) ?_
          refine WL.done (hK64 _ _ ?_)
          by_cases hc68 : x66 = true
          ·
           replace h := of_t hc68 h
           refine WC.condFe rfl (not_f hc68) ?_
           refine WC.skip ?_
           refine QK.blockN ?_
           refine QK.thenN (hK57 _ _ ?_)
           refine WC.region fun K69 hK69 => ?_
           obtain ⟨x70, hx70, h⟩ := bnd h
           refine WL.yld (by decide) (Yld.addC rfl rfl hx70) ?_
           refine WL.yld (by decide) (Yld.move rfl) ?_
           refine WL.done (hK69 _ _ ?_)
           refine QK.thenN ?_
           refine hK53 ⟨q52, x70⟩ _ _ ?_ (Nat.lt_succ_self _) (Sub.cons rfl (Sub.cons rfl (Sub.cons rfl (Sub.cons rfl (Sub.cons rfl (Sub.cons rfl (Sub.cons rfl (Sub.cons rfl (Sub.nil _))))))))) (Sub.cons rfl (Sub.cons rfl (Sub.nil _)))
           exact h
          ·
           replace h := of_f hc68 h
           refine WC.condTe rfl (not_t (Bool.eq_false_iff.2 hc68)) ?_
           refine WC.seqRegion fun K71 hK71 => ?_
           refine WL.yld (by decide) (Yld.assign rfl) ?_
           refine WL.done (hK71 _ _ ?_)
           refine WC.ret (QK.blockR (QK.thenR (QK.thenR (QK.blockR (QK.blockR (QK.thenR (QK.thenR (QK.blockR (QK.thenR ?_)))))))))
           injection h with h; subst h
           exact Ret.fn [] (ResIs.one rfl rfl) rfl (Ext.refl _ _) rfl (by decide) rfl rfl ⟨rfl, rfl⟩
         ·
          replace h := of_f hc65 h
          refine WL.yld (by decide) (Yld.fieldAddr Try.underlying42 rfl nz_3 rfl rfl) ?_
          refine WL.yld (by decide) (Yld.loadB (k := 163) scal_3 rfl rfl rfl) ?_
          refine WL.yld (by decide) (Yld.fieldAddr Try.underlying42 rfl nz_3 rfl rfl) ?_
          refine WL.yld (by decide) (Yld.loadB (k := 116) scal_3 rfl rfl rfl) ?_
          refine WL.yld (by decide) (Yld.eqlI rfl rfl) ?_
          refine WL.yld (by decide) (Yld.move rfl) ?_
          refine WL.new (v' := .bool false) (congrArg Value.bool (beq_eq_false_iff_ne.2 hc65)) ?_
          refine WL.skip (by decide) rfl rfl ?_
          refine WL.skip (by decide) rfl rfl ?_
          refine WL.skip (by decide) rfl rfl ?_
          refine WL.skip (by decide) rfl rfl ?_
          refine WL.yld (by decide) (Yld.pickF rfl rfl) ?_
          refine WL.done (hK64 _ _ ?_)
          refine WC.condF rfl ?_
          refine WC.skip ?_
          refine QK.blockN ?_
          refine QK.thenN (hK57 _ _ ?_)
          refine WC.region fun K72 hK72 => ?_
          obtain ⟨x73, hx73, h⟩ := bnd h
          refine WL.yld (by decide) (Yld.addC rfl rfl hx73) ?_
          refine WL.yld (by decide) (Yld.move rfl) ?_
          refine WL.done (hK72 _ _ ?_)
          refine QK.thenN ?_
          refine hK53 ⟨q52, x73⟩ _ _ ?_ (Nat.lt_succ_self _) (Sub.cons rfl (Sub.cons rfl (Sub.cons rfl (Sub.cons rfl (Sub.cons rfl (Sub.cons rfl (Sub.cons rfl (Sub.cons rfl (Sub.nil _))))))))) (Sub.cons rfl (Sub.cons rfl (Sub.nil _)))
          exact h
        ·
         replace h := of_f hc56 h
         refine WC.condFe rfl (decide_eq_false hc56) ?_
         refine WC.exit (QK.thenE (QK.thenE (QK.blockX ?_)))
         refine QK.blockN ?_
         refine QK.thenN ?_
         refine hK10 () _ _ ?_ (Sub.cons rfl (Sub.cons rfl (Sub.cons rfl (Sub.cons rfl (Sub.nil _))))) (Sub.cons rfl (Sub.nil _))
         exact h
    ·
     rintro _ h
     unfold m_history_Valid_j2 at h
     refine WC.region fun K74 hK74 => ?_
     obtain ⟨x75, hx75, h⟩ := bnd h
     refine WL.yld (by decide) (Yld.addC rfl rfl hx75) ?_
     refine WL.yld (by decide) (Yld.move rfl) ?_
     refine WL.done (hK74 _ _ ?_)
     refine QK.thenN ?_
     refine hK6 ⟨q5, x75⟩ _ _ ?_ (Nat.lt_succ_self _) (Sub.cons rfl (Sub.cons rfl (Sub.cons rfl (Sub.cons rfl (Sub.nil _))))) (Sub.cons rfl (Sub.nil _))
     exact h
   ·
    replace h := of_f hc9 h
    refine WC.condFe rfl (decide_eq_false hc9) ?_
    refine WC.exit (QK.thenE (QK.thenE (QK.blockX ?_)))
    refine QK.thenN ?_
    refine hK2 () _ _ ?_ (Sub.nil _) (Sub.cons rfl (Sub.nil _))
    exact h
 ·
  rintro _ h
  unfold m_history_Valid_j0 at h
  refine WC.seqRegion fun K76 hK76 => ?_
  refine WL.yld (by decide) (Yld.assign rfl) ?_
  refine WL.done (hK76 _ _ ?_)
  refine WC.ret ?_
  injection h with h; subst h
  exact Ret.fn [] (ResIs.one rfl rfl) rfl (Ext.refl _ _) rfl (by decide) rfl rfl ⟨rfl, rfl⟩

end Go.Proofs.Ytpebhdepmbnjbaa
