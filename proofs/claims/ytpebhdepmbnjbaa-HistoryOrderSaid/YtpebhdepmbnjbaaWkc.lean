/-
 Walks (c): what a function's model gives, the function returns. Printed by a program of ours (vcm.py) from the function's operations. Conditions: as each theorem says.
-/
import Derived.Test.YtpebhdepmbnjbaaWkb
import Derived.Test.YtpebhdepmbnjbaaMdc
namespace Go.Proofs.Ytpebhdepmbnjbaa
open Go Go.RowKit
set_option linter.unusedVariables false

theorem und_3 : Try.prog.underlying 3 = some (.int .i64) := by kernel_rfl
theorem und_51 : Try.prog.underlying 51 = some (.map 3 4) := by kernel_rfl
theorem bu_45_0 : ∀ (a0 : Int), Try.prog.built 45 [(0, I64 a0)] = some ([I64 a0, I64 (0 : Int), I64 (0 : Int), U64 0#64, U32 0#32, .slice none 0 0, I64 (0 : Int)] : List Value).toArray := fun a0 => by kernel_rfl
theorem bu_45_0_1_2_3_4_5_6 : ∀ (a0 : Int) (a1 : Int) (a2 : Int) (a3 : BitVec 64) (a4 : BitVec 32) (a5 : Option Addr) (n5 c5 : Nat) (a6 : Int), Try.prog.built 45 [(0, I64 a0), (1, I64 a1), (2, I64 a2), (3, U64 a3), (4, U32 a4), (5, .slice a5 n5 c5), (6, I64 a6)] = some ([I64 a0, I64 a1, I64 a2, U64 a3, U32 a4, .slice a5 n5 c5, I64 a6] : List Value).toArray := fun a0 a1 a2 a3 a4 a5 n5 c5 a6 => by kernel_rfl
theorem bu_45_0_2 : ∀ (a0 : Int) (a2 : Int), Try.prog.built 45 [(0, I64 a0), (2, I64 a2)] = some ([I64 a0, I64 (0 : Int), I64 a2, U64 0#64, U32 0#32, .slice none 0 0, I64 (0 : Int)] : List Value).toArray := fun a0 a2 => by kernel_rfl
theorem bu_57_0_1_2_3_4_5_6_7_8_9 : ∀ (a0 : Int) (a1 : Int) (a2 : BitVec 64) (a3 : BitVec 32) (a4 : Option Addr) (n4 c4 : Nat) (a5 : Option Addr) (n5 c5 : Nat) (a6 : Int) (a7 : Int) (a8 : Int) (a9 : Int), Try.prog.built 57 [(0, I64 a0), (1, I64 a1), (2, U64 a2), (3, U32 a3), (4, .slice a4 n4 c4), (5, .slice a5 n5 c5), (6, I64 a6), (7, I64 a7), (8, I64 a8), (9, I64 a9)] = some ([I64 a0, I64 a1, U64 a2, U32 a3, .slice a4 n4 c4, .slice a5 n5 c5, I64 a6, I64 a7, I64 a8, I64 a9] : List Value).toArray := fun a0 a1 a2 a3 a4 n4 c4 a5 n5 c5 a6 a7 a8 a9 => by kernel_rfl
theorem nm_10 : (Try.f10.name == "runtime.NumGoroutine") = false := by kernel_rfl
theorem siz_38 : (Try.prog.info? 38).map (·.size) = some 1 := by kernel_rfl
theorem zv_4 : (Try.prog.info? 4).map (·.zero) = some (some (.bool false)) := by kernel_rfl

set_option maxRecDepth 10000 in
theorem w_law24_light (M0 : Mem) (A00 : Option Addr) (n00 c00 : Nat) (rs00 : List Rneedlestoreref24_Event) (x00 : List (Sneedlestoreref24_Event)) (hf00 : SlT M0 A00 n00 c00 rs00) (hq00 : Rels (rel_needlestoreref24_Event M0) rs00 x00) {res : Bool} (h : m_law24_light x00 = some res) :
  Fn Try.prog 7 #[.slice A00 n00 c00] M0 fun r M' es => r = .bool res ∧ es = [] := by
 refine Fn.intro (N := 20) Try.func7 rfl rfl (Nat.le_of_ble_eq_true rfl) fun w0 => ?_
 unfold m_law24_light at h
 refine WC.seqRegion fun K1 hK1 => ?_
 refine WL.yld (by decide) (Yld.assign rfl) ?_
 refine WL.done (hK1 _ _ ?_)
 refine WC.seqCut (σ := Unit) (fun _ => [(0, .slice A00 n00 c00)]) (fun _ => [(0, .mem M0)]) (fun _ => m_law24_light_j0 x00 = some res) (fun K2 hK2 => ?_) ?_
 ·
  skip
  refine WC.seqRegion fun K3 hK3 => ?_
  refine WL.yld (by decide) (Yld.move rfl) ?_
  refine WL.yld (by decide) (Yld.lenD (rs := rs00) (xs := x00) (Rels.len hq00) und_22 rfl (RdH.memM (k := 0) rfl hf00)) ?_
  refine WL.yld (by decide) (Yld.move rfl) ?_
  refine WL.done (hK3 _ _ ?_)
  refine WC.block ?_
  refine WC.loop (σ := Nat × Int) (fun ⟨q5, x4⟩ => [(0, .slice A00 n00 c00), (5, I64 (x00.length : Int)), (6, I64 x4)]) (fun ⟨q5, x4⟩ => [(0, .mem M0)]) (fun ⟨q5, x4⟩ => m_law24_light_l1 x00 q5 x4 = some res) (fun ⟨q5, x4⟩ => q5) ⟨forever, (0 : Int)⟩ ?_ (Sub.cons rfl (Sub.cons rfl (Sub.cons rfl (Sub.nil _)))) (Sub.cons rfl (Sub.nil _)) ?_
  ·
   exact h
  rintro ⟨q5, x4⟩ h K6 hK6
  cases q5 with
  | zero => exact absurd h (by simp [m_law24_light_l1])
  | succ q5 =>
   unfold m_law24_light_l1 at h
   refine WC.seqRegion fun K7 hK7 => ?_
   refine WL.yld (by decide) (Yld.lss rfl rfl) ?_
   refine WL.done (hK7 _ _ ?_)
   refine WC.seq fun K8 hK8 => ?_
   by_cases hc9 : x4 < (x00.length : Int)
   ·
    replace h := of_t hc9 h
    refine WC.condTe rfl (decide_eq_true hc9) ?_
    refine WC.skip ?_
    refine QK.thenN (hK8 _ _ ?_)
    refine WC.seq fun K10 hK10 => ?_
    refine WC.block ?_
    refine WC.seqRegion fun K11 hK11 => ?_
    refine WL.yld (by decide) (Yld.move rfl) ?_
    refine WL.yld (by decide) (Yld.assign rfl) ?_
    refine WL.done (hK11 _ _ ?_)
    refine WC.seqRegion fun K12 hK12 => ?_
    obtain ⟨x13, hx13, h⟩ := bnd h
    refine WL.yld (by decide) (Yld.move rfl) ?_
    refine WL.yld (by decide) (Yld.move rfl) ?_
    obtain ⟨⟨_, r_14_0⟩, hr15, rfl, hq16_0⟩ := Rels.idx hq00 hx13
    refine WL.yld (by decide) (Yld.idxC (xs := rs00) sty_22 rfl rfl (RdH.memM (k := 0) rfl hf00) hr15) ?_
    refine WL.yld (by decide) (Yld.fieldAddrC Try.underlying50 rfl nz_40 rfl rfl) ?_
    refine WL.yld (by decide) (Yld.loadC (xs := rs00) (j := 5) scal_40 rfl (RdH.memM (k := 0) rfl hf00) hr15 rfl rfl) ?_
    refine WL.yld (by decide) (Yld.lenC (xs := x13.fData) und_40 rfl (RdH.memM (k := 0) rfl hq16_0)) ?_
    refine WL.yld (by decide) (Yld.gtr rfl rfl) ?_
    refine WL.done (hK12 _ _ ?_)
    by_cases hc17 : (200 : Int) < (x13.fData.length : Int)
    ·
     replace h := of_t hc17 h
     refine WC.condTe rfl (decide_eq_true hc17) ?_
     refine WC.seqRegion fun K18 hK18 => ?_
     refine WL.yld (by decide) (Yld.assign rfl) ?_
     refine WL.done (hK18 _ _ ?_)
     refine WC.ret (QK.blockR (QK.thenR (QK.thenR (QK.blockR (QK.thenR ?_)))))
     injection h with h; subst h
     exact Ret.fn [] (ResIs.one rfl rfl) rfl (Ext.refl _ _) rfl (by decide) rfl rfl ⟨rfl, rfl⟩
    ·
     replace h := of_f hc17 h
     refine WC.condFe rfl (decide_eq_false hc17) ?_
     refine WC.skip ?_
     refine QK.blockN ?_
     refine QK.thenN (hK10 _ _ ?_)
     refine WC.region fun K19 hK19 => ?_
     obtain ⟨x20, hx20, h⟩ := bnd h
     refine WL.yld (by decide) (Yld.addC rfl rfl hx20) ?_
     refine WL.yld (by decide) (Yld.move rfl) ?_
     refine WL.done (hK19 _ _ ?_)
     refine QK.thenN ?_
     refine hK6 ⟨q5, x20⟩ _ _ ?_ (Nat.lt_succ_self _) (Sub.cons rfl (Sub.cons rfl (Sub.cons rfl (Sub.nil _)))) (Sub.cons rfl (Sub.nil _))
     exact h
   ·
    replace h := of_f hc9 h
    refine WC.condFe rfl (decide_eq_false hc9) ?_
    refine WC.exit (QK.thenE (QK.thenE (QK.blockX ?_)))
    refine QK.thenN ?_
    refine hK2 () _ _ ?_ (Sub.cons rfl (Sub.nil _)) (Sub.cons rfl (Sub.nil _))
    exact h
 ·
  rintro _ h
  unfold m_law24_light_j0 at h
  refine WC.seqRegion fun K21 hK21 => ?_
  refine WL.yld (by decide) (Yld.move rfl) ?_
  refine WL.yld (by decide) (Yld.lenD (rs := rs00) (xs := x00) (Rels.len hq00) und_22 rfl (RdH.memM (k := 0) rfl hf00)) ?_
  refine WL.yld (by decide) (Yld.leq rfl rfl) ?_
  refine WL.yld (by decide) (Yld.assign rfl) ?_
  refine WL.done (hK21 _ _ ?_)
  refine WC.ret ?_
  injection h with h; subst h
  exact Ret.fn [] (ResIs.one rfl rfl) rfl (Ext.refl _ _) rfl (by decide) rfl rfl ⟨rfl, rfl⟩

set_option maxRecDepth 10000 in
theorem w_law24_given (M0 : Mem) (A00 : Option Addr) (n00 c00 : Nat) (rs00 : List Rneedlestoreref24_Event) (x00 : List (Sneedlestoreref24_Event)) (hf00 : SlT M0 A00 n00 c00 rs00) (hq00 : Rels (rel_needlestoreref24_Event M0) rs00 x00) {res : (List (Shistory_Event))} (h : m_law24_given x00 = some res) :
  Fn Try.prog 11 #[.slice A00 n00 c00] M0 fun r M' es => ∃ (A1 : Option Addr) (n1 c1 : Nat), ∃ rs1 : List Rhistory_Event, r = .slice A1 n1 c1 ∧ es = [.own 45 (Lay.sz Rhistory_Event) A1 n1 c1 (cel rs1)] ∧ Rels (rel_history_Event M') rs1 res := by
 refine Fn.intro (N := 32) Try.func11 rfl rfl (Nat.le_of_ble_eq_true rfl) fun w0 => ?_
 unfold m_law24_given at h
 refine WC.seqRegion fun K1 hK1 => ?_
 refine WL.yld (by decide) (Yld.assign rfl) ?_
 refine WL.done (hK1 _ _ ?_)
 refine WC.seqRegion fun K2 hK2 => ?_
 refine WL.yld (by decide) (Yld.assign rfl) ?_
 refine WL.done (hK2 _ _ ?_)
 refine WC.seqCut (σ := (Option Addr) × Nat × Nat × (List (Shistory_Event)) × (List Rhistory_Event)) (fun ⟨A5, n6, c7, x8, rs9⟩ => [(3, .slice A5 n6 c7)]) (fun ⟨A5, n6, c7, x8, rs9⟩ => [(0, .mem M0), (104, .own 45 (Lay.sz Rhistory_Event) A5 n6 c7 (cel rs9))]) (fun ⟨A5, n6, c7, x8, rs9⟩ => m_law24_given_j0 x8 = some res ∧ Rels (rel_history_Event M0) rs9 x8) (fun K11 hK11 => ?_) ?_
 ·
  skip
  refine WC.seqRegion fun K12 hK12 => ?_
  refine WL.yld (by decide) (Yld.move rfl) ?_
  refine WL.yld (by decide) (Yld.lenD (rs := rs00) (xs := x00) (Rels.len hq00) und_22 rfl (RdH.memM (k := 0) rfl hf00)) ?_
  refine WL.yld (by decide) (Yld.move rfl) ?_
  refine WL.done (hK12 _ _ ?_)
  refine WC.block ?_
  refine WC.nilOwn 114 45 (Lay.sz Rhistory_Event) none ?_
  refine WC.loop (σ := Nat × (Option Addr) × Nat × Nat × (List (Shistory_Event)) × (List Rhistory_Event) × Int) (fun ⟨q22, A15, n16, c17, x18, rs19, x21⟩ => [(3, .slice A15 n16 c17), (6, .slice A00 n00 c00), (7, I64 (x00.length : Int)), (8, I64 x21)]) (fun ⟨q22, A15, n16, c17, x18, rs19, x21⟩ => [(0, .mem M0), (114, .own 45 (Lay.sz Rhistory_Event) A15 n16 c17 (cel rs19))]) (fun ⟨q22, A15, n16, c17, x18, rs19, x21⟩ => m_law24_given_l1 x00 q22 x18 x21 = some res ∧ Rels (rel_history_Event M0) rs19 x18) (fun ⟨q22, A15, n16, c17, x18, rs19, x21⟩ => q22) ⟨forever, none, 0, 0, ([] : List (Shistory_Event)), ([] : List Rhistory_Event), (0 : Int)⟩ ?_ (Sub.cons rfl (Sub.cons rfl (Sub.cons rfl (Sub.cons rfl (Sub.nil _))))) (Sub.cons rfl (Sub.cons rfl (Sub.nil _))) ?_
  ·
   exact ⟨h, (Rels.nil (R := rel_history_Event M0))⟩
  rintro ⟨q22, A15, n16, c17, x18, rs19, x21⟩ ⟨h, hq20⟩ K23 hK23
  cases q22 with
  | zero => exact absurd h (by simp [m_law24_given_l1])
  | succ q22 =>
   unfold m_law24_given_l1 at h
   refine WC.seqRegion fun K24 hK24 => ?_
   refine WL.yld (by decide) (Yld.lss rfl rfl) ?_
   refine WL.done (hK24 _ _ ?_)
   refine WC.seq fun K25 hK25 => ?_
   by_cases hc26 : x21 < (x00.length : Int)
   ·
    replace h := of_t hc26 h
    refine WC.condTe rfl (decide_eq_true hc26) ?_
    refine WC.skip ?_
    refine QK.thenN (hK25 _ _ ?_)
    refine WC.seq fun K27 hK27 => ?_
    refine WC.block ?_
    refine WC.seqRegion fun K28 hK28 => ?_
    obtain ⟨x29, hx29, h⟩ := bnd h
    obtain ⟨⟨_, r_30_0⟩, hr31, rfl, hq32_0⟩ := Rels.idx hq00 hx29
    refine WL.yld (by decide) (Yld.idxC (xs := rs00) sty_22 rfl rfl (RdH.memM (k := 0) rfl hf00) hr31) ?_
    refine WL.yld (by decide) (Yld.loadA (xs := rs00) agg_50 rfl (RdH.memM (k := 0) rfl hf00) hr31 rfl) ?_
    refine WL.eff (by decide) (Eff.alloc 133 rfl zr_50) ?_
    rintro _ _ ⟨g33, rfl, rfl⟩
    refine WL.eff0 (Eff0.storeBAM 133 agg_50 rfl rfl rfl ⟨rfl, rfl⟩ rfl) ?_
    refine WL.done (hK28 _ _ ?_)
    refine WC.region fun K34 hK34 => ?_
    obtain ⟨x37, hx37, h⟩ := bnd h
    refine WL.yld (by decide) (Yld.move rfl) ?_
    refine WL.yld (by decide) (Yld.fieldAddr Try.underlying50 rfl nz_3 rfl rfl) ?_
    refine WL.yld (by decide) (Yld.loadB (k := 133) scal_3 rfl rfl rfl) ?_
    refine WL.yld (by decide) (Yld.fieldAddr Try.underlying50 rfl nz_3 rfl rfl) ?_
    refine WL.yld (by decide) (Yld.loadB (k := 133) scal_3 rfl rfl rfl) ?_
    refine WL.yld (by decide) (Yld.fieldAddr Try.underlying50 rfl nz_3 rfl rfl) ?_
    refine WL.yld (by decide) (Yld.loadB (k := 133) scal_3 rfl rfl rfl) ?_
    refine WL.yld (by decide) (Yld.fieldAddr Try.underlying50 rfl nz_38 rfl rfl) ?_
    refine WL.yld (by decide) (Yld.loadB (k := 133) scal_38 rfl rfl rfl) ?_
    refine WL.yld (by decide) (Yld.fieldAddr Try.underlying50 rfl nz_39 rfl rfl) ?_
    refine WL.yld (by decide) (Yld.loadB (k := 133) scal_39 rfl rfl rfl) ?_
    refine WL.yld (by decide) (Yld.fieldAddr Try.underlying50 rfl nz_40 rfl rfl) ?_
    refine WL.yld (by decide) (Yld.loadB (k := 133) scal_40 rfl rfl rfl) ?_
    refine WL.yld (by decide) (Yld.fieldAddr Try.underlying50 rfl nz_28 rfl rfl) ?_
    refine WL.yld (by decide) (Yld.loadB (k := 133) scal_28 rfl rfl rfl) ?_
    refine WL.yld (by decide) (Yld.build rfl (bu_45_0_1_2_3_4_5_6 x29.fKind x29.fClient x29.fOp x29.fKey x29.fCookie r_30_0.A r_30_0.n r_30_0.c x29.fResult)) ?_
    have hq36 : Rels (rel_history_Event M0) ([(Rhistory_Event.mk (Shistory_Event.mk x29.fKind x29.fClient x29.fOp x29.fKey x29.fCookie x29.fData x29.fResult) (⟨r_30_0.A, r_30_0.n, r_30_0.c⟩ : Hdr))] : List Rhistory_Event) ([(Shistory_Event.mk x29.fKind x29.fClient x29.fOp x29.fKey x29.fCookie x29.fData x29.fResult)] : List (Shistory_Event)) := (Rels.cons ⟨rfl, hq32_0⟩ Rels.nil)
    refine WL.eff (by decide) (Eff.buildCA 135 ([(Rhistory_Event.mk (Shistory_Event.mk x29.fKind x29.fClient x29.fOp x29.fKey x29.fCookie x29.fData x29.fResult) (⟨r_30_0.A, r_30_0.n, r_30_0.c⟩ : Hdr))] : List Rhistory_Event) sty_31 rfl rfl rfl (by decide)) ?_
    rintro _ _ ⟨g35, rfl, rfl⟩
    obtain ⟨hu40, hq41⟩ := Rels.apd hq20 hq36 hx37
    refine WL.eff (by decide) (Eff.appendC 114 (xs := rs19) (ys := ([(Rhistory_Event.mk (Shistory_Event.mk x29.fKind x29.fClient x29.fOp x29.fKey x29.fCookie x29.fData x29.fResult) (⟨r_30_0.A, r_30_0.n, r_30_0.c⟩ : Hdr))] : List Rhistory_Event)) sty_31 rfl rfl rfl (RdH.own (k := 135) rfl) hu40) ?_
    rintro _ _ ⟨A38, c39, rfl, rfl⟩
    refine WL.yld (by decide) (Yld.assign rfl) ?_
    refine WL.done (hK34 _ _ ?_)
    refine QK.blockN ?_
    refine QK.thenN (hK27 _ _ ?_)
    refine WC.region fun K42 hK42 => ?_
    obtain ⟨x43, hx43, h⟩ := bnd h
    refine WL.yld (by decide) (Yld.addC rfl rfl hx43) ?_
    refine WL.yld (by decide) (Yld.move rfl) ?_
    refine WL.done (hK42 _ _ ?_)
    refine QK.thenN ?_
    refine hK23 ⟨q22, A38, (rs19 ++ ([(Rhistory_Event.mk (Shistory_Event.mk x29.fKind x29.fClient x29.fOp x29.fKey x29.fCookie x29.fData x29.fResult) (⟨r_30_0.A, r_30_0.n, r_30_0.c⟩ : Hdr))] : List Rhistory_Event)).length, c39, x37, (rs19 ++ ([(Rhistory_Event.mk (Shistory_Event.mk x29.fKind x29.fClient x29.fOp x29.fKey x29.fCookie x29.fData x29.fResult) (⟨r_30_0.A, r_30_0.n, r_30_0.c⟩ : Hdr))] : List Rhistory_Event)), x43⟩ _ _ ?_ (Nat.lt_succ_self _) (Sub.cons rfl (Sub.cons rfl (Sub.cons rfl (Sub.cons rfl (Sub.nil _))))) (Sub.cons rfl (Sub.cons rfl (Sub.nil _)))
    exact ⟨h, hq41⟩
   ·
    replace h := of_f hc26 h
    refine WC.condFe rfl (decide_eq_false hc26) ?_
    refine WC.exit (QK.thenE (QK.thenE (QK.blockX ?_)))
    refine QK.thenN ?_
    refine KK.move 114 104 rfl rfl ?_
    refine hK11 ⟨A15, n16, c17, x18, rs19⟩ _ _ ?_ (Sub.cons rfl (Sub.nil _)) (Sub.cons rfl (Sub.cons rfl (Sub.nil _)))
    exact ⟨h, hq20⟩
 ·
  rintro ⟨A5, n6, c7, x8, rs9⟩ ⟨h, hq10⟩
  unfold m_law24_given_j0 at h
  refine WC.seqRegion fun K44 hK44 => ?_
  refine WL.yld (by decide) (Yld.move rfl) ?_
  refine WL.yld (by decide) (Yld.assign rfl) ?_
  refine WL.done (hK44 _ _ ?_)
  refine WC.ret ?_
  injection h with h; subst h
  exact Ret.fn [104] (ResIs.one rfl rfl) rfl (Ext.refl _ _) rfl (by decide) rfl rfl ⟨A5, n6, c7, rs9, rfl, rfl, hq10⟩

set_option maxRecDepth 10000 in
theorem w_law24_told (M0 : Mem) (A00 : Option Addr) (n00 c00 : Nat) (rs00 : List Rhistory_Op) (x00 : List (Shistory_Op)) (hf00 : SlT M0 A00 n00 c00 rs00) (hq00 : Rels (rel_history_Op M0) rs00 x00) {res : (List (Sneedlestoreref24_Op))} (h : m_law24_told x00 = some res) :
  Fn Try.prog 14 #[.slice A00 n00 c00] M0 fun r M' es => ∃ (A1 : Option Addr) (n1 c1 : Nat), ∃ rs1 : List Rneedlestoreref24_Op, r = .slice A1 n1 c1 ∧ es = [.own 57 (Lay.sz Rneedlestoreref24_Op) A1 n1 c1 (cel rs1)] ∧ Rels (rel_needlestoreref24_Op M') rs1 res := by
 refine Fn.intro (N := 38) Try.func14 rfl rfl (Nat.le_of_ble_eq_true rfl) fun w0 => ?_
 unfold m_law24_told at h
 refine WC.seqRegion fun K1 hK1 => ?_
 refine WL.yld (by decide) (Yld.assign rfl) ?_
 refine WL.done (hK1 _ _ ?_)
 refine WC.seqRegion fun K2 hK2 => ?_
 refine WL.yld (by decide) (Yld.assign rfl) ?_
 refine WL.done (hK2 _ _ ?_)
 refine WC.seqCut (σ := (Option Addr) × Nat × Nat × (List (Sneedlestoreref24_Op)) × (List Rneedlestoreref24_Op)) (fun ⟨A5, n6, c7, x8, rs9⟩ => [(3, .slice A5 n6 c7)]) (fun ⟨A5, n6, c7, x8, rs9⟩ => [(0, .mem M0), (104, .own 57 (Lay.sz Rneedlestoreref24_Op) A5 n6 c7 (cel rs9))]) (fun ⟨A5, n6, c7, x8, rs9⟩ => m_law24_told_j0 x8 = some res ∧ Rels (rel_needlestoreref24_Op M0) rs9 x8) (fun K11 hK11 => ?_) ?_
 ·
  skip
  refine WC.seqRegion fun K12 hK12 => ?_
  refine WL.yld (by decide) (Yld.move rfl) ?_
  refine WL.yld (by decide) (Yld.lenD (rs := rs00) (xs := x00) (Rels.len hq00) und_27 rfl (RdH.memM (k := 0) rfl hf00)) ?_
  refine WL.yld (by decide) (Yld.move rfl) ?_
  refine WL.done (hK12 _ _ ?_)
  refine WC.block ?_
  refine WC.nilOwn 114 57 (Lay.sz Rneedlestoreref24_Op) none ?_
  refine WC.loop (σ := Nat × (Option Addr) × Nat × Nat × (List (Sneedlestoreref24_Op)) × (List Rneedlestoreref24_Op) × Int) (fun ⟨q22, A15, n16, c17, x18, rs19, x21⟩ => [(3, .slice A15 n16 c17), (6, .slice A00 n00 c00), (7, I64 (x00.length : Int)), (8, I64 x21)]) (fun ⟨q22, A15, n16, c17, x18, rs19, x21⟩ => [(0, .mem M0), (114, .own 57 (Lay.sz Rneedlestoreref24_Op) A15 n16 c17 (cel rs19))]) (fun ⟨q22, A15, n16, c17, x18, rs19, x21⟩ => m_law24_told_l1 x00 q22 x18 x21 = some res ∧ Rels (rel_needlestoreref24_Op M0) rs19 x18) (fun ⟨q22, A15, n16, c17, x18, rs19, x21⟩ => q22) ⟨forever, none, 0, 0, ([] : List (Sneedlestoreref24_Op)), ([] : List Rneedlestoreref24_Op), (0 : Int)⟩ ?_ (Sub.cons rfl (Sub.cons rfl (Sub.cons rfl (Sub.cons rfl (Sub.nil _))))) (Sub.cons rfl (Sub.cons rfl (Sub.nil _))) ?_
  ·
   exact ⟨h, (Rels.nil (R := rel_needlestoreref24_Op M0))⟩
  rintro ⟨q22, A15, n16, c17, x18, rs19, x21⟩ ⟨h, hq20⟩ K23 hK23
  cases q22 with
  | zero => exact absurd h (by simp [m_law24_told_l1])
  | succ q22 =>
   unfold m_law24_told_l1 at h
   refine WC.seqRegion fun K24 hK24 => ?_
   refine WL.yld (by decide) (Yld.lss rfl rfl) ?_
   refine WL.done (hK24 _ _ ?_)
   refine WC.seq fun K25 hK25 => ?_
   by_cases hc26 : x21 < (x00.length : Int)
   ·
    replace h := of_t hc26 h
    refine WC.condTe rfl (decide_eq_true hc26) ?_
    refine WC.skip ?_
    refine QK.thenN (hK25 _ _ ?_)
    refine WC.seq fun K27 hK27 => ?_
    refine WC.block ?_
    refine WC.seqRegion fun K28 hK28 => ?_
    obtain ⟨x29, hx29, h⟩ := bnd h
    obtain ⟨⟨_, r_30_0, r_30_1⟩, hr31, rfl, hq32_0, hq32_1⟩ := Rels.idx hq00 hx29
    refine WL.yld (by decide) (Yld.idxC (xs := rs00) sty_27 rfl rfl (RdH.memM (k := 0) rfl hf00) hr31) ?_
    refine WL.yld (by decide) (Yld.loadA (xs := rs00) agg_42 rfl (RdH.memM (k := 0) rfl hf00) hr31 rfl) ?_
    refine WL.eff (by decide) (Eff.alloc 133 rfl zr_42) ?_
    rintro _ _ ⟨g33, rfl, rfl⟩
    refine WL.eff0 (Eff0.storeBAM 133 agg_42 rfl rfl rfl ⟨rfl, rfl⟩ rfl) ?_
    refine WL.done (hK28 _ _ ?_)
    refine WC.region fun K34 hK34 => ?_
    obtain ⟨x37, hx37, h⟩ := bnd h
    refine WL.yld (by decide) (Yld.move rfl) ?_
    refine WL.yld (by decide) (Yld.fieldAddr Try.underlying42 rfl nz_3 rfl rfl) ?_
    refine WL.yld (by decide) (Yld.loadB (k := 133) scal_3 rfl rfl rfl) ?_
    refine WL.yld (by decide) (Yld.fieldAddr Try.underlying42 rfl nz_3 rfl rfl) ?_
    refine WL.yld (by decide) (Yld.loadB (k := 133) scal_3 rfl rfl rfl) ?_
    refine WL.yld (by decide) (Yld.fieldAddr Try.underlying42 rfl nz_38 rfl rfl) ?_
    refine WL.yld (by decide) (Yld.loadB (k := 133) scal_38 rfl rfl rfl) ?_
    refine WL.yld (by decide) (Yld.fieldAddr Try.underlying42 rfl nz_39 rfl rfl) ?_
    refine WL.yld (by decide) (Yld.loadB (k := 133) scal_39 rfl rfl rfl) ?_
    refine WL.yld (by decide) (Yld.fieldAddr Try.underlying42 rfl nz_40 rfl rfl) ?_
    refine WL.yld (by decide) (Yld.loadB (k := 133) scal_40 rfl rfl rfl) ?_
    refine WL.yld (by decide) (Yld.fieldAddr Try.underlying42 rfl nz_40 rfl rfl) ?_
    refine WL.yld (by decide) (Yld.loadB (k := 133) scal_40 rfl rfl rfl) ?_
    refine WL.yld (by decide) (Yld.fieldAddr Try.underlying42 rfl nz_3 rfl rfl) ?_
    refine WL.yld (by decide) (Yld.loadB (k := 133) scal_3 rfl rfl rfl) ?_
    refine WL.yld (by decide) (Yld.fieldAddr Try.underlying42 rfl nz_3 rfl rfl) ?_
    refine WL.yld (by decide) (Yld.loadB (k := 133) scal_3 rfl rfl rfl) ?_
    refine WL.yld (by decide) (Yld.fieldAddr Try.underlying42 rfl nz_3 rfl rfl) ?_
    refine WL.yld (by decide) (Yld.loadB (k := 133) scal_3 rfl rfl rfl) ?_
    refine WL.yld (by decide) (Yld.fieldAddr Try.underlying42 rfl nz_28 rfl rfl) ?_
    refine WL.yld (by decide) (Yld.loadB (k := 133) scal_28 rfl rfl rfl) ?_
    refine WL.yld (by decide) (Yld.build rfl (bu_57_0_1_2_3_4_5_6_7_8_9 x29.fClient x29.fKind x29.fKey x29.fCookie r_30_0.A r_30_0.n r_30_0.c r_30_1.A r_30_1.n r_30_1.c x29.fCall x29.fReturn x29.fClosed x29.fResult)) ?_
    have hq36 : Rels (rel_needlestoreref24_Op M0) ([(Rneedlestoreref24_Op.mk (Sneedlestoreref24_Op.mk x29.fClient x29.fKind x29.fKey x29.fCookie x29.fData x29.fGot x29.fCall x29.fReturn x29.fClosed x29.fResult) (⟨r_30_0.A, r_30_0.n, r_30_0.c⟩ : Hdr) (⟨r_30_1.A, r_30_1.n, r_30_1.c⟩ : Hdr))] : List Rneedlestoreref24_Op) ([(Sneedlestoreref24_Op.mk x29.fClient x29.fKind x29.fKey x29.fCookie x29.fData x29.fGot x29.fCall x29.fReturn x29.fClosed x29.fResult)] : List (Sneedlestoreref24_Op)) := (Rels.cons ⟨rfl, hq32_0, hq32_1⟩ Rels.nil)
    refine WL.eff (by decide) (Eff.buildCA 135 ([(Rneedlestoreref24_Op.mk (Sneedlestoreref24_Op.mk x29.fClient x29.fKind x29.fKey x29.fCookie x29.fData x29.fGot x29.fCall x29.fReturn x29.fClosed x29.fResult) (⟨r_30_0.A, r_30_0.n, r_30_0.c⟩ : Hdr) (⟨r_30_1.A, r_30_1.n, r_30_1.c⟩ : Hdr))] : List Rneedlestoreref24_Op) sty_33 rfl rfl rfl (by decide)) ?_
    rintro _ _ ⟨g35, rfl, rfl⟩
    obtain ⟨hu40, hq41⟩ := Rels.apd hq20 hq36 hx37
    refine WL.eff (by decide) (Eff.appendC 114 (xs := rs19) (ys := ([(Rneedlestoreref24_Op.mk (Sneedlestoreref24_Op.mk x29.fClient x29.fKind x29.fKey x29.fCookie x29.fData x29.fGot x29.fCall x29.fReturn x29.fClosed x29.fResult) (⟨r_30_0.A, r_30_0.n, r_30_0.c⟩ : Hdr) (⟨r_30_1.A, r_30_1.n, r_30_1.c⟩ : Hdr))] : List Rneedlestoreref24_Op)) sty_33 rfl rfl rfl (RdH.own (k := 135) rfl) hu40) ?_
    rintro _ _ ⟨A38, c39, rfl, rfl⟩
    refine WL.yld (by decide) (Yld.assign rfl) ?_
    refine WL.done (hK34 _ _ ?_)
    refine QK.blockN ?_
    refine QK.thenN (hK27 _ _ ?_)
    refine WC.region fun K42 hK42 => ?_
    obtain ⟨x43, hx43, h⟩ := bnd h
    refine WL.yld (by decide) (Yld.addC rfl rfl hx43) ?_
    refine WL.yld (by decide) (Yld.move rfl) ?_
    refine WL.done (hK42 _ _ ?_)
    refine QK.thenN ?_
    refine hK23 ⟨q22, A38, (rs19 ++ ([(Rneedlestoreref24_Op.mk (Sneedlestoreref24_Op.mk x29.fClient x29.fKind x29.fKey x29.fCookie x29.fData x29.fGot x29.fCall x29.fReturn x29.fClosed x29.fResult) (⟨r_30_0.A, r_30_0.n, r_30_0.c⟩ : Hdr) (⟨r_30_1.A, r_30_1.n, r_30_1.c⟩ : Hdr))] : List Rneedlestoreref24_Op)).length, c39, x37, (rs19 ++ ([(Rneedlestoreref24_Op.mk (Sneedlestoreref24_Op.mk x29.fClient x29.fKind x29.fKey x29.fCookie x29.fData x29.fGot x29.fCall x29.fReturn x29.fClosed x29.fResult) (⟨r_30_0.A, r_30_0.n, r_30_0.c⟩ : Hdr) (⟨r_30_1.A, r_30_1.n, r_30_1.c⟩ : Hdr))] : List Rneedlestoreref24_Op)), x43⟩ _ _ ?_ (Nat.lt_succ_self _) (Sub.cons rfl (Sub.cons rfl (Sub.cons rfl (Sub.cons rfl (Sub.nil _))))) (Sub.cons rfl (Sub.cons rfl (Sub.nil _)))
    exact ⟨h, hq41⟩
   ·
    replace h := of_f hc26 h
    refine WC.condFe rfl (decide_eq_false hc26) ?_
    refine WC.exit (QK.thenE (QK.thenE (QK.blockX ?_)))
    refine QK.thenN ?_
    refine KK.move 114 104 rfl rfl ?_
    refine hK11 ⟨A15, n16, c17, x18, rs19⟩ _ _ ?_ (Sub.cons rfl (Sub.nil _)) (Sub.cons rfl (Sub.cons rfl (Sub.nil _)))
    exact ⟨h, hq20⟩
 ·
  rintro ⟨A5, n6, c7, x8, rs9⟩ ⟨h, hq10⟩
  unfold m_law24_told_j0 at h
  refine WC.seqRegion fun K44 hK44 => ?_
  refine WL.yld (by decide) (Yld.move rfl) ?_
  refine WL.yld (by decide) (Yld.assign rfl) ?_
  refine WL.done (hK44 _ _ ?_)
  refine WC.ret ?_
  injection h with h; subst h
  exact Ret.fn [104] (ResIs.one rfl rfl) rfl (Ext.refl _ _) rfl (by decide) rfl rfl ⟨A5, n6, c7, rs9, rfl, rfl, hq10⟩

set_option maxRecDepth 10000 in
theorem w_law24_made (M0 : Mem) (A00 : Option Addr) (n00 c00 : Nat) (rs00 : List Rneedlestoreref24_Event) (x00 : List (Sneedlestoreref24_Event)) (hf00 : SlT M0 A00 n00 c00 rs00) (hq00 : Rels (rel_needlestoreref24_Event M0) rs00 x00) {res : (List (Sneedlestoreref24_Event))} (h : m_law24_made x00 = some res) :
  Fn Try.prog 9 #[.slice A00 n00 c00] M0 fun r M' es => ∃ (A1 : Option Addr) (n1 c1 : Nat), ∃ rs1 : List Rneedlestoreref24_Event, r = .slice A1 n1 c1 ∧ es = [.own 50 (Lay.sz Rneedlestoreref24_Event) A1 n1 c1 (cel rs1)] ∧ Rels (rel_needlestoreref24_Event M') rs1 res := by
 refine Fn.intro (N := 70) Try.func9 rfl rfl (Nat.le_of_ble_eq_true rfl) fun w0 => ?_
 unfold m_law24_made at h
 refine WC.seqRegion fun K1 hK1 => ?_
 refine WL.yld (by decide) (Yld.assign rfl) ?_
 refine WL.done (hK1 _ _ ?_)
 refine WC.seqRegion fun K2 hK2 => ?_
 refine WL.yld (by decide) (Yld.assign rfl) ?_
 refine WL.done (hK2 _ _ ?_)
 refine WC.seqRegion fun K3 hK3 => ?_
 refine WL.eff (by decide) (Eff.makeMap 104 rfl) ?_
 rintro _ _ ⟨g4, rfl, rfl⟩
 refine WL.yld (by decide) (Yld.assign rfl) ?_
 refine WL.done (hK3 _ _ ?_)
 refine WC.seqCut (σ := (Option Addr) × Nat × Nat × (List (Sneedlestoreref24_Event)) × (List Rneedlestoreref24_Event)) (fun ⟨A7, n8, c9, x10, rs11⟩ => [(3, .slice A7 n8 c9)]) (fun ⟨A7, n8, c9, x10, rs11⟩ => [(0, .mem M0), (106, .own 50 (Lay.sz Rneedlestoreref24_Event) A7 n8 c9 (cel rs11))]) (fun ⟨A7, n8, c9, x10, rs11⟩ => m_law24_made_j0 x10 = some res ∧ Rels (rel_needlestoreref24_Event M0) rs11 x10) (fun K13 hK13 => ?_) ?_
 ·
  skip
  refine WC.seqRegion fun K14 hK14 => ?_
  refine WL.yld (by decide) (Yld.assign rfl) ?_
  refine WL.done (hK14 _ _ ?_)
  refine WC.block ?_
  refine WC.nilOwn 116 50 (Lay.sz Rneedlestoreref24_Event) none ?_
  refine WC.move 104 123 rfl rfl ?_
  refine WC.loop (σ := Nat × (Option Addr) × Nat × Nat × (List (Sneedlestoreref24_Event)) × (List Rneedlestoreref24_Event) × Nat × (List MapEntry) × Nat × (List (Int × Bool)) × Int) (fun ⟨q30, A17, n18, c19, x20, rs21, g24, es25, cl26, x27, x29⟩ => [(0, .slice A00 n00 c00), (3, .slice A17 n18 c19), (4, .map (some g24)), (5, I64 x29)]) (fun ⟨q30, A17, n18, c19, x20, rs21, g24, es25, cl26, x27, x29⟩ => [(0, .mem M0), (116, .own 50 (Lay.sz Rneedlestoreref24_Event) A17 n18 c19 (cel rs21)), (123, .obj g24 (.map es25.toArray cl26))]) (fun ⟨q30, A17, n18, c19, x20, rs21, g24, es25, cl26, x27, x29⟩ => m_law24_made_l1 x00 q30 x20 x27 x29 = some res ∧ Rels (rel_needlestoreref24_Event M0) rs21 x20 ∧ MapR Value.bool es25 x27) (fun ⟨q30, A17, n18, c19, x20, rs21, g24, es25, cl26, x27, x29⟩ => q30) ⟨forever, none, 0, 0, ([] : List (Sneedlestoreref24_Event)), ([] : List Rneedlestoreref24_Event), g4, ([] : List MapEntry), 0, ([] : List (Int × Bool)), (0 : Int)⟩ ?_ (Sub.cons rfl (Sub.cons rfl (Sub.cons rfl (Sub.cons rfl (Sub.nil _))))) (Sub.cons rfl (Sub.cons rfl (Sub.cons rfl (Sub.nil _)))) ?_
  ·
   exact ⟨h, (Rels.nil (R := rel_needlestoreref24_Event M0)), MapR.nil⟩
  rintro ⟨q30, A17, n18, c19, x20, rs21, g24, es25, cl26, x27, x29⟩ ⟨h, hq22, hmr28⟩ K31 hK31
  cases q30 with
  | zero => exact absurd h (by simp [m_law24_made_l1])
  | succ q30 =>
   unfold m_law24_made_l1 at h
   refine WC.seqCut (σ := Unit) (fun _ => [(0, .slice A00 n00 c00), (3, .slice A17 n18 c19), (4, .map (some g24)), (5, I64 x29)]) (fun _ => [(0, .mem M0), (116, .own 50 (Lay.sz Rneedlestoreref24_Event) A17 n18 c19 (cel rs21)), (123, .obj g24 (.map es25.toArray cl26))]) (fun _ => m_law24_made_j2 x00 x20 x27 x29 (m_law24_made_l1 x00 q30) = some res) (fun K32 hK32 => ?_) ?_
   ·
    skip
    refine WC.seqRegion fun K33 hK33 => ?_
    by_cases hc34 : x29 < (x00.length : Int)
    ·
     replace h := of_t hc34 h
     refine WL.yld (by decide) (Yld.move rfl) ?_
     refine WL.yld (by decide) (Yld.move rfl) ?_
     refine WL.yld (by decide) (Yld.lenD (rs := rs00) (xs := x00) (Rels.len hq00) und_22 rfl (RdH.memM (k := 0) rfl hf00)) ?_
     refine WL.yld (by decide) (Yld.lss rfl rfl) ?_
     refine WL.yld (by decide) (Yld.move rfl) ?_
     refine WL.new (v' := .bool true) (congrArg Value.bool (decide_eq_true hc34)) ?_
     refine WL.yldG (by decide) rfl (Yld.move rfl) ?_
     refine WL.yldG (by decide) rfl (Yld.lss rfl rfl) ?_
     refine WL.yld (by decide) (Yld.pickT rfl rfl) ?_
     refine WL.done (hK33 _ _ ?_)
     by_cases hc35 : x29 < (30 : Int)
     ·
      replace h := of_t hc35 h
      refine WC.condTe rfl (decide_eq_true hc35) ?_
      refine WC.skip ?_
      refine QK.thenN ?_
      refine hK32 () _ _ ?_ (Sub.cons rfl (Sub.cons rfl (Sub.cons rfl (Sub.cons rfl (Sub.nil _))))) (Sub.cons rfl (Sub.cons rfl (Sub.cons rfl (Sub.nil _))))
      exact h
     ·
      replace h := of_f hc35 h
      refine WC.condFe rfl (decide_eq_false hc35) ?_
      refine WC.exit (QK.thenE (QK.thenE (QK.blockX ?_)))
      refine QK.thenN ?_
      refine KK.move 116 106 rfl rfl ?_
      refine hK13 ⟨A17, n18, c19, x20, rs21⟩ _ _ ?_ (Sub.cons rfl (Sub.nil _)) (Sub.cons rfl (Sub.cons rfl (Sub.nil _)))
      exact ⟨h, hq22⟩
    ·
     replace h := of_f hc34 h
     refine WL.yld (by decide) (Yld.move rfl) ?_
     refine WL.yld (by decide) (Yld.move rfl) ?_
     refine WL.yld (by decide) (Yld.lenD (rs := rs00) (xs := x00) (Rels.len hq00) und_22 rfl (RdH.memM (k := 0) rfl hf00)) ?_
     refine WL.yld (by decide) (Yld.lss rfl rfl) ?_
     refine WL.yld (by decide) (Yld.move rfl) ?_
     refine WL.new (v' := .bool false) (congrArg Value.bool (decide_eq_false hc34)) ?_
     refine WL.skip (by decide) rfl rfl ?_
     refine WL.skip (by decide) rfl rfl ?_
     refine WL.yld (by decide) (Yld.pickF rfl rfl) ?_
     refine WL.done (hK33 _ _ ?_)
     refine WC.condF rfl ?_
     refine WC.exit (QK.thenE (QK.thenE (QK.blockX ?_)))
     refine QK.thenN ?_
     refine KK.move 116 106 rfl rfl ?_
     refine hK13 ⟨A17, n18, c19, x20, rs21⟩ _ _ ?_ (Sub.cons rfl (Sub.nil _)) (Sub.cons rfl (Sub.cons rfl (Sub.nil _)))
     exact ⟨h, hq22⟩
   ·
    rintro _ h
    unfold m_law24_made_j2 at h
    refine WC.seq fun K36 hK36 => ?_
    refine WC.block ?_
    refine WC.seqRegion fun K37 hK37 => ?_
    obtain ⟨x38, hx38, h⟩ := bnd h
    refine WL.yld (by decide) (Yld.move rfl) ?_
    refine WL.yld (by decide) (Yld.move rfl) ?_
    obtain ⟨⟨_, r_39_0⟩, hr40, rfl, hq41_0⟩ := Rels.idx hq00 hx38
    refine WL.yld (by decide) (Yld.idxC (xs := rs00) sty_22 rfl rfl (RdH.memM (k := 0) rfl hf00) hr40) ?_
    refine WL.yld (by decide) (Yld.loadA (xs := rs00) agg_50 rfl (RdH.memM (k := 0) rfl hf00) hr40 rfl) ?_
    refine WL.eff (by decide) (Eff.alloc 142 rfl zr_50) ?_
    rintro _ _ ⟨g42, rfl, rfl⟩
    refine WL.eff0 (Eff0.storeBAM 142 agg_50 rfl rfl rfl ⟨rfl, rfl⟩ rfl) ?_
    refine WL.done (hK37 _ _ ?_)
    refine WC.seqCut (σ := (Option Addr) × Nat × Nat × (List (BitVec 8))) (fun ⟨A43, n44, c45, x46⟩ => [(0, .slice A00 n00 c00), (3, .slice A17 n18 c19), (4, .map (some g24)), (5, I64 x29), (6, .pointer (some ⟨g42, 0, none⟩))]) (fun ⟨A43, n44, c45, x46⟩ => [(0, .mem M0), (116, .own 50 (Lay.sz Rneedlestoreref24_Event) A17 n18 c19 (cel rs21)), (123, .obj g24 (.map es25.toArray cl26)), (142, .blk g42 50 [I64 x38.fKind, I64 x38.fClient, I64 x38.fOp, U64 x38.fKey, U32 x38.fCookie, .slice A43 n44 c45, I64 x38.fResult])]) (fun ⟨A43, n44, c45, x46⟩ => m_law24_made_j3 x20 x27 x29 x38 (m_law24_made_l1 x00 q30) x46 = some res ∧ SlT M0 A43 n44 c45 x46) (fun K48 hK48 => ?_) ?_
    ·
     skip
     refine WC.seqRegion fun K49 hK49 => ?_
     refine WL.yld (by decide) (Yld.fieldAddr Try.underlying50 rfl nz_40 rfl rfl) ?_
     refine WL.yld (by decide) (Yld.loadB (k := 142) scal_40 rfl rfl rfl) ?_
     refine WL.yld (by decide) (Yld.lenC (xs := x38.fData) und_40 rfl (RdH.memM (k := 0) rfl hq41_0)) ?_
     refine WL.yld (by decide) (Yld.gtr rfl rfl) ?_
     refine WL.done (hK49 _ _ ?_)
     by_cases hc50 : (20 : Int) < (x38.fData.length : Int)
     ·
      replace h := of_t hc50 h
      refine WC.condTe rfl (decide_eq_true hc50) ?_
      refine WC.region fun K51 hK51 => ?_
      obtain ⟨x52, hx52, h⟩ := bnd h
      refine WL.yld (by decide) (Yld.fieldAddr Try.underlying50 rfl nz_40 rfl rfl) ?_
      refine WL.yld (by decide) (Yld.loadB (k := 142) scal_40 rfl rfl rfl) ?_
      refine WL.yld (by decide) (Yld.sliceHC (xs := x38.fData) sty_40 rfl rfl (RdH.memM (k := 0) rfl hq41_0) hx52) ?_
      refine WL.yld (by decide) (Yld.fieldAddr Try.underlying50 rfl nz_40 rfl rfl) ?_
      refine WL.eff0 (Eff0.storeB 142 siz_40 rfl rfl rfl rfl (Nat.le_of_ble_eq_true rfl)) ?_
      refine WL.done (hK51 _ _ ?_)
      refine QK.thenN ?_
      refine hK48 ⟨r_39_0.A, x52.length, r_39_0.c, x52⟩ _ _ ?_ (Sub.cons rfl (Sub.cons rfl (Sub.cons rfl (Sub.cons rfl (Sub.cons rfl (Sub.nil _)))))) (Sub.cons rfl (Sub.cons rfl (Sub.cons rfl (Sub.cons rfl (Sub.nil _)))))
      exact ⟨h, (SlT.slc0 hq41_0 hx52)⟩
     ·
      replace h := of_f hc50 h
      refine WC.condFe rfl (decide_eq_false hc50) ?_
      refine WC.skip ?_
      refine QK.thenN ?_
      refine hK48 ⟨r_39_0.A, r_39_0.n, r_39_0.c, x38.fData⟩ _ _ ?_ (Sub.cons rfl (Sub.cons rfl (Sub.cons rfl (Sub.cons rfl (Sub.cons rfl (Sub.nil _)))))) (Sub.cons rfl (Sub.cons rfl (Sub.cons rfl (Sub.cons rfl (Sub.nil _)))))
      exact ⟨h, hq41_0⟩
    ·
     rintro ⟨A43, n44, c45, x46⟩ ⟨h, hf47⟩
     unfold m_law24_made_j3 at h
     refine WC.seqRegion fun K53 hK53 => ?_
     obtain ⟨x54, hx54, h⟩ := bnd h
     obtain ⟨x55, hx55, h⟩ := bnd h
     obtain ⟨x56, hx56, h⟩ := bnd h
     refine WL.yld (by decide) (Yld.fieldAddr Try.underlying50 rfl nz_3 rfl rfl) ?_
     refine WL.yld (by decide) (Yld.loadB (k := 142) scal_3 rfl rfl rfl) ?_
     refine WL.yld (by decide) (Yld.andC rfl rfl) ?_
     refine WL.yld (by decide) (Yld.remC rfl rfl hx54) ?_
     refine WL.yld (by decide) (Yld.fieldAddr Try.underlying50 rfl nz_3 rfl rfl) ?_
     refine WL.yld (by decide) (Yld.loadB (k := 142) scal_3 rfl rfl rfl) ?_
     refine WL.yld (by decide) (Yld.andC rfl rfl) ?_
     refine WL.yld (by decide) (Yld.remC rfl rfl hx55) ?_
     refine WL.yld (by decide) (Yld.addC rfl rfl hx56) ?_
     refine WL.yld (by decide) (Yld.fieldAddr Try.underlying50 rfl nz_38 rfl rfl) ?_
     refine WL.yld (by decide) (Yld.loadB (k := 142) scal_38 rfl rfl rfl) ?_
     refine WL.yld (by decide) (Yld.and_u64 (a := x38.fKey) (b := 3#64) rfl rfl) ?_
     refine WL.yld (by decide) (Yld.fieldAddr Try.underlying50 rfl nz_3 rfl rfl) ?_
     refine WL.eff0 (Eff0.storeB 142 siz_3 rfl rfl rfl rfl (Nat.le_of_ble_eq_true rfl)) ?_
     refine WL.yld (by decide) (Yld.fieldAddr Try.underlying50 rfl nz_3 rfl rfl) ?_
     refine WL.eff0 (Eff0.storeB 142 siz_3 rfl rfl rfl rfl (Nat.le_of_ble_eq_true rfl)) ?_
     refine WL.yld (by decide) (Yld.fieldAddr Try.underlying50 rfl nz_38 rfl rfl) ?_
     refine WL.eff0 (Eff0.storeB 142 siz_38 rfl rfl rfl rfl (Nat.le_of_ble_eq_true rfl)) ?_
     refine WL.done (hK53 _ _ ?_)
     refine WC.seq fun K57 hK57 => ?_
     refine WC.block ?_
     refine WC.seqRegion fun K58 hK58 => ?_
     refine WL.yld (by decide) (Yld.fieldAddr Try.underlying50 rfl nz_3 rfl rfl) ?_
     refine WL.yld (by decide) (Yld.loadB (k := 142) scal_3 rfl rfl rfl) ?_
     refine WL.yld (by decide) (Yld.andC rfl rfl) ?_
     refine WL.yld (by decide) (Yld.eqlI rfl rfl) ?_
     refine WL.yld (by decide) (Yld.assign rfl) ?_
     refine WL.done (hK58 _ _ ?_)
     by_cases hc59 : (andi x38.fKind (15 : Int)) = (3 : Int)
     ·
      replace h := of_t hc59 h
      refine WC.condTe rfl (beq_iff_eq.2 hc59) ?_
      refine WC.region fun K60 hK60 => ?_
      refine WL.eff (by decide) (Eff.makeMap 161 rfl) ?_
      rintro _ _ ⟨g61, rfl, rfl⟩
      refine WL.yld (by decide) (Yld.fieldAddr Try.underlying50 rfl nz_3 rfl rfl) ?_
      refine WL.eff0 (Eff0.storeB 142 siz_3 rfl rfl rfl rfl (Nat.le_of_ble_eq_true rfl)) ?_
      refine WL.yld (by decide) (Yld.assign rfl) ?_
      refine WL.done (hK60 _ _ ?_)
      refine QK.blockN ?_
      refine QK.thenN (hK57 _ _ ?_)
      refine WC.region fun K62 hK62 => ?_
      obtain ⟨x65, hx65, h⟩ := bnd h
      refine WL.yld (by decide) (Yld.move rfl) ?_
      refine WL.yld (by decide) (Yld.loadBM (k := 142) agg_50 rfl rfl rfl) ?_
      have hq64 : Rels (rel_needlestoreref24_Event M0) ([(Rneedlestoreref24_Event.mk (Sneedlestoreref24_Event.mk (3 : Int) x54 x56 (x38.fKey &&& 3#64) x38.fCookie x46 x38.fResult) (⟨A43, n44, c45⟩ : Hdr))] : List Rneedlestoreref24_Event) ([(Sneedlestoreref24_Event.mk (3 : Int) x54 x56 (x38.fKey &&& 3#64) x38.fCookie x46 x38.fResult)] : List (Sneedlestoreref24_Event)) := (Rels.cons ⟨rfl, hf47⟩ Rels.nil)
      refine WL.eff (by decide) (Eff.buildCA 163 ([(Rneedlestoreref24_Event.mk (Sneedlestoreref24_Event.mk (3 : Int) x54 x56 (x38.fKey &&& 3#64) x38.fCookie x46 x38.fResult) (⟨A43, n44, c45⟩ : Hdr))] : List Rneedlestoreref24_Event) sty_22 rfl rfl rfl (by decide)) ?_
      rintro _ _ ⟨g63, rfl, rfl⟩
      obtain ⟨hu68, hq69⟩ := Rels.apd hq22 hq64 hx65
      refine WL.eff (by decide) (Eff.appendC 116 (xs := rs21) (ys := ([(Rneedlestoreref24_Event.mk (Sneedlestoreref24_Event.mk (3 : Int) x54 x56 (x38.fKey &&& 3#64) x38.fCookie x46 x38.fResult) (⟨A43, n44, c45⟩ : Hdr))] : List Rneedlestoreref24_Event)) sty_22 rfl rfl rfl (RdH.own (k := 163) rfl) hu68) ?_
      rintro _ _ ⟨A66, c67, rfl, rfl⟩
      refine WL.yld (by decide) (Yld.assign rfl) ?_
      refine WL.done (hK62 _ _ ?_)
      refine QK.blockN ?_
      refine QK.thenN (hK36 _ _ ?_)
      refine WC.region fun K70 hK70 => ?_
      obtain ⟨x71, hx71, h⟩ := bnd h
      refine WL.yld (by decide) (Yld.move rfl) ?_
      refine WL.yld (by decide) (Yld.addC rfl rfl hx71) ?_
      refine WL.yld (by decide) (Yld.assign rfl) ?_
      refine WL.done (hK70 _ _ ?_)
      refine QK.thenN ?_
      refine KK.move 161 123 rfl rfl ?_
      refine hK31 ⟨q30, A66, (rs21 ++ ([(Rneedlestoreref24_Event.mk (Sneedlestoreref24_Event.mk (3 : Int) x54 x56 (x38.fKey &&& 3#64) x38.fCookie x46 x38.fResult) (⟨A43, n44, c45⟩ : Hdr))] : List Rneedlestoreref24_Event)).length, c67, x65, (rs21 ++ ([(Rneedlestoreref24_Event.mk (Sneedlestoreref24_Event.mk (3 : Int) x54 x56 (x38.fKey &&& 3#64) x38.fCookie x46 x38.fResult) (⟨A43, n44, c45⟩ : Hdr))] : List Rneedlestoreref24_Event)), g61, ([] : List MapEntry), 0, ([] : List (Int × Bool)), x71⟩ _ _ ?_ (Nat.lt_succ_self _) (Sub.cons rfl (Sub.cons rfl (Sub.cons rfl (Sub.cons rfl (Sub.nil _))))) (Sub.cons rfl (Sub.cons rfl (Sub.cons rfl (Sub.nil _))))
      exact ⟨h, hq69, MapR.nil⟩
     ·
      replace h := of_f hc59 h
      refine WC.condFe rfl (beq_eq_false_iff_ne.2 hc59) ?_
      refine WC.seqRegion fun K72 hK72 => ?_
      refine WL.yld (by decide) (Yld.move rfl) ?_
      refine WL.yld (by decide) (Yld.fieldAddr Try.underlying50 rfl nz_3 rfl rfl) ?_
      refine WL.yld (by decide) (Yld.loadB (k := 142) scal_3 rfl rfl rfl) ?_
      refine WL.yld (by decide) (Yld.lookupM (k := 123) (ev := Value.bool) (m := x27) (q := x54) (zv := false) und_51 und_3 zv_4 rfl rfl rfl hmr28) ?_
      refine WL.yld (by decide) (Yld.assign rfl) ?_
      refine WL.done (hK72 _ _ ?_)
      by_cases hc73 : ((mget x27 x54).getD false) = true
      ·
       replace h := of_t hc73 h
       refine WC.condTe rfl hc73 ?_
       refine WC.region fun K74 hK74 => ?_
       refine WL.yld (by decide) (Yld.move rfl) ?_
       refine WL.yld (by decide) (Yld.fieldAddr Try.underlying50 rfl nz_3 rfl rfl) ?_
       refine WL.yld (by decide) (Yld.loadB (k := 142) scal_3 rfl rfl rfl) ?_
       refine WL.yld (by decide) (Yld.fieldAddr Try.underlying50 rfl nz_3 rfl rfl) ?_
       refine WL.eff0 (Eff0.storeB 142 siz_3 rfl rfl rfl rfl (Nat.le_of_ble_eq_true rfl)) ?_
       refine WL.eff0R (Eff0R.mapUpd 123 (ev := Value.bool) (m := x27) (q := x54) (v := false) und_51 und_3 rfl rfl rfl rfl hmr28) ?_
       rintro _ ⟨es75, cl76, hmr77, rfl⟩
       refine WL.done (hK74 _ _ ?_)
       refine QK.blockN ?_
       refine QK.thenN (hK57 _ _ ?_)
       refine WC.region fun K78 hK78 => ?_
       obtain ⟨x81, hx81, h⟩ := bnd h
       refine WL.yld (by decide) (Yld.move rfl) ?_
       refine WL.yld (by decide) (Yld.loadBM (k := 142) agg_50 rfl rfl rfl) ?_
       have hq80 : Rels (rel_needlestoreref24_Event M0) ([(Rneedlestoreref24_Event.mk (Sneedlestoreref24_Event.mk (2 : Int) x54 x56 (x38.fKey &&& 3#64) x38.fCookie x46 x38.fResult) (⟨A43, n44, c45⟩ : Hdr))] : List Rneedlestoreref24_Event) ([(Sneedlestoreref24_Event.mk (2 : Int) x54 x56 (x38.fKey &&& 3#64) x38.fCookie x46 x38.fResult)] : List (Sneedlestoreref24_Event)) := (Rels.cons ⟨rfl, hf47⟩ Rels.nil)
       refine WL.eff (by decide) (Eff.buildCA 179 ([(Rneedlestoreref24_Event.mk (Sneedlestoreref24_Event.mk (2 : Int) x54 x56 (x38.fKey &&& 3#64) x38.fCookie x46 x38.fResult) (⟨A43, n44, c45⟩ : Hdr))] : List Rneedlestoreref24_Event) sty_22 rfl rfl rfl (by decide)) ?_
       rintro _ _ ⟨g79, rfl, rfl⟩
       obtain ⟨hu84, hq85⟩ := Rels.apd hq22 hq80 hx81
       refine WL.eff (by decide) (Eff.appendC 116 (xs := rs21) (ys := ([(Rneedlestoreref24_Event.mk (Sneedlestoreref24_Event.mk (2 : Int) x54 x56 (x38.fKey &&& 3#64) x38.fCookie x46 x38.fResult) (⟨A43, n44, c45⟩ : Hdr))] : List Rneedlestoreref24_Event)) sty_22 rfl rfl rfl (RdH.own (k := 179) rfl) hu84) ?_
       rintro _ _ ⟨A82, c83, rfl, rfl⟩
       refine WL.yld (by decide) (Yld.assign rfl) ?_
       refine WL.done (hK78 _ _ ?_)
       refine QK.blockN ?_
       refine QK.thenN (hK36 _ _ ?_)
       refine WC.region fun K86 hK86 => ?_
       obtain ⟨x87, hx87, h⟩ := bnd h
       refine WL.yld (by decide) (Yld.move rfl) ?_
       refine WL.yld (by decide) (Yld.addC rfl rfl hx87) ?_
       refine WL.yld (by decide) (Yld.assign rfl) ?_
       refine WL.done (hK86 _ _ ?_)
       refine QK.thenN ?_
       refine hK31 ⟨q30, A82, (rs21 ++ ([(Rneedlestoreref24_Event.mk (Sneedlestoreref24_Event.mk (2 : Int) x54 x56 (x38.fKey &&& 3#64) x38.fCookie x46 x38.fResult) (⟨A43, n44, c45⟩ : Hdr))] : List Rneedlestoreref24_Event)).length, c83, x81, (rs21 ++ ([(Rneedlestoreref24_Event.mk (Sneedlestoreref24_Event.mk (2 : Int) x54 x56 (x38.fKey &&& 3#64) x38.fCookie x46 x38.fResult) (⟨A43, n44, c45⟩ : Hdr))] : List Rneedlestoreref24_Event)), g24, es75, cl76, (mset x27 x54 false), x87⟩ _ _ ?_ (Nat.lt_succ_self _) (Sub.cons rfl (Sub.cons rfl (Sub.cons rfl (Sub.cons rfl (Sub.nil _))))) (Sub.cons rfl (Sub.cons rfl (Sub.cons rfl (Sub.nil _))))
       exact ⟨h, hq85, hmr77⟩
      ·
       replace h := of_f hc73 h
       refine WC.condFe rfl (Bool.eq_false_iff.2 hc73) ?_
       refine WC.region fun K88 hK88 => ?_
       refine WL.yld (by decide) (Yld.move rfl) ?_
       refine WL.yld (by decide) (Yld.fieldAddr Try.underlying50 rfl nz_3 rfl rfl) ?_
       refine WL.yld (by decide) (Yld.loadB (k := 142) scal_3 rfl rfl rfl) ?_
       refine WL.yld (by decide) (Yld.fieldAddr Try.underlying50 rfl nz_3 rfl rfl) ?_
       refine WL.eff0 (Eff0.storeB 142 siz_3 rfl rfl rfl rfl (Nat.le_of_ble_eq_true rfl)) ?_
       refine WL.eff0R (Eff0R.mapUpd 123 (ev := Value.bool) (m := x27) (q := x54) (v := true) und_51 und_3 rfl rfl rfl rfl hmr28) ?_
       rintro _ ⟨es89, cl90, hmr91, rfl⟩
       refine WL.done (hK88 _ _ ?_)
       refine QK.blockN ?_
       refine QK.thenN (hK57 _ _ ?_)
       refine WC.region fun K92 hK92 => ?_
       obtain ⟨x95, hx95, h⟩ := bnd h
       refine WL.yld (by decide) (Yld.move rfl) ?_
       refine WL.yld (by decide) (Yld.loadBM (k := 142) agg_50 rfl rfl rfl) ?_
       have hq94 : Rels (rel_needlestoreref24_Event M0) ([(Rneedlestoreref24_Event.mk (Sneedlestoreref24_Event.mk (1 : Int) x54 x56 (x38.fKey &&& 3#64) x38.fCookie x46 x38.fResult) (⟨A43, n44, c45⟩ : Hdr))] : List Rneedlestoreref24_Event) ([(Sneedlestoreref24_Event.mk (1 : Int) x54 x56 (x38.fKey &&& 3#64) x38.fCookie x46 x38.fResult)] : List (Sneedlestoreref24_Event)) := (Rels.cons ⟨rfl, hf47⟩ Rels.nil)
       refine WL.eff (by decide) (Eff.buildCA 193 ([(Rneedlestoreref24_Event.mk (Sneedlestoreref24_Event.mk (1 : Int) x54 x56 (x38.fKey &&& 3#64) x38.fCookie x46 x38.fResult) (⟨A43, n44, c45⟩ : Hdr))] : List Rneedlestoreref24_Event) sty_22 rfl rfl rfl (by decide)) ?_
       rintro _ _ ⟨g93, rfl, rfl⟩
       obtain ⟨hu98, hq99⟩ := Rels.apd hq22 hq94 hx95
       refine WL.eff (by decide) (Eff.appendC 116 (xs := rs21) (ys := ([(Rneedlestoreref24_Event.mk (Sneedlestoreref24_Event.mk (1 : Int) x54 x56 (x38.fKey &&& 3#64) x38.fCookie x46 x38.fResult) (⟨A43, n44, c45⟩ : Hdr))] : List Rneedlestoreref24_Event)) sty_22 rfl rfl rfl (RdH.own (k := 193) rfl) hu98) ?_
       rintro _ _ ⟨A96, c97, rfl, rfl⟩
       refine WL.yld (by decide) (Yld.assign rfl) ?_
       refine WL.done (hK92 _ _ ?_)
       refine QK.blockN ?_
       refine QK.thenN (hK36 _ _ ?_)
       refine WC.region fun K100 hK100 => ?_
       obtain ⟨x101, hx101, h⟩ := bnd h
       refine WL.yld (by decide) (Yld.move rfl) ?_
       refine WL.yld (by decide) (Yld.addC rfl rfl hx101) ?_
       refine WL.yld (by decide) (Yld.assign rfl) ?_
       refine WL.done (hK100 _ _ ?_)
       refine QK.thenN ?_
       refine hK31 ⟨q30, A96, (rs21 ++ ([(Rneedlestoreref24_Event.mk (Sneedlestoreref24_Event.mk (1 : Int) x54 x56 (x38.fKey &&& 3#64) x38.fCookie x46 x38.fResult) (⟨A43, n44, c45⟩ : Hdr))] : List Rneedlestoreref24_Event)).length, c97, x95, (rs21 ++ ([(Rneedlestoreref24_Event.mk (Sneedlestoreref24_Event.mk (1 : Int) x54 x56 (x38.fKey &&& 3#64) x38.fCookie x46 x38.fResult) (⟨A43, n44, c45⟩ : Hdr))] : List Rneedlestoreref24_Event)), g24, es89, cl90, (mset x27 x54 true), x101⟩ _ _ ?_ (Nat.lt_succ_self _) (Sub.cons rfl (Sub.cons rfl (Sub.cons rfl (Sub.cons rfl (Sub.nil _))))) (Sub.cons rfl (Sub.cons rfl (Sub.cons rfl (Sub.nil _))))
       exact ⟨h, hq99, hmr91⟩
 ·
  rintro ⟨A7, n8, c9, x10, rs11⟩ ⟨h, hq12⟩
  unfold m_law24_made_j0 at h
  refine WC.seqRegion fun K102 hK102 => ?_
  refine WL.yld (by decide) (Yld.move rfl) ?_
  refine WL.yld (by decide) (Yld.assign rfl) ?_
  refine WL.done (hK102 _ _ ?_)
  refine WC.ret ?_
  injection h with h; subst h
  exact Ret.fn [106] (ResIs.one rfl rfl) rfl (Ext.refl _ _) rfl (by decide) rfl rfl ⟨A7, n8, c9, rs11, rfl, rfl, hq12⟩

set_option maxRecDepth 10000 in
theorem w_law24_awake (M0 : Mem)  {res : Bool} (h : m_law24_awake = some res) :
  Fn Try.prog 8 #[] M0 fun r M' es => r = .bool res ∧ es = [] := by
 refine Fn.intro (N := 58) Try.func8 rfl rfl (Nat.le_of_ble_eq_true rfl) fun w0 => ?_
 unfold m_law24_awake at h
 refine WC.seqRegion fun K1 hK1 => ?_
 refine WL.yld (by decide) (Yld.assign rfl) ?_
 refine WL.done (hK1 _ _ ?_)
 refine WC.seqRegion fun K2 hK2 => ?_
 obtain ⟨x3, hx3, h⟩ := bnd h
 refine WL.eff (by decide) (Eff.callM 109 rfl Try.func10 nm_10 rfl rfl rfl (w_history_Build _ none 0 0 ([] : List Rhistory_Event) _ SlT.nil (Rels.nil (R := rel_history_Event M0)) hx3)) ?_
 rintro _ _ ⟨M15, _, ⟨A16, n17, c18, rs19, rfl, rfl, hq20⟩, hm_M15, rfl⟩
 refine WL.yld (by decide) (Yld.move rfl) ?_
 refine WL.yld (by decide) (Yld.extract rfl rfl) ?_
 refine WL.yld (by decide) (Yld.extract rfl rfl) ?_
 refine WL.yld (by decide) (Yld.assign rfl) ?_
 refine WL.yld (by decide) (Yld.assign rfl) ?_
 refine WL.done (hK2 _ _ ?_)
 refine WC.seqRegion fun K21 hK21 => ?_
 obtain ⟨x24, hx24, h⟩ := bnd h
 refine WL.yld (by decide) (Yld.build rfl (bu_45_0 (2 : Int))) ?_
 have hq23 : Rels (rel_history_Event M15) ([(Rhistory_Event.mk (Shistory_Event.mk (2 : Int) (0 : Int) (0 : Int) 0#64 0#32 ([] : List (BitVec 8)) (0 : Int)) (⟨none, 0, 0⟩ : Hdr))] : List Rhistory_Event) ([(Shistory_Event.mk (2 : Int) (0 : Int) (0 : Int) 0#64 0#32 ([] : List (BitVec 8)) (0 : Int))] : List (Shistory_Event)) := (Rels.cons ⟨rfl, SlT.nil⟩ Rels.nil)
 refine WL.eff (by decide) (Eff.buildCA 122 ([(Rhistory_Event.mk (Shistory_Event.mk (2 : Int) (0 : Int) (0 : Int) 0#64 0#32 ([] : List (BitVec 8)) (0 : Int)) (⟨none, 0, 0⟩ : Hdr))] : List Rhistory_Event) sty_31 rfl rfl rfl (by decide)) ?_
 rintro _ _ ⟨g22, rfl, rfl⟩
 refine WL.freeze 122 rfl rfl rfl fun M36 hm_M36 hf37 => ?_
 refine WL.eff (by decide) (Eff.callM 130 rfl Try.func10 nm_10 rfl rfl rfl (w_history_Build _ (some ⟨g22, 0, none⟩) (([(Rhistory_Event.mk (Shistory_Event.mk (2 : Int) (0 : Int) (0 : Int) 0#64 0#32 ([] : List (BitVec 8)) (0 : Int)) (⟨none, 0, 0⟩ : Hdr))] : List Rhistory_Event).length) (([(Rhistory_Event.mk (Shistory_Event.mk (2 : Int) (0 : Int) (0 : Int) 0#64 0#32 ([] : List (BitVec 8)) (0 : Int)) (⟨none, 0, 0⟩ : Hdr))] : List Rhistory_Event).length) ([(Rhistory_Event.mk (Shistory_Event.mk (2 : Int) (0 : Int) (0 : Int) 0#64 0#32 ([] : List (BitVec 8)) (0 : Int)) (⟨none, 0, 0⟩ : Hdr))] : List Rhistory_Event) _ hf37 (Rels.lift hq23 hm_M36) hx24)) ?_
 rintro _ _ ⟨M38, _, ⟨A39, n40, c41, rs42, rfl, rfl, hq43⟩, hm_M38, rfl⟩
 refine WL.yld (by decide) (Yld.move rfl) ?_
 refine WL.yld (by decide) (Yld.extract rfl rfl) ?_
 refine WL.yld (by decide) (Yld.extract rfl rfl) ?_
 refine WL.yld (by decide) (Yld.assign rfl) ?_
 refine WL.yld (by decide) (Yld.assign rfl) ?_
 refine WL.done (hK21 _ _ ?_)
 refine WC.seqRegion fun K44 hK44 => ?_
 obtain ⟨x47, hx47, h⟩ := bnd h
 refine WL.yld (by decide) (Yld.build rfl (bu_45_0_2 (1 : Int) (3 : Int))) ?_
 refine WL.yld (by decide) (Yld.build rfl (bu_45_0 (3 : Int))) ?_
 have hq46 : Rels (rel_history_Event M38) ([(Rhistory_Event.mk (Shistory_Event.mk (1 : Int) (0 : Int) (3 : Int) 0#64 0#32 ([] : List (BitVec 8)) (0 : Int)) (⟨none, 0, 0⟩ : Hdr)), (Rhistory_Event.mk (Shistory_Event.mk (3 : Int) (0 : Int) (0 : Int) 0#64 0#32 ([] : List (BitVec 8)) (0 : Int)) (⟨none, 0, 0⟩ : Hdr))] : List Rhistory_Event) ([(Shistory_Event.mk (1 : Int) (0 : Int) (3 : Int) 0#64 0#32 ([] : List (BitVec 8)) (0 : Int)), (Shistory_Event.mk (3 : Int) (0 : Int) (0 : Int) 0#64 0#32 ([] : List (BitVec 8)) (0 : Int))] : List (Shistory_Event)) := (Rels.cons ⟨rfl, SlT.nil⟩ (Rels.cons ⟨rfl, SlT.nil⟩ Rels.nil))
 refine WL.eff (by decide) (Eff.buildCA 145 ([(Rhistory_Event.mk (Shistory_Event.mk (1 : Int) (0 : Int) (3 : Int) 0#64 0#32 ([] : List (BitVec 8)) (0 : Int)) (⟨none, 0, 0⟩ : Hdr)), (Rhistory_Event.mk (Shistory_Event.mk (3 : Int) (0 : Int) (0 : Int) 0#64 0#32 ([] : List (BitVec 8)) (0 : Int)) (⟨none, 0, 0⟩ : Hdr))] : List Rhistory_Event) sty_31 rfl rfl rfl (by decide)) ?_
 rintro _ _ ⟨g45, rfl, rfl⟩
 refine WL.freeze 145 rfl rfl rfl fun M59 hm_M59 hf60 => ?_
 refine WL.eff (by decide) (Eff.callM 153 rfl Try.func10 nm_10 rfl rfl rfl (w_history_Build _ (some ⟨g45, 0, none⟩) (([(Rhistory_Event.mk (Shistory_Event.mk (1 : Int) (0 : Int) (3 : Int) 0#64 0#32 ([] : List (BitVec 8)) (0 : Int)) (⟨none, 0, 0⟩ : Hdr)), (Rhistory_Event.mk (Shistory_Event.mk (3 : Int) (0 : Int) (0 : Int) 0#64 0#32 ([] : List (BitVec 8)) (0 : Int)) (⟨none, 0, 0⟩ : Hdr))] : List Rhistory_Event).length) (([(Rhistory_Event.mk (Shistory_Event.mk (1 : Int) (0 : Int) (3 : Int) 0#64 0#32 ([] : List (BitVec 8)) (0 : Int)) (⟨none, 0, 0⟩ : Hdr)), (Rhistory_Event.mk (Shistory_Event.mk (3 : Int) (0 : Int) (0 : Int) 0#64 0#32 ([] : List (BitVec 8)) (0 : Int)) (⟨none, 0, 0⟩ : Hdr))] : List Rhistory_Event).length) ([(Rhistory_Event.mk (Shistory_Event.mk (1 : Int) (0 : Int) (3 : Int) 0#64 0#32 ([] : List (BitVec 8)) (0 : Int)) (⟨none, 0, 0⟩ : Hdr)), (Rhistory_Event.mk (Shistory_Event.mk (3 : Int) (0 : Int) (0 : Int) 0#64 0#32 ([] : List (BitVec 8)) (0 : Int)) (⟨none, 0, 0⟩ : Hdr))] : List Rhistory_Event) _ hf60 (Rels.lift hq46 hm_M59) hx47)) ?_
 rintro _ _ ⟨M61, _, ⟨A62, n63, c64, rs65, rfl, rfl, hq66⟩, hm_M61, rfl⟩
 refine WL.yld (by decide) (Yld.move rfl) ?_
 refine WL.yld (by decide) (Yld.extract rfl rfl) ?_
 refine WL.yld (by decide) (Yld.extract rfl rfl) ?_
 refine WL.yld (by decide) (Yld.assign rfl) ?_
 refine WL.yld (by decide) (Yld.assign rfl) ?_
 refine WL.done (hK44 _ _ ?_)
 refine WC.seqRegion fun K67 hK67 => ?_
 by_cases hc68 : (x3.1.length : Int) = (0 : Int)
 ·
  replace h := of_t hc68 h
  by_cases hc69 : x3.2 = (0 : Int)
  ·
   replace h := of_t hc69 h
   by_cases hc70 : x24.2 = (3 : Int)
   ·
    replace h := of_t hc70 h
    by_cases hc71 : x47.2 = (0 : Int)
    ·
     replace h := of_t hc71 h
     by_cases hc72 : (x47.1.length : Int) = (1 : Int)
     ·
      replace h := of_t hc72 h
      obtain ⟨x73, hx73, h⟩ := bnd h
      by_cases hc77 : x73.fReturn = (-1 : Int)
      ·
       replace h := of_t hc77 h
       obtain ⟨x78, hx78, h⟩ := bnd h
       refine WL.yld (by decide) (Yld.move rfl) ?_
       refine WL.yld (by decide) (Yld.lenD (rs := rs19) (xs := x3.1) (Rels.len (Rels.lift (Rels.lift (Rels.lift (Rels.lift hq20 hm_M36) hm_M38) hm_M59) hm_M61)) und_27 rfl (RdH.own (k := 109) rfl)) ?_
       refine WL.yld (by decide) (Yld.eqlI rfl rfl) ?_
       refine WL.yld (by decide) (Yld.move rfl) ?_
       refine WL.new (v' := .bool true) (congrArg Value.bool (beq_iff_eq.2 hc68)) ?_
       refine WL.yldG (by decide) rfl (Yld.move rfl) ?_
       refine WL.yldG (by decide) rfl (Yld.eqlI rfl rfl) ?_
       refine WL.yld (by decide) (Yld.pickT rfl rfl) ?_
       refine WL.yld (by decide) (Yld.move rfl) ?_
       refine WL.new (v' := .bool true) (congrArg Value.bool (beq_iff_eq.2 hc69)) ?_
       refine WL.yldG (by decide) rfl (Yld.move rfl) ?_
       refine WL.yldG (by decide) rfl (Yld.eqlI rfl rfl) ?_
       refine WL.yld (by decide) (Yld.pickT rfl rfl) ?_
       refine WL.yld (by decide) (Yld.move rfl) ?_
       refine WL.new (v' := .bool true) (congrArg Value.bool (beq_iff_eq.2 hc70)) ?_
       refine WL.yldG (by decide) rfl (Yld.move rfl) ?_
       refine WL.yldG (by decide) rfl (Yld.eqlI rfl rfl) ?_
       refine WL.yld (by decide) (Yld.pickT rfl rfl) ?_
       refine WL.yld (by decide) (Yld.move rfl) ?_
       refine WL.new (v' := .bool true) (congrArg Value.bool (beq_iff_eq.2 hc71)) ?_
       refine WL.yldG (by decide) rfl (Yld.move rfl) ?_
       refine WL.yldG (by decide) rfl (Yld.lenD (rs := rs65) (xs := x47.1) (Rels.len hq66) und_27 rfl (RdH.own (k := 153) rfl)) ?_
       refine WL.yldG (by decide) rfl (Yld.eqlI rfl rfl) ?_
       refine WL.yld (by decide) (Yld.pickT rfl rfl) ?_
       refine WL.yld (by decide) (Yld.move rfl) ?_
       refine WL.new (v' := .bool true) (congrArg Value.bool (beq_iff_eq.2 hc72)) ?_
       refine WL.yldG (by decide) rfl (Yld.move rfl) ?_
       obtain ⟨⟨_, r_74_0, r_74_1⟩, hr75, rfl, hq76_0, hq76_1⟩ := Rels.idx hq66 hx73
       refine WL.yldG (by decide) rfl (Yld.idxC (xs := rs65) sty_27 rfl rfl (RdH.own (k := 153) rfl) hr75) ?_
       refine WL.yldG (by decide) rfl (Yld.fieldAddrC Try.underlying42 rfl nz_3 rfl rfl) ?_
       refine WL.yldG (by decide) rfl (Yld.loadC (xs := rs65) (j := 7) scal_3 rfl (RdH.own (k := 153) rfl) hr75 rfl rfl) ?_
       refine WL.yldG (by decide) rfl (Yld.eqlI rfl rfl) ?_
       refine WL.yld (by decide) (Yld.pickT rfl rfl) ?_
       refine WL.yld (by decide) (Yld.move rfl) ?_
       refine WL.new (v' := .bool true) (congrArg Value.bool (beq_iff_eq.2 hc77)) ?_
       refine WL.yldG (by decide) rfl (Yld.move rfl) ?_
       obtain ⟨⟨_, r_79_0, r_79_1⟩, hr80, rfl, hq81_0, hq81_1⟩ := Rels.idx hq66 hx78
       refine WL.yldG (by decide) rfl (Yld.idxC (xs := rs65) sty_27 rfl rfl (RdH.own (k := 153) rfl) hr80) ?_
       refine WL.yldG (by decide) rfl (Yld.fieldAddrC Try.underlying42 rfl nz_3 rfl rfl) ?_
       refine WL.yldG (by decide) rfl (Yld.loadC (xs := rs65) (j := 8) scal_3 rfl (RdH.own (k := 153) rfl) hr80 rfl rfl) ?_
       refine WL.yldG (by decide) rfl (Yld.eqlI rfl rfl) ?_
       refine WL.yld (by decide) (Yld.pickT rfl rfl) ?_
       refine WL.yld (by decide) (Yld.assign rfl) ?_
       refine WL.done (hK67 _ _ ?_)
       refine WC.ret ?_
       injection h with h; subst h
       exact Ret.fn [] (ResIs.one rfl rfl) rfl (Ext.trans (Ext.trans (Ext.trans (Ext.trans hm_M15 hm_M36) hm_M38) hm_M59) hm_M61) rfl (by decide) rfl rfl ⟨rfl, rfl⟩
      ·
       replace h := of_f hc77 h
       refine WL.yld (by decide) (Yld.move rfl) ?_
       refine WL.yld (by decide) (Yld.lenD (rs := rs19) (xs := x3.1) (Rels.len (Rels.lift (Rels.lift (Rels.lift (Rels.lift hq20 hm_M36) hm_M38) hm_M59) hm_M61)) und_27 rfl (RdH.own (k := 109) rfl)) ?_
       refine WL.yld (by decide) (Yld.eqlI rfl rfl) ?_
       refine WL.yld (by decide) (Yld.move rfl) ?_
       refine WL.new (v' := .bool true) (congrArg Value.bool (beq_iff_eq.2 hc68)) ?_
       refine WL.yldG (by decide) rfl (Yld.move rfl) ?_
       refine WL.yldG (by decide) rfl (Yld.eqlI rfl rfl) ?_
       refine WL.yld (by decide) (Yld.pickT rfl rfl) ?_
       refine WL.yld (by decide) (Yld.move rfl) ?_
       refine WL.new (v' := .bool true) (congrArg Value.bool (beq_iff_eq.2 hc69)) ?_
       refine WL.yldG (by decide) rfl (Yld.move rfl) ?_
       refine WL.yldG (by decide) rfl (Yld.eqlI rfl rfl) ?_
       refine WL.yld (by decide) (Yld.pickT rfl rfl) ?_
       refine WL.yld (by decide) (Yld.move rfl) ?_
       refine WL.new (v' := .bool true) (congrArg Value.bool (beq_iff_eq.2 hc70)) ?_
       refine WL.yldG (by decide) rfl (Yld.move rfl) ?_
       refine WL.yldG (by decide) rfl (Yld.eqlI rfl rfl) ?_
       refine WL.yld (by decide) (Yld.pickT rfl rfl) ?_
       refine WL.yld (by decide) (Yld.move rfl) ?_
       refine WL.new (v' := .bool true) (congrArg Value.bool (beq_iff_eq.2 hc71)) ?_
       refine WL.yldG (by decide) rfl (Yld.move rfl) ?_
       refine WL.yldG (by decide) rfl (Yld.lenD (rs := rs65) (xs := x47.1) (Rels.len hq66) und_27 rfl (RdH.own (k := 153) rfl)) ?_
       refine WL.yldG (by decide) rfl (Yld.eqlI rfl rfl) ?_
       refine WL.yld (by decide) (Yld.pickT rfl rfl) ?_
       refine WL.yld (by decide) (Yld.move rfl) ?_
       refine WL.new (v' := .bool true) (congrArg Value.bool (beq_iff_eq.2 hc72)) ?_
       refine WL.yldG (by decide) rfl (Yld.move rfl) ?_
       obtain ⟨⟨_, r_74_0, r_74_1⟩, hr75, rfl, hq76_0, hq76_1⟩ := Rels.idx hq66 hx73
       refine WL.yldG (by decide) rfl (Yld.idxC (xs := rs65) sty_27 rfl rfl (RdH.own (k := 153) rfl) hr75) ?_
       refine WL.yldG (by decide) rfl (Yld.fieldAddrC Try.underlying42 rfl nz_3 rfl rfl) ?_
       refine WL.yldG (by decide) rfl (Yld.loadC (xs := rs65) (j := 7) scal_3 rfl (RdH.own (k := 153) rfl) hr75 rfl rfl) ?_
       refine WL.yldG (by decide) rfl (Yld.eqlI rfl rfl) ?_
       refine WL.yld (by decide) (Yld.pickT rfl rfl) ?_
       refine WL.yld (by decide) (Yld.move rfl) ?_
       refine WL.new (v' := .bool false) (congrArg Value.bool (beq_eq_false_iff_ne.2 hc77)) ?_
       refine WL.skip (by decide) rfl rfl ?_
       refine WL.skip (by decide) rfl rfl ?_
       refine WL.skip (by decide) rfl rfl ?_
       refine WL.skip (by decide) rfl rfl ?_
       refine WL.skip (by decide) rfl rfl ?_
       refine WL.yld (by decide) (Yld.pickF rfl rfl) ?_
       refine WL.yld (by decide) (Yld.assign rfl) ?_
       refine WL.done (hK67 _ _ ?_)
       refine WC.ret ?_
       injection h with h; subst h
       exact Ret.fn [] (ResIs.one rfl rfl) rfl (Ext.trans (Ext.trans (Ext.trans (Ext.trans hm_M15 hm_M36) hm_M38) hm_M59) hm_M61) rfl (by decide) rfl rfl ⟨rfl, rfl⟩
     ·
      replace h := of_f hc72 h
      refine WL.yld (by decide) (Yld.move rfl) ?_
      refine WL.yld (by decide) (Yld.lenD (rs := rs19) (xs := x3.1) (Rels.len (Rels.lift (Rels.lift (Rels.lift (Rels.lift hq20 hm_M36) hm_M38) hm_M59) hm_M61)) und_27 rfl (RdH.own (k := 109) rfl)) ?_
      refine WL.yld (by decide) (Yld.eqlI rfl rfl) ?_
      refine WL.yld (by decide) (Yld.move rfl) ?_
      refine WL.new (v' := .bool true) (congrArg Value.bool (beq_iff_eq.2 hc68)) ?_
      refine WL.yldG (by decide) rfl (Yld.move rfl) ?_
      refine WL.yldG (by decide) rfl (Yld.eqlI rfl rfl) ?_
      refine WL.yld (by decide) (Yld.pickT rfl rfl) ?_
      refine WL.yld (by decide) (Yld.move rfl) ?_
      refine WL.new (v' := .bool true) (congrArg Value.bool (beq_iff_eq.2 hc69)) ?_
      refine WL.yldG (by decide) rfl (Yld.move rfl) ?_
      refine WL.yldG (by decide) rfl (Yld.eqlI rfl rfl) ?_
      refine WL.yld (by decide) (Yld.pickT rfl rfl) ?_
      refine WL.yld (by decide) (Yld.move rfl) ?_
      refine WL.new (v' := .bool true) (congrArg Value.bool (beq_iff_eq.2 hc70)) ?_
      refine WL.yldG (by decide) rfl (Yld.move rfl) ?_
      refine WL.yldG (by decide) rfl (Yld.eqlI rfl rfl) ?_
      refine WL.yld (by decide) (Yld.pickT rfl rfl) ?_
      refine WL.yld (by decide) (Yld.move rfl) ?_
      refine WL.new (v' := .bool true) (congrArg Value.bool (beq_iff_eq.2 hc71)) ?_
      refine WL.yldG (by decide) rfl (Yld.move rfl) ?_
      refine WL.yldG (by decide) rfl (Yld.lenD (rs := rs65) (xs := x47.1) (Rels.len hq66) und_27 rfl (RdH.own (k := 153) rfl)) ?_
      refine WL.yldG (by decide) rfl (Yld.eqlI rfl rfl) ?_
      refine WL.yld (by decide) (Yld.pickT rfl rfl) ?_
      refine WL.yld (by decide) (Yld.move rfl) ?_
      refine WL.new (v' := .bool false) (congrArg Value.bool (beq_eq_false_iff_ne.2 hc72)) ?_
      refine WL.skip (by decide) rfl rfl ?_
      refine WL.skip (by decide) rfl rfl ?_
      refine WL.skip (by decide) rfl rfl ?_
      refine WL.skip (by decide) rfl rfl ?_
      refine WL.skip (by decide) rfl rfl ?_
      refine WL.yld (by decide) (Yld.pickF rfl rfl) ?_
      refine WL.yld (by decide) (Yld.move rfl) ?_
      refine WL.skip (by decide) rfl rfl ?_
      refine WL.skip (by decide) rfl rfl ?_
      refine WL.skip (by decide) rfl rfl ?_
      refine WL.skip (by decide) rfl rfl ?_
      refine WL.skip (by decide) rfl rfl ?_
      refine WL.yld (by decide) (Yld.pickF rfl rfl) ?_
      refine WL.yld (by decide) (Yld.assign rfl) ?_
      refine WL.done (hK67 _ _ ?_)
      refine WC.ret ?_
      injection h with h; subst h
      exact Ret.fn [] (ResIs.one rfl rfl) rfl (Ext.trans (Ext.trans (Ext.trans (Ext.trans hm_M15 hm_M36) hm_M38) hm_M59) hm_M61) rfl (by decide) rfl rfl ⟨rfl, rfl⟩
    ·
     replace h := of_f hc71 h
     refine WL.yld (by decide) (Yld.move rfl) ?_
     refine WL.yld (by decide) (Yld.lenD (rs := rs19) (xs := x3.1) (Rels.len (Rels.lift (Rels.lift (Rels.lift (Rels.lift hq20 hm_M36) hm_M38) hm_M59) hm_M61)) und_27 rfl (RdH.own (k := 109) rfl)) ?_
     refine WL.yld (by decide) (Yld.eqlI rfl rfl) ?_
     refine WL.yld (by decide) (Yld.move rfl) ?_
     refine WL.new (v' := .bool true) (congrArg Value.bool (beq_iff_eq.2 hc68)) ?_
     refine WL.yldG (by decide) rfl (Yld.move rfl) ?_
     refine WL.yldG (by decide) rfl (Yld.eqlI rfl rfl) ?_
     refine WL.yld (by decide) (Yld.pickT rfl rfl) ?_
     refine WL.yld (by decide) (Yld.move rfl) ?_
     refine WL.new (v' := .bool true) (congrArg Value.bool (beq_iff_eq.2 hc69)) ?_
     refine WL.yldG (by decide) rfl (Yld.move rfl) ?_
     refine WL.yldG (by decide) rfl (Yld.eqlI rfl rfl) ?_
     refine WL.yld (by decide) (Yld.pickT rfl rfl) ?_
     refine WL.yld (by decide) (Yld.move rfl) ?_
     refine WL.new (v' := .bool true) (congrArg Value.bool (beq_iff_eq.2 hc70)) ?_
     refine WL.yldG (by decide) rfl (Yld.move rfl) ?_
     refine WL.yldG (by decide) rfl (Yld.eqlI rfl rfl) ?_
     refine WL.yld (by decide) (Yld.pickT rfl rfl) ?_
     refine WL.yld (by decide) (Yld.move rfl) ?_
     refine WL.new (v' := .bool false) (congrArg Value.bool (beq_eq_false_iff_ne.2 hc71)) ?_
     refine WL.skip (by decide) rfl rfl ?_
     refine WL.skip (by decide) rfl rfl ?_
     refine WL.skip (by decide) rfl rfl ?_
     refine WL.yld (by decide) (Yld.pickF rfl rfl) ?_
     refine WL.yld (by decide) (Yld.move rfl) ?_
     refine WL.skip (by decide) rfl rfl ?_
     refine WL.skip (by decide) rfl rfl ?_
     refine WL.skip (by decide) rfl rfl ?_
     refine WL.skip (by decide) rfl rfl ?_
     refine WL.skip (by decide) rfl rfl ?_
     refine WL.yld (by decide) (Yld.pickF rfl rfl) ?_
     refine WL.yld (by decide) (Yld.move rfl) ?_
     refine WL.skip (by decide) rfl rfl ?_
     refine WL.skip (by decide) rfl rfl ?_
     refine WL.skip (by decide) rfl rfl ?_
     refine WL.skip (by decide) rfl rfl ?_
     refine WL.skip (by decide) rfl rfl ?_
     refine WL.yld (by decide) (Yld.pickF rfl rfl) ?_
     refine WL.yld (by decide) (Yld.assign rfl) ?_
     refine WL.done (hK67 _ _ ?_)
     refine WC.ret ?_
     injection h with h; subst h
     exact Ret.fn [] (ResIs.one rfl rfl) rfl (Ext.trans (Ext.trans (Ext.trans (Ext.trans hm_M15 hm_M36) hm_M38) hm_M59) hm_M61) rfl (by decide) rfl rfl ⟨rfl, rfl⟩
   ·
    replace h := of_f hc70 h
    refine WL.yld (by decide) (Yld.move rfl) ?_
    refine WL.yld (by decide) (Yld.lenD (rs := rs19) (xs := x3.1) (Rels.len (Rels.lift (Rels.lift (Rels.lift (Rels.lift hq20 hm_M36) hm_M38) hm_M59) hm_M61)) und_27 rfl (RdH.own (k := 109) rfl)) ?_
    refine WL.yld (by decide) (Yld.eqlI rfl rfl) ?_
    refine WL.yld (by decide) (Yld.move rfl) ?_
    refine WL.new (v' := .bool true) (congrArg Value.bool (beq_iff_eq.2 hc68)) ?_
    refine WL.yldG (by decide) rfl (Yld.move rfl) ?_
    refine WL.yldG (by decide) rfl (Yld.eqlI rfl rfl) ?_
    refine WL.yld (by decide) (Yld.pickT rfl rfl) ?_
    refine WL.yld (by decide) (Yld.move rfl) ?_
    refine WL.new (v' := .bool true) (congrArg Value.bool (beq_iff_eq.2 hc69)) ?_
    refine WL.yldG (by decide) rfl (Yld.move rfl) ?_
    refine WL.yldG (by decide) rfl (Yld.eqlI rfl rfl) ?_
    refine WL.yld (by decide) (Yld.pickT rfl rfl) ?_
    refine WL.yld (by decide) (Yld.move rfl) ?_
    refine WL.new (v' := .bool false) (congrArg Value.bool (beq_eq_false_iff_ne.2 hc70)) ?_
    refine WL.skip (by decide) rfl rfl ?_
    refine WL.skip (by decide) rfl rfl ?_
    refine WL.yld (by decide) (Yld.pickF rfl rfl) ?_
    refine WL.yld (by decide) (Yld.move rfl) ?_
    refine WL.skip (by decide) rfl rfl ?_
    refine WL.skip (by decide) rfl rfl ?_
    refine WL.skip (by decide) rfl rfl ?_
    refine WL.yld (by decide) (Yld.pickF rfl rfl) ?_
    refine WL.yld (by decide) (Yld.move rfl) ?_
    refine WL.skip (by decide) rfl rfl ?_
    refine WL.skip (by decide) rfl rfl ?_
    refine WL.skip (by decide) rfl rfl ?_
    refine WL.skip (by decide) rfl rfl ?_
    refine WL.skip (by decide) rfl rfl ?_
    refine WL.yld (by decide) (Yld.pickF rfl rfl) ?_
    refine WL.yld (by decide) (Yld.move rfl) ?_
    refine WL.skip (by decide) rfl rfl ?_
    refine WL.skip (by decide) rfl rfl ?_
    refine WL.skip (by decide) rfl rfl ?_
    refine WL.skip (by decide) rfl rfl ?_
    refine WL.skip (by decide) rfl rfl ?_
    refine WL.yld (by decide) (Yld.pickF rfl rfl) ?_
    refine WL.yld (by decide) (Yld.assign rfl) ?_
    refine WL.done (hK67 _ _ ?_)
    refine WC.ret ?_
    injection h with h; subst h
    exact Ret.fn [] (ResIs.one rfl rfl) rfl (Ext.trans (Ext.trans (Ext.trans (Ext.trans hm_M15 hm_M36) hm_M38) hm_M59) hm_M61) rfl (by decide) rfl rfl ⟨rfl, rfl⟩
  ·
   replace h := of_f hc69 h
   refine WL.yld (by decide) (Yld.move rfl) ?_
   refine WL.yld (by decide) (Yld.lenD (rs := rs19) (xs := x3.1) (Rels.len (Rels.lift (Rels.lift (Rels.lift (Rels.lift hq20 hm_M36) hm_M38) hm_M59) hm_M61)) und_27 rfl (RdH.own (k := 109) rfl)) ?_
   refine WL.yld (by decide) (Yld.eqlI rfl rfl) ?_
   refine WL.yld (by decide) (Yld.move rfl) ?_
   refine WL.new (v' := .bool true) (congrArg Value.bool (beq_iff_eq.2 hc68)) ?_
   refine WL.yldG (by decide) rfl (Yld.move rfl) ?_
   refine WL.yldG (by decide) rfl (Yld.eqlI rfl rfl) ?_
   refine WL.yld (by decide) (Yld.pickT rfl rfl) ?_
   refine WL.yld (by decide) (Yld.move rfl) ?_
   refine WL.new (v' := .bool false) (congrArg Value.bool (beq_eq_false_iff_ne.2 hc69)) ?_
   refine WL.skip (by decide) rfl rfl ?_
   refine WL.skip (by decide) rfl rfl ?_
   refine WL.yld (by decide) (Yld.pickF rfl rfl) ?_
   refine WL.yld (by decide) (Yld.move rfl) ?_
   refine WL.skip (by decide) rfl rfl ?_
   refine WL.skip (by decide) rfl rfl ?_
   refine WL.yld (by decide) (Yld.pickF rfl rfl) ?_
   refine WL.yld (by decide) (Yld.move rfl) ?_
   refine WL.skip (by decide) rfl rfl ?_
   refine WL.skip (by decide) rfl rfl ?_
   refine WL.skip (by decide) rfl rfl ?_
   refine WL.yld (by decide) (Yld.pickF rfl rfl) ?_
   refine WL.yld (by decide) (Yld.move rfl) ?_
   refine WL.skip (by decide) rfl rfl ?_
   refine WL.skip (by decide) rfl rfl ?_
   refine WL.skip (by decide) rfl rfl ?_
   refine WL.skip (by decide) rfl rfl ?_
   refine WL.skip (by decide) rfl rfl ?_
   refine WL.yld (by decide) (Yld.pickF rfl rfl) ?_
   refine WL.yld (by decide) (Yld.move rfl) ?_
   refine WL.skip (by decide) rfl rfl ?_
   refine WL.skip (by decide) rfl rfl ?_
   refine WL.skip (by decide) rfl rfl ?_
   refine WL.skip (by decide) rfl rfl ?_
   refine WL.skip (by decide) rfl rfl ?_
   refine WL.yld (by decide) (Yld.pickF rfl rfl) ?_
   refine WL.yld (by decide) (Yld.assign rfl) ?_
   refine WL.done (hK67 _ _ ?_)
   refine WC.ret ?_
   injection h with h; subst h
   exact Ret.fn [] (ResIs.one rfl rfl) rfl (Ext.trans (Ext.trans (Ext.trans (Ext.trans hm_M15 hm_M36) hm_M38) hm_M59) hm_M61) rfl (by decide) rfl rfl ⟨rfl, rfl⟩
 ·
  replace h := of_f hc68 h
  refine WL.yld (by decide) (Yld.move rfl) ?_
  refine WL.yld (by decide) (Yld.lenD (rs := rs19) (xs := x3.1) (Rels.len (Rels.lift (Rels.lift (Rels.lift (Rels.lift hq20 hm_M36) hm_M38) hm_M59) hm_M61)) und_27 rfl (RdH.own (k := 109) rfl)) ?_
  refine WL.yld (by decide) (Yld.eqlI rfl rfl) ?_
  refine WL.yld (by decide) (Yld.move rfl) ?_
  refine WL.new (v' := .bool false) (congrArg Value.bool (beq_eq_false_iff_ne.2 hc68)) ?_
  refine WL.skip (by decide) rfl rfl ?_
  refine WL.skip (by decide) rfl rfl ?_
  refine WL.yld (by decide) (Yld.pickF rfl rfl) ?_
  refine WL.yld (by decide) (Yld.move rfl) ?_
  refine WL.skip (by decide) rfl rfl ?_
  refine WL.skip (by decide) rfl rfl ?_
  refine WL.yld (by decide) (Yld.pickF rfl rfl) ?_
  refine WL.yld (by decide) (Yld.move rfl) ?_
  refine WL.skip (by decide) rfl rfl ?_
  refine WL.skip (by decide) rfl rfl ?_
  refine WL.yld (by decide) (Yld.pickF rfl rfl) ?_
  refine WL.yld (by decide) (Yld.move rfl) ?_
  refine WL.skip (by decide) rfl rfl ?_
  refine WL.skip (by decide) rfl rfl ?_
  refine WL.skip (by decide) rfl rfl ?_
  refine WL.yld (by decide) (Yld.pickF rfl rfl) ?_
  refine WL.yld (by decide) (Yld.move rfl) ?_
  refine WL.skip (by decide) rfl rfl ?_
  refine WL.skip (by decide) rfl rfl ?_
  refine WL.skip (by decide) rfl rfl ?_
  refine WL.skip (by decide) rfl rfl ?_
  refine WL.skip (by decide) rfl rfl ?_
  refine WL.yld (by decide) (Yld.pickF rfl rfl) ?_
  refine WL.yld (by decide) (Yld.move rfl) ?_
  refine WL.skip (by decide) rfl rfl ?_
  refine WL.skip (by decide) rfl rfl ?_
  refine WL.skip (by decide) rfl rfl ?_
  refine WL.skip (by decide) rfl rfl ?_
  refine WL.skip (by decide) rfl rfl ?_
  refine WL.yld (by decide) (Yld.pickF rfl rfl) ?_
  refine WL.yld (by decide) (Yld.assign rfl) ?_
  refine WL.done (hK67 _ _ ?_)
  refine WC.ret ?_
  injection h with h; subst h
  exact Ret.fn [] (ResIs.one rfl rfl) rfl (Ext.trans (Ext.trans (Ext.trans (Ext.trans hm_M15 hm_M36) hm_M38) hm_M59) hm_M61) rfl (by decide) rfl rfl ⟨rfl, rfl⟩

end Go.Proofs.Ytpebhdepmbnjbaa
