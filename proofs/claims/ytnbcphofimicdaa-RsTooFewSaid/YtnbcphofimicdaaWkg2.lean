/-
  Walks (g2): what a function's model gives, the function returns. Printed by a program of ours (vcm.py) from the function's operations. Conditions: as each theorem says.
-/
import Derived.Test.YtnbcphofimicdaaWkf
import Derived.Test.YtnbcphofimicdaaMdg2
namespace Go.Proofs.Ytnbcphofimicdaa
open Go Go.RowKit
set_option linter.unusedVariables false

theorem nm_15 : (Try.f15.name == "runtime.NumGoroutine") = false := by kernel_rfl
theorem nm_22 : (Try.f22.name == "runtime.NumGoroutine") = false := by kernel_rfl

set_option maxRecDepth 10000 in
theorem w_law04_RsTooFew (M0 : Mem) (A00 : Option Addr) (n00 c00 : Nat) (x00 : List (BitVec 8)) (hf00 : SlT M0 A00 n00 c00 x00) (x01 : Int) (x02 : Int) {res : Bool} (h : m_law04_RsTooFew x00 x01 x02 = some res) :
    Fn Try.prog 5 #[.slice A00 n00 c00, I64 x01, I64 x02] M0 fun r M' es => r = .bool res ∧ es = [] := by
  refine Fn.intro (N := 72) Try.func5 rfl rfl (Nat.le_of_ble_eq_true rfl) fun w0 => ?_
  unfold m_law04_RsTooFew at h
  refine WC.seqRegion fun K1 hK1 => ?_
  refine WL.yld (by decide) (Yld.assign rfl) ?_
  refine WL.done (hK1 _ _ ?_)
  refine WC.seqRegion fun K2 hK2 => ?_
  obtain ⟨x3, hx3, h⟩ := bnd h
  refine WL.yld (by decide) (Yld.move rfl) ?_
  refine WL.yld (by decide) (Yld.move rfl) ?_
  refine WL.eff (by decide) (Eff.callM 109 rfl Try.func22 nm_22 rfl rfl rfl (w_law04_full _ A00 n00 c00 _ hf00 x01 hx3)) ?_
  rintro _ _ ⟨M15, _, ⟨A16, n17, c18, rs19, rfl, rfl, hq20⟩, hm_M15, rfl⟩
  refine WL.yld (by decide) (Yld.move rfl) ?_
  refine WL.yld (by decide) (Yld.extract rfl rfl) ?_
  refine WL.yld (by decide) (Yld.extract rfl rfl) ?_
  refine WL.yld (by decide) (Yld.assign rfl) ?_
  refine WL.yld (by decide) (Yld.assign rfl) ?_
  refine WL.done (hK2 _ _ ?_)
  refine WC.seqRegion fun K21 hK21 => ?_
  obtain ⟨x23, hx23, h⟩ := bnd h
  refine WL.eff (by decide) (Eff.makeC 122 false sty_36 rfl rfl rfl rfl rfl rfl hx23) ?_
  rintro _ _ ⟨g22, rfl, rfl⟩
  refine WL.yld (by decide) (Yld.assign rfl) ?_
  refine WL.done (hK21 _ _ ?_)
  refine WC.seqRegion fun K24 hK24 => ?_
  refine WL.yld (by decide) (Yld.assign rfl) ?_
  refine WL.done (hK24 _ _ ?_)
  refine WC.seqCut (σ := (List (Bool)) × Int) (fun ⟨x25, x26⟩ => [(7, .slice A16 n17 c18), (8, .bool x3.2), (9, .slice (some ⟨g22, 0, none⟩) x23.length x23.length), (10, I64 x26)]) (fun ⟨x25, x26⟩ => [(0, .mem M15), (109, .own 22 (Lay.sz Hdr) A16 n17 c18 (cel rs19)), (122, .own 4 (Lay.sz Bool) (some ⟨g22, 0, none⟩) x23.length x23.length (cel x25))]) (fun ⟨x25, x26⟩ => m_law04_RsTooFew_j0 x3 x25 x26 = some res) (fun K27 hK27 => ?_) ?_
  · skip
    refine WC.seqRegion fun K28 hK28 => ?_
    refine WL.yld (by decide) (Yld.move rfl) ?_
    refine WL.yld (by decide) (Yld.lenC (xs := x23) und_36 rfl (RdH.own (k := 122) rfl)) ?_
    refine WL.yld (by decide) (Yld.move rfl) ?_
    refine WL.done (hK28 _ _ ?_)
    refine WC.block ?_
    refine WC.loop (σ := Nat × (List (Bool)) × Int × Int) (fun ⟨q32, x29, x30, x31⟩ => [(2, I64 x02), (7, .slice A16 n17 c18), (8, .bool x3.2), (9, .slice (some ⟨g22, 0, none⟩) x23.length x23.length), (10, I64 x30), (22, I64 (x23.length : Int)), (23, I64 x31)]) (fun ⟨q32, x29, x30, x31⟩ => [(0, .mem M15), (109, .own 22 (Lay.sz Hdr) A16 n17 c18 (cel rs19)), (122, .own 4 (Lay.sz Bool) (some ⟨g22, 0, none⟩) x23.length x23.length (cel x29))]) (fun ⟨q32, x29, x30, x31⟩ => m_law04_RsTooFew_l1 x02 x3 x23 q32 x29 x30 x31 = some res) (fun ⟨q32, x29, x30, x31⟩ => q32) ⟨forever, x23, (0 : Int), (0 : Int)⟩ ?_ (Sub.cons rfl (Sub.cons rfl (Sub.cons rfl (Sub.cons rfl (Sub.cons rfl (Sub.cons rfl (Sub.cons rfl (Sub.nil _)))))))) (Sub.cons rfl (Sub.cons rfl (Sub.cons rfl (Sub.nil _)))) ?_
    · exact h
    rintro ⟨q32, x29, x30, x31⟩ h K33 hK33
    cases q32 with
    | zero => exact absurd h (by simp [m_law04_RsTooFew_l1])
    | succ q32 =>
      unfold m_law04_RsTooFew_l1 at h
      refine WC.seqRegion fun K34 hK34 => ?_
      refine WL.yld (by decide) (Yld.lss rfl rfl) ?_
      refine WL.done (hK34 _ _ ?_)
      refine WC.seq fun K35 hK35 => ?_
      by_cases hc36 : x31 < (x23.length : Int)
      · replace h := of_t hc36 h
        refine WC.condTe rfl (decide_eq_true hc36) ?_
        refine WC.skip ?_
        refine QK.thenN (hK35 _ _ ?_)
        refine WC.seq fun K37 hK37 => ?_
        refine WC.block ?_
        refine WC.seqRegion fun K38 hK38 => ?_
        refine WL.yld (by decide) (Yld.move rfl) ?_
        refine WL.yld (by decide) (Yld.assign rfl) ?_
        refine WL.done (hK38 _ _ ?_)
        refine WC.seqRegion fun K39 hK39 => ?_
        obtain ⟨x40, hx40, h⟩ := bnd h
        obtain ⟨x41, hx41, h⟩ := bnd h
        obtain ⟨x42, hx42, h⟩ := bnd h
        refine WL.yld (by decide) (Yld.move rfl) ?_
        refine WL.yld (by decide) (Yld.move rfl) ?_
        refine WL.yld (by decide) (Yld.move rfl) ?_
        refine WL.yld (by decide) (Yld.move rfl) ?_
        refine WL.yld (by decide) (Yld.conv_i64_u64 some_3 und_47 rfl) ?_
        refine WL.yld (by decide) (Yld.shrC rfl rfl hx40) ?_
        refine WL.yld (by decide) (Yld.andC rfl rfl) ?_
        refine WL.yld (by decide) (Yld.eqlI rfl rfl) ?_
        refine WL.yld (by decide) (Yld.idxC (xs := x29) sty_36 rfl rfl (RdH.own (k := 122) rfl) hx41) ?_
        refine WL.eff0 (Eff0.storeC1 122 (xs := x29) (a' := ((andi x40 (1 : Int)) == (1 : Int))) siz_4 rfl rfl rfl rfl rfl rfl hx42) ?_
        refine WL.done (hK39 _ _ ?_)
        refine WC.seqRegion fun K43 hK43 => ?_
        obtain ⟨x44, hx44, h⟩ := bnd h
        refine WL.yld (by decide) (Yld.move rfl) ?_
        refine WL.yld (by decide) (Yld.move rfl) ?_
        refine WL.yld (by decide) (Yld.idxC (xs := x42) sty_36 rfl rfl (RdH.own (k := 122) rfl) hx44) ?_
        refine WL.yld (by decide) (Yld.loadC0 (xs := x42) scal_4 rfl (RdH.own (k := 122) rfl) hx44 rfl) ?_
        refine WL.done (hK43 _ _ ?_)
        by_cases hc45 : x44 = true
        · replace h := of_t hc45 h
          refine WC.condTe rfl hc45 ?_
          refine WC.region fun K46 hK46 => ?_
          obtain ⟨x47, hx47, h⟩ := bnd h
          refine WL.yld (by decide) (Yld.move rfl) ?_
          refine WL.yld (by decide) (Yld.addC rfl rfl hx47) ?_
          refine WL.yld (by decide) (Yld.assign rfl) ?_
          refine WL.done (hK46 _ _ ?_)
          refine QK.blockN ?_
          refine QK.thenN (hK37 _ _ ?_)
          refine WC.region fun K48 hK48 => ?_
          obtain ⟨x49, hx49, h⟩ := bnd h
          refine WL.yld (by decide) (Yld.addC rfl rfl hx49) ?_
          refine WL.yld (by decide) (Yld.move rfl) ?_
          refine WL.done (hK48 _ _ ?_)
          refine QK.thenN ?_
          refine hK33 ⟨q32, x42, x47, x49⟩ _ _ ?_ (Nat.lt_succ_self _) (Sub.cons rfl (Sub.cons rfl (Sub.cons rfl (Sub.cons rfl (Sub.cons rfl (Sub.cons rfl (Sub.cons rfl (Sub.nil _)))))))) (Sub.cons rfl (Sub.cons rfl (Sub.cons rfl (Sub.nil _))))
          exact h
        · replace h := of_f hc45 h
          refine WC.condFe rfl (Bool.eq_false_iff.2 hc45) ?_
          refine WC.skip ?_
          refine QK.blockN ?_
          refine QK.thenN (hK37 _ _ ?_)
          refine WC.region fun K50 hK50 => ?_
          obtain ⟨x51, hx51, h⟩ := bnd h
          refine WL.yld (by decide) (Yld.addC rfl rfl hx51) ?_
          refine WL.yld (by decide) (Yld.move rfl) ?_
          refine WL.done (hK50 _ _ ?_)
          refine QK.thenN ?_
          refine hK33 ⟨q32, x42, x30, x51⟩ _ _ ?_ (Nat.lt_succ_self _) (Sub.cons rfl (Sub.cons rfl (Sub.cons rfl (Sub.cons rfl (Sub.cons rfl (Sub.cons rfl (Sub.cons rfl (Sub.nil _)))))))) (Sub.cons rfl (Sub.cons rfl (Sub.cons rfl (Sub.nil _))))
          exact h
      · replace h := of_f hc36 h
        refine WC.condFe rfl (decide_eq_false hc36) ?_
        refine WC.exit (QK.thenE (QK.thenE (QK.blockX ?_)))
        refine QK.thenN ?_
        refine hK27 ⟨x29, x30⟩ _ _ ?_ (Sub.cons rfl (Sub.cons rfl (Sub.cons rfl (Sub.cons rfl (Sub.nil _))))) (Sub.cons rfl (Sub.cons rfl (Sub.cons rfl (Sub.nil _))))
        exact h
  · rintro ⟨x25, x26⟩ h
    unfold m_law04_RsTooFew_j0 at h
    refine WC.seqRegion fun K52 hK52 => ?_
    obtain ⟨x53, hx53, h⟩ := bnd h
    refine WL.yld (by decide) (Yld.move rfl) ?_
    refine WL.yld (by decide) (Yld.move rfl) ?_
    refine WL.freeze 109 rfl rfl rfl fun M65 hm_M65 hf66 => ?_
    refine WL.freeze 122 rfl rfl rfl fun M67 hm_M67 hf68 => ?_
    refine WL.eff (by decide) (Eff.callM 159 rfl Try.func19 nm_19 rfl rfl rfl (w_rs_Restore _ A16 n17 c18 rs19 _ (SlRc.lift hf66 hm_M67) (Rels.lift (Rels.lift hq20 hm_M65) hm_M67) (some ⟨g22, 0, none⟩) x23.length x23.length _ hf68 hx53)) ?_
    rintro _ _ ⟨M69, _, ⟨A70, n71, c72, rs73, rfl, rfl, hq74⟩, hm_M69, rfl⟩
    refine WL.yld (by decide) (Yld.move rfl) ?_
    refine WL.yld (by decide) (Yld.extract rfl rfl) ?_
    refine WL.yld (by decide) (Yld.extract rfl rfl) ?_
    refine WL.yld (by decide) (Yld.assign rfl) ?_
    refine WL.yld (by decide) (Yld.assign rfl) ?_
    refine WL.done (hK52 _ _ ?_)
    refine WC.seqRegion fun K75 hK75 => ?_
    by_cases hc76 : x3.2 = true
    · replace h := of_t hc76 h
      by_cases hc77 : (decide ((4 : Int) ≤ x26)) = (x53.2 == (0 : Int))
      · replace h := of_t hc77 h
        by_cases hc78 : x53.2 = (0 : Int)
        · replace h := of_t hc78 h
          obtain ⟨x79, hx79, h⟩ := bnd h
          refine WL.yld (by decide) (Yld.move rfl) ?_
          refine WL.yld (by decide) (Yld.move rfl) ?_
          refine WL.new (v' := .bool true) (congrArg Value.bool hc76) ?_
          refine WL.yldG (by decide) rfl (Yld.move rfl) ?_
          refine WL.yldG (by decide) rfl (Yld.geq rfl rfl) ?_
          refine WL.yldG (by decide) rfl (Yld.move rfl) ?_
          refine WL.yldG (by decide) rfl (Yld.eqlI rfl rfl) ?_
          refine WL.yldG (by decide) rfl (Yld.eqlB und_4 rfl rfl) ?_
          refine WL.yld (by decide) (Yld.pickT rfl rfl) ?_
          refine WL.yld (by decide) (Yld.move rfl) ?_
          refine WL.new (v' := .bool true) (congrArg Value.bool (beq_iff_eq.2 hc77)) ?_
          refine WL.yldG (by decide) rfl (Yld.move rfl) ?_
          refine WL.yldG (by decide) rfl (Yld.eqlI rfl rfl) ?_
          refine WL.yldG (by decide) rfl (Yld.move rfl) ?_
          refine WL.new (v' := .bool true) (congrArg Value.bool (beq_iff_eq.2 hc78)) ?_
          refine WL.skip (by decide) rfl rfl ?_
          refine WL.skip (by decide) rfl rfl ?_
          refine WL.skip (by decide) rfl rfl ?_
          refine WL.skipU (by decide) rfl ?_
          refine WL.skipU (by decide) rfl ?_
          refine WL.skipU (by decide) rfl ?_
          refine WL.skip (by decide) rfl rfl ?_
          refine WL.yldG (by decide) rfl (Yld.pickT rfl rfl) ?_
          refine WL.yld (by decide) (Yld.pickT rfl rfl) ?_
          refine WL.yld (by decide) (Yld.move rfl) ?_
          refine WL.effG (by decide) rfl (Eff.callS 180 rfl Try.func15 nm_15 rfl rfl (fun w hb hh => w_law04_awake (Mem.snap w) hx79)) ?_
          rintro _ _ ⟨_, ⟨rfl, rfl⟩, rfl⟩
          refine WL.yld (by decide) (Yld.pickT rfl rfl) ?_
          refine WL.yld (by decide) (Yld.assign rfl) ?_
          refine WL.done (hK75 _ _ ?_)
          refine WC.ret ?_
          injection h with h; subst h
          exact Ret.fn [] (ResIs.one rfl rfl) rfl (Ext.trans (Ext.trans (Ext.trans hm_M15 hm_M65) hm_M67) hm_M69) rfl (by decide) rfl rfl ⟨rfl, rfl⟩
        · replace h := of_f hc78 h
          by_cases hc81 : x53.2 = (11 : Int)
          · replace h := of_t hc81 h
            by_cases hc82 : (x53.1.length : Int) = (0 : Int)
            · replace h := of_t hc82 h
              obtain ⟨x83, hx83, h⟩ := bnd h
              refine WL.yld (by decide) (Yld.move rfl) ?_
              refine WL.yld (by decide) (Yld.move rfl) ?_
              refine WL.new (v' := .bool true) (congrArg Value.bool hc76) ?_
              refine WL.yldG (by decide) rfl (Yld.move rfl) ?_
              refine WL.yldG (by decide) rfl (Yld.geq rfl rfl) ?_
              refine WL.yldG (by decide) rfl (Yld.move rfl) ?_
              refine WL.yldG (by decide) rfl (Yld.eqlI rfl rfl) ?_
              refine WL.yldG (by decide) rfl (Yld.eqlB und_4 rfl rfl) ?_
              refine WL.yld (by decide) (Yld.pickT rfl rfl) ?_
              refine WL.yld (by decide) (Yld.move rfl) ?_
              refine WL.new (v' := .bool true) (congrArg Value.bool (beq_iff_eq.2 hc77)) ?_
              refine WL.yldG (by decide) rfl (Yld.move rfl) ?_
              refine WL.yldG (by decide) rfl (Yld.eqlI rfl rfl) ?_
              refine WL.yldG (by decide) rfl (Yld.move rfl) ?_
              refine WL.new (v' := .bool false) (congrArg Value.bool (beq_eq_false_iff_ne.2 hc78)) ?_
              refine WL.yldG (by decide) rfl (Yld.move rfl) ?_
              refine WL.yldG (by decide) rfl (Yld.eqlI rfl rfl) ?_
              refine WL.yldG (by decide) rfl (Yld.move rfl) ?_
              refine WL.new (v' := .bool true) (congrArg Value.bool (beq_iff_eq.2 hc81)) ?_
              refine WL.yldG (by decide) rfl (Yld.move rfl) ?_
              refine WL.yldG (by decide) rfl (Yld.lenD (rs := rs73) (xs := x53.1) (Rels.len hq74) und_35 rfl (RdH.own (k := 159) rfl)) ?_
              refine WL.yldG (by decide) rfl (Yld.eqlI rfl rfl) ?_
              refine WL.yldG (by decide) rfl (Yld.pickT rfl rfl) ?_
              refine WL.yldG (by decide) rfl (Yld.pickF rfl rfl) ?_
              refine WL.yld (by decide) (Yld.pickT rfl rfl) ?_
              refine WL.yld (by decide) (Yld.move rfl) ?_
              refine WL.new (v' := .bool true) (congrArg Value.bool (beq_iff_eq.2 hc82)) ?_
              refine WL.effG (by decide) rfl (Eff.callS 184 rfl Try.func15 nm_15 rfl rfl (fun w hb hh => w_law04_awake (Mem.snap w) hx83)) ?_
              rintro _ _ ⟨_, ⟨rfl, rfl⟩, rfl⟩
              refine WL.yld (by decide) (Yld.pickT rfl rfl) ?_
              refine WL.yld (by decide) (Yld.assign rfl) ?_
              refine WL.done (hK75 _ _ ?_)
              refine WC.ret ?_
              injection h with h; subst h
              exact Ret.fn [] (ResIs.one rfl rfl) rfl (Ext.trans (Ext.trans (Ext.trans hm_M15 hm_M65) hm_M67) hm_M69) rfl (by decide) rfl rfl ⟨rfl, rfl⟩
            · replace h := of_f hc82 h
              refine WL.yld (by decide) (Yld.move rfl) ?_
              refine WL.yld (by decide) (Yld.move rfl) ?_
              refine WL.new (v' := .bool true) (congrArg Value.bool hc76) ?_
              refine WL.yldG (by decide) rfl (Yld.move rfl) ?_
              refine WL.yldG (by decide) rfl (Yld.geq rfl rfl) ?_
              refine WL.yldG (by decide) rfl (Yld.move rfl) ?_
              refine WL.yldG (by decide) rfl (Yld.eqlI rfl rfl) ?_
              refine WL.yldG (by decide) rfl (Yld.eqlB und_4 rfl rfl) ?_
              refine WL.yld (by decide) (Yld.pickT rfl rfl) ?_
              refine WL.yld (by decide) (Yld.move rfl) ?_
              refine WL.new (v' := .bool true) (congrArg Value.bool (beq_iff_eq.2 hc77)) ?_
              refine WL.yldG (by decide) rfl (Yld.move rfl) ?_
              refine WL.yldG (by decide) rfl (Yld.eqlI rfl rfl) ?_
              refine WL.yldG (by decide) rfl (Yld.move rfl) ?_
              refine WL.new (v' := .bool false) (congrArg Value.bool (beq_eq_false_iff_ne.2 hc78)) ?_
              refine WL.yldG (by decide) rfl (Yld.move rfl) ?_
              refine WL.yldG (by decide) rfl (Yld.eqlI rfl rfl) ?_
              refine WL.yldG (by decide) rfl (Yld.move rfl) ?_
              refine WL.new (v' := .bool true) (congrArg Value.bool (beq_iff_eq.2 hc81)) ?_
              refine WL.yldG (by decide) rfl (Yld.move rfl) ?_
              refine WL.yldG (by decide) rfl (Yld.lenD (rs := rs73) (xs := x53.1) (Rels.len hq74) und_35 rfl (RdH.own (k := 159) rfl)) ?_
              refine WL.yldG (by decide) rfl (Yld.eqlI rfl rfl) ?_
              refine WL.yldG (by decide) rfl (Yld.pickT rfl rfl) ?_
              refine WL.yldG (by decide) rfl (Yld.pickF rfl rfl) ?_
              refine WL.yld (by decide) (Yld.pickT rfl rfl) ?_
              refine WL.yld (by decide) (Yld.move rfl) ?_
              refine WL.new (v' := .bool false) (congrArg Value.bool (beq_eq_false_iff_ne.2 hc82)) ?_
              refine WL.skip (by decide) rfl rfl ?_
              refine WL.yld (by decide) (Yld.pickF rfl rfl) ?_
              refine WL.yld (by decide) (Yld.assign rfl) ?_
              refine WL.done (hK75 _ _ ?_)
              refine WC.ret ?_
              injection h with h; subst h
              exact Ret.fn [] (ResIs.one rfl rfl) rfl (Ext.trans (Ext.trans (Ext.trans hm_M15 hm_M65) hm_M67) hm_M69) rfl (by decide) rfl rfl ⟨rfl, rfl⟩
          · replace h := of_f hc81 h
            refine WL.yld (by decide) (Yld.move rfl) ?_
            refine WL.yld (by decide) (Yld.move rfl) ?_
            refine WL.new (v' := .bool true) (congrArg Value.bool hc76) ?_
            refine WL.yldG (by decide) rfl (Yld.move rfl) ?_
            refine WL.yldG (by decide) rfl (Yld.geq rfl rfl) ?_
            refine WL.yldG (by decide) rfl (Yld.move rfl) ?_
            refine WL.yldG (by decide) rfl (Yld.eqlI rfl rfl) ?_
            refine WL.yldG (by decide) rfl (Yld.eqlB und_4 rfl rfl) ?_
            refine WL.yld (by decide) (Yld.pickT rfl rfl) ?_
            refine WL.yld (by decide) (Yld.move rfl) ?_
            refine WL.new (v' := .bool true) (congrArg Value.bool (beq_iff_eq.2 hc77)) ?_
            refine WL.yldG (by decide) rfl (Yld.move rfl) ?_
            refine WL.yldG (by decide) rfl (Yld.eqlI rfl rfl) ?_
            refine WL.yldG (by decide) rfl (Yld.move rfl) ?_
            refine WL.new (v' := .bool false) (congrArg Value.bool (beq_eq_false_iff_ne.2 hc78)) ?_
            refine WL.yldG (by decide) rfl (Yld.move rfl) ?_
            refine WL.yldG (by decide) rfl (Yld.eqlI rfl rfl) ?_
            refine WL.yldG (by decide) rfl (Yld.move rfl) ?_
            refine WL.new (v' := .bool false) (congrArg Value.bool (beq_eq_false_iff_ne.2 hc81)) ?_
            refine WL.skip (by decide) rfl rfl ?_
            refine WL.skip (by decide) rfl rfl ?_
            refine WL.skip (by decide) rfl rfl ?_
            refine WL.yldG (by decide) rfl (Yld.pickF rfl rfl) ?_
            refine WL.yldG (by decide) rfl (Yld.pickF rfl rfl) ?_
            refine WL.yld (by decide) (Yld.pickT rfl rfl) ?_
            refine WL.yld (by decide) (Yld.move rfl) ?_
            refine WL.skip (by decide) rfl rfl ?_
            refine WL.yld (by decide) (Yld.pickF rfl rfl) ?_
            refine WL.yld (by decide) (Yld.assign rfl) ?_
            refine WL.done (hK75 _ _ ?_)
            refine WC.ret ?_
            injection h with h; subst h
            exact Ret.fn [] (ResIs.one rfl rfl) rfl (Ext.trans (Ext.trans (Ext.trans hm_M15 hm_M65) hm_M67) hm_M69) rfl (by decide) rfl rfl ⟨rfl, rfl⟩
      · replace h := of_f hc77 h
        refine WL.yld (by decide) (Yld.move rfl) ?_
        refine WL.yld (by decide) (Yld.move rfl) ?_
        refine WL.new (v' := .bool true) (congrArg Value.bool hc76) ?_
        refine WL.yldG (by decide) rfl (Yld.move rfl) ?_
        refine WL.yldG (by decide) rfl (Yld.geq rfl rfl) ?_
        refine WL.yldG (by decide) rfl (Yld.move rfl) ?_
        refine WL.yldG (by decide) rfl (Yld.eqlI rfl rfl) ?_
        refine WL.yldG (by decide) rfl (Yld.eqlB und_4 rfl rfl) ?_
        refine WL.yld (by decide) (Yld.pickT rfl rfl) ?_
        refine WL.yld (by decide) (Yld.move rfl) ?_
        refine WL.new (v' := .bool false) (congrArg Value.bool (beq_eq_false_iff_ne.2 hc77)) ?_
        refine WL.skip (by decide) rfl rfl ?_
        refine WL.skip (by decide) rfl rfl ?_
        refine WL.skip (by decide) rfl rfl ?_
        refine WL.skipU (by decide) rfl ?_
        refine WL.skipU (by decide) rfl ?_
        refine WL.skipU (by decide) rfl ?_
        refine WL.skipU (by decide) rfl ?_
        refine WL.skipU (by decide) rfl ?_
        refine WL.skipU (by decide) rfl ?_
        refine WL.skipU (by decide) rfl ?_
        refine WL.skip (by decide) rfl rfl ?_
        refine WL.yld (by decide) (Yld.pickF rfl rfl) ?_
        refine WL.yld (by decide) (Yld.move rfl) ?_
        refine WL.skip (by decide) rfl rfl ?_
        refine WL.yld (by decide) (Yld.pickF rfl rfl) ?_
        refine WL.yld (by decide) (Yld.assign rfl) ?_
        refine WL.done (hK75 _ _ ?_)
        refine WC.ret ?_
        injection h with h; subst h
        exact Ret.fn [] (ResIs.one rfl rfl) rfl (Ext.trans (Ext.trans (Ext.trans hm_M15 hm_M65) hm_M67) hm_M69) rfl (by decide) rfl rfl ⟨rfl, rfl⟩
    · replace h := of_f hc76 h
      refine WL.yld (by decide) (Yld.move rfl) ?_
      refine WL.yld (by decide) (Yld.move rfl) ?_
      refine WL.new (v' := .bool false) (congrArg Value.bool (Bool.eq_false_iff.2 hc76)) ?_
      refine WL.skip (by decide) rfl rfl ?_
      refine WL.skip (by decide) rfl rfl ?_
      refine WL.skip (by decide) rfl rfl ?_
      refine WL.skip (by decide) rfl rfl ?_
      refine WL.skip (by decide) rfl rfl ?_
      refine WL.yld (by decide) (Yld.pickF rfl rfl) ?_
      refine WL.yld (by decide) (Yld.move rfl) ?_
      refine WL.skip (by decide) rfl rfl ?_
      refine WL.skip (by decide) rfl rfl ?_
      refine WL.skip (by decide) rfl rfl ?_
      refine WL.skipU (by decide) rfl ?_
      refine WL.skipU (by decide) rfl ?_
      refine WL.skipU (by decide) rfl ?_
      refine WL.skipU (by decide) rfl ?_
      refine WL.skipU (by decide) rfl ?_
      refine WL.skipU (by decide) rfl ?_
      refine WL.skipU (by decide) rfl ?_
      refine WL.skip (by decide) rfl rfl ?_
      refine WL.yld (by decide) (Yld.pickF rfl rfl) ?_
      refine WL.yld (by decide) (Yld.move rfl) ?_
      refine WL.skip (by decide) rfl rfl ?_
      refine WL.yld (by decide) (Yld.pickF rfl rfl) ?_
      refine WL.yld (by decide) (Yld.assign rfl) ?_
      refine WL.done (hK75 _ _ ?_)
      refine WC.ret ?_
      injection h with h; subst h
      exact Ret.fn [] (ResIs.one rfl rfl) rfl (Ext.trans (Ext.trans (Ext.trans hm_M15 hm_M65) hm_M67) hm_M69) rfl (by decide) rfl rfl ⟨rfl, rfl⟩

end Go.Proofs.Ytnbcphofimicdaa
