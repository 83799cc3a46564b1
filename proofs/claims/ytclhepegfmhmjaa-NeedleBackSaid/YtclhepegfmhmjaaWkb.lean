/-
  Walks (b): what a function's model gives, the function returns. Printed by a program of ours (vcm.py) from the function's operations. Conditions: as each theorem says.
-/
import Derived.Test.YtclhepegfmhmjaaWka
import Derived.Test.YtclhepegfmhmjaaMdb
namespace Go.Proofs.Ytclhepegfmhmjaa
open Go Go.RowKit
set_option linter.unusedVariables false

theorem und_3 : Try.prog.underlying 3 = some (.int .i64) := by kernel_rfl
theorem und_4 : Try.prog.underlying 4 = some .bool := by kernel_rfl
theorem und_9 : Try.prog.underlying 9 = some .string := by kernel_rfl
theorem agg_26 : Agg Try.prog 26 4 := ⟨⟨_, Try.underlying26, rfl⟩, by kernel_rfl⟩
theorem bu_26_ : Try.prog.built 26 [] = some ([U64 0#64, U32 0#32, .bool false, .slice none 0 0] : List Value).toArray := by kernel_rfl
theorem bu_26_0_1_2_3 : ∀ (a0 : BitVec 64) (a1 : BitVec 32) (a2 : Bool) (a3 : Option Addr) (n3 c3 : Nat), Try.prog.built 26 [(0, U64 a0), (1, U32 a1), (2, .bool a2), (3, .slice a3 n3 c3)] = some ([U64 a0, U32 a1, .bool a2, .slice a3 n3 c3] : List Value).toArray := fun a0 a1 a2 a3 n3 c3 => by kernel_rfl
theorem bu_26_2 : ∀ (a2 : Bool), Try.prog.built 26 [(2, .bool a2)] = some ([U64 0#64, U32 0#32, .bool a2, .slice none 0 0] : List Value).toArray := fun a2 => by kernel_rfl
theorem bu_48_ : Try.prog.built 48 [] = some ([.slice none 0 0] : List Value).toArray := by kernel_rfl
theorem mixed : Try.prog.follows .mixedOrders = true := by kernel_rfl
theorem nm_10 : (Try.f10.name == "runtime.NumGoroutine") = false := by kernel_rfl
theorem nm_11 : (Try.f11.name == "runtime.NumGoroutine") = false := by kernel_rfl
theorem nm_12 : (Try.f12.name == "runtime.NumGoroutine") = false := by kernel_rfl
theorem nm_13 : (Try.f13.name == "runtime.NumGoroutine") = false := by kernel_rfl
theorem nm_16 : (Try.f16.name == "runtime.NumGoroutine") = false := by kernel_rfl
theorem nm_18 : (Try.f18.name == "runtime.NumGoroutine") = false := by kernel_rfl
theorem nm_21 : (Try.f21.name == "runtime.NumGoroutine") = false := by kernel_rfl
theorem nm_22 : (Try.f22.name == "runtime.NumGoroutine") = false := by kernel_rfl
theorem nm_23 : (Try.f23.name == "runtime.NumGoroutine") = false := by kernel_rfl
theorem nm_24 : (Try.f24.name == "runtime.NumGoroutine") = false := by kernel_rfl
theorem nm_25 : (Try.f25.name == "runtime.NumGoroutine") = false := by kernel_rfl
theorem nm_26 : (Try.f26.name == "runtime.NumGoroutine") = false := by kernel_rfl
theorem nm_27 : (Try.f27.name == "runtime.NumGoroutine") = false := by kernel_rfl
theorem nm_28 : (Try.f28.name == "runtime.NumGoroutine") = false := by kernel_rfl
theorem nm_29 : (Try.f29.name == "runtime.NumGoroutine") = false := by kernel_rfl
theorem nz_22 : (Try.prog.info? 22).map (fun i => decide (i.size = 0)) = some false := by kernel_rfl
theorem nz_23 : (Try.prog.info? 23).map (fun i => decide (i.size = 0)) = some false := by kernel_rfl
theorem scal_22 : scal Try.prog 22 = true := by kernel_rfl
theorem scal_23 : scal Try.prog 23 = true := by kernel_rfl
theorem siz_24 : (Try.prog.info? 24).map (·.size) = some 1 := by kernel_rfl
theorem siz_5 : (Try.prog.info? 5).map (·.size) = some 1 := by kernel_rfl
theorem zr_26 : (Try.prog.info? 26).map (fun i => i.zero.map (·.cells)) = some (some ([U64 0#64, U32 0#32, .bool false, .slice none 0 0] : List Value).toArray) := by kernel_rfl

set_option maxRecDepth 10000 in
theorem w_slices_Equal_byte_byte (M0 : Mem) (A00 : Option Addr) (n00 c00 : Nat) (x00 : List (BitVec 8)) (hf00 : SlT M0 A00 n00 c00 x00) (A01 : Option Addr) (n01 c01 : Nat) (x01 : List (BitVec 8)) (hf01 : SlT M0 A01 n01 c01 x01) {res : Bool} (h : m_slices_Equal_byte_byte x00 x01 = some res) :
    Fn Try.prog 27 #[.slice A00 n00 c00, .slice A01 n01 c01] M0 fun r M' es => r = .bool res ∧ es = [] := by
  refine Fn.intro (N := 26) Try.func27 rfl rfl (Nat.le_of_ble_eq_true rfl) fun w0 => ?_
  unfold m_slices_Equal_byte_byte at h
  refine WC.seqRegion fun K1 hK1 => ?_
  refine WL.yld (by decide) (Yld.assign rfl) ?_
  refine WL.done (hK1 _ _ ?_)
  refine WC.seq fun K2 hK2 => ?_
  refine WC.seqRegion fun K3 hK3 => ?_
  refine WL.yld (by decide) (Yld.move rfl) ?_
  refine WL.yld (by decide) (Yld.lenC (xs := x00) und_24 rfl (RdH.memM (k := 0) rfl hf00)) ?_
  refine WL.yld (by decide) (Yld.move rfl) ?_
  refine WL.yld (by decide) (Yld.lenC (xs := x01) und_24 rfl (RdH.memM (k := 0) rfl hf01)) ?_
  refine WL.yld (by decide) (Yld.neqI rfl rfl) ?_
  refine WL.done (hK3 _ _ ?_)
  by_cases hc4 : (x00.length : Int) = (x01.length : Int)
  · replace h := of_t hc4 h
    refine WC.condFe rfl (bne_eq_false_iff_eq.2 hc4) ?_
    refine WC.skip ?_
    refine QK.thenN (hK2 _ _ ?_)
    refine WC.seqCut (σ := Unit) (fun _ => []) (fun _ => [(0, .mem M0)]) (fun _ => m_slices_Equal_byte_byte_j0 = some res) (fun K5 hK5 => ?_) ?_
    · skip
      refine WC.seqRegion fun K6 hK6 => ?_
      refine WL.yld (by decide) (Yld.move rfl) ?_
      refine WL.yld (by decide) (Yld.lenC (xs := x00) und_24 rfl (RdH.memM (k := 0) rfl hf00)) ?_
      refine WL.yld (by decide) (Yld.move rfl) ?_
      refine WL.done (hK6 _ _ ?_)
      refine WC.block ?_
      refine WC.loop (σ := Nat × Int) (fun ⟨q8, x7⟩ => [(0, .slice A00 n00 c00), (1, .slice A01 n01 c01), (12, I64 (x00.length : Int)), (13, I64 x7)]) (fun ⟨q8, x7⟩ => [(0, .mem M0)]) (fun ⟨q8, x7⟩ => m_slices_Equal_byte_byte_l1 x00 x01 q8 x7 = some res) (fun ⟨q8, x7⟩ => q8) ⟨forever, (0 : Int)⟩ ?_ (Sub.cons rfl (Sub.cons rfl (Sub.cons rfl (Sub.cons rfl (Sub.nil _))))) (Sub.cons rfl (Sub.nil _)) ?_
      · exact h
      rintro ⟨q8, x7⟩ h K9 hK9
      cases q8 with
      | zero => exact absurd h (by simp [m_slices_Equal_byte_byte_l1])
      | succ q8 =>
        unfold m_slices_Equal_byte_byte_l1 at h
        refine WC.seqRegion fun K10 hK10 => ?_
        refine WL.yld (by decide) (Yld.lss rfl rfl) ?_
        refine WL.done (hK10 _ _ ?_)
        refine WC.seq fun K11 hK11 => ?_
        by_cases hc12 : x7 < (x00.length : Int)
        · replace h := of_t hc12 h
          refine WC.condTe rfl (decide_eq_true hc12) ?_
          refine WC.skip ?_
          refine QK.thenN (hK11 _ _ ?_)
          refine WC.seq fun K13 hK13 => ?_
          refine WC.block ?_
          refine WC.seqRegion fun K14 hK14 => ?_
          refine WL.yld (by decide) (Yld.move rfl) ?_
          refine WL.yld (by decide) (Yld.assign rfl) ?_
          refine WL.done (hK14 _ _ ?_)
          refine WC.seqRegionD (n := 9) [(0, _)] rfl mixed (Sub.cons rfl (Sub.nil _)) fun K15 hK15 => ?_
          obtain ⟨x16, hx16, h⟩ := bnd h
          obtain ⟨x17, hx17, h⟩ := bnd h
          refine WD.take 0 rfl (by kernel_rfl) (by kernel_rfl) (by kernel_rfl) (by decide) (Yld.move rfl) ?_
          refine WD.take 1 rfl (by kernel_rfl) (by kernel_rfl) (by kernel_rfl) (by decide) (Yld.move rfl) ?_
          refine WD.take 2 rfl (by kernel_rfl) (by kernel_rfl) (by kernel_rfl) (by decide) (Yld.idxC (xs := x00) sty_24 rfl rfl (RdH.memM (k := 0) rfl hf00) hx16) ?_
          refine WD.take 3 rfl (by kernel_rfl) (by kernel_rfl) (by kernel_rfl) (by decide) (Yld.loadC0 (xs := x00) scal_5 rfl (RdH.memM (k := 0) rfl hf00) hx16 rfl) ?_
          refine WD.take 4 rfl (by kernel_rfl) (by kernel_rfl) (by kernel_rfl) (by decide) (Yld.move rfl) ?_
          refine WD.take 5 rfl (by kernel_rfl) (by kernel_rfl) (by kernel_rfl) (by decide) (Yld.move rfl) ?_
          refine WD.take 6 rfl (by kernel_rfl) (by kernel_rfl) (by kernel_rfl) (by decide) (Yld.idxC (xs := x01) sty_24 rfl rfl (RdH.memM (k := 0) rfl hf01) hx17) ?_
          refine WD.take 7 rfl (by kernel_rfl) (by kernel_rfl) (by kernel_rfl) (by decide) (Yld.loadC0 (xs := x01) scal_5 rfl (RdH.memM (k := 0) rfl hf01) hx17 rfl) ?_
          refine WD.take 8 rfl (by kernel_rfl) (by kernel_rfl) (by kernel_rfl) (by decide) (Yld.neq_u8 (a := x16) (b := x17) rfl rfl) ?_
          refine WD.done (by kernel_rfl) (hK15 _ _ ?_)
          by_cases hc18 : x16 = x17
          · replace h := of_t hc18 h
            refine WC.condFe rfl (bne_eq_false_iff_eq.2 hc18) ?_
            refine WC.skip ?_
            refine QK.blockN ?_
            refine QK.thenN (hK13 _ _ ?_)
            refine WC.region fun K19 hK19 => ?_
            obtain ⟨x20, hx20, h⟩ := bnd h
            refine WL.yld (by decide) (Yld.addC rfl rfl hx20) ?_
            refine WL.yld (by decide) (Yld.move rfl) ?_
            refine WL.done (hK19 _ _ ?_)
            refine QK.thenN ?_
            refine hK9 ⟨q8, x20⟩ _ _ ?_ (Nat.lt_succ_self _) (Sub.cons rfl (Sub.cons rfl (Sub.cons rfl (Sub.cons rfl (Sub.nil _))))) (Sub.cons rfl (Sub.nil _))
            exact h
          · replace h := of_f hc18 h
            refine WC.condTe rfl (bne_iff_ne.2 hc18) ?_
            refine WC.seqRegion fun K21 hK21 => ?_
            refine WL.yld (by decide) (Yld.assign rfl) ?_
            refine WL.done (hK21 _ _ ?_)
            refine WC.ret (QK.blockR (QK.thenR (QK.thenR (QK.blockR (QK.thenR ?_)))))
            injection h with h; subst h
            exact Ret.fn [] (ResIs.one rfl rfl) rfl (Ext.refl _ _) rfl (by decide) rfl rfl ⟨rfl, rfl⟩
        · replace h := of_f hc12 h
          refine WC.condFe rfl (decide_eq_false hc12) ?_
          refine WC.exit (QK.thenE (QK.thenE (QK.blockX ?_)))
          refine QK.thenN ?_
          refine hK5 () _ _ ?_ (Sub.nil _) (Sub.cons rfl (Sub.nil _))
          exact h
    · rintro _ h
      unfold m_slices_Equal_byte_byte_j0 at h
      refine WC.seqRegion fun K22 hK22 => ?_
      refine WL.yld (by decide) (Yld.assign rfl) ?_
      refine WL.done (hK22 _ _ ?_)
      refine WC.ret ?_
      injection h with h; subst h
      exact Ret.fn [] (ResIs.one rfl rfl) rfl (Ext.refl _ _) rfl (by decide) rfl rfl ⟨rfl, rfl⟩
  · replace h := of_f hc4 h
    refine WC.condTe rfl (bne_iff_ne.2 hc4) ?_
    refine WC.seqRegion fun K23 hK23 => ?_
    refine WL.yld (by decide) (Yld.assign rfl) ?_
    refine WL.done (hK23 _ _ ?_)
    refine WC.ret (QK.thenR ?_)
    injection h with h; subst h
    exact Ret.fn [] (ResIs.one rfl rfl) rfl (Ext.refl _ _) rfl (by decide) rfl rfl ⟨rfl, rfl⟩

set_option maxRecDepth 10000 in
theorem w_r06_Encode (M0 : Mem) (x00_0 : BitVec 64) (x00_1 : BitVec 32) (x00_2 : Bool) (A00_3 : Option Addr) (n00_3 c00_3 : Nat) (x00_3 : List (BitVec 8)) (hf00_3 : SlT M0 A00_3 n00_3 c00_3 x00_3) {res : (List (BitVec 8)) × Int} (h : m_r06_Encode x00_0 x00_1 x00_2 x00_3 = some res) :
    Fn Try.prog 17 #[.agg ([U64 x00_0, U32 x00_1, .bool x00_2, .slice A00_3 n00_3 c00_3] : List Value).toArray] M0 fun r M' es => ∃ (A1 : Option Addr) (n1 c1 : Nat), r = .tuple #[.slice A1 n1 c1, I64 res.2] ∧ es = [.own 5 (Lay.sz (BitVec 8)) A1 n1 c1 (cel res.1)] := by
  refine Fn.intro (N := 54) Try.func17 rfl rfl (Nat.le_of_ble_eq_true rfl) fun w0 => ?_
  unfold m_r06_Encode at h
  refine WC.seqRegion fun K1 hK1 => ?_
  refine WL.eff (by decide) (Eff.box 102 (us := [U64 x00_0, U32 x00_1, .bool x00_2, .slice A00_3 n00_3 c00_3]) rfl rfl rfl) ?_
  rintro _ _ ⟨g2, rfl, rfl⟩
  refine WL.yld (by decide) (Yld.assign rfl) ?_
  refine WL.yld (by decide) (Yld.assign rfl) ?_
  refine WL.done (hK1 _ _ ?_)
  refine WC.seq fun K3 hK3 => ?_
  refine WC.seqRegion fun K4 hK4 => ?_
  refine WL.yld (by decide) (Yld.fieldAddr Try.underlying26 rfl nz_24 rfl rfl) ?_
  refine WL.yld (by decide) (Yld.loadB (k := 102) scal_24 rfl rfl rfl) ?_
  refine WL.yld (by decide) (Yld.lenC (xs := x00_3) und_24 rfl (RdH.memM (k := 0) rfl hf00_3)) ?_
  refine WL.yld (by decide) (Yld.gtr rfl rfl) ?_
  refine WL.done (hK4 _ _ ?_)
  by_cases hc5 : (4096 : Int) < (x00_3.length : Int)
  · replace h := of_t hc5 h
    refine WC.condTe rfl (decide_eq_true hc5) ?_
    refine WC.seqRegion fun K6 hK6 => ?_
    refine WL.yld (by decide) (Yld.assign rfl) ?_
    refine WL.yld (by decide) (Yld.assign rfl) ?_
    refine WL.done (hK6 _ _ ?_)
    refine WC.ret (QK.thenR ?_)
    refine QK.nilOwn 107 5 (Lay.sz (BitVec 8)) none ?_
    injection h with h; subst h
    exact Ret.fn [107] (ResIs.two rfl rfl rfl) rfl (Ext.refl _ _) rfl (by decide) rfl rfl ⟨none, 0, 0, rfl, rfl⟩
  · replace h := of_f hc5 h
    refine WC.condFe rfl (decide_eq_false hc5) ?_
    refine WC.skip ?_
    refine QK.thenN (hK3 _ _ ?_)
    refine WC.seq fun K8 hK8 => ?_
    refine WC.seqRegion fun K9 hK9 => ?_
    obtain ⟨x10, hx10, h⟩ := bnd h
    refine WL.yld (by decide) (Yld.loadBM (k := 102) agg_26 rfl rfl rfl) ?_
    refine WL.eff (by decide) (Eff.callS 111 rfl Try.func13 nm_13 rfl rfl (fun w hb hh => w_r06_Valid (Mem.snap w) x00_0 x00_1 x00_2 A00_3 n00_3 c00_3 _ (RdH.sn (RdH.memM (k := 0) rfl hf00_3) w hb hh) hx10)) ?_
    rintro _ _ ⟨_, ⟨rfl, rfl⟩, rfl⟩
    refine WL.yld (by decide) (Yld.notB rfl) ?_
    refine WL.done (hK9 _ _ ?_)
    by_cases hc12 : x10 = true
    · replace h := of_t hc12 h
      refine WC.condFe rfl (not_f hc12) ?_
      refine WC.skip ?_
      refine QK.thenN (hK8 _ _ ?_)
      refine WC.seqRegion fun K13 hK13 => ?_
      refine WL.eff (by decide) (Eff.buildC 114 ([78#8, 165#8, 0#8, 0#8] : List (BitVec 8)) sty_24 rfl rfl rfl rfl rfl (by decide)) ?_
      rintro _ _ ⟨g14, rfl, rfl⟩
      refine WL.yld (by decide) (Yld.assign rfl) ?_
      refine WL.done (hK13 _ _ ?_)
      refine WC.seqCut (σ := (List (BitVec 8))) (fun x15 => [(1, .pointer (some ⟨g2, 0, none⟩)), (4, .slice (some ⟨g14, 0, none⟩) (([78#8, 165#8, 0#8, 0#8] : List (BitVec 8)).length) (([78#8, 165#8, 0#8, 0#8] : List (BitVec 8)).length))]) (fun x15 => [(0, .mem M0), (102, .blk g2 26 [U64 x00_0, U32 x00_1, .bool x00_2, .slice A00_3 n00_3 c00_3]), (114, .own 5 (Lay.sz (BitVec 8)) (some ⟨g14, 0, none⟩) (([78#8, 165#8, 0#8, 0#8] : List (BitVec 8)).length) (([78#8, 165#8, 0#8, 0#8] : List (BitVec 8)).length) (cel x15))]) (fun x15 => m_r06_Encode_j0 x00_0 x00_1 x00_3 x15 = some res) (fun K16 hK16 => ?_) ?_
      · skip
        refine WC.seqRegion fun K17 hK17 => ?_
        refine WL.yld (by decide) (Yld.fieldAddr Try.underlying26 rfl nz_4 rfl rfl) ?_
        refine WL.yld (by decide) (Yld.loadB (k := 102) scal_4 rfl rfl rfl) ?_
        refine WL.done (hK17 _ _ ?_)
        by_cases hc18 : x00_2 = true
        · replace h := of_t hc18 h
          refine WC.condTe rfl hc18 ?_
          refine WC.region fun K19 hK19 => ?_
          obtain ⟨x20, hx20, h⟩ := bnd h
          obtain ⟨x21, hx21, h⟩ := bnd h
          refine WL.yld (by decide) (Yld.move rfl) ?_
          refine WL.yld (by decide) (Yld.idxC (xs := ([78#8, 165#8, 0#8, 0#8] : List (BitVec 8))) sty_24 rfl rfl (RdH.own (k := 114) rfl) hx20) ?_
          refine WL.eff0 (Eff0.storeC1 114 (xs := ([78#8, 165#8, 0#8, 0#8] : List (BitVec 8))) (a' := 1#8) siz_5 rfl rfl rfl rfl rfl rfl hx21) ?_
          refine WL.done (hK19 _ _ ?_)
          refine QK.thenN ?_
          refine hK16 x21 _ _ ?_ (Sub.cons rfl (Sub.cons rfl (Sub.nil _))) (Sub.cons rfl (Sub.cons rfl (Sub.cons rfl (Sub.nil _))))
          exact h
        · replace h := of_f hc18 h
          refine WC.condFe rfl (Bool.eq_false_iff.2 hc18) ?_
          refine WC.skip ?_
          refine QK.thenN ?_
          refine hK16 ([78#8, 165#8, 0#8, 0#8] : List (BitVec 8)) _ _ ?_ (Sub.cons rfl (Sub.cons rfl (Sub.nil _))) (Sub.cons rfl (Sub.cons rfl (Sub.cons rfl (Sub.nil _))))
          exact h
      · rintro x15 h
        unfold m_r06_Encode_j0 at h
        refine WC.seqRegion fun K22 hK22 => ?_
        obtain ⟨x23, hx23, h⟩ := bnd h
        obtain ⟨x31, hx31, h⟩ := bnd h
        refine WL.yld (by decide) (Yld.move rfl) ?_
        refine WL.yld (by decide) (Yld.fieldAddr Try.underlying26 rfl nz_23 rfl rfl) ?_
        refine WL.yld (by decide) (Yld.loadB (k := 102) scal_23 rfl rfl rfl) ?_
        refine WL.yld (by decide) (Yld.conv_u32_u64 (a := x00_1) some_23 und_22 rfl) ?_
        refine WL.eff (by decide) (Eff.callS 127 rfl Try.func24 nm_24 rfl rfl (fun w hb hh => w_r06_Number (Mem.snap w) (x00_1.setWidth 64) (4 : Int) hx23)) ?_
        rintro _ _ ⟨_, ⟨A28, n29, c30, rfl, rfl⟩, rfl⟩
        refine WL.eff (by decide) (Eff.appendC 114 (xs := x15) (ys := x23) sty_24 rfl rfl rfl (RdH.own (k := 127) rfl) hx31) ?_
        rintro _ _ ⟨A32, c33, rfl, rfl⟩
        refine WL.yld (by decide) (Yld.assign rfl) ?_
        refine WL.done (hK22 _ _ ?_)
        refine WC.seqRegion fun K34 hK34 => ?_
        obtain ⟨x35, hx35, h⟩ := bnd h
        obtain ⟨x43, hx43, h⟩ := bnd h
        refine WL.yld (by decide) (Yld.move rfl) ?_
        refine WL.yld (by decide) (Yld.fieldAddr Try.underlying26 rfl nz_22 rfl rfl) ?_
        refine WL.yld (by decide) (Yld.loadB (k := 102) scal_22 rfl rfl rfl) ?_
        refine WL.eff (by decide) (Eff.callS 139 rfl Try.func24 nm_24 rfl rfl (fun w hb hh => w_r06_Number (Mem.snap w) x00_0 (8 : Int) hx35)) ?_
        rintro _ _ ⟨_, ⟨A40, n41, c42, rfl, rfl⟩, rfl⟩
        refine WL.eff (by decide) (Eff.appendC 114 (xs := x31) (ys := x35) sty_24 rfl rfl rfl (RdH.own (k := 139) rfl) hx43) ?_
        rintro _ _ ⟨A44, c45, rfl, rfl⟩
        refine WL.yld (by decide) (Yld.assign rfl) ?_
        refine WL.done (hK34 _ _ ?_)
        refine WC.seqRegion fun K46 hK46 => ?_
        obtain ⟨x47, hx47, h⟩ := bnd h
        obtain ⟨x55, hx55, h⟩ := bnd h
        refine WL.yld (by decide) (Yld.move rfl) ?_
        refine WL.yld (by decide) (Yld.fieldAddr Try.underlying26 rfl nz_24 rfl rfl) ?_
        refine WL.yld (by decide) (Yld.loadB (k := 102) scal_24 rfl rfl rfl) ?_
        refine WL.yld (by decide) (Yld.lenC (xs := x00_3) und_24 rfl (RdH.memM (k := 0) rfl hf00_3)) ?_
        refine WL.yld (by decide) (Yld.conv_i64_u64 some_3 und_22 rfl) ?_
        refine WL.eff (by decide) (Eff.callS 151 rfl Try.func24 nm_24 rfl rfl (fun w hb hh => w_r06_Number (Mem.snap w) (BitVec.ofInt 64 (x00_3.length : Int)) (4 : Int) hx47)) ?_
        rintro _ _ ⟨_, ⟨A52, n53, c54, rfl, rfl⟩, rfl⟩
        refine WL.eff (by decide) (Eff.appendC 114 (xs := x43) (ys := x47) sty_24 rfl rfl rfl (RdH.own (k := 151) rfl) hx55) ?_
        rintro _ _ ⟨A56, c57, rfl, rfl⟩
        refine WL.yld (by decide) (Yld.assign rfl) ?_
        refine WL.done (hK46 _ _ ?_)
        refine WC.seqRegion fun K58 hK58 => ?_
        obtain ⟨x59, hx59, h⟩ := bnd h
        refine WL.yld (by decide) (Yld.move rfl) ?_
        refine WL.yld (by decide) (Yld.fieldAddr Try.underlying26 rfl nz_24 rfl rfl) ?_
        refine WL.yld (by decide) (Yld.loadB (k := 102) scal_24 rfl rfl rfl) ?_
        refine WL.eff (by decide) (Eff.appendC 114 (xs := x55) (ys := x00_3) sty_24 rfl rfl rfl (RdH.memM (k := 0) rfl hf00_3) hx59) ?_
        rintro _ _ ⟨A60, c61, rfl, rfl⟩
        refine WL.yld (by decide) (Yld.assign rfl) ?_
        refine WL.done (hK58 _ _ ?_)
        refine WC.seqRegion fun K62 hK62 => ?_
        obtain ⟨x63, hx63, h⟩ := bnd h
        obtain ⟨x71, hx71, h⟩ := bnd h
        refine WL.yld (by decide) (Yld.move rfl) ?_
        refine WL.yld (by decide) (Yld.move rfl) ?_
        refine WL.eff (by decide) (Eff.callS 167 rfl Try.func25 nm_25 rfl rfl (fun w hb hh => w_r06_Check (Mem.snap w) A60 x59.length c61 _ (RdH.sn (RdH.own (k := 114) rfl) w hb hh) hx63)) ?_
        rintro _ _ ⟨_, ⟨A68, n69, c70, rfl, rfl⟩, rfl⟩
        refine WL.eff (by decide) (Eff.appendC 114 (xs := x59) (ys := x63) sty_24 rfl rfl rfl (RdH.own (k := 167) rfl) hx71) ?_
        rintro _ _ ⟨A72, c73, rfl, rfl⟩
        refine WL.yld (by decide) (Yld.assign rfl) ?_
        refine WL.done (hK62 _ _ ?_)
        refine WC.seqCut (σ := (Option Addr) × Nat × Nat × (List (BitVec 8))) (fun ⟨A74, n75, c76, x77⟩ => [(4, .slice A74 n75 c76)]) (fun ⟨A74, n75, c76, x77⟩ => [(0, .mem M0), (114, .own 5 (Lay.sz (BitVec 8)) A74 n75 c76 (cel x77))]) (fun ⟨A74, n75, c76, x77⟩ => m_r06_Encode_j1 x77 = some res) (fun K78 hK78 => ?_) ?_
        · skip
          refine WC.block ?_
          refine WC.loop (σ := Nat × (Option Addr) × Nat × Nat × (List (BitVec 8))) (fun ⟨q83, A79, n80, c81, x82⟩ => [(1, .pointer (some ⟨g2, 0, none⟩)), (4, .slice A79 n80 c81)]) (fun ⟨q83, A79, n80, c81, x82⟩ => [(0, .mem M0), (102, .blk g2 26 [U64 x00_0, U32 x00_1, .bool x00_2, .slice A00_3 n00_3 c00_3]), (114, .own 5 (Lay.sz (BitVec 8)) A79 n80 c81 (cel x82))]) (fun ⟨q83, A79, n80, c81, x82⟩ => m_r06_Encode_l2 x00_3 q83 x82 = some res) (fun ⟨q83, A79, n80, c81, x82⟩ => q83) ⟨forever, A72, x71.length, c73, x71⟩ ?_ (Sub.cons rfl (Sub.cons rfl (Sub.nil _))) (Sub.cons rfl (Sub.cons rfl (Sub.cons rfl (Sub.nil _)))) ?_
          · exact h
          rintro ⟨q83, A79, n80, c81, x82⟩ h K84 hK84
          cases q83 with
          | zero => exact absurd h (by simp [m_r06_Encode_l2])
          | succ q83 =>
            unfold m_r06_Encode_l2 at h
            refine WC.seq fun K85 hK85 => ?_
            refine WC.seqRegion fun K86 hK86 => ?_
            obtain ⟨x87, hx87, h⟩ := bnd h
            refine WL.yld (by decide) (Yld.move rfl) ?_
            refine WL.yld (by decide) (Yld.lenC (xs := x82) und_24 rfl (RdH.own (k := 114) rfl)) ?_
            refine WL.yld (by decide) (Yld.fieldAddr Try.underlying26 rfl nz_24 rfl rfl) ?_
            refine WL.yld (by decide) (Yld.loadB (k := 102) scal_24 rfl rfl rfl) ?_
            refine WL.yld (by decide) (Yld.lenC (xs := x00_3) und_24 rfl (RdH.memM (k := 0) rfl hf00_3)) ?_
            refine WL.eff (by decide) (Eff.callS 188 rfl Try.func11 nm_11 rfl rfl (fun w hb hh => w_r06_Size (Mem.snap w) (x00_3.length : Int) hx87)) ?_
            rintro _ _ ⟨_, ⟨rfl, rfl⟩, rfl⟩
            refine WL.yld (by decide) (Yld.lss rfl rfl) ?_
            refine WL.done (hK86 _ _ ?_)
            by_cases hc89 : (x82.length : Int) < x87
            · replace h := of_t hc89 h
              refine WC.condTe rfl (decide_eq_true hc89) ?_
              refine WC.skip ?_
              refine QK.thenN (hK85 _ _ ?_)
              refine WC.block ?_
              refine WC.region fun K90 hK90 => ?_
              obtain ⟨x92, hx92, h⟩ := bnd h
              refine WL.yld (by decide) (Yld.move rfl) ?_
              refine WL.eff (by decide) (Eff.buildC 191 ([0#8] : List (BitVec 8)) sty_24 rfl rfl rfl rfl rfl (by decide)) ?_
              rintro _ _ ⟨g91, rfl, rfl⟩
              refine WL.eff (by decide) (Eff.appendC 114 (xs := x82) (ys := ([0#8] : List (BitVec 8))) sty_24 rfl rfl rfl (RdH.own (k := 191) rfl) hx92) ?_
              rintro _ _ ⟨A93, c94, rfl, rfl⟩
              refine WL.yld (by decide) (Yld.assign rfl) ?_
              refine WL.done (hK90 _ _ ?_)
              refine QK.blockN ?_
              refine QK.thenN ?_
              refine hK84 ⟨q83, A93, x92.length, c94, x92⟩ _ _ ?_ (Nat.lt_succ_self _) (Sub.cons rfl (Sub.cons rfl (Sub.nil _))) (Sub.cons rfl (Sub.cons rfl (Sub.cons rfl (Sub.nil _))))
              exact h
            · replace h := of_f hc89 h
              refine WC.condFe rfl (decide_eq_false hc89) ?_
              refine WC.exit (QK.thenE (QK.thenE (QK.blockX ?_)))
              refine QK.thenN ?_
              refine hK78 ⟨A79, n80, c81, x82⟩ _ _ ?_ (Sub.cons rfl (Sub.nil _)) (Sub.cons rfl (Sub.cons rfl (Sub.nil _)))
              exact h
        · rintro ⟨A74, n75, c76, x77⟩ h
          unfold m_r06_Encode_j1 at h
          refine WC.seqRegion fun K95 hK95 => ?_
          refine WL.yld (by decide) (Yld.move rfl) ?_
          refine WL.yld (by decide) (Yld.assign rfl) ?_
          refine WL.yld (by decide) (Yld.assign rfl) ?_
          refine WL.done (hK95 _ _ ?_)
          refine WC.ret ?_
          injection h with h; subst h
          exact Ret.fn [114] (ResIs.two rfl rfl rfl) rfl (Ext.refl _ _) rfl (by decide) rfl rfl ⟨A74, n75, c76, rfl, rfl⟩
    · replace h := of_f hc12 h
      refine WC.condTe rfl (not_t (Bool.eq_false_iff.2 hc12)) ?_
      refine WC.seqRegion fun K96 hK96 => ?_
      refine WL.yld (by decide) (Yld.assign rfl) ?_
      refine WL.yld (by decide) (Yld.assign rfl) ?_
      refine WL.done (hK96 _ _ ?_)
      refine WC.ret (QK.thenR ?_)
      refine QK.nilOwn 197 5 (Lay.sz (BitVec 8)) none ?_
      injection h with h; subst h
      exact Ret.fn [197] (ResIs.two rfl rfl rfl) rfl (Ext.refl _ _) rfl (by decide) rfl rfl ⟨none, 0, 0, rfl, rfl⟩

set_option maxRecDepth 10000 in
theorem w_needle_Encode (M0 : Mem) (x00_0 : BitVec 64) (x00_1 : BitVec 32) (x00_2 : Bool) (A00_3 : Option Addr) (n00_3 c00_3 : Nat) (x00_3 : List (BitVec 8)) (hf00_3 : SlT M0 A00_3 n00_3 c00_3 x00_3) {res : (List (BitVec 8)) × Int} (h : m_needle_Encode x00_0 x00_1 x00_2 x00_3 = some res) :
    Fn Try.prog 16 #[.agg ([U64 x00_0, U32 x00_1, .bool x00_2, .slice A00_3 n00_3 c00_3] : List Value).toArray] M0 fun r M' es => ∃ (A1 : Option Addr) (n1 c1 : Nat), r = .tuple #[.slice A1 n1 c1, I64 res.2] ∧ es = [.own 5 (Lay.sz (BitVec 8)) A1 n1 c1 (cel res.1)] := by
  refine Fn.intro (N := 79) Try.func16 rfl rfl (Nat.le_of_ble_eq_true rfl) fun w0 => ?_
  unfold m_needle_Encode at h
  refine WC.seqRegion fun K1 hK1 => ?_
  refine WL.eff (by decide) (Eff.box 102 (us := [U64 x00_0, U32 x00_1, .bool x00_2, .slice A00_3 n00_3 c00_3]) rfl rfl rfl) ?_
  rintro _ _ ⟨g2, rfl, rfl⟩
  refine WL.yld (by decide) (Yld.assign rfl) ?_
  refine WL.yld (by decide) (Yld.assign rfl) ?_
  refine WL.done (hK1 _ _ ?_)
  refine WC.seq fun K3 hK3 => ?_
  refine WC.block ?_
  refine WC.seqRegion fun K4 hK4 => ?_
  refine WL.yld (by decide) (Yld.fieldAddr Try.underlying26 rfl nz_24 rfl rfl) ?_
  refine WL.yld (by decide) (Yld.loadB (k := 102) scal_24 rfl rfl rfl) ?_
  refine WL.yld (by decide) (Yld.lenC (xs := x00_3) und_24 rfl (RdH.memM (k := 0) rfl hf00_3)) ?_
  refine WL.yld (by decide) (Yld.gtr rfl rfl) ?_
  refine WL.yld (by decide) (Yld.assign rfl) ?_
  refine WL.done (hK4 _ _ ?_)
  by_cases hc5 : (4096 : Int) < (x00_3.length : Int)
  · replace h := of_t hc5 h
    refine WC.condTe rfl (decide_eq_true hc5) ?_
    refine WC.seqRegion fun K6 hK6 => ?_
    refine WL.yld (by decide) (Yld.assign rfl) ?_
    refine WL.yld (by decide) (Yld.assign rfl) ?_
    refine WL.done (hK6 _ _ ?_)
    refine WC.ret (QK.blockR (QK.thenR ?_))
    refine QK.nilOwn 107 5 (Lay.sz (BitVec 8)) none ?_
    injection h with h; subst h
    exact Ret.fn [107] (ResIs.two rfl rfl rfl) rfl (Ext.refl _ _) rfl (by decide) rfl rfl ⟨none, 0, 0, rfl, rfl⟩
  · replace h := of_f hc5 h
    refine WC.condFe rfl (decide_eq_false hc5) ?_
    refine WC.seqRegion fun K8 hK8 => ?_
    obtain ⟨x9, hx9, h⟩ := bnd h
    refine WL.yld (by decide) (Yld.loadBM (k := 102) agg_26 rfl rfl rfl) ?_
    refine WL.eff (by decide) (Eff.callS 110 rfl Try.func12 nm_12 rfl rfl (fun w hb hh => w_needle_Valid (Mem.snap w) x00_0 x00_1 x00_2 A00_3 n00_3 c00_3 _ (RdH.sn (RdH.memM (k := 0) rfl hf00_3) w hb hh) hx9)) ?_
    rintro _ _ ⟨_, ⟨rfl, rfl⟩, rfl⟩
    refine WL.yld (by decide) (Yld.notB rfl) ?_
    refine WL.yld (by decide) (Yld.assign rfl) ?_
    refine WL.done (hK8 _ _ ?_)
    by_cases hc11 : x9 = true
    · replace h := of_t hc11 h
      refine WC.condFe rfl (not_f hc11) ?_
      refine WC.skip ?_
      refine QK.blockN ?_
      refine QK.thenN (hK3 _ _ ?_)
      refine WC.seqRegion fun K12 hK12 => ?_
      refine WL.yld (by decide) (Yld.build rfl (bu_48_)) ?_
      refine WL.eff (by decide) (Eff.box 113 (us := [.slice none 0 0]) rfl rfl rfl) ?_
      rintro _ _ ⟨g13, rfl, rfl⟩
      refine WL.yld (by decide) (Yld.assign rfl) ?_
      refine WL.done (hK12 _ _ ?_)
      refine WC.seqRegion fun K14 hK14 => ?_
      refine WL.yld (by decide) (Yld.move rfl) ?_
      refine WL.yld (by decide) (Yld.makeFunc rfl rfl) ?_
      refine WL.yld (by decide) (Yld.assign rfl) ?_
      refine WL.done (hK14 _ _ ?_)
      refine WC.seqRegion fun K15 hK15 => ?_
      refine WL.yld (by decide) (Yld.assign (v := U64 0#64) rfl) ?_
      refine WL.done (hK15 _ _ ?_)
      refine WC.seqCut (σ := (BitVec 64)) (fun x16 => [(1, .pointer (some ⟨g2, 0, none⟩)), (4, .pointer (some ⟨g13, 0, none⟩)), (5, .func (.func 21) #[.pointer (some ⟨g13, 0, none⟩)] #[]), (6, U64 x16)]) (fun x16 => [(0, .mem M0), (102, .blk g2 26 [U64 x00_0, U32 x00_1, .bool x00_2, .slice A00_3 n00_3 c00_3]), (113, .blk g13 48 [.slice none 0 0])]) (fun x16 => m_needle_Encode_j0 x00_0 x00_1 x00_3 x16 = some res) (fun K17 hK17 => ?_) ?_
      · skip
        refine WC.seqRegion fun K18 hK18 => ?_
        refine WL.yld (by decide) (Yld.fieldAddr Try.underlying26 rfl nz_4 rfl rfl) ?_
        refine WL.yld (by decide) (Yld.loadB (k := 102) scal_4 rfl rfl rfl) ?_
        refine WL.done (hK18 _ _ ?_)
        by_cases hc19 : x00_2 = true
        · replace h := of_t hc19 h
          refine WC.condTe rfl hc19 ?_
          refine WC.region fun K20 hK20 => ?_
          refine WL.yld (by decide) (Yld.assign (v := U64 1#64) rfl) ?_
          refine WL.done (hK20 _ _ ?_)
          refine QK.thenN ?_
          refine hK17 1#64 _ _ ?_ (Sub.cons rfl (Sub.cons rfl (Sub.cons rfl (Sub.cons rfl (Sub.nil _))))) (Sub.cons rfl (Sub.cons rfl (Sub.cons rfl (Sub.nil _))))
          exact h
        · replace h := of_f hc19 h
          refine WC.condFe rfl (Bool.eq_false_iff.2 hc19) ?_
          refine WC.skip ?_
          refine QK.thenN ?_
          refine hK17 0#64 _ _ ?_ (Sub.cons rfl (Sub.cons rfl (Sub.cons rfl (Sub.cons rfl (Sub.nil _))))) (Sub.cons rfl (Sub.cons rfl (Sub.cons rfl (Sub.nil _))))
          exact h
      · rintro x16 h
        unfold m_needle_Encode_j0 at h
        refine WC.seqRegion fun K21 hK21 => ?_
        refine WL.yld (by decide) (Yld.move rfl) ?_
        refine WL.inlV (by decide) rfl Try.func21 nm_21 rfl rfl (Tri.intro (N := 27) Try.func21 rfl rfl (Nat.le_of_ble_eq_true rfl) ?_)
        refine WC.seqRegion fun K22 hK22 => ?_
        obtain ⟨x23, hx23, h⟩ := bnd h
        refine WL.yld (by decide) (Yld.move rfl) ?_
        refine WL.yld (by decide) (Yld.subC rfl rfl hx23) ?_
        refine WL.yld (by decide) (Yld.assign rfl) ?_
        refine WL.done (hK22 _ _ ?_)
        refine WC.block ?_
        refine WC.nilOwn 125 5 (Lay.sz (BitVec 8)) none ?_
        refine WC.loop (σ := Nat × (Option Addr) × Nat × Nat × (List (BitVec 8)) × Int) (fun ⟨q31, A26, n27, c28, x29, x30⟩ => [(0, .pointer (some ⟨g13, 0, none⟩)), (1, U64 78#64), (6, I64 x30)]) (fun ⟨q31, A26, n27, c28, x29, x30⟩ => [(0, .mem M0), (102, .blk g2 26 [U64 x00_0, U32 x00_1, .bool x00_2, .slice A00_3 n00_3 c00_3]), (113, .blk g13 48 [.slice A26 n27 c28]), (125, .own 5 (Lay.sz (BitVec 8)) A26 n27 c28 (cel x29))]) (fun ⟨q31, A26, n27, c28, x29, x30⟩ => m_needle_Encode_l1 x00_0 x00_1 x00_3 x16 q31 x29 x30 = some res) (fun ⟨q31, A26, n27, c28, x29, x30⟩ => q31) ⟨forever, none, 0, 0, ([] : List (BitVec 8)), x23⟩ ?_ (Sub.cons rfl (Sub.cons rfl (Sub.cons rfl (Sub.nil _)))) (Sub.cons rfl (Sub.cons rfl (Sub.cons rfl (Sub.cons rfl (Sub.nil _))))) ?_
        · exact h
        rintro ⟨q31, A26, n27, c28, x29, x30⟩ h K32 hK32
        cases q31 with
        | zero => exact absurd h (by simp [m_needle_Encode_l1])
        | succ q31 =>
          unfold m_needle_Encode_l1 at h
          refine WC.seq fun K33 hK33 => ?_
          refine WC.seqRegion fun K34 hK34 => ?_
          refine WL.yld (by decide) (Yld.move rfl) ?_
          refine WL.yld (by decide) (Yld.geq rfl rfl) ?_
          refine WL.done (hK34 _ _ ?_)
          by_cases hc35 : (0 : Int) ≤ x30
          · replace h := of_t hc35 h
            refine WC.condTe rfl (decide_eq_true hc35) ?_
            refine WC.skip ?_
            refine QK.thenN (hK33 _ _ ?_)
            refine WC.seq fun K36 hK36 => ?_
            refine WC.block ?_
            refine WC.regionD (n := 15) [(102, _)] rfl mixed (Sub.cons rfl (Sub.nil _)) fun K37 hK37 => ?_
            obtain ⟨x38, hx38, h⟩ := bnd h
            obtain ⟨x39, hx39, h⟩ := bnd h
            obtain ⟨x41, hx41, h⟩ := bnd h
            refine WD.take 0 rfl (by kernel_rfl) (by kernel_rfl) (by kernel_rfl) (by decide) (Yld.move rfl) ?_
            refine WD.take 1 rfl (by kernel_rfl) (by kernel_rfl) (by kernel_rfl) (by decide) (Yld.move rfl) ?_
            refine WD.take 2 rfl (by kernel_rfl) (by kernel_rfl) (by kernel_rfl) (by decide) (Yld.nilCheckP rfl) ?_
            refine WD.take 3 rfl (by kernel_rfl) (by kernel_rfl) (by kernel_rfl) (by decide) (Yld.fieldAddr Try.underlying48 rfl nz_24 rfl rfl) ?_
            refine WD.take 5 rfl (by kernel_rfl) (by kernel_rfl) (by kernel_rfl) (by decide) (Yld.move rfl) ?_
            refine WD.take 6 rfl (by kernel_rfl) (by kernel_rfl) (by kernel_rfl) (by decide) (Yld.move rfl) ?_
            refine WD.take 7 rfl (by kernel_rfl) (by kernel_rfl) (by kernel_rfl) (by decide) (Yld.mulC rfl rfl hx38) ?_
            refine WD.take 8 rfl (by kernel_rfl) (by kernel_rfl) (by kernel_rfl) (by decide) (Yld.shrC_u64 (a := 78#64) rfl rfl hx39) ?_
            refine WD.take 9 rfl (by kernel_rfl) (by kernel_rfl) (by kernel_rfl) (by decide) (Yld.conv_u64_u8 (a := x39) some_22 und_5 rfl) ?_
            refine WD.two 4 10 (by kernel_rfl) ?_ ?_
            · skip
              refine WS.yld rfl (by decide) (Yld.loadB (k := 113) scal_24 rfl rfl rfl) ?_
              refine WD.one 10 (by kernel_rfl) ?_
              refine WS.eff rfl (by decide) (Eff.buildC 140 ([x39.setWidth 8] : List (BitVec 8)) sty_24 rfl rfl rfl rfl rfl (by decide)) ?_
              rintro _ _ ⟨g40, rfl, rfl⟩
              refine ⟨(Sub.cons rfl (Sub.nil _)), ?_⟩
              refine WD.one 11 (by kernel_rfl) ?_
              refine WS.eff rfl (by decide) (Eff.appendC 125 (xs := x29) (ys := ([x39.setWidth 8] : List (BitVec 8))) sty_24 rfl rfl rfl (RdH.own (k := 140) rfl) hx41) ?_
              rintro _ _ ⟨A42, c43, rfl, rfl⟩
              refine ⟨(Sub.cons rfl (Sub.nil _)), ?_⟩
              refine WD.take 12 rfl (by kernel_rfl) (by kernel_rfl) (by kernel_rfl) (by decide) (Yld.nilCheckP rfl) ?_
              refine WD.take 13 rfl (by kernel_rfl) (by kernel_rfl) (by kernel_rfl) (by decide) (Yld.fieldAddr Try.underlying48 rfl nz_24 rfl rfl) ?_
              refine WD.one 14 (by kernel_rfl) ?_
              refine WS.eff0 rfl (Eff0.storeB 113 siz_24 rfl rfl rfl rfl (Nat.le_of_ble_eq_true rfl)) (Sub.cons rfl (Sub.nil _)) ?_
              refine WD.done (by kernel_rfl) (hK37 _ _ ?_)
              refine QK.blockN ?_
              refine QK.thenN (hK36 _ _ ?_)
              refine WC.region fun K44 hK44 => ?_
              obtain ⟨x45, hx45, h⟩ := bnd h
              refine WL.yld (by decide) (Yld.move rfl) ?_
              refine WL.yld (by decide) (Yld.subC rfl rfl hx45) ?_
              refine WL.yld (by decide) (Yld.assign rfl) ?_
              refine WL.done (hK44 _ _ ?_)
              refine QK.thenN ?_
              refine hK32 ⟨q31, A42, x41.length, c43, x41, x45⟩ _ _ ?_ (Nat.lt_succ_self _) (Sub.cons rfl (Sub.cons rfl (Sub.cons rfl (Sub.nil _)))) (Sub.cons rfl (Sub.cons rfl (Sub.cons rfl (Sub.cons rfl (Sub.nil _)))))
              exact h
            · skip
              refine WS.eff rfl (by decide) (Eff.buildC 140 ([x39.setWidth 8] : List (BitVec 8)) sty_24 rfl rfl rfl rfl rfl (by decide)) ?_
              rintro _ _ ⟨g40, rfl, rfl⟩
              refine ⟨(Sub.cons rfl (Sub.nil _)), ?_⟩
              refine WD.one 4 (by kernel_rfl) ?_
              refine WS.yld rfl (by decide) (Yld.loadB (k := 113) scal_24 rfl rfl rfl) ?_
              refine WD.one 11 (by kernel_rfl) ?_
              refine WS.eff rfl (by decide) (Eff.appendC 125 (xs := x29) (ys := ([x39.setWidth 8] : List (BitVec 8))) sty_24 rfl rfl rfl (RdH.own (k := 140) rfl) hx41) ?_
              rintro _ _ ⟨A42, c43, rfl, rfl⟩
              refine ⟨(Sub.cons rfl (Sub.nil _)), ?_⟩
              refine WD.take 12 rfl (by kernel_rfl) (by kernel_rfl) (by kernel_rfl) (by decide) (Yld.nilCheckP rfl) ?_
              refine WD.take 13 rfl (by kernel_rfl) (by kernel_rfl) (by kernel_rfl) (by decide) (Yld.fieldAddr Try.underlying48 rfl nz_24 rfl rfl) ?_
              refine WD.one 14 (by kernel_rfl) ?_
              refine WS.eff0 rfl (Eff0.storeB 113 siz_24 rfl rfl rfl rfl (Nat.le_of_ble_eq_true rfl)) (Sub.cons rfl (Sub.nil _)) ?_
              refine WD.done (by kernel_rfl) (hK37 _ _ ?_)
              refine QK.blockN ?_
              refine QK.thenN (hK36 _ _ ?_)
              refine WC.region fun K46 hK46 => ?_
              obtain ⟨x47, hx47, h⟩ := bnd h
              refine WL.yld (by decide) (Yld.move rfl) ?_
              refine WL.yld (by decide) (Yld.subC rfl rfl hx47) ?_
              refine WL.yld (by decide) (Yld.assign rfl) ?_
              refine WL.done (hK46 _ _ ?_)
              refine QK.thenN ?_
              refine hK32 ⟨q31, A42, x41.length, c43, x41, x47⟩ _ _ ?_ (Nat.lt_succ_self _) (Sub.cons rfl (Sub.cons rfl (Sub.cons rfl (Sub.nil _)))) (Sub.cons rfl (Sub.cons rfl (Sub.cons rfl (Sub.cons rfl (Sub.nil _)))))
              exact h
          · replace h := of_f hc35 h
            refine WC.condFe rfl (decide_eq_false hc35) ?_
            refine WC.exit (QK.thenE (QK.thenE (QK.blockX ?_)))
            refine Ret.goN (ResIs.zero rfl) ?_
            refine WL.done (hK21 _ _ ?_)
            refine WC.seqRegion fun K48 hK48 => ?_
            refine WL.yld (by decide) (Yld.move rfl) ?_
            refine WL.inlV (by decide) rfl Try.func21 nm_21 rfl rfl (Tri.intro (N := 27) Try.func21 rfl rfl (Nat.le_of_ble_eq_true rfl) ?_)
            refine WC.seqRegion fun K49 hK49 => ?_
            obtain ⟨x50, hx50, h⟩ := bnd h
            refine WL.yld (by decide) (Yld.move rfl) ?_
            refine WL.yld (by decide) (Yld.subC rfl rfl hx50) ?_
            refine WL.yld (by decide) (Yld.assign rfl) ?_
            refine WL.done (hK49 _ _ ?_)
            refine WC.block ?_
            refine WC.loop (σ := Nat × (Option Addr) × Nat × Nat × (List (BitVec 8)) × Int) (fun ⟨q56, A51, n52, c53, x54, x55⟩ => [(0, .pointer (some ⟨g13, 0, none⟩)), (1, U64 165#64), (6, I64 x55)]) (fun ⟨q56, A51, n52, c53, x54, x55⟩ => [(0, .mem M0), (102, .blk g2 26 [U64 x00_0, U32 x00_1, .bool x00_2, .slice A00_3 n00_3 c00_3]), (113, .blk g13 48 [.slice A51 n52 c53]), (125, .own 5 (Lay.sz (BitVec 8)) A51 n52 c53 (cel x54))]) (fun ⟨q56, A51, n52, c53, x54, x55⟩ => m_needle_Encode_l2 x00_0 x00_1 x00_3 x16 q56 x54 x55 = some res) (fun ⟨q56, A51, n52, c53, x54, x55⟩ => q56) ⟨forever, A26, n27, c28, x29, x50⟩ ?_ (Sub.cons rfl (Sub.cons rfl (Sub.cons rfl (Sub.nil _)))) (Sub.cons rfl (Sub.cons rfl (Sub.cons rfl (Sub.cons rfl (Sub.nil _))))) ?_
            · exact h
            rintro ⟨q56, A51, n52, c53, x54, x55⟩ h K57 hK57
            cases q56 with
            | zero => exact absurd h (by simp [m_needle_Encode_l2])
            | succ q56 =>
              unfold m_needle_Encode_l2 at h
              refine WC.seq fun K58 hK58 => ?_
              refine WC.seqRegion fun K59 hK59 => ?_
              refine WL.yld (by decide) (Yld.move rfl) ?_
              refine WL.yld (by decide) (Yld.geq rfl rfl) ?_
              refine WL.done (hK59 _ _ ?_)
              by_cases hc60 : (0 : Int) ≤ x55
              · replace h := of_t hc60 h
                refine WC.condTe rfl (decide_eq_true hc60) ?_
                refine WC.skip ?_
                refine QK.thenN (hK58 _ _ ?_)
                refine WC.seq fun K61 hK61 => ?_
                refine WC.block ?_
                refine WC.regionD (n := 15) [(102, _)] rfl mixed (Sub.cons rfl (Sub.nil _)) fun K62 hK62 => ?_
                obtain ⟨x63, hx63, h⟩ := bnd h
                obtain ⟨x64, hx64, h⟩ := bnd h
                obtain ⟨x66, hx66, h⟩ := bnd h
                refine WD.take 0 rfl (by kernel_rfl) (by kernel_rfl) (by kernel_rfl) (by decide) (Yld.move rfl) ?_
                refine WD.take 1 rfl (by kernel_rfl) (by kernel_rfl) (by kernel_rfl) (by decide) (Yld.move rfl) ?_
                refine WD.take 2 rfl (by kernel_rfl) (by kernel_rfl) (by kernel_rfl) (by decide) (Yld.nilCheckP rfl) ?_
                refine WD.take 3 rfl (by kernel_rfl) (by kernel_rfl) (by kernel_rfl) (by decide) (Yld.fieldAddr Try.underlying48 rfl nz_24 rfl rfl) ?_
                refine WD.take 5 rfl (by kernel_rfl) (by kernel_rfl) (by kernel_rfl) (by decide) (Yld.move rfl) ?_
                refine WD.take 6 rfl (by kernel_rfl) (by kernel_rfl) (by kernel_rfl) (by decide) (Yld.move rfl) ?_
                refine WD.take 7 rfl (by kernel_rfl) (by kernel_rfl) (by kernel_rfl) (by decide) (Yld.mulC rfl rfl hx63) ?_
                refine WD.take 8 rfl (by kernel_rfl) (by kernel_rfl) (by kernel_rfl) (by decide) (Yld.shrC_u64 (a := 165#64) rfl rfl hx64) ?_
                refine WD.take 9 rfl (by kernel_rfl) (by kernel_rfl) (by kernel_rfl) (by decide) (Yld.conv_u64_u8 (a := x64) some_22 und_5 rfl) ?_
                refine WD.two 4 10 (by kernel_rfl) ?_ ?_
                · skip
                  refine WS.yld rfl (by decide) (Yld.loadB (k := 113) scal_24 rfl rfl rfl) ?_
                  refine WD.one 10 (by kernel_rfl) ?_
                  refine WS.eff rfl (by decide) (Eff.buildC 165 ([x64.setWidth 8] : List (BitVec 8)) sty_24 rfl rfl rfl rfl rfl (by decide)) ?_
                  rintro _ _ ⟨g65, rfl, rfl⟩
                  refine ⟨(Sub.cons rfl (Sub.nil _)), ?_⟩
                  refine WD.one 11 (by kernel_rfl) ?_
                  refine WS.eff rfl (by decide) (Eff.appendC 125 (xs := x54) (ys := ([x64.setWidth 8] : List (BitVec 8))) sty_24 rfl rfl rfl (RdH.own (k := 165) rfl) hx66) ?_
                  rintro _ _ ⟨A67, c68, rfl, rfl⟩
                  refine ⟨(Sub.cons rfl (Sub.nil _)), ?_⟩
                  refine WD.take 12 rfl (by kernel_rfl) (by kernel_rfl) (by kernel_rfl) (by decide) (Yld.nilCheckP rfl) ?_
                  refine WD.take 13 rfl (by kernel_rfl) (by kernel_rfl) (by kernel_rfl) (by decide) (Yld.fieldAddr Try.underlying48 rfl nz_24 rfl rfl) ?_
                  refine WD.one 14 (by kernel_rfl) ?_
                  refine WS.eff0 rfl (Eff0.storeB 113 siz_24 rfl rfl rfl rfl (Nat.le_of_ble_eq_true rfl)) (Sub.cons rfl (Sub.nil _)) ?_
                  refine WD.done (by kernel_rfl) (hK62 _ _ ?_)
                  refine QK.blockN ?_
                  refine QK.thenN (hK61 _ _ ?_)
                  refine WC.region fun K69 hK69 => ?_
                  obtain ⟨x70, hx70, h⟩ := bnd h
                  refine WL.yld (by decide) (Yld.move rfl) ?_
                  refine WL.yld (by decide) (Yld.subC rfl rfl hx70) ?_
                  refine WL.yld (by decide) (Yld.assign rfl) ?_
                  refine WL.done (hK69 _ _ ?_)
                  refine QK.thenN ?_
                  refine hK57 ⟨q56, A67, x66.length, c68, x66, x70⟩ _ _ ?_ (Nat.lt_succ_self _) (Sub.cons rfl (Sub.cons rfl (Sub.cons rfl (Sub.nil _)))) (Sub.cons rfl (Sub.cons rfl (Sub.cons rfl (Sub.cons rfl (Sub.nil _)))))
                  exact h
                · skip
                  refine WS.eff rfl (by decide) (Eff.buildC 165 ([x64.setWidth 8] : List (BitVec 8)) sty_24 rfl rfl rfl rfl rfl (by decide)) ?_
                  rintro _ _ ⟨g65, rfl, rfl⟩
                  refine ⟨(Sub.cons rfl (Sub.nil _)), ?_⟩
                  refine WD.one 4 (by kernel_rfl) ?_
                  refine WS.yld rfl (by decide) (Yld.loadB (k := 113) scal_24 rfl rfl rfl) ?_
                  refine WD.one 11 (by kernel_rfl) ?_
                  refine WS.eff rfl (by decide) (Eff.appendC 125 (xs := x54) (ys := ([x64.setWidth 8] : List (BitVec 8))) sty_24 rfl rfl rfl (RdH.own (k := 165) rfl) hx66) ?_
                  rintro _ _ ⟨A67, c68, rfl, rfl⟩
                  refine ⟨(Sub.cons rfl (Sub.nil _)), ?_⟩
                  refine WD.take 12 rfl (by kernel_rfl) (by kernel_rfl) (by kernel_rfl) (by decide) (Yld.nilCheckP rfl) ?_
                  refine WD.take 13 rfl (by kernel_rfl) (by kernel_rfl) (by kernel_rfl) (by decide) (Yld.fieldAddr Try.underlying48 rfl nz_24 rfl rfl) ?_
                  refine WD.one 14 (by kernel_rfl) ?_
                  refine WS.eff0 rfl (Eff0.storeB 113 siz_24 rfl rfl rfl rfl (Nat.le_of_ble_eq_true rfl)) (Sub.cons rfl (Sub.nil _)) ?_
                  refine WD.done (by kernel_rfl) (hK62 _ _ ?_)
                  refine QK.blockN ?_
                  refine QK.thenN (hK61 _ _ ?_)
                  refine WC.region fun K71 hK71 => ?_
                  obtain ⟨x72, hx72, h⟩ := bnd h
                  refine WL.yld (by decide) (Yld.move rfl) ?_
                  refine WL.yld (by decide) (Yld.subC rfl rfl hx72) ?_
                  refine WL.yld (by decide) (Yld.assign rfl) ?_
                  refine WL.done (hK71 _ _ ?_)
                  refine QK.thenN ?_
                  refine hK57 ⟨q56, A67, x66.length, c68, x66, x72⟩ _ _ ?_ (Nat.lt_succ_self _) (Sub.cons rfl (Sub.cons rfl (Sub.cons rfl (Sub.nil _)))) (Sub.cons rfl (Sub.cons rfl (Sub.cons rfl (Sub.cons rfl (Sub.nil _)))))
                  exact h
              · replace h := of_f hc60 h
                refine WC.condFe rfl (decide_eq_false hc60) ?_
                refine WC.exit (QK.thenE (QK.thenE (QK.blockX ?_)))
                refine Ret.goN (ResIs.zero rfl) ?_
                refine WL.done (hK48 _ _ ?_)
                refine WC.seqRegion fun K73 hK73 => ?_
                refine WL.yld (by decide) (Yld.move rfl) ?_
                refine WL.yld (by decide) (Yld.move rfl) ?_
                refine WL.inlV (by decide) rfl Try.func21 nm_21 rfl rfl (Tri.intro (N := 27) Try.func21 rfl rfl (Nat.le_of_ble_eq_true rfl) ?_)
                refine WC.seqRegion fun K74 hK74 => ?_
                obtain ⟨x75, hx75, h⟩ := bnd h
                refine WL.yld (by decide) (Yld.move rfl) ?_
                refine WL.yld (by decide) (Yld.subC rfl rfl hx75) ?_
                refine WL.yld (by decide) (Yld.assign rfl) ?_
                refine WL.done (hK74 _ _ ?_)
                refine WC.block ?_
                refine WC.loop (σ := Nat × (Option Addr) × Nat × Nat × (List (BitVec 8)) × Int) (fun ⟨q81, A76, n77, c78, x79, x80⟩ => [(0, .pointer (some ⟨g13, 0, none⟩)), (1, U64 x16), (6, I64 x80)]) (fun ⟨q81, A76, n77, c78, x79, x80⟩ => [(0, .mem M0), (102, .blk g2 26 [U64 x00_0, U32 x00_1, .bool x00_2, .slice A00_3 n00_3 c00_3]), (113, .blk g13 48 [.slice A76 n77 c78]), (125, .own 5 (Lay.sz (BitVec 8)) A76 n77 c78 (cel x79))]) (fun ⟨q81, A76, n77, c78, x79, x80⟩ => m_needle_Encode_l3 x00_0 x00_1 x00_3 x16 q81 x79 x80 = some res) (fun ⟨q81, A76, n77, c78, x79, x80⟩ => q81) ⟨forever, A51, n52, c53, x54, x75⟩ ?_ (Sub.cons rfl (Sub.cons rfl (Sub.cons rfl (Sub.nil _)))) (Sub.cons rfl (Sub.cons rfl (Sub.cons rfl (Sub.cons rfl (Sub.nil _))))) ?_
                · exact h
                rintro ⟨q81, A76, n77, c78, x79, x80⟩ h K82 hK82
                cases q81 with
                | zero => exact absurd h (by simp [m_needle_Encode_l3])
                | succ q81 =>
                  unfold m_needle_Encode_l3 at h
                  refine WC.seq fun K83 hK83 => ?_
                  refine WC.seqRegion fun K84 hK84 => ?_
                  refine WL.yld (by decide) (Yld.move rfl) ?_
                  refine WL.yld (by decide) (Yld.geq rfl rfl) ?_
                  refine WL.done (hK84 _ _ ?_)
                  by_cases hc85 : (0 : Int) ≤ x80
                  · replace h := of_t hc85 h
                    refine WC.condTe rfl (decide_eq_true hc85) ?_
                    refine WC.skip ?_
                    refine QK.thenN (hK83 _ _ ?_)
                    refine WC.seq fun K86 hK86 => ?_
                    refine WC.block ?_
                    refine WC.regionD (n := 15) [(102, _)] rfl mixed (Sub.cons rfl (Sub.nil _)) fun K87 hK87 => ?_
                    obtain ⟨x88, hx88, h⟩ := bnd h
                    obtain ⟨x89, hx89, h⟩ := bnd h
                    obtain ⟨x91, hx91, h⟩ := bnd h
                    refine WD.take 0 rfl (by kernel_rfl) (by kernel_rfl) (by kernel_rfl) (by decide) (Yld.move rfl) ?_
                    refine WD.take 1 rfl (by kernel_rfl) (by kernel_rfl) (by kernel_rfl) (by decide) (Yld.move rfl) ?_
                    refine WD.take 2 rfl (by kernel_rfl) (by kernel_rfl) (by kernel_rfl) (by decide) (Yld.nilCheckP rfl) ?_
                    refine WD.take 3 rfl (by kernel_rfl) (by kernel_rfl) (by kernel_rfl) (by decide) (Yld.fieldAddr Try.underlying48 rfl nz_24 rfl rfl) ?_
                    refine WD.take 5 rfl (by kernel_rfl) (by kernel_rfl) (by kernel_rfl) (by decide) (Yld.move rfl) ?_
                    refine WD.take 6 rfl (by kernel_rfl) (by kernel_rfl) (by kernel_rfl) (by decide) (Yld.move rfl) ?_
                    refine WD.take 7 rfl (by kernel_rfl) (by kernel_rfl) (by kernel_rfl) (by decide) (Yld.mulC rfl rfl hx88) ?_
                    refine WD.take 8 rfl (by kernel_rfl) (by kernel_rfl) (by kernel_rfl) (by decide) (Yld.shrC_u64 (a := x16) rfl rfl hx89) ?_
                    refine WD.take 9 rfl (by kernel_rfl) (by kernel_rfl) (by kernel_rfl) (by decide) (Yld.conv_u64_u8 (a := x89) some_22 und_5 rfl) ?_
                    refine WD.two 4 10 (by kernel_rfl) ?_ ?_
                    · skip
                      refine WS.yld rfl (by decide) (Yld.loadB (k := 113) scal_24 rfl rfl rfl) ?_
                      refine WD.one 10 (by kernel_rfl) ?_
                      refine WS.eff rfl (by decide) (Eff.buildC 190 ([x89.setWidth 8] : List (BitVec 8)) sty_24 rfl rfl rfl rfl rfl (by decide)) ?_
                      rintro _ _ ⟨g90, rfl, rfl⟩
                      refine ⟨(Sub.cons rfl (Sub.nil _)), ?_⟩
                      refine WD.one 11 (by kernel_rfl) ?_
                      refine WS.eff rfl (by decide) (Eff.appendC 125 (xs := x79) (ys := ([x89.setWidth 8] : List (BitVec 8))) sty_24 rfl rfl rfl (RdH.own (k := 190) rfl) hx91) ?_
                      rintro _ _ ⟨A92, c93, rfl, rfl⟩
                      refine ⟨(Sub.cons rfl (Sub.nil _)), ?_⟩
                      refine WD.take 12 rfl (by kernel_rfl) (by kernel_rfl) (by kernel_rfl) (by decide) (Yld.nilCheckP rfl) ?_
                      refine WD.take 13 rfl (by kernel_rfl) (by kernel_rfl) (by kernel_rfl) (by decide) (Yld.fieldAddr Try.underlying48 rfl nz_24 rfl rfl) ?_
                      refine WD.one 14 (by kernel_rfl) ?_
                      refine WS.eff0 rfl (Eff0.storeB 113 siz_24 rfl rfl rfl rfl (Nat.le_of_ble_eq_true rfl)) (Sub.cons rfl (Sub.nil _)) ?_
                      refine WD.done (by kernel_rfl) (hK87 _ _ ?_)
                      refine QK.blockN ?_
                      refine QK.thenN (hK86 _ _ ?_)
                      refine WC.region fun K94 hK94 => ?_
                      obtain ⟨x95, hx95, h⟩ := bnd h
                      refine WL.yld (by decide) (Yld.move rfl) ?_
                      refine WL.yld (by decide) (Yld.subC rfl rfl hx95) ?_
                      refine WL.yld (by decide) (Yld.assign rfl) ?_
                      refine WL.done (hK94 _ _ ?_)
                      refine QK.thenN ?_
                      refine hK82 ⟨q81, A92, x91.length, c93, x91, x95⟩ _ _ ?_ (Nat.lt_succ_self _) (Sub.cons rfl (Sub.cons rfl (Sub.cons rfl (Sub.nil _)))) (Sub.cons rfl (Sub.cons rfl (Sub.cons rfl (Sub.cons rfl (Sub.nil _)))))
                      exact h
                    · skip
                      refine WS.eff rfl (by decide) (Eff.buildC 190 ([x89.setWidth 8] : List (BitVec 8)) sty_24 rfl rfl rfl rfl rfl (by decide)) ?_
                      rintro _ _ ⟨g90, rfl, rfl⟩
                      refine ⟨(Sub.cons rfl (Sub.nil _)), ?_⟩
                      refine WD.one 4 (by kernel_rfl) ?_
                      refine WS.yld rfl (by decide) (Yld.loadB (k := 113) scal_24 rfl rfl rfl) ?_
                      refine WD.one 11 (by kernel_rfl) ?_
                      refine WS.eff rfl (by decide) (Eff.appendC 125 (xs := x79) (ys := ([x89.setWidth 8] : List (BitVec 8))) sty_24 rfl rfl rfl (RdH.own (k := 190) rfl) hx91) ?_
                      rintro _ _ ⟨A92, c93, rfl, rfl⟩
                      refine ⟨(Sub.cons rfl (Sub.nil _)), ?_⟩
                      refine WD.take 12 rfl (by kernel_rfl) (by kernel_rfl) (by kernel_rfl) (by decide) (Yld.nilCheckP rfl) ?_
                      refine WD.take 13 rfl (by kernel_rfl) (by kernel_rfl) (by kernel_rfl) (by decide) (Yld.fieldAddr Try.underlying48 rfl nz_24 rfl rfl) ?_
                      refine WD.one 14 (by kernel_rfl) ?_
                      refine WS.eff0 rfl (Eff0.storeB 113 siz_24 rfl rfl rfl rfl (Nat.le_of_ble_eq_true rfl)) (Sub.cons rfl (Sub.nil _)) ?_
                      refine WD.done (by kernel_rfl) (hK87 _ _ ?_)
                      refine QK.blockN ?_
                      refine QK.thenN (hK86 _ _ ?_)
                      refine WC.region fun K96 hK96 => ?_
                      obtain ⟨x97, hx97, h⟩ := bnd h
                      refine WL.yld (by decide) (Yld.move rfl) ?_
                      refine WL.yld (by decide) (Yld.subC rfl rfl hx97) ?_
                      refine WL.yld (by decide) (Yld.assign rfl) ?_
                      refine WL.done (hK96 _ _ ?_)
                      refine QK.thenN ?_
                      refine hK82 ⟨q81, A92, x91.length, c93, x91, x97⟩ _ _ ?_ (Nat.lt_succ_self _) (Sub.cons rfl (Sub.cons rfl (Sub.cons rfl (Sub.nil _)))) (Sub.cons rfl (Sub.cons rfl (Sub.cons rfl (Sub.cons rfl (Sub.nil _)))))
                      exact h
                  · replace h := of_f hc85 h
                    refine WC.condFe rfl (decide_eq_false hc85) ?_
                    refine WC.exit (QK.thenE (QK.thenE (QK.blockX ?_)))
                    refine Ret.goN (ResIs.zero rfl) ?_
                    refine WL.done (hK73 _ _ ?_)
                    refine WC.seqRegion fun K98 hK98 => ?_
                    refine WL.yld (by decide) (Yld.move rfl) ?_
                    refine WL.inlV (by decide) rfl Try.func21 nm_21 rfl rfl (Tri.intro (N := 27) Try.func21 rfl rfl (Nat.le_of_ble_eq_true rfl) ?_)
                    refine WC.seqRegion fun K99 hK99 => ?_
                    obtain ⟨x100, hx100, h⟩ := bnd h
                    refine WL.yld (by decide) (Yld.move rfl) ?_
                    refine WL.yld (by decide) (Yld.subC rfl rfl hx100) ?_
                    refine WL.yld (by decide) (Yld.assign rfl) ?_
                    refine WL.done (hK99 _ _ ?_)
                    refine WC.block ?_
                    refine WC.loop (σ := Nat × (Option Addr) × Nat × Nat × (List (BitVec 8)) × Int) (fun ⟨q106, A101, n102, c103, x104, x105⟩ => [(0, .pointer (some ⟨g13, 0, none⟩)), (1, U64 0#64), (6, I64 x105)]) (fun ⟨q106, A101, n102, c103, x104, x105⟩ => [(0, .mem M0), (102, .blk g2 26 [U64 x00_0, U32 x00_1, .bool x00_2, .slice A00_3 n00_3 c00_3]), (113, .blk g13 48 [.slice A101 n102 c103]), (125, .own 5 (Lay.sz (BitVec 8)) A101 n102 c103 (cel x104))]) (fun ⟨q106, A101, n102, c103, x104, x105⟩ => m_needle_Encode_l4 x00_0 x00_1 x00_3 q106 x104 x105 = some res) (fun ⟨q106, A101, n102, c103, x104, x105⟩ => q106) ⟨forever, A76, n77, c78, x79, x100⟩ ?_ (Sub.cons rfl (Sub.cons rfl (Sub.cons rfl (Sub.nil _)))) (Sub.cons rfl (Sub.cons rfl (Sub.cons rfl (Sub.cons rfl (Sub.nil _))))) ?_
                    · exact h
                    rintro ⟨q106, A101, n102, c103, x104, x105⟩ h K107 hK107
                    cases q106 with
                    | zero => exact absurd h (by simp [m_needle_Encode_l4])
                    | succ q106 =>
                      unfold m_needle_Encode_l4 at h
                      refine WC.seq fun K108 hK108 => ?_
                      refine WC.seqRegion fun K109 hK109 => ?_
                      refine WL.yld (by decide) (Yld.move rfl) ?_
                      refine WL.yld (by decide) (Yld.geq rfl rfl) ?_
                      refine WL.done (hK109 _ _ ?_)
                      by_cases hc110 : (0 : Int) ≤ x105
                      · replace h := of_t hc110 h
                        refine WC.condTe rfl (decide_eq_true hc110) ?_
                        refine WC.skip ?_
                        refine QK.thenN (hK108 _ _ ?_)
                        refine WC.seq fun K111 hK111 => ?_
                        refine WC.block ?_
                        refine WC.regionD (n := 15) [(102, _)] rfl mixed (Sub.cons rfl (Sub.nil _)) fun K112 hK112 => ?_
                        obtain ⟨x113, hx113, h⟩ := bnd h
                        obtain ⟨x114, hx114, h⟩ := bnd h
                        obtain ⟨x116, hx116, h⟩ := bnd h
                        refine WD.take 0 rfl (by kernel_rfl) (by kernel_rfl) (by kernel_rfl) (by decide) (Yld.move rfl) ?_
                        refine WD.take 1 rfl (by kernel_rfl) (by kernel_rfl) (by kernel_rfl) (by decide) (Yld.move rfl) ?_
                        refine WD.take 2 rfl (by kernel_rfl) (by kernel_rfl) (by kernel_rfl) (by decide) (Yld.nilCheckP rfl) ?_
                        refine WD.take 3 rfl (by kernel_rfl) (by kernel_rfl) (by kernel_rfl) (by decide) (Yld.fieldAddr Try.underlying48 rfl nz_24 rfl rfl) ?_
                        refine WD.take 5 rfl (by kernel_rfl) (by kernel_rfl) (by kernel_rfl) (by decide) (Yld.move rfl) ?_
                        refine WD.take 6 rfl (by kernel_rfl) (by kernel_rfl) (by kernel_rfl) (by decide) (Yld.move rfl) ?_
                        refine WD.take 7 rfl (by kernel_rfl) (by kernel_rfl) (by kernel_rfl) (by decide) (Yld.mulC rfl rfl hx113) ?_
                        refine WD.take 8 rfl (by kernel_rfl) (by kernel_rfl) (by kernel_rfl) (by decide) (Yld.shrC_u64 (a := 0#64) rfl rfl hx114) ?_
                        refine WD.take 9 rfl (by kernel_rfl) (by kernel_rfl) (by kernel_rfl) (by decide) (Yld.conv_u64_u8 (a := x114) some_22 und_5 rfl) ?_
                        refine WD.two 4 10 (by kernel_rfl) ?_ ?_
                        · skip
                          refine WS.yld rfl (by decide) (Yld.loadB (k := 113) scal_24 rfl rfl rfl) ?_
                          refine WD.one 10 (by kernel_rfl) ?_
                          refine WS.eff rfl (by decide) (Eff.buildC 215 ([x114.setWidth 8] : List (BitVec 8)) sty_24 rfl rfl rfl rfl rfl (by decide)) ?_
                          rintro _ _ ⟨g115, rfl, rfl⟩
                          refine ⟨(Sub.cons rfl (Sub.nil _)), ?_⟩
                          refine WD.one 11 (by kernel_rfl) ?_
                          refine WS.eff rfl (by decide) (Eff.appendC 125 (xs := x104) (ys := ([x114.setWidth 8] : List (BitVec 8))) sty_24 rfl rfl rfl (RdH.own (k := 215) rfl) hx116) ?_
                          rintro _ _ ⟨A117, c118, rfl, rfl⟩
                          refine ⟨(Sub.cons rfl (Sub.nil _)), ?_⟩
                          refine WD.take 12 rfl (by kernel_rfl) (by kernel_rfl) (by kernel_rfl) (by decide) (Yld.nilCheckP rfl) ?_
                          refine WD.take 13 rfl (by kernel_rfl) (by kernel_rfl) (by kernel_rfl) (by decide) (Yld.fieldAddr Try.underlying48 rfl nz_24 rfl rfl) ?_
                          refine WD.one 14 (by kernel_rfl) ?_
                          refine WS.eff0 rfl (Eff0.storeB 113 siz_24 rfl rfl rfl rfl (Nat.le_of_ble_eq_true rfl)) (Sub.cons rfl (Sub.nil _)) ?_
                          refine WD.done (by kernel_rfl) (hK112 _ _ ?_)
                          refine QK.blockN ?_
                          refine QK.thenN (hK111 _ _ ?_)
                          refine WC.region fun K119 hK119 => ?_
                          obtain ⟨x120, hx120, h⟩ := bnd h
                          refine WL.yld (by decide) (Yld.move rfl) ?_
                          refine WL.yld (by decide) (Yld.subC rfl rfl hx120) ?_
                          refine WL.yld (by decide) (Yld.assign rfl) ?_
                          refine WL.done (hK119 _ _ ?_)
                          refine QK.thenN ?_
                          refine hK107 ⟨q106, A117, x116.length, c118, x116, x120⟩ _ _ ?_ (Nat.lt_succ_self _) (Sub.cons rfl (Sub.cons rfl (Sub.cons rfl (Sub.nil _)))) (Sub.cons rfl (Sub.cons rfl (Sub.cons rfl (Sub.cons rfl (Sub.nil _)))))
                          exact h
                        · skip
                          refine WS.eff rfl (by decide) (Eff.buildC 215 ([x114.setWidth 8] : List (BitVec 8)) sty_24 rfl rfl rfl rfl rfl (by decide)) ?_
                          rintro _ _ ⟨g115, rfl, rfl⟩
                          refine ⟨(Sub.cons rfl (Sub.nil _)), ?_⟩
                          refine WD.one 4 (by kernel_rfl) ?_
                          refine WS.yld rfl (by decide) (Yld.loadB (k := 113) scal_24 rfl rfl rfl) ?_
                          refine WD.one 11 (by kernel_rfl) ?_
                          refine WS.eff rfl (by decide) (Eff.appendC 125 (xs := x104) (ys := ([x114.setWidth 8] : List (BitVec 8))) sty_24 rfl rfl rfl (RdH.own (k := 215) rfl) hx116) ?_
                          rintro _ _ ⟨A117, c118, rfl, rfl⟩
                          refine ⟨(Sub.cons rfl (Sub.nil _)), ?_⟩
                          refine WD.take 12 rfl (by kernel_rfl) (by kernel_rfl) (by kernel_rfl) (by decide) (Yld.nilCheckP rfl) ?_
                          refine WD.take 13 rfl (by kernel_rfl) (by kernel_rfl) (by kernel_rfl) (by decide) (Yld.fieldAddr Try.underlying48 rfl nz_24 rfl rfl) ?_
                          refine WD.one 14 (by kernel_rfl) ?_
                          refine WS.eff0 rfl (Eff0.storeB 113 siz_24 rfl rfl rfl rfl (Nat.le_of_ble_eq_true rfl)) (Sub.cons rfl (Sub.nil _)) ?_
                          refine WD.done (by kernel_rfl) (hK112 _ _ ?_)
                          refine QK.blockN ?_
                          refine QK.thenN (hK111 _ _ ?_)
                          refine WC.region fun K121 hK121 => ?_
                          obtain ⟨x122, hx122, h⟩ := bnd h
                          refine WL.yld (by decide) (Yld.move rfl) ?_
                          refine WL.yld (by decide) (Yld.subC rfl rfl hx122) ?_
                          refine WL.yld (by decide) (Yld.assign rfl) ?_
                          refine WL.done (hK121 _ _ ?_)
                          refine QK.thenN ?_
                          refine hK107 ⟨q106, A117, x116.length, c118, x116, x122⟩ _ _ ?_ (Nat.lt_succ_self _) (Sub.cons rfl (Sub.cons rfl (Sub.cons rfl (Sub.nil _)))) (Sub.cons rfl (Sub.cons rfl (Sub.cons rfl (Sub.cons rfl (Sub.nil _)))))
                          exact h
                      · replace h := of_f hc110 h
                        refine WC.condFe rfl (decide_eq_false hc110) ?_
                        refine WC.exit (QK.thenE (QK.thenE (QK.blockX ?_)))
                        refine Ret.goN (ResIs.zero rfl) ?_
                        refine WL.done (hK98 _ _ ?_)
                        refine WC.seqRegion fun K123 hK123 => ?_
                        refine WL.yld (by decide) (Yld.move rfl) ?_
                        refine WL.yld (by decide) (Yld.fieldAddr Try.underlying26 rfl nz_23 rfl rfl) ?_
                        refine WL.yld (by decide) (Yld.loadB (k := 102) scal_23 rfl rfl rfl) ?_
                        refine WL.yld (by decide) (Yld.conv_u32_u64 (a := x00_1) some_23 und_22 rfl) ?_
                        refine WL.inlV (by decide) rfl Try.func21 nm_21 rfl rfl (Tri.intro (N := 27) Try.func21 rfl rfl (Nat.le_of_ble_eq_true rfl) ?_)
                        refine WC.seqRegion fun K124 hK124 => ?_
                        obtain ⟨x125, hx125, h⟩ := bnd h
                        refine WL.yld (by decide) (Yld.move rfl) ?_
                        refine WL.yld (by decide) (Yld.subC rfl rfl hx125) ?_
                        refine WL.yld (by decide) (Yld.assign rfl) ?_
                        refine WL.done (hK124 _ _ ?_)
                        refine WC.block ?_
                        refine WC.loop (σ := Nat × (Option Addr) × Nat × Nat × (List (BitVec 8)) × Int) (fun ⟨q131, A126, n127, c128, x129, x130⟩ => [(0, .pointer (some ⟨g13, 0, none⟩)), (1, U64 (x00_1.setWidth 64)), (6, I64 x130)]) (fun ⟨q131, A126, n127, c128, x129, x130⟩ => [(0, .mem M0), (102, .blk g2 26 [U64 x00_0, U32 x00_1, .bool x00_2, .slice A00_3 n00_3 c00_3]), (113, .blk g13 48 [.slice A126 n127 c128]), (125, .own 5 (Lay.sz (BitVec 8)) A126 n127 c128 (cel x129))]) (fun ⟨q131, A126, n127, c128, x129, x130⟩ => m_needle_Encode_l5 x00_0 x00_1 x00_3 q131 x129 x130 = some res) (fun ⟨q131, A126, n127, c128, x129, x130⟩ => q131) ⟨forever, A101, n102, c103, x104, x125⟩ ?_ (Sub.cons rfl (Sub.cons rfl (Sub.cons rfl (Sub.nil _)))) (Sub.cons rfl (Sub.cons rfl (Sub.cons rfl (Sub.cons rfl (Sub.nil _))))) ?_
                        · exact h
                        rintro ⟨q131, A126, n127, c128, x129, x130⟩ h K132 hK132
                        cases q131 with
                        | zero => exact absurd h (by simp [m_needle_Encode_l5])
                        | succ q131 =>
                          unfold m_needle_Encode_l5 at h
                          refine WC.seq fun K133 hK133 => ?_
                          refine WC.seqRegion fun K134 hK134 => ?_
                          refine WL.yld (by decide) (Yld.move rfl) ?_
                          refine WL.yld (by decide) (Yld.geq rfl rfl) ?_
                          refine WL.done (hK134 _ _ ?_)
                          by_cases hc135 : (0 : Int) ≤ x130
                          · replace h := of_t hc135 h
                            refine WC.condTe rfl (decide_eq_true hc135) ?_
                            refine WC.skip ?_
                            refine QK.thenN (hK133 _ _ ?_)
                            refine WC.seq fun K136 hK136 => ?_
                            refine WC.block ?_
                            refine WC.regionD (n := 15) [(102, _)] rfl mixed (Sub.cons rfl (Sub.nil _)) fun K137 hK137 => ?_
                            obtain ⟨x138, hx138, h⟩ := bnd h
                            obtain ⟨x139, hx139, h⟩ := bnd h
                            obtain ⟨x141, hx141, h⟩ := bnd h
                            refine WD.take 0 rfl (by kernel_rfl) (by kernel_rfl) (by kernel_rfl) (by decide) (Yld.move rfl) ?_
                            refine WD.take 1 rfl (by kernel_rfl) (by kernel_rfl) (by kernel_rfl) (by decide) (Yld.move rfl) ?_
                            refine WD.take 2 rfl (by kernel_rfl) (by kernel_rfl) (by kernel_rfl) (by decide) (Yld.nilCheckP rfl) ?_
                            refine WD.take 3 rfl (by kernel_rfl) (by kernel_rfl) (by kernel_rfl) (by decide) (Yld.fieldAddr Try.underlying48 rfl nz_24 rfl rfl) ?_
                            refine WD.take 5 rfl (by kernel_rfl) (by kernel_rfl) (by kernel_rfl) (by decide) (Yld.move rfl) ?_
                            refine WD.take 6 rfl (by kernel_rfl) (by kernel_rfl) (by kernel_rfl) (by decide) (Yld.move rfl) ?_
                            refine WD.take 7 rfl (by kernel_rfl) (by kernel_rfl) (by kernel_rfl) (by decide) (Yld.mulC rfl rfl hx138) ?_
                            refine WD.take 8 rfl (by kernel_rfl) (by kernel_rfl) (by kernel_rfl) (by decide) (Yld.shrC_u64 (a := (x00_1.setWidth 64)) rfl rfl hx139) ?_
                            refine WD.take 9 rfl (by kernel_rfl) (by kernel_rfl) (by kernel_rfl) (by decide) (Yld.conv_u64_u8 (a := x139) some_22 und_5 rfl) ?_
                            refine WD.two 4 10 (by kernel_rfl) ?_ ?_
                            · skip
                              refine WS.yld rfl (by decide) (Yld.loadB (k := 113) scal_24 rfl rfl rfl) ?_
                              refine WD.one 10 (by kernel_rfl) ?_
                              refine WS.eff rfl (by decide) (Eff.buildC 240 ([x139.setWidth 8] : List (BitVec 8)) sty_24 rfl rfl rfl rfl rfl (by decide)) ?_
                              rintro _ _ ⟨g140, rfl, rfl⟩
                              refine ⟨(Sub.cons rfl (Sub.nil _)), ?_⟩
                              refine WD.one 11 (by kernel_rfl) ?_
                              refine WS.eff rfl (by decide) (Eff.appendC 125 (xs := x129) (ys := ([x139.setWidth 8] : List (BitVec 8))) sty_24 rfl rfl rfl (RdH.own (k := 240) rfl) hx141) ?_
                              rintro _ _ ⟨A142, c143, rfl, rfl⟩
                              refine ⟨(Sub.cons rfl (Sub.nil _)), ?_⟩
                              refine WD.take 12 rfl (by kernel_rfl) (by kernel_rfl) (by kernel_rfl) (by decide) (Yld.nilCheckP rfl) ?_
                              refine WD.take 13 rfl (by kernel_rfl) (by kernel_rfl) (by kernel_rfl) (by decide) (Yld.fieldAddr Try.underlying48 rfl nz_24 rfl rfl) ?_
                              refine WD.one 14 (by kernel_rfl) ?_
                              refine WS.eff0 rfl (Eff0.storeB 113 siz_24 rfl rfl rfl rfl (Nat.le_of_ble_eq_true rfl)) (Sub.cons rfl (Sub.nil _)) ?_
                              refine WD.done (by kernel_rfl) (hK137 _ _ ?_)
                              refine QK.blockN ?_
                              refine QK.thenN (hK136 _ _ ?_)
                              refine WC.region fun K144 hK144 => ?_
                              obtain ⟨x145, hx145, h⟩ := bnd h
                              refine WL.yld (by decide) (Yld.move rfl) ?_
                              refine WL.yld (by decide) (Yld.subC rfl rfl hx145) ?_
                              refine WL.yld (by decide) (Yld.assign rfl) ?_
                              refine WL.done (hK144 _ _ ?_)
                              refine QK.thenN ?_
                              refine hK132 ⟨q131, A142, x141.length, c143, x141, x145⟩ _ _ ?_ (Nat.lt_succ_self _) (Sub.cons rfl (Sub.cons rfl (Sub.cons rfl (Sub.nil _)))) (Sub.cons rfl (Sub.cons rfl (Sub.cons rfl (Sub.cons rfl (Sub.nil _)))))
                              exact h
                            · skip
                              refine WS.eff rfl (by decide) (Eff.buildC 240 ([x139.setWidth 8] : List (BitVec 8)) sty_24 rfl rfl rfl rfl rfl (by decide)) ?_
                              rintro _ _ ⟨g140, rfl, rfl⟩
                              refine ⟨(Sub.cons rfl (Sub.nil _)), ?_⟩
                              refine WD.one 4 (by kernel_rfl) ?_
                              refine WS.yld rfl (by decide) (Yld.loadB (k := 113) scal_24 rfl rfl rfl) ?_
                              refine WD.one 11 (by kernel_rfl) ?_
                              refine WS.eff rfl (by decide) (Eff.appendC 125 (xs := x129) (ys := ([x139.setWidth 8] : List (BitVec 8))) sty_24 rfl rfl rfl (RdH.own (k := 240) rfl) hx141) ?_
                              rintro _ _ ⟨A142, c143, rfl, rfl⟩
                              refine ⟨(Sub.cons rfl (Sub.nil _)), ?_⟩
                              refine WD.take 12 rfl (by kernel_rfl) (by kernel_rfl) (by kernel_rfl) (by decide) (Yld.nilCheckP rfl) ?_
                              refine WD.take 13 rfl (by kernel_rfl) (by kernel_rfl) (by kernel_rfl) (by decide) (Yld.fieldAddr Try.underlying48 rfl nz_24 rfl rfl) ?_
                              refine WD.one 14 (by kernel_rfl) ?_
                              refine WS.eff0 rfl (Eff0.storeB 113 siz_24 rfl rfl rfl rfl (Nat.le_of_ble_eq_true rfl)) (Sub.cons rfl (Sub.nil _)) ?_
                              refine WD.done (by kernel_rfl) (hK137 _ _ ?_)
                              refine QK.blockN ?_
                              refine QK.thenN (hK136 _ _ ?_)
                              refine WC.region fun K146 hK146 => ?_
                              obtain ⟨x147, hx147, h⟩ := bnd h
                              refine WL.yld (by decide) (Yld.move rfl) ?_
                              refine WL.yld (by decide) (Yld.subC rfl rfl hx147) ?_
                              refine WL.yld (by decide) (Yld.assign rfl) ?_
                              refine WL.done (hK146 _ _ ?_)
                              refine QK.thenN ?_
                              refine hK132 ⟨q131, A142, x141.length, c143, x141, x147⟩ _ _ ?_ (Nat.lt_succ_self _) (Sub.cons rfl (Sub.cons rfl (Sub.cons rfl (Sub.nil _)))) (Sub.cons rfl (Sub.cons rfl (Sub.cons rfl (Sub.cons rfl (Sub.nil _)))))
                              exact h
                          · replace h := of_f hc135 h
                            refine WC.condFe rfl (decide_eq_false hc135) ?_
                            refine WC.exit (QK.thenE (QK.thenE (QK.blockX ?_)))
                            refine Ret.goN (ResIs.zero rfl) ?_
                            refine WL.done (hK123 _ _ ?_)
                            refine WC.seqRegion fun K148 hK148 => ?_
                            refine WL.yld (by decide) (Yld.move rfl) ?_
                            refine WL.yld (by decide) (Yld.fieldAddr Try.underlying26 rfl nz_22 rfl rfl) ?_
                            refine WL.yld (by decide) (Yld.loadB (k := 102) scal_22 rfl rfl rfl) ?_
                            refine WL.inlV (by decide) rfl Try.func21 nm_21 rfl rfl (Tri.intro (N := 27) Try.func21 rfl rfl (Nat.le_of_ble_eq_true rfl) ?_)
                            refine WC.seqRegion fun K149 hK149 => ?_
                            obtain ⟨x150, hx150, h⟩ := bnd h
                            refine WL.yld (by decide) (Yld.move rfl) ?_
                            refine WL.yld (by decide) (Yld.subC rfl rfl hx150) ?_
                            refine WL.yld (by decide) (Yld.assign rfl) ?_
                            refine WL.done (hK149 _ _ ?_)
                            refine WC.block ?_
                            refine WC.loop (σ := Nat × (Option Addr) × Nat × Nat × (List (BitVec 8)) × Int) (fun ⟨q156, A151, n152, c153, x154, x155⟩ => [(0, .pointer (some ⟨g13, 0, none⟩)), (1, U64 x00_0), (6, I64 x155)]) (fun ⟨q156, A151, n152, c153, x154, x155⟩ => [(0, .mem M0), (102, .blk g2 26 [U64 x00_0, U32 x00_1, .bool x00_2, .slice A00_3 n00_3 c00_3]), (113, .blk g13 48 [.slice A151 n152 c153]), (125, .own 5 (Lay.sz (BitVec 8)) A151 n152 c153 (cel x154))]) (fun ⟨q156, A151, n152, c153, x154, x155⟩ => m_needle_Encode_l6 x00_0 x00_3 q156 x154 x155 = some res) (fun ⟨q156, A151, n152, c153, x154, x155⟩ => q156) ⟨forever, A126, n127, c128, x129, x150⟩ ?_ (Sub.cons rfl (Sub.cons rfl (Sub.cons rfl (Sub.nil _)))) (Sub.cons rfl (Sub.cons rfl (Sub.cons rfl (Sub.cons rfl (Sub.nil _))))) ?_
                            · exact h
                            rintro ⟨q156, A151, n152, c153, x154, x155⟩ h K157 hK157
                            cases q156 with
                            | zero => exact absurd h (by simp [m_needle_Encode_l6])
                            | succ q156 =>
                              unfold m_needle_Encode_l6 at h
                              refine WC.seq fun K158 hK158 => ?_
                              refine WC.seqRegion fun K159 hK159 => ?_
                              refine WL.yld (by decide) (Yld.move rfl) ?_
                              refine WL.yld (by decide) (Yld.geq rfl rfl) ?_
                              refine WL.done (hK159 _ _ ?_)
                              by_cases hc160 : (0 : Int) ≤ x155
                              · replace h := of_t hc160 h
                                refine WC.condTe rfl (decide_eq_true hc160) ?_
                                refine WC.skip ?_
                                refine QK.thenN (hK158 _ _ ?_)
                                refine WC.seq fun K161 hK161 => ?_
                                refine WC.block ?_
                                refine WC.regionD (n := 15) [(102, _)] rfl mixed (Sub.cons rfl (Sub.nil _)) fun K162 hK162 => ?_
                                obtain ⟨x163, hx163, h⟩ := bnd h
                                obtain ⟨x164, hx164, h⟩ := bnd h
                                obtain ⟨x166, hx166, h⟩ := bnd h
                                refine WD.take 0 rfl (by kernel_rfl) (by kernel_rfl) (by kernel_rfl) (by decide) (Yld.move rfl) ?_
                                refine WD.take 1 rfl (by kernel_rfl) (by kernel_rfl) (by kernel_rfl) (by decide) (Yld.move rfl) ?_
                                refine WD.take 2 rfl (by kernel_rfl) (by kernel_rfl) (by kernel_rfl) (by decide) (Yld.nilCheckP rfl) ?_
                                refine WD.take 3 rfl (by kernel_rfl) (by kernel_rfl) (by kernel_rfl) (by decide) (Yld.fieldAddr Try.underlying48 rfl nz_24 rfl rfl) ?_
                                refine WD.take 5 rfl (by kernel_rfl) (by kernel_rfl) (by kernel_rfl) (by decide) (Yld.move rfl) ?_
                                refine WD.take 6 rfl (by kernel_rfl) (by kernel_rfl) (by kernel_rfl) (by decide) (Yld.move rfl) ?_
                                refine WD.take 7 rfl (by kernel_rfl) (by kernel_rfl) (by kernel_rfl) (by decide) (Yld.mulC rfl rfl hx163) ?_
                                refine WD.take 8 rfl (by kernel_rfl) (by kernel_rfl) (by kernel_rfl) (by decide) (Yld.shrC_u64 (a := x00_0) rfl rfl hx164) ?_
                                refine WD.take 9 rfl (by kernel_rfl) (by kernel_rfl) (by kernel_rfl) (by decide) (Yld.conv_u64_u8 (a := x164) some_22 und_5 rfl) ?_
                                refine WD.two 4 10 (by kernel_rfl) ?_ ?_
                                · skip
                                  refine WS.yld rfl (by decide) (Yld.loadB (k := 113) scal_24 rfl rfl rfl) ?_
                                  refine WD.one 10 (by kernel_rfl) ?_
                                  refine WS.eff rfl (by decide) (Eff.buildC 265 ([x164.setWidth 8] : List (BitVec 8)) sty_24 rfl rfl rfl rfl rfl (by decide)) ?_
                                  rintro _ _ ⟨g165, rfl, rfl⟩
                                  refine ⟨(Sub.cons rfl (Sub.nil _)), ?_⟩
                                  refine WD.one 11 (by kernel_rfl) ?_
                                  refine WS.eff rfl (by decide) (Eff.appendC 125 (xs := x154) (ys := ([x164.setWidth 8] : List (BitVec 8))) sty_24 rfl rfl rfl (RdH.own (k := 265) rfl) hx166) ?_
                                  rintro _ _ ⟨A167, c168, rfl, rfl⟩
                                  refine ⟨(Sub.cons rfl (Sub.nil _)), ?_⟩
                                  refine WD.take 12 rfl (by kernel_rfl) (by kernel_rfl) (by kernel_rfl) (by decide) (Yld.nilCheckP rfl) ?_
                                  refine WD.take 13 rfl (by kernel_rfl) (by kernel_rfl) (by kernel_rfl) (by decide) (Yld.fieldAddr Try.underlying48 rfl nz_24 rfl rfl) ?_
                                  refine WD.one 14 (by kernel_rfl) ?_
                                  refine WS.eff0 rfl (Eff0.storeB 113 siz_24 rfl rfl rfl rfl (Nat.le_of_ble_eq_true rfl)) (Sub.cons rfl (Sub.nil _)) ?_
                                  refine WD.done (by kernel_rfl) (hK162 _ _ ?_)
                                  refine QK.blockN ?_
                                  refine QK.thenN (hK161 _ _ ?_)
                                  refine WC.region fun K169 hK169 => ?_
                                  obtain ⟨x170, hx170, h⟩ := bnd h
                                  refine WL.yld (by decide) (Yld.move rfl) ?_
                                  refine WL.yld (by decide) (Yld.subC rfl rfl hx170) ?_
                                  refine WL.yld (by decide) (Yld.assign rfl) ?_
                                  refine WL.done (hK169 _ _ ?_)
                                  refine QK.thenN ?_
                                  refine hK157 ⟨q156, A167, x166.length, c168, x166, x170⟩ _ _ ?_ (Nat.lt_succ_self _) (Sub.cons rfl (Sub.cons rfl (Sub.cons rfl (Sub.nil _)))) (Sub.cons rfl (Sub.cons rfl (Sub.cons rfl (Sub.cons rfl (Sub.nil _)))))
                                  exact h
                                · skip
                                  refine WS.eff rfl (by decide) (Eff.buildC 265 ([x164.setWidth 8] : List (BitVec 8)) sty_24 rfl rfl rfl rfl rfl (by decide)) ?_
                                  rintro _ _ ⟨g165, rfl, rfl⟩
                                  refine ⟨(Sub.cons rfl (Sub.nil _)), ?_⟩
                                  refine WD.one 4 (by kernel_rfl) ?_
                                  refine WS.yld rfl (by decide) (Yld.loadB (k := 113) scal_24 rfl rfl rfl) ?_
                                  refine WD.one 11 (by kernel_rfl) ?_
                                  refine WS.eff rfl (by decide) (Eff.appendC 125 (xs := x154) (ys := ([x164.setWidth 8] : List (BitVec 8))) sty_24 rfl rfl rfl (RdH.own (k := 265) rfl) hx166) ?_
                                  rintro _ _ ⟨A167, c168, rfl, rfl⟩
                                  refine ⟨(Sub.cons rfl (Sub.nil _)), ?_⟩
                                  refine WD.take 12 rfl (by kernel_rfl) (by kernel_rfl) (by kernel_rfl) (by decide) (Yld.nilCheckP rfl) ?_
                                  refine WD.take 13 rfl (by kernel_rfl) (by kernel_rfl) (by kernel_rfl) (by decide) (Yld.fieldAddr Try.underlying48 rfl nz_24 rfl rfl) ?_
                                  refine WD.one 14 (by kernel_rfl) ?_
                                  refine WS.eff0 rfl (Eff0.storeB 113 siz_24 rfl rfl rfl rfl (Nat.le_of_ble_eq_true rfl)) (Sub.cons rfl (Sub.nil _)) ?_
                                  refine WD.done (by kernel_rfl) (hK162 _ _ ?_)
                                  refine QK.blockN ?_
                                  refine QK.thenN (hK161 _ _ ?_)
                                  refine WC.region fun K171 hK171 => ?_
                                  obtain ⟨x172, hx172, h⟩ := bnd h
                                  refine WL.yld (by decide) (Yld.move rfl) ?_
                                  refine WL.yld (by decide) (Yld.subC rfl rfl hx172) ?_
                                  refine WL.yld (by decide) (Yld.assign rfl) ?_
                                  refine WL.done (hK171 _ _ ?_)
                                  refine QK.thenN ?_
                                  refine hK157 ⟨q156, A167, x166.length, c168, x166, x172⟩ _ _ ?_ (Nat.lt_succ_self _) (Sub.cons rfl (Sub.cons rfl (Sub.cons rfl (Sub.nil _)))) (Sub.cons rfl (Sub.cons rfl (Sub.cons rfl (Sub.cons rfl (Sub.nil _)))))
                                  exact h
                              · replace h := of_f hc160 h
                                refine WC.condFe rfl (decide_eq_false hc160) ?_
                                refine WC.exit (QK.thenE (QK.thenE (QK.blockX ?_)))
                                refine Ret.goN (ResIs.zero rfl) ?_
                                refine WL.done (hK148 _ _ ?_)
                                refine WC.seqRegion fun K173 hK173 => ?_
                                refine WL.yld (by decide) (Yld.move rfl) ?_
                                refine WL.yld (by decide) (Yld.fieldAddr Try.underlying26 rfl nz_24 rfl rfl) ?_
                                refine WL.yld (by decide) (Yld.loadB (k := 102) scal_24 rfl rfl rfl) ?_
                                refine WL.yld (by decide) (Yld.lenC (xs := x00_3) und_24 rfl (RdH.memM (k := 0) rfl hf00_3)) ?_
                                refine WL.yld (by decide) (Yld.conv_i64_u64 some_3 und_22 rfl) ?_
                                refine WL.inlV (by decide) rfl Try.func21 nm_21 rfl rfl (Tri.intro (N := 27) Try.func21 rfl rfl (Nat.le_of_ble_eq_true rfl) ?_)
                                refine WC.seqRegion fun K174 hK174 => ?_
                                obtain ⟨x175, hx175, h⟩ := bnd h
                                refine WL.yld (by decide) (Yld.move rfl) ?_
                                refine WL.yld (by decide) (Yld.subC rfl rfl hx175) ?_
                                refine WL.yld (by decide) (Yld.assign rfl) ?_
                                refine WL.done (hK174 _ _ ?_)
                                refine WC.block ?_
                                refine WC.loop (σ := Nat × (Option Addr) × Nat × Nat × (List (BitVec 8)) × Int) (fun ⟨q181, A176, n177, c178, x179, x180⟩ => [(0, .pointer (some ⟨g13, 0, none⟩)), (1, U64 (BitVec.ofInt 64 (x00_3.length : Int))), (6, I64 x180)]) (fun ⟨q181, A176, n177, c178, x179, x180⟩ => [(0, .mem M0), (102, .blk g2 26 [U64 x00_0, U32 x00_1, .bool x00_2, .slice A00_3 n00_3 c00_3]), (113, .blk g13 48 [.slice A176 n177 c178]), (125, .own 5 (Lay.sz (BitVec 8)) A176 n177 c178 (cel x179))]) (fun ⟨q181, A176, n177, c178, x179, x180⟩ => m_needle_Encode_l7 x00_3 q181 x179 x180 = some res) (fun ⟨q181, A176, n177, c178, x179, x180⟩ => q181) ⟨forever, A151, n152, c153, x154, x175⟩ ?_ (Sub.cons rfl (Sub.cons rfl (Sub.cons rfl (Sub.nil _)))) (Sub.cons rfl (Sub.cons rfl (Sub.cons rfl (Sub.cons rfl (Sub.nil _))))) ?_
                                · exact h
                                rintro ⟨q181, A176, n177, c178, x179, x180⟩ h K182 hK182
                                cases q181 with
                                | zero => exact absurd h (by simp [m_needle_Encode_l7])
                                | succ q181 =>
                                  unfold m_needle_Encode_l7 at h
                                  refine WC.seq fun K183 hK183 => ?_
                                  refine WC.seqRegion fun K184 hK184 => ?_
                                  refine WL.yld (by decide) (Yld.move rfl) ?_
                                  refine WL.yld (by decide) (Yld.geq rfl rfl) ?_
                                  refine WL.done (hK184 _ _ ?_)
                                  by_cases hc185 : (0 : Int) ≤ x180
                                  · replace h := of_t hc185 h
                                    refine WC.condTe rfl (decide_eq_true hc185) ?_
                                    refine WC.skip ?_
                                    refine QK.thenN (hK183 _ _ ?_)
                                    refine WC.seq fun K186 hK186 => ?_
                                    refine WC.block ?_
                                    refine WC.regionD (n := 15) [(102, _)] rfl mixed (Sub.cons rfl (Sub.nil _)) fun K187 hK187 => ?_
                                    obtain ⟨x188, hx188, h⟩ := bnd h
                                    obtain ⟨x189, hx189, h⟩ := bnd h
                                    obtain ⟨x191, hx191, h⟩ := bnd h
                                    refine WD.take 0 rfl (by kernel_rfl) (by kernel_rfl) (by kernel_rfl) (by decide) (Yld.move rfl) ?_
                                    refine WD.take 1 rfl (by kernel_rfl) (by kernel_rfl) (by kernel_rfl) (by decide) (Yld.move rfl) ?_
                                    refine WD.take 2 rfl (by kernel_rfl) (by kernel_rfl) (by kernel_rfl) (by decide) (Yld.nilCheckP rfl) ?_
                                    refine WD.take 3 rfl (by kernel_rfl) (by kernel_rfl) (by kernel_rfl) (by decide) (Yld.fieldAddr Try.underlying48 rfl nz_24 rfl rfl) ?_
                                    refine WD.take 5 rfl (by kernel_rfl) (by kernel_rfl) (by kernel_rfl) (by decide) (Yld.move rfl) ?_
                                    refine WD.take 6 rfl (by kernel_rfl) (by kernel_rfl) (by kernel_rfl) (by decide) (Yld.move rfl) ?_
                                    refine WD.take 7 rfl (by kernel_rfl) (by kernel_rfl) (by kernel_rfl) (by decide) (Yld.mulC rfl rfl hx188) ?_
                                    refine WD.take 8 rfl (by kernel_rfl) (by kernel_rfl) (by kernel_rfl) (by decide) (Yld.shrC_u64 (a := (BitVec.ofInt 64 (x00_3.length : Int))) rfl rfl hx189) ?_
                                    refine WD.take 9 rfl (by kernel_rfl) (by kernel_rfl) (by kernel_rfl) (by decide) (Yld.conv_u64_u8 (a := x189) some_22 und_5 rfl) ?_
                                    refine WD.two 4 10 (by kernel_rfl) ?_ ?_
                                    · skip
                                      refine WS.yld rfl (by decide) (Yld.loadB (k := 113) scal_24 rfl rfl rfl) ?_
                                      refine WD.one 10 (by kernel_rfl) ?_
                                      refine WS.eff rfl (by decide) (Eff.buildC 290 ([x189.setWidth 8] : List (BitVec 8)) sty_24 rfl rfl rfl rfl rfl (by decide)) ?_
                                      rintro _ _ ⟨g190, rfl, rfl⟩
                                      refine ⟨(Sub.cons rfl (Sub.nil _)), ?_⟩
                                      refine WD.one 11 (by kernel_rfl) ?_
                                      refine WS.eff rfl (by decide) (Eff.appendC 125 (xs := x179) (ys := ([x189.setWidth 8] : List (BitVec 8))) sty_24 rfl rfl rfl (RdH.own (k := 290) rfl) hx191) ?_
                                      rintro _ _ ⟨A192, c193, rfl, rfl⟩
                                      refine ⟨(Sub.cons rfl (Sub.nil _)), ?_⟩
                                      refine WD.take 12 rfl (by kernel_rfl) (by kernel_rfl) (by kernel_rfl) (by decide) (Yld.nilCheckP rfl) ?_
                                      refine WD.take 13 rfl (by kernel_rfl) (by kernel_rfl) (by kernel_rfl) (by decide) (Yld.fieldAddr Try.underlying48 rfl nz_24 rfl rfl) ?_
                                      refine WD.one 14 (by kernel_rfl) ?_
                                      refine WS.eff0 rfl (Eff0.storeB 113 siz_24 rfl rfl rfl rfl (Nat.le_of_ble_eq_true rfl)) (Sub.cons rfl (Sub.nil _)) ?_
                                      refine WD.done (by kernel_rfl) (hK187 _ _ ?_)
                                      refine QK.blockN ?_
                                      refine QK.thenN (hK186 _ _ ?_)
                                      refine WC.region fun K194 hK194 => ?_
                                      obtain ⟨x195, hx195, h⟩ := bnd h
                                      refine WL.yld (by decide) (Yld.move rfl) ?_
                                      refine WL.yld (by decide) (Yld.subC rfl rfl hx195) ?_
                                      refine WL.yld (by decide) (Yld.assign rfl) ?_
                                      refine WL.done (hK194 _ _ ?_)
                                      refine QK.thenN ?_
                                      refine hK182 ⟨q181, A192, x191.length, c193, x191, x195⟩ _ _ ?_ (Nat.lt_succ_self _) (Sub.cons rfl (Sub.cons rfl (Sub.cons rfl (Sub.nil _)))) (Sub.cons rfl (Sub.cons rfl (Sub.cons rfl (Sub.cons rfl (Sub.nil _)))))
                                      exact h
                                    · skip
                                      refine WS.eff rfl (by decide) (Eff.buildC 290 ([x189.setWidth 8] : List (BitVec 8)) sty_24 rfl rfl rfl rfl rfl (by decide)) ?_
                                      rintro _ _ ⟨g190, rfl, rfl⟩
                                      refine ⟨(Sub.cons rfl (Sub.nil _)), ?_⟩
                                      refine WD.one 4 (by kernel_rfl) ?_
                                      refine WS.yld rfl (by decide) (Yld.loadB (k := 113) scal_24 rfl rfl rfl) ?_
                                      refine WD.one 11 (by kernel_rfl) ?_
                                      refine WS.eff rfl (by decide) (Eff.appendC 125 (xs := x179) (ys := ([x189.setWidth 8] : List (BitVec 8))) sty_24 rfl rfl rfl (RdH.own (k := 290) rfl) hx191) ?_
                                      rintro _ _ ⟨A192, c193, rfl, rfl⟩
                                      refine ⟨(Sub.cons rfl (Sub.nil _)), ?_⟩
                                      refine WD.take 12 rfl (by kernel_rfl) (by kernel_rfl) (by kernel_rfl) (by decide) (Yld.nilCheckP rfl) ?_
                                      refine WD.take 13 rfl (by kernel_rfl) (by kernel_rfl) (by kernel_rfl) (by decide) (Yld.fieldAddr Try.underlying48 rfl nz_24 rfl rfl) ?_
                                      refine WD.one 14 (by kernel_rfl) ?_
                                      refine WS.eff0 rfl (Eff0.storeB 113 siz_24 rfl rfl rfl rfl (Nat.le_of_ble_eq_true rfl)) (Sub.cons rfl (Sub.nil _)) ?_
                                      refine WD.done (by kernel_rfl) (hK187 _ _ ?_)
                                      refine QK.blockN ?_
                                      refine QK.thenN (hK186 _ _ ?_)
                                      refine WC.region fun K196 hK196 => ?_
                                      obtain ⟨x197, hx197, h⟩ := bnd h
                                      refine WL.yld (by decide) (Yld.move rfl) ?_
                                      refine WL.yld (by decide) (Yld.subC rfl rfl hx197) ?_
                                      refine WL.yld (by decide) (Yld.assign rfl) ?_
                                      refine WL.done (hK196 _ _ ?_)
                                      refine QK.thenN ?_
                                      refine hK182 ⟨q181, A192, x191.length, c193, x191, x197⟩ _ _ ?_ (Nat.lt_succ_self _) (Sub.cons rfl (Sub.cons rfl (Sub.cons rfl (Sub.nil _)))) (Sub.cons rfl (Sub.cons rfl (Sub.cons rfl (Sub.cons rfl (Sub.nil _)))))
                                      exact h
                                  · replace h := of_f hc185 h
                                    refine WC.condFe rfl (decide_eq_false hc185) ?_
                                    refine WC.exit (QK.thenE (QK.thenE (QK.blockX ?_)))
                                    refine Ret.goN (ResIs.zero rfl) ?_
                                    refine WL.done (hK173 _ _ ?_)
                                    refine WC.seqRegionD (n := 11) [(102, _)] rfl mixed (Sub.cons rfl (Sub.nil _)) fun K198 hK198 => ?_
                                    obtain ⟨x199, hx199, h⟩ := bnd h
                                    refine WD.take 0 rfl (by kernel_rfl) (by kernel_rfl) (by kernel_rfl) (by decide) (Yld.move rfl) ?_
                                    refine WD.take 1 rfl (by kernel_rfl) (by kernel_rfl) (by kernel_rfl) (by decide) (Yld.move rfl) ?_
                                    refine WD.take 2 rfl (by kernel_rfl) (by kernel_rfl) (by kernel_rfl) (by decide) (Yld.nilCheckP rfl) ?_
                                    refine WD.take 3 rfl (by kernel_rfl) (by kernel_rfl) (by kernel_rfl) (by decide) (Yld.fieldAddr Try.underlying48 rfl nz_24 rfl rfl) ?_
                                    refine WD.take 5 rfl (by kernel_rfl) (by kernel_rfl) (by kernel_rfl) (by decide) (Yld.fieldAddr Try.underlying26 rfl nz_24 rfl rfl) ?_
                                    refine WD.take 6 rfl (by kernel_rfl) (by kernel_rfl) (by kernel_rfl) (by decide) (Yld.loadB (k := 102) scal_24 rfl rfl rfl) ?_
                                    refine WD.one 4 (by kernel_rfl) ?_
                                    refine WS.yld rfl (by decide) (Yld.loadB (k := 113) scal_24 rfl rfl rfl) ?_
                                    refine WD.one 7 (by kernel_rfl) ?_
                                    refine WS.eff rfl (by decide) (Eff.appendC 125 (xs := x179) (ys := x00_3) sty_24 rfl rfl rfl (RdH.memM (k := 0) rfl hf00_3) hx199) ?_
                                    rintro _ _ ⟨A200, c201, rfl, rfl⟩
                                    refine ⟨(Sub.cons rfl (Sub.nil _)), ?_⟩
                                    refine WD.take 8 rfl (by kernel_rfl) (by kernel_rfl) (by kernel_rfl) (by decide) (Yld.nilCheckP rfl) ?_
                                    refine WD.take 9 rfl (by kernel_rfl) (by kernel_rfl) (by kernel_rfl) (by decide) (Yld.fieldAddr Try.underlying48 rfl nz_24 rfl rfl) ?_
                                    refine WD.one 10 (by kernel_rfl) ?_
                                    refine WS.eff0 rfl (Eff0.storeB 113 siz_24 rfl rfl rfl rfl (Nat.le_of_ble_eq_true rfl)) (Sub.cons rfl (Sub.nil _)) ?_
                                    refine WD.done (by kernel_rfl) (hK198 _ _ ?_)
                                    refine WC.seqRegion fun K202 hK202 => ?_
                                    refine WL.yld (by decide) (Yld.move rfl) ?_
                                    refine WL.yld (by decide) (Yld.makeFunc rfl rfl) ?_
                                    refine WL.yld (by decide) (Yld.assign rfl) ?_
                                    refine WL.done (hK202 _ _ ?_)
                                    refine WC.seqRegion fun K203 hK203 => ?_
                                    obtain ⟨x204, hx204, h⟩ := bnd h
                                    refine WL.yld (by decide) (Yld.move rfl) ?_
                                    refine WL.yld (by decide) (Yld.move rfl) ?_
                                    refine WL.yld (by decide) (Yld.nilCheckP rfl) ?_
                                    refine WL.yld (by decide) (Yld.fieldAddr Try.underlying48 rfl nz_24 rfl rfl) ?_
                                    refine WL.yld (by decide) (Yld.loadB (k := 113) scal_24 rfl rfl rfl) ?_
                                    refine WL.eff (by decide) (Eff.callS 305 rfl Try.func23 nm_23 rfl rfl (fun w hb hh => w_crc32c_Sum (Mem.snap w) A200 x199.length c201 _ (RdH.sn (RdH.own (k := 125) rfl) w hb hh) hx204)) ?_
                                    rintro _ _ ⟨_, ⟨rfl, rfl⟩, rfl⟩
                                    refine WL.yld (by decide) (Yld.conv_u32_u64 (a := x204) some_23 und_22 rfl) ?_
                                    refine WL.inlV (by decide) rfl Try.func22 nm_22 rfl rfl (Tri.intro (N := 26) Try.func22 rfl rfl (Nat.le_of_ble_eq_true rfl) ?_)
                                    refine WC.seqRegion fun K206 hK206 => ?_
                                    refine WL.yld (by decide) (Yld.move rfl) ?_
                                    refine WL.yld (by decide) (Yld.move rfl) ?_
                                    refine WL.done (hK206 _ _ ?_)
                                    refine WC.block ?_
                                    refine WC.loop (σ := Nat × (Option Addr) × Nat × Nat × (List (BitVec 8)) × Int) (fun ⟨q212, A207, n208, c209, x210, x211⟩ => [(0, .pointer (some ⟨g13, 0, none⟩)), (1, U64 (x204.setWidth 64)), (7, I64 (4 : Int)), (8, I64 x211)]) (fun ⟨q212, A207, n208, c209, x210, x211⟩ => [(0, .mem M0), (102, .blk g2 26 [U64 x00_0, U32 x00_1, .bool x00_2, .slice A00_3 n00_3 c00_3]), (113, .blk g13 48 [.slice A207 n208 c209]), (125, .own 5 (Lay.sz (BitVec 8)) A207 n208 c209 (cel x210))]) (fun ⟨q212, A207, n208, c209, x210, x211⟩ => m_needle_Encode_l8 x204 q212 x210 x211 = some res) (fun ⟨q212, A207, n208, c209, x210, x211⟩ => q212) ⟨forever, A200, x199.length, c201, x199, (0 : Int)⟩ ?_ (Sub.cons rfl (Sub.cons rfl (Sub.cons rfl (Sub.cons rfl (Sub.nil _))))) (Sub.cons rfl (Sub.cons rfl (Sub.cons rfl (Sub.cons rfl (Sub.nil _))))) ?_
                                    · exact h
                                    rintro ⟨q212, A207, n208, c209, x210, x211⟩ h K213 hK213
                                    cases q212 with
                                    | zero => exact absurd h (by simp [m_needle_Encode_l8])
                                    | succ q212 =>
                                      unfold m_needle_Encode_l8 at h
                                      refine WC.seqRegion fun K214 hK214 => ?_
                                      refine WL.yld (by decide) (Yld.lss rfl rfl) ?_
                                      refine WL.done (hK214 _ _ ?_)
                                      refine WC.seq fun K215 hK215 => ?_
                                      by_cases hc216 : x211 < (4 : Int)
                                      · replace h := of_t hc216 h
                                        refine WC.condTe rfl (decide_eq_true hc216) ?_
                                        refine WC.skip ?_
                                        refine QK.thenN (hK215 _ _ ?_)
                                        refine WC.seq fun K217 hK217 => ?_
                                        refine WC.block ?_
                                        refine WC.seqRegion fun K218 hK218 => ?_
                                        refine WL.yld (by decide) (Yld.move rfl) ?_
                                        refine WL.yld (by decide) (Yld.assign rfl) ?_
                                        refine WL.done (hK218 _ _ ?_)
                                        refine WC.regionD (n := 15) [(102, _)] rfl mixed (Sub.cons rfl (Sub.nil _)) fun K219 hK219 => ?_
                                        obtain ⟨x220, hx220, h⟩ := bnd h
                                        obtain ⟨x221, hx221, h⟩ := bnd h
                                        obtain ⟨x223, hx223, h⟩ := bnd h
                                        refine WD.take 0 rfl (by kernel_rfl) (by kernel_rfl) (by kernel_rfl) (by decide) (Yld.move rfl) ?_
                                        refine WD.take 1 rfl (by kernel_rfl) (by kernel_rfl) (by kernel_rfl) (by decide) (Yld.move rfl) ?_
                                        refine WD.take 2 rfl (by kernel_rfl) (by kernel_rfl) (by kernel_rfl) (by decide) (Yld.nilCheckP rfl) ?_
                                        refine WD.take 3 rfl (by kernel_rfl) (by kernel_rfl) (by kernel_rfl) (by decide) (Yld.fieldAddr Try.underlying48 rfl nz_24 rfl rfl) ?_
                                        refine WD.take 5 rfl (by kernel_rfl) (by kernel_rfl) (by kernel_rfl) (by decide) (Yld.move rfl) ?_
                                        refine WD.take 6 rfl (by kernel_rfl) (by kernel_rfl) (by kernel_rfl) (by decide) (Yld.move rfl) ?_
                                        refine WD.take 7 rfl (by kernel_rfl) (by kernel_rfl) (by kernel_rfl) (by decide) (Yld.mulC rfl rfl hx220) ?_
                                        refine WD.take 8 rfl (by kernel_rfl) (by kernel_rfl) (by kernel_rfl) (by decide) (Yld.shrC_u64 (a := (x204.setWidth 64)) rfl rfl hx221) ?_
                                        refine WD.take 9 rfl (by kernel_rfl) (by kernel_rfl) (by kernel_rfl) (by decide) (Yld.conv_u64_u8 (a := x221) some_22 und_5 rfl) ?_
                                        refine WD.two 4 10 (by kernel_rfl) ?_ ?_
                                        · skip
                                          refine WS.yld rfl (by decide) (Yld.loadB (k := 113) scal_24 rfl rfl rfl) ?_
                                          refine WD.one 10 (by kernel_rfl) ?_
                                          refine WS.eff rfl (by decide) (Eff.buildC 322 ([x221.setWidth 8] : List (BitVec 8)) sty_24 rfl rfl rfl rfl rfl (by decide)) ?_
                                          rintro _ _ ⟨g222, rfl, rfl⟩
                                          refine ⟨(Sub.cons rfl (Sub.nil _)), ?_⟩
                                          refine WD.one 11 (by kernel_rfl) ?_
                                          refine WS.eff rfl (by decide) (Eff.appendC 125 (xs := x210) (ys := ([x221.setWidth 8] : List (BitVec 8))) sty_24 rfl rfl rfl (RdH.own (k := 322) rfl) hx223) ?_
                                          rintro _ _ ⟨A224, c225, rfl, rfl⟩
                                          refine ⟨(Sub.cons rfl (Sub.nil _)), ?_⟩
                                          refine WD.take 12 rfl (by kernel_rfl) (by kernel_rfl) (by kernel_rfl) (by decide) (Yld.nilCheckP rfl) ?_
                                          refine WD.take 13 rfl (by kernel_rfl) (by kernel_rfl) (by kernel_rfl) (by decide) (Yld.fieldAddr Try.underlying48 rfl nz_24 rfl rfl) ?_
                                          refine WD.one 14 (by kernel_rfl) ?_
                                          refine WS.eff0 rfl (Eff0.storeB 113 siz_24 rfl rfl rfl rfl (Nat.le_of_ble_eq_true rfl)) (Sub.cons rfl (Sub.nil _)) ?_
                                          refine WD.done (by kernel_rfl) (hK219 _ _ ?_)
                                          refine QK.blockN ?_
                                          refine QK.thenN (hK217 _ _ ?_)
                                          refine WC.region fun K226 hK226 => ?_
                                          obtain ⟨x227, hx227, h⟩ := bnd h
                                          refine WL.yld (by decide) (Yld.addC rfl rfl hx227) ?_
                                          refine WL.yld (by decide) (Yld.move rfl) ?_
                                          refine WL.done (hK226 _ _ ?_)
                                          refine QK.thenN ?_
                                          refine hK213 ⟨q212, A224, x223.length, c225, x223, x227⟩ _ _ ?_ (Nat.lt_succ_self _) (Sub.cons rfl (Sub.cons rfl (Sub.cons rfl (Sub.cons rfl (Sub.nil _))))) (Sub.cons rfl (Sub.cons rfl (Sub.cons rfl (Sub.cons rfl (Sub.nil _)))))
                                          exact h
                                        · skip
                                          refine WS.eff rfl (by decide) (Eff.buildC 322 ([x221.setWidth 8] : List (BitVec 8)) sty_24 rfl rfl rfl rfl rfl (by decide)) ?_
                                          rintro _ _ ⟨g222, rfl, rfl⟩
                                          refine ⟨(Sub.cons rfl (Sub.nil _)), ?_⟩
                                          refine WD.one 4 (by kernel_rfl) ?_
                                          refine WS.yld rfl (by decide) (Yld.loadB (k := 113) scal_24 rfl rfl rfl) ?_
                                          refine WD.one 11 (by kernel_rfl) ?_
                                          refine WS.eff rfl (by decide) (Eff.appendC 125 (xs := x210) (ys := ([x221.setWidth 8] : List (BitVec 8))) sty_24 rfl rfl rfl (RdH.own (k := 322) rfl) hx223) ?_
                                          rintro _ _ ⟨A224, c225, rfl, rfl⟩
                                          refine ⟨(Sub.cons rfl (Sub.nil _)), ?_⟩
                                          refine WD.take 12 rfl (by kernel_rfl) (by kernel_rfl) (by kernel_rfl) (by decide) (Yld.nilCheckP rfl) ?_
                                          refine WD.take 13 rfl (by kernel_rfl) (by kernel_rfl) (by kernel_rfl) (by decide) (Yld.fieldAddr Try.underlying48 rfl nz_24 rfl rfl) ?_
                                          refine WD.one 14 (by kernel_rfl) ?_
                                          refine WS.eff0 rfl (Eff0.storeB 113 siz_24 rfl rfl rfl rfl (Nat.le_of_ble_eq_true rfl)) (Sub.cons rfl (Sub.nil _)) ?_
                                          refine WD.done (by kernel_rfl) (hK219 _ _ ?_)
                                          refine QK.blockN ?_
                                          refine QK.thenN (hK217 _ _ ?_)
                                          refine WC.region fun K228 hK228 => ?_
                                          obtain ⟨x229, hx229, h⟩ := bnd h
                                          refine WL.yld (by decide) (Yld.addC rfl rfl hx229) ?_
                                          refine WL.yld (by decide) (Yld.move rfl) ?_
                                          refine WL.done (hK228 _ _ ?_)
                                          refine QK.thenN ?_
                                          refine hK213 ⟨q212, A224, x223.length, c225, x223, x229⟩ _ _ ?_ (Nat.lt_succ_self _) (Sub.cons rfl (Sub.cons rfl (Sub.cons rfl (Sub.cons rfl (Sub.nil _))))) (Sub.cons rfl (Sub.cons rfl (Sub.cons rfl (Sub.cons rfl (Sub.nil _)))))
                                          exact h
                                      · replace h := of_f hc216 h
                                        refine WC.condFe rfl (decide_eq_false hc216) ?_
                                        refine WC.exit (QK.thenE (QK.thenE (QK.blockX ?_)))
                                        refine Ret.goN (ResIs.zero rfl) ?_
                                        refine WL.done (hK203 _ _ ?_)
                                        refine WC.seqCut (σ := (Option Addr) × Nat × Nat × (List (BitVec 8))) (fun ⟨A230, n231, c232, x233⟩ => [(4, .pointer (some ⟨g13, 0, none⟩))]) (fun ⟨A230, n231, c232, x233⟩ => [(0, .mem M0), (113, .blk g13 48 [.slice A230 n231 c232]), (125, .own 5 (Lay.sz (BitVec 8)) A230 n231 c232 (cel x233))]) (fun ⟨A230, n231, c232, x233⟩ => m_needle_Encode_j9 x233 = some res) (fun K234 hK234 => ?_) ?_
                                        · skip
                                          refine WC.block ?_
                                          refine WC.loop (σ := Nat × (Option Addr) × Nat × Nat × (List (BitVec 8))) (fun ⟨q239, A235, n236, c237, x238⟩ => [(4, .pointer (some ⟨g13, 0, none⟩)), (5, .func (.func 22) #[.pointer (some ⟨g13, 0, none⟩)] #[])]) (fun ⟨q239, A235, n236, c237, x238⟩ => [(0, .mem M0), (113, .blk g13 48 [.slice A235 n236 c237]), (125, .own 5 (Lay.sz (BitVec 8)) A235 n236 c237 (cel x238))]) (fun ⟨q239, A235, n236, c237, x238⟩ => m_needle_Encode_l10 q239 x238 = some res) (fun ⟨q239, A235, n236, c237, x238⟩ => q239) ⟨forever, A207, n208, c209, x210⟩ ?_ (Sub.cons rfl (Sub.cons rfl (Sub.nil _))) (Sub.cons rfl (Sub.cons rfl (Sub.cons rfl (Sub.nil _)))) ?_
                                          · exact h
                                          rintro ⟨q239, A235, n236, c237, x238⟩ h K240 hK240
                                          cases q239 with
                                          | zero => exact absurd h (by simp [m_needle_Encode_l10])
                                          | succ q239 =>
                                            unfold m_needle_Encode_l10 at h
                                            refine WC.seq fun K241 hK241 => ?_
                                            refine WC.seqRegion fun K242 hK242 => ?_
                                            obtain ⟨x243, hx243, h⟩ := bnd h
                                            refine WL.yld (by decide) (Yld.move rfl) ?_
                                            refine WL.yld (by decide) (Yld.nilCheckP rfl) ?_
                                            refine WL.yld (by decide) (Yld.fieldAddr Try.underlying48 rfl nz_24 rfl rfl) ?_
                                            refine WL.yld (by decide) (Yld.loadB (k := 113) scal_24 rfl rfl rfl) ?_
                                            refine WL.yld (by decide) (Yld.lenC (xs := x238) und_24 rfl (RdH.own (k := 125) rfl)) ?_
                                            refine WL.yld (by decide) (Yld.remC rfl rfl hx243) ?_
                                            refine WL.yld (by decide) (Yld.neqI rfl rfl) ?_
                                            refine WL.done (hK242 _ _ ?_)
                                            by_cases hc244 : x243 = (0 : Int)
                                            · replace h := of_t hc244 h
                                              refine WC.condFe rfl (bne_eq_false_iff_eq.2 hc244) ?_
                                              refine WC.exit (QK.thenE (QK.thenE (QK.blockX ?_)))
                                              refine QK.thenN ?_
                                              refine hK234 ⟨A235, n236, c237, x238⟩ _ _ ?_ (Sub.cons rfl (Sub.nil _)) (Sub.cons rfl (Sub.cons rfl (Sub.cons rfl (Sub.nil _))))
                                              exact h
                                            · replace h := of_f hc244 h
                                              refine WC.condTe rfl (bne_iff_ne.2 hc244) ?_
                                              refine WC.skip ?_
                                              refine QK.thenN (hK241 _ _ ?_)
                                              refine WC.block ?_
                                              refine WC.region fun K245 hK245 => ?_
                                              refine WL.yld (by decide) (Yld.move rfl) ?_
                                              refine WL.inlV (by decide) rfl Try.func22 nm_22 rfl rfl (Tri.intro (N := 26) Try.func22 rfl rfl (Nat.le_of_ble_eq_true rfl) ?_)
                                              refine WC.seqRegion fun K246 hK246 => ?_
                                              refine WL.yld (by decide) (Yld.move rfl) ?_
                                              refine WL.yld (by decide) (Yld.move rfl) ?_
                                              refine WL.done (hK246 _ _ ?_)
                                              refine WC.block ?_
                                              refine WC.loop (σ := Nat × (Option Addr) × Nat × Nat × (List (BitVec 8)) × Int) (fun ⟨q252, A247, n248, c249, x250, x251⟩ => [(0, .pointer (some ⟨g13, 0, none⟩)), (1, U64 0#64), (7, I64 (1 : Int)), (8, I64 x251)]) (fun ⟨q252, A247, n248, c249, x250, x251⟩ => [(0, .mem M0), (113, .blk g13 48 [.slice A247 n248 c249]), (125, .own 5 (Lay.sz (BitVec 8)) A247 n248 c249 (cel x250))]) (fun ⟨q252, A247, n248, c249, x250, x251⟩ => m_needle_Encode_l11 (m_needle_Encode_l10 q239) q252 x250 x251 = some res) (fun ⟨q252, A247, n248, c249, x250, x251⟩ => q252) ⟨forever, A235, n236, c237, x238, (0 : Int)⟩ ?_ (Sub.cons rfl (Sub.cons rfl (Sub.cons rfl (Sub.cons rfl (Sub.nil _))))) (Sub.cons rfl (Sub.cons rfl (Sub.cons rfl (Sub.nil _)))) ?_
                                              · exact h
                                              rintro ⟨q252, A247, n248, c249, x250, x251⟩ h K253 hK253
                                              cases q252 with
                                              | zero => exact absurd h (by simp [m_needle_Encode_l11])
                                              | succ q252 =>
                                                unfold m_needle_Encode_l11 at h
                                                refine WC.seqRegion fun K254 hK254 => ?_
                                                refine WL.yld (by decide) (Yld.lss rfl rfl) ?_
                                                refine WL.done (hK254 _ _ ?_)
                                                refine WC.seq fun K255 hK255 => ?_
                                                by_cases hc256 : x251 < (1 : Int)
                                                · replace h := of_t hc256 h
                                                  refine WC.condTe rfl (decide_eq_true hc256) ?_
                                                  refine WC.skip ?_
                                                  refine QK.thenN (hK255 _ _ ?_)
                                                  refine WC.seq fun K257 hK257 => ?_
                                                  refine WC.block ?_
                                                  refine WC.seqRegion fun K258 hK258 => ?_
                                                  refine WL.yld (by decide) (Yld.move rfl) ?_
                                                  refine WL.yld (by decide) (Yld.assign rfl) ?_
                                                  refine WL.done (hK258 _ _ ?_)
                                                  refine WC.regionD (n := 15) [] rfl mixed (Sub.nil _) fun K259 hK259 => ?_
                                                  obtain ⟨x260, hx260, h⟩ := bnd h
                                                  obtain ⟨x261, hx261, h⟩ := bnd h
                                                  obtain ⟨x263, hx263, h⟩ := bnd h
                                                  refine WD.take 0 rfl (by kernel_rfl) (by kernel_rfl) (by kernel_rfl) (by decide) (Yld.move rfl) ?_
                                                  refine WD.take 1 rfl (by kernel_rfl) (by kernel_rfl) (by kernel_rfl) (by decide) (Yld.move rfl) ?_
                                                  refine WD.take 2 rfl (by kernel_rfl) (by kernel_rfl) (by kernel_rfl) (by decide) (Yld.nilCheckP rfl) ?_
                                                  refine WD.take 3 rfl (by kernel_rfl) (by kernel_rfl) (by kernel_rfl) (by decide) (Yld.fieldAddr Try.underlying48 rfl nz_24 rfl rfl) ?_
                                                  refine WD.take 5 rfl (by kernel_rfl) (by kernel_rfl) (by kernel_rfl) (by decide) (Yld.move rfl) ?_
                                                  refine WD.take 6 rfl (by kernel_rfl) (by kernel_rfl) (by kernel_rfl) (by decide) (Yld.move rfl) ?_
                                                  refine WD.take 7 rfl (by kernel_rfl) (by kernel_rfl) (by kernel_rfl) (by decide) (Yld.mulC rfl rfl hx260) ?_
                                                  refine WD.take 8 rfl (by kernel_rfl) (by kernel_rfl) (by kernel_rfl) (by decide) (Yld.shrC_u64 (a := 0#64) rfl rfl hx261) ?_
                                                  refine WD.take 9 rfl (by kernel_rfl) (by kernel_rfl) (by kernel_rfl) (by decide) (Yld.conv_u64_u8 (a := x261) some_22 und_5 rfl) ?_
                                                  refine WD.two 4 10 (by kernel_rfl) ?_ ?_
                                                  · skip
                                                    refine WS.yld rfl (by decide) (Yld.loadB (k := 113) scal_24 rfl rfl rfl) ?_
                                                    refine WD.one 10 (by kernel_rfl) ?_
                                                    refine WS.eff rfl (by decide) (Eff.buildC 362 ([x261.setWidth 8] : List (BitVec 8)) sty_24 rfl rfl rfl rfl rfl (by decide)) ?_
                                                    rintro _ _ ⟨g262, rfl, rfl⟩
                                                    refine ⟨(Sub.nil _), ?_⟩
                                                    refine WD.one 11 (by kernel_rfl) ?_
                                                    refine WS.eff rfl (by decide) (Eff.appendC 125 (xs := x250) (ys := ([x261.setWidth 8] : List (BitVec 8))) sty_24 rfl rfl rfl (RdH.own (k := 362) rfl) hx263) ?_
                                                    rintro _ _ ⟨A264, c265, rfl, rfl⟩
                                                    refine ⟨(Sub.nil _), ?_⟩
                                                    refine WD.take 12 rfl (by kernel_rfl) (by kernel_rfl) (by kernel_rfl) (by decide) (Yld.nilCheckP rfl) ?_
                                                    refine WD.take 13 rfl (by kernel_rfl) (by kernel_rfl) (by kernel_rfl) (by decide) (Yld.fieldAddr Try.underlying48 rfl nz_24 rfl rfl) ?_
                                                    refine WD.one 14 (by kernel_rfl) ?_
                                                    refine WS.eff0 rfl (Eff0.storeB 113 siz_24 rfl rfl rfl rfl (Nat.le_of_ble_eq_true rfl)) (Sub.nil _) ?_
                                                    refine WD.done (by kernel_rfl) (hK259 _ _ ?_)
                                                    refine QK.blockN ?_
                                                    refine QK.thenN (hK257 _ _ ?_)
                                                    refine WC.region fun K266 hK266 => ?_
                                                    obtain ⟨x267, hx267, h⟩ := bnd h
                                                    refine WL.yld (by decide) (Yld.addC rfl rfl hx267) ?_
                                                    refine WL.yld (by decide) (Yld.move rfl) ?_
                                                    refine WL.done (hK266 _ _ ?_)
                                                    refine QK.thenN ?_
                                                    refine hK253 ⟨q252, A264, x263.length, c265, x263, x267⟩ _ _ ?_ (Nat.lt_succ_self _) (Sub.cons rfl (Sub.cons rfl (Sub.cons rfl (Sub.cons rfl (Sub.nil _))))) (Sub.cons rfl (Sub.cons rfl (Sub.cons rfl (Sub.nil _))))
                                                    exact h
                                                  · skip
                                                    refine WS.eff rfl (by decide) (Eff.buildC 362 ([x261.setWidth 8] : List (BitVec 8)) sty_24 rfl rfl rfl rfl rfl (by decide)) ?_
                                                    rintro _ _ ⟨g262, rfl, rfl⟩
                                                    refine ⟨(Sub.nil _), ?_⟩
                                                    refine WD.one 4 (by kernel_rfl) ?_
                                                    refine WS.yld rfl (by decide) (Yld.loadB (k := 113) scal_24 rfl rfl rfl) ?_
                                                    refine WD.one 11 (by kernel_rfl) ?_
                                                    refine WS.eff rfl (by decide) (Eff.appendC 125 (xs := x250) (ys := ([x261.setWidth 8] : List (BitVec 8))) sty_24 rfl rfl rfl (RdH.own (k := 362) rfl) hx263) ?_
                                                    rintro _ _ ⟨A264, c265, rfl, rfl⟩
                                                    refine ⟨(Sub.nil _), ?_⟩
                                                    refine WD.take 12 rfl (by kernel_rfl) (by kernel_rfl) (by kernel_rfl) (by decide) (Yld.nilCheckP rfl) ?_
                                                    refine WD.take 13 rfl (by kernel_rfl) (by kernel_rfl) (by kernel_rfl) (by decide) (Yld.fieldAddr Try.underlying48 rfl nz_24 rfl rfl) ?_
                                                    refine WD.one 14 (by kernel_rfl) ?_
                                                    refine WS.eff0 rfl (Eff0.storeB 113 siz_24 rfl rfl rfl rfl (Nat.le_of_ble_eq_true rfl)) (Sub.nil _) ?_
                                                    refine WD.done (by kernel_rfl) (hK259 _ _ ?_)
                                                    refine QK.blockN ?_
                                                    refine QK.thenN (hK257 _ _ ?_)
                                                    refine WC.region fun K268 hK268 => ?_
                                                    obtain ⟨x269, hx269, h⟩ := bnd h
                                                    refine WL.yld (by decide) (Yld.addC rfl rfl hx269) ?_
                                                    refine WL.yld (by decide) (Yld.move rfl) ?_
                                                    refine WL.done (hK268 _ _ ?_)
                                                    refine QK.thenN ?_
                                                    refine hK253 ⟨q252, A264, x263.length, c265, x263, x269⟩ _ _ ?_ (Nat.lt_succ_self _) (Sub.cons rfl (Sub.cons rfl (Sub.cons rfl (Sub.cons rfl (Sub.nil _))))) (Sub.cons rfl (Sub.cons rfl (Sub.cons rfl (Sub.nil _))))
                                                    exact h
                                                · replace h := of_f hc256 h
                                                  refine WC.condFe rfl (decide_eq_false hc256) ?_
                                                  refine WC.exit (QK.thenE (QK.thenE (QK.blockX ?_)))
                                                  refine Ret.goN (ResIs.zero rfl) ?_
                                                  refine WL.done (hK245 _ _ ?_)
                                                  refine QK.blockN ?_
                                                  refine QK.thenN ?_
                                                  refine hK240 ⟨q239, A247, n248, c249, x250⟩ _ _ ?_ (Nat.lt_succ_self _) (Sub.cons rfl (Sub.cons rfl (Sub.nil _))) (Sub.cons rfl (Sub.cons rfl (Sub.cons rfl (Sub.nil _))))
                                                  exact h
                                        · rintro ⟨A230, n231, c232, x233⟩ h
                                          unfold m_needle_Encode_j9 at h
                                          refine WC.seqRegion fun K270 hK270 => ?_
                                          refine WL.yld (by decide) (Yld.move rfl) ?_
                                          refine WL.yld (by decide) (Yld.nilCheckP rfl) ?_
                                          refine WL.yld (by decide) (Yld.fieldAddr Try.underlying48 rfl nz_24 rfl rfl) ?_
                                          refine WL.yld (by decide) (Yld.loadB (k := 113) scal_24 rfl rfl rfl) ?_
                                          refine WL.yld (by decide) (Yld.assign rfl) ?_
                                          refine WL.yld (by decide) (Yld.assign rfl) ?_
                                          refine WL.done (hK270 _ _ ?_)
                                          refine WC.ret ?_
                                          injection h with h; subst h
                                          exact Ret.fn [125] (ResIs.two rfl rfl rfl) rfl (Ext.refl _ _) rfl (by decide) rfl rfl ⟨A230, n231, c232, rfl, rfl⟩
    · replace h := of_f hc11 h
      refine WC.condTe rfl (not_t (Bool.eq_false_iff.2 hc11)) ?_
      refine WC.seqRegion fun K271 hK271 => ?_
      refine WL.yld (by decide) (Yld.assign rfl) ?_
      refine WL.yld (by decide) (Yld.assign rfl) ?_
      refine WL.done (hK271 _ _ ?_)
      refine WC.ret (QK.blockR (QK.thenR ?_))
      refine QK.nilOwn 372 5 (Lay.sz (BitVec 8)) none ?_
      injection h with h; subst h
      exact Ret.fn [372] (ResIs.two rfl rfl rfl) rfl (Ext.refl _ _) rfl (by decide) rfl rfl ⟨none, 0, 0, rfl, rfl⟩

set_option maxRecDepth 10000 in
theorem w_r06_Decode (M0 : Mem) (A00 : Option Addr) (n00 c00 : Nat) (x00 : List (BitVec 8)) (hf00 : SlT M0 A00 n00 c00 x00) {res : (BitVec 64) × (BitVec 32) × Bool × (List (BitVec 8)) × Int × Int} (h : m_r06_Decode x00 = some res) :
    Fn Try.prog 19 #[.slice A00 n00 c00] M0 fun r M' es => ∃ (A1 : Option Addr) (n1 c1 : Nat), r = .tuple #[.agg ([U64 res.1, U32 res.2.1, .bool res.2.2.1, .slice A1 n1 c1] : List Value).toArray, I64 res.2.2.2.2.1, I64 res.2.2.2.2.2] ∧ es = [.own 5 (Lay.sz (BitVec 8)) A1 n1 c1 (cel res.2.2.2.1)] := by
  refine Fn.intro (N := 108) Try.func19 rfl rfl (Nat.le_of_ble_eq_true rfl) fun w0 => ?_
  unfold m_r06_Decode at h
  refine WC.seqRegion fun K1 hK1 => ?_
  refine WL.eff (by decide) (Eff.alloc 102 rfl zr_26) ?_
  rintro _ _ ⟨g2, rfl, rfl⟩
  refine WL.yld (by decide) (Yld.assign rfl) ?_
  refine WL.yld (by decide) (Yld.assign rfl) ?_
  refine WL.done (hK1 _ _ ?_)
  refine WC.seq fun K3 hK3 => ?_
  refine WC.seqRegion fun K4 hK4 => ?_
  refine WL.yld (by decide) (Yld.move rfl) ?_
  refine WL.yld (by decide) (Yld.lenC (xs := x00) und_24 rfl (RdH.memM (k := 0) rfl hf00)) ?_
  refine WL.yld (by decide) (Yld.lss rfl rfl) ?_
  refine WL.done (hK4 _ _ ?_)
  by_cases hc5 : (x00.length : Int) < (20 : Int)
  · replace h := of_t hc5 h
    refine WC.condTe rfl (decide_eq_true hc5) ?_
    refine WC.seqRegion fun K6 hK6 => ?_
    refine WL.yld (by decide) (Yld.build rfl (bu_26_)) ?_
    refine WL.eff0 (Eff0.storeBAM 102 agg_26 rfl rfl rfl ⟨rfl, rfl⟩ rfl) ?_
    refine WL.yld (by decide) (Yld.assign rfl) ?_
    refine WL.yld (by decide) (Yld.assign rfl) ?_
    refine WL.done (hK6 _ _ ?_)
    refine WC.ret (QK.thenR ?_)
    refine QK.nilOwn 107 5 (Lay.sz (BitVec 8)) none ?_
    injection h with h; subst h
    exact Ret.fn [107] (ResIs.cellTmp2M (k := 102) rfl agg_26 rfl rfl rfl rfl rfl) rfl (Ext.refl _ _) rfl (by decide) rfl rfl ⟨none, 0, 0, rfl, rfl⟩
  · replace h := of_f hc5 h
    refine WC.condFe rfl (decide_eq_false hc5) ?_
    refine WC.skip ?_
    refine QK.thenN (hK3 _ _ ?_)
    refine WC.seqRegion fun K8 hK8 => ?_
    obtain ⟨x9, hx9, h⟩ := bnd h
    obtain ⟨x10, hx10, h⟩ := bnd h
    refine WL.yld (by decide) (Yld.move rfl) ?_
    refine WL.yld (by decide) (Yld.sliceLHC (xs := x00) sty_24 rfl rfl rfl (RdH.memM (k := 0) rfl hf00) hx9) ?_
    refine WL.eff (by decide) (Eff.callS 111 rfl Try.func29 nm_29 rfl rfl (fun w hb hh => w_r06_Value (Mem.snap w) (subA A00 c00 ((16 : Int)).toNat (Lay.sz (BitVec 8))) x9.length (c00 - ((16 : Int)).toNat) _ (RdH.sn (RdT.slc (RdH.memM (k := 0) rfl hf00) hx9) w hb hh) hx10)) ?_
    rintro _ _ ⟨_, ⟨rfl, rfl⟩, rfl⟩
    refine WL.yld (by decide) (Yld.assign rfl) ?_
    refine WL.done (hK8 _ _ ?_)
    refine WC.seqCut (σ := Unit) (fun _ => [(0, .slice A00 n00 c00), (2, .pointer (some ⟨g2, 0, none⟩)), (5, U64 x10)]) (fun _ => [(0, .mem M0), (102, .blk g2 26 [U64 0#64, U32 0#32, .bool false, .slice none 0 0])]) (fun _ => m_r06_Decode_j0 x00 x10 = some res) (fun K12 hK12 => ?_) ?_
    · skip
      refine WC.seqRegion fun K13 hK13 => ?_
      obtain ⟨x14, hx14, h⟩ := bnd h
      by_cases hc15 : x14 = 78#8
      · replace h := of_t hc15 h
        obtain ⟨x16, hx16, h⟩ := bnd h
        by_cases hc17 : x16 = 165#8
        · replace h := of_t hc17 h
          obtain ⟨x18, hx18, h⟩ := bnd h
          by_cases hc19 : 1#8 < x18
          · replace h := of_t hc19 h
            refine WL.yld (by decide) (Yld.move rfl) ?_
            refine WL.yld (by decide) (Yld.idxC (xs := x00) sty_24 rfl rfl (RdH.memM (k := 0) rfl hf00) hx14) ?_
            refine WL.yld (by decide) (Yld.loadC0 (xs := x00) scal_5 rfl (RdH.memM (k := 0) rfl hf00) hx14 rfl) ?_
            refine WL.yld (by decide) (Yld.neq_u8 (a := x14) (b := 78#8) rfl rfl) ?_
            refine WL.yld (by decide) (Yld.move rfl) ?_
            refine WL.new (v' := .bool false) (congrArg Value.bool (bne_eq_false_iff_eq.2 hc15)) ?_
            refine WL.yldG (by decide) rfl (Yld.move rfl) ?_
            refine WL.yldG (by decide) rfl (Yld.idxC (xs := x00) sty_24 rfl rfl (RdH.memM (k := 0) rfl hf00) hx16) ?_
            refine WL.yldG (by decide) rfl (Yld.loadC0 (xs := x00) scal_5 rfl (RdH.memM (k := 0) rfl hf00) hx16 rfl) ?_
            refine WL.yldG (by decide) rfl (Yld.neq_u8 (a := x16) (b := 165#8) rfl rfl) ?_
            refine WL.yld (by decide) (Yld.pickF rfl rfl) ?_
            refine WL.yld (by decide) (Yld.move rfl) ?_
            refine WL.new (v' := .bool false) (congrArg Value.bool (bne_eq_false_iff_eq.2 hc17)) ?_
            refine WL.yldG (by decide) rfl (Yld.move rfl) ?_
            refine WL.yldG (by decide) rfl (Yld.idxC (xs := x00) sty_24 rfl rfl (RdH.memM (k := 0) rfl hf00) hx18) ?_
            refine WL.yldG (by decide) rfl (Yld.loadC0 (xs := x00) scal_5 rfl (RdH.memM (k := 0) rfl hf00) hx18 rfl) ?_
            refine WL.yldG (by decide) rfl (Yld.gtr_u8 (a := x18) (b := 1#8) rfl rfl) ?_
            refine WL.yld (by decide) (Yld.pickF rfl rfl) ?_
            refine WL.yld (by decide) (Yld.move rfl) ?_
            refine WL.new (v' := .bool true) (congrArg Value.bool (decide_eq_true hc19)) ?_
            refine WL.skip (by decide) rfl rfl ?_
            refine WL.skip (by decide) rfl rfl ?_
            refine WL.skip (by decide) rfl rfl ?_
            refine WL.skip (by decide) rfl rfl ?_
            refine WL.yld (by decide) (Yld.pickT rfl rfl) ?_
            refine WL.yld (by decide) (Yld.move rfl) ?_
            refine WL.skip (by decide) rfl rfl ?_
            refine WL.skip (by decide) rfl rfl ?_
            refine WL.yld (by decide) (Yld.pickT rfl rfl) ?_
            refine WL.yld (by decide) (Yld.move rfl) ?_
            refine WL.skip (by decide) rfl rfl ?_
            refine WL.skip (by decide) rfl rfl ?_
            refine WL.skip (by decide) rfl rfl ?_
            refine WL.skip (by decide) rfl rfl ?_
            refine WL.skip (by decide) rfl rfl ?_
            refine WL.skipU (by decide) rfl ?_
            refine WL.skipU (by decide) rfl ?_
            refine WL.skip (by decide) rfl rfl ?_
            refine WL.yld (by decide) (Yld.pickT rfl rfl) ?_
            refine WL.done (hK13 _ _ ?_)
            refine WC.condT rfl ?_
            refine WC.seqRegion fun K20 hK20 => ?_
            refine WL.yld (by decide) (Yld.build rfl (bu_26_)) ?_
            refine WL.eff0 (Eff0.storeBAM 102 agg_26 rfl rfl rfl ⟨rfl, rfl⟩ rfl) ?_
            refine WL.yld (by decide) (Yld.assign rfl) ?_
            refine WL.yld (by decide) (Yld.assign rfl) ?_
            refine WL.done (hK20 _ _ ?_)
            refine WC.ret (QK.thenR ?_)
            refine QK.nilOwn 121 5 (Lay.sz (BitVec 8)) none ?_
            injection h with h; subst h
            exact Ret.fn [121] (ResIs.cellTmp2M (k := 102) rfl agg_26 rfl rfl rfl rfl rfl) rfl (Ext.refl _ _) rfl (by decide) rfl rfl ⟨none, 0, 0, rfl, rfl⟩
          · replace h := of_f hc19 h
            obtain ⟨x22, hx22, h⟩ := bnd h
            by_cases hc23 : x22 = 0#8
            · replace h := of_t hc23 h
              by_cases hc24 : 4096#64 < x10
              · replace h := of_t hc24 h
                refine WL.yld (by decide) (Yld.move rfl) ?_
                refine WL.yld (by decide) (Yld.idxC (xs := x00) sty_24 rfl rfl (RdH.memM (k := 0) rfl hf00) hx14) ?_
                refine WL.yld (by decide) (Yld.loadC0 (xs := x00) scal_5 rfl (RdH.memM (k := 0) rfl hf00) hx14 rfl) ?_
                refine WL.yld (by decide) (Yld.neq_u8 (a := x14) (b := 78#8) rfl rfl) ?_
                refine WL.yld (by decide) (Yld.move rfl) ?_
                refine WL.new (v' := .bool false) (congrArg Value.bool (bne_eq_false_iff_eq.2 hc15)) ?_
                refine WL.yldG (by decide) rfl (Yld.move rfl) ?_
                refine WL.yldG (by decide) rfl (Yld.idxC (xs := x00) sty_24 rfl rfl (RdH.memM (k := 0) rfl hf00) hx16) ?_
                refine WL.yldG (by decide) rfl (Yld.loadC0 (xs := x00) scal_5 rfl (RdH.memM (k := 0) rfl hf00) hx16 rfl) ?_
                refine WL.yldG (by decide) rfl (Yld.neq_u8 (a := x16) (b := 165#8) rfl rfl) ?_
                refine WL.yld (by decide) (Yld.pickF rfl rfl) ?_
                refine WL.yld (by decide) (Yld.move rfl) ?_
                refine WL.new (v' := .bool false) (congrArg Value.bool (bne_eq_false_iff_eq.2 hc17)) ?_
                refine WL.yldG (by decide) rfl (Yld.move rfl) ?_
                refine WL.yldG (by decide) rfl (Yld.idxC (xs := x00) sty_24 rfl rfl (RdH.memM (k := 0) rfl hf00) hx18) ?_
                refine WL.yldG (by decide) rfl (Yld.loadC0 (xs := x00) scal_5 rfl (RdH.memM (k := 0) rfl hf00) hx18 rfl) ?_
                refine WL.yldG (by decide) rfl (Yld.gtr_u8 (a := x18) (b := 1#8) rfl rfl) ?_
                refine WL.yld (by decide) (Yld.pickF rfl rfl) ?_
                refine WL.yld (by decide) (Yld.move rfl) ?_
                refine WL.new (v' := .bool false) (congrArg Value.bool (decide_eq_false hc19)) ?_
                refine WL.yldG (by decide) rfl (Yld.move rfl) ?_
                refine WL.yldG (by decide) rfl (Yld.idxC (xs := x00) sty_24 rfl rfl (RdH.memM (k := 0) rfl hf00) hx22) ?_
                refine WL.yldG (by decide) rfl (Yld.loadC0 (xs := x00) scal_5 rfl (RdH.memM (k := 0) rfl hf00) hx22 rfl) ?_
                refine WL.yldG (by decide) rfl (Yld.neq_u8 (a := x22) (b := 0#8) rfl rfl) ?_
                refine WL.yld (by decide) (Yld.pickF rfl rfl) ?_
                refine WL.yld (by decide) (Yld.move rfl) ?_
                refine WL.new (v' := .bool false) (congrArg Value.bool (bne_eq_false_iff_eq.2 hc23)) ?_
                refine WL.yldG (by decide) rfl (Yld.move rfl) ?_
                refine WL.yldG (by decide) rfl (Yld.gtr_u64 (a := x10) (b := 4096#64) rfl rfl) ?_
                refine WL.yld (by decide) (Yld.pickF rfl rfl) ?_
                refine WL.yld (by decide) (Yld.move rfl) ?_
                refine WL.new (v' := .bool true) (congrArg Value.bool (decide_eq_true hc24)) ?_
                refine WL.skip (by decide) rfl rfl ?_
                refine WL.skip (by decide) rfl rfl ?_
                refine WL.skip (by decide) rfl rfl ?_
                refine WL.skip (by decide) rfl rfl ?_
                refine WL.skip (by decide) rfl rfl ?_
                refine WL.skipU (by decide) rfl ?_
                refine WL.skipU (by decide) rfl ?_
                refine WL.skip (by decide) rfl rfl ?_
                refine WL.yld (by decide) (Yld.pickT rfl rfl) ?_
                refine WL.done (hK13 _ _ ?_)
                refine WC.condT rfl ?_
                refine WC.seqRegion fun K25 hK25 => ?_
                refine WL.yld (by decide) (Yld.build rfl (bu_26_)) ?_
                refine WL.eff0 (Eff0.storeBAM 102 agg_26 rfl rfl rfl ⟨rfl, rfl⟩ rfl) ?_
                refine WL.yld (by decide) (Yld.assign rfl) ?_
                refine WL.yld (by decide) (Yld.assign rfl) ?_
                refine WL.done (hK25 _ _ ?_)
                refine WC.ret (QK.thenR ?_)
                refine QK.nilOwn 126 5 (Lay.sz (BitVec 8)) none ?_
                injection h with h; subst h
                exact Ret.fn [126] (ResIs.cellTmp2M (k := 102) rfl agg_26 rfl rfl rfl rfl rfl) rfl (Ext.refl _ _) rfl (by decide) rfl rfl ⟨none, 0, 0, rfl, rfl⟩
              · replace h := of_f hc24 h
                obtain ⟨x27, hx27, h⟩ := bnd h
                by_cases hc28 : x27 = 1#8
                · replace h := of_t hc28 h
                  refine WL.yld (by decide) (Yld.move rfl) ?_
                  refine WL.yld (by decide) (Yld.idxC (xs := x00) sty_24 rfl rfl (RdH.memM (k := 0) rfl hf00) hx14) ?_
                  refine WL.yld (by decide) (Yld.loadC0 (xs := x00) scal_5 rfl (RdH.memM (k := 0) rfl hf00) hx14 rfl) ?_
                  refine WL.yld (by decide) (Yld.neq_u8 (a := x14) (b := 78#8) rfl rfl) ?_
                  refine WL.yld (by decide) (Yld.move rfl) ?_
                  refine WL.new (v' := .bool false) (congrArg Value.bool (bne_eq_false_iff_eq.2 hc15)) ?_
                  refine WL.yldG (by decide) rfl (Yld.move rfl) ?_
                  refine WL.yldG (by decide) rfl (Yld.idxC (xs := x00) sty_24 rfl rfl (RdH.memM (k := 0) rfl hf00) hx16) ?_
                  refine WL.yldG (by decide) rfl (Yld.loadC0 (xs := x00) scal_5 rfl (RdH.memM (k := 0) rfl hf00) hx16 rfl) ?_
                  refine WL.yldG (by decide) rfl (Yld.neq_u8 (a := x16) (b := 165#8) rfl rfl) ?_
                  refine WL.yld (by decide) (Yld.pickF rfl rfl) ?_
                  refine WL.yld (by decide) (Yld.move rfl) ?_
                  refine WL.new (v' := .bool false) (congrArg Value.bool (bne_eq_false_iff_eq.2 hc17)) ?_
                  refine WL.yldG (by decide) rfl (Yld.move rfl) ?_
                  refine WL.yldG (by decide) rfl (Yld.idxC (xs := x00) sty_24 rfl rfl (RdH.memM (k := 0) rfl hf00) hx18) ?_
                  refine WL.yldG (by decide) rfl (Yld.loadC0 (xs := x00) scal_5 rfl (RdH.memM (k := 0) rfl hf00) hx18 rfl) ?_
                  refine WL.yldG (by decide) rfl (Yld.gtr_u8 (a := x18) (b := 1#8) rfl rfl) ?_
                  refine WL.yld (by decide) (Yld.pickF rfl rfl) ?_
                  refine WL.yld (by decide) (Yld.move rfl) ?_
                  refine WL.new (v' := .bool false) (congrArg Value.bool (decide_eq_false hc19)) ?_
                  refine WL.yldG (by decide) rfl (Yld.move rfl) ?_
                  refine WL.yldG (by decide) rfl (Yld.idxC (xs := x00) sty_24 rfl rfl (RdH.memM (k := 0) rfl hf00) hx22) ?_
                  refine WL.yldG (by decide) rfl (Yld.loadC0 (xs := x00) scal_5 rfl (RdH.memM (k := 0) rfl hf00) hx22 rfl) ?_
                  refine WL.yldG (by decide) rfl (Yld.neq_u8 (a := x22) (b := 0#8) rfl rfl) ?_
                  refine WL.yld (by decide) (Yld.pickF rfl rfl) ?_
                  refine WL.yld (by decide) (Yld.move rfl) ?_
                  refine WL.new (v' := .bool false) (congrArg Value.bool (bne_eq_false_iff_eq.2 hc23)) ?_
                  refine WL.yldG (by decide) rfl (Yld.move rfl) ?_
                  refine WL.yldG (by decide) rfl (Yld.gtr_u64 (a := x10) (b := 4096#64) rfl rfl) ?_
                  refine WL.yld (by decide) (Yld.pickF rfl rfl) ?_
                  refine WL.yld (by decide) (Yld.move rfl) ?_
                  refine WL.new (v' := .bool false) (congrArg Value.bool (decide_eq_false hc24)) ?_
                  refine WL.yldG (by decide) rfl (Yld.move rfl) ?_
                  refine WL.yldG (by decide) rfl (Yld.idxC (xs := x00) sty_24 rfl rfl (RdH.memM (k := 0) rfl hf00) hx27) ?_
                  refine WL.yldG (by decide) rfl (Yld.loadC0 (xs := x00) scal_5 rfl (RdH.memM (k := 0) rfl hf00) hx27 rfl) ?_
                  refine WL.yldG (by decide) rfl (Yld.eql_u8 (a := x27) (b := 1#8) rfl rfl) ?_
                  refine WL.yldG (by decide) rfl (Yld.move rfl) ?_
                  refine WL.new (v' := .bool true) (congrArg Value.bool (beq_iff_eq.2 hc28)) ?_
                  refine WL.yldG (by decide) rfl (Yld.move rfl) ?_
                  refine WL.yldG (by decide) rfl (Yld.gtr_u64 (a := x10) (b := 0#64) rfl rfl) ?_
                  refine WL.yldG (by decide) rfl (Yld.pickT rfl rfl) ?_
                  refine WL.yld (by decide) (Yld.pickF rfl rfl) ?_
                  refine WL.done (hK13 _ _ ?_)
                  by_cases hc29 : 0#64 < x10
                  · replace h := of_t hc29 h
                    refine WC.condTe rfl (decide_eq_true hc29) ?_
                    refine WC.seqRegion fun K30 hK30 => ?_
                    refine WL.yld (by decide) (Yld.build rfl (bu_26_)) ?_
                    refine WL.eff0 (Eff0.storeBAM 102 agg_26 rfl rfl rfl ⟨rfl, rfl⟩ rfl) ?_
                    refine WL.yld (by decide) (Yld.assign rfl) ?_
                    refine WL.yld (by decide) (Yld.assign rfl) ?_
                    refine WL.done (hK30 _ _ ?_)
                    refine WC.ret (QK.thenR ?_)
                    refine QK.nilOwn 131 5 (Lay.sz (BitVec 8)) none ?_
                    injection h with h; subst h
                    exact Ret.fn [131] (ResIs.cellTmp2M (k := 102) rfl agg_26 rfl rfl rfl rfl rfl) rfl (Ext.refl _ _) rfl (by decide) rfl rfl ⟨none, 0, 0, rfl, rfl⟩
                  · replace h := of_f hc29 h
                    refine WC.condFe rfl (decide_eq_false hc29) ?_
                    refine WC.skip ?_
                    refine QK.thenN ?_
                    refine hK12 () _ _ ?_ (Sub.cons rfl (Sub.cons rfl (Sub.cons rfl (Sub.nil _)))) (Sub.cons rfl (Sub.cons rfl (Sub.nil _)))
                    exact h
                · replace h := of_f hc28 h
                  refine WL.yld (by decide) (Yld.move rfl) ?_
                  refine WL.yld (by decide) (Yld.idxC (xs := x00) sty_24 rfl rfl (RdH.memM (k := 0) rfl hf00) hx14) ?_
                  refine WL.yld (by decide) (Yld.loadC0 (xs := x00) scal_5 rfl (RdH.memM (k := 0) rfl hf00) hx14 rfl) ?_
                  refine WL.yld (by decide) (Yld.neq_u8 (a := x14) (b := 78#8) rfl rfl) ?_
                  refine WL.yld (by decide) (Yld.move rfl) ?_
                  refine WL.new (v' := .bool false) (congrArg Value.bool (bne_eq_false_iff_eq.2 hc15)) ?_
                  refine WL.yldG (by decide) rfl (Yld.move rfl) ?_
                  refine WL.yldG (by decide) rfl (Yld.idxC (xs := x00) sty_24 rfl rfl (RdH.memM (k := 0) rfl hf00) hx16) ?_
                  refine WL.yldG (by decide) rfl (Yld.loadC0 (xs := x00) scal_5 rfl (RdH.memM (k := 0) rfl hf00) hx16 rfl) ?_
                  refine WL.yldG (by decide) rfl (Yld.neq_u8 (a := x16) (b := 165#8) rfl rfl) ?_
                  refine WL.yld (by decide) (Yld.pickF rfl rfl) ?_
                  refine WL.yld (by decide) (Yld.move rfl) ?_
                  refine WL.new (v' := .bool false) (congrArg Value.bool (bne_eq_false_iff_eq.2 hc17)) ?_
                  refine WL.yldG (by decide) rfl (Yld.move rfl) ?_
                  refine WL.yldG (by decide) rfl (Yld.idxC (xs := x00) sty_24 rfl rfl (RdH.memM (k := 0) rfl hf00) hx18) ?_
                  refine WL.yldG (by decide) rfl (Yld.loadC0 (xs := x00) scal_5 rfl (RdH.memM (k := 0) rfl hf00) hx18 rfl) ?_
                  refine WL.yldG (by decide) rfl (Yld.gtr_u8 (a := x18) (b := 1#8) rfl rfl) ?_
                  refine WL.yld (by decide) (Yld.pickF rfl rfl) ?_
                  refine WL.yld (by decide) (Yld.move rfl) ?_
                  refine WL.new (v' := .bool false) (congrArg Value.bool (decide_eq_false hc19)) ?_
                  refine WL.yldG (by decide) rfl (Yld.move rfl) ?_
                  refine WL.yldG (by decide) rfl (Yld.idxC (xs := x00) sty_24 rfl rfl (RdH.memM (k := 0) rfl hf00) hx22) ?_
                  refine WL.yldG (by decide) rfl (Yld.loadC0 (xs := x00) scal_5 rfl (RdH.memM (k := 0) rfl hf00) hx22 rfl) ?_
                  refine WL.yldG (by decide) rfl (Yld.neq_u8 (a := x22) (b := 0#8) rfl rfl) ?_
                  refine WL.yld (by decide) (Yld.pickF rfl rfl) ?_
                  refine WL.yld (by decide) (Yld.move rfl) ?_
                  refine WL.new (v' := .bool false) (congrArg Value.bool (bne_eq_false_iff_eq.2 hc23)) ?_
                  refine WL.yldG (by decide) rfl (Yld.move rfl) ?_
                  refine WL.yldG (by decide) rfl (Yld.gtr_u64 (a := x10) (b := 4096#64) rfl rfl) ?_
                  refine WL.yld (by decide) (Yld.pickF rfl rfl) ?_
                  refine WL.yld (by decide) (Yld.move rfl) ?_
                  refine WL.new (v' := .bool false) (congrArg Value.bool (decide_eq_false hc24)) ?_
                  refine WL.yldG (by decide) rfl (Yld.move rfl) ?_
                  refine WL.yldG (by decide) rfl (Yld.idxC (xs := x00) sty_24 rfl rfl (RdH.memM (k := 0) rfl hf00) hx27) ?_
                  refine WL.yldG (by decide) rfl (Yld.loadC0 (xs := x00) scal_5 rfl (RdH.memM (k := 0) rfl hf00) hx27 rfl) ?_
                  refine WL.yldG (by decide) rfl (Yld.eql_u8 (a := x27) (b := 1#8) rfl rfl) ?_
                  refine WL.yldG (by decide) rfl (Yld.move rfl) ?_
                  refine WL.new (v' := .bool false) (congrArg Value.bool (beq_eq_false_iff_ne.2 hc28)) ?_
                  refine WL.skip (by decide) rfl rfl ?_
                  refine WL.skip (by decide) rfl rfl ?_
                  refine WL.yldG (by decide) rfl (Yld.pickF rfl rfl) ?_
                  refine WL.yld (by decide) (Yld.pickF rfl rfl) ?_
                  refine WL.done (hK13 _ _ ?_)
                  refine WC.condF rfl ?_
                  refine WC.skip ?_
                  refine QK.thenN ?_
                  refine hK12 () _ _ ?_ (Sub.cons rfl (Sub.cons rfl (Sub.cons rfl (Sub.nil _)))) (Sub.cons rfl (Sub.cons rfl (Sub.nil _)))
                  exact h
            · replace h := of_f hc23 h
              refine WL.yld (by decide) (Yld.move rfl) ?_
              refine WL.yld (by decide) (Yld.idxC (xs := x00) sty_24 rfl rfl (RdH.memM (k := 0) rfl hf00) hx14) ?_
              refine WL.yld (by decide) (Yld.loadC0 (xs := x00) scal_5 rfl (RdH.memM (k := 0) rfl hf00) hx14 rfl) ?_
              refine WL.yld (by decide) (Yld.neq_u8 (a := x14) (b := 78#8) rfl rfl) ?_
              refine WL.yld (by decide) (Yld.move rfl) ?_
              refine WL.new (v' := .bool false) (congrArg Value.bool (bne_eq_false_iff_eq.2 hc15)) ?_
              refine WL.yldG (by decide) rfl (Yld.move rfl) ?_
              refine WL.yldG (by decide) rfl (Yld.idxC (xs := x00) sty_24 rfl rfl (RdH.memM (k := 0) rfl hf00) hx16) ?_
              refine WL.yldG (by decide) rfl (Yld.loadC0 (xs := x00) scal_5 rfl (RdH.memM (k := 0) rfl hf00) hx16 rfl) ?_
              refine WL.yldG (by decide) rfl (Yld.neq_u8 (a := x16) (b := 165#8) rfl rfl) ?_
              refine WL.yld (by decide) (Yld.pickF rfl rfl) ?_
              refine WL.yld (by decide) (Yld.move rfl) ?_
              refine WL.new (v' := .bool false) (congrArg Value.bool (bne_eq_false_iff_eq.2 hc17)) ?_
              refine WL.yldG (by decide) rfl (Yld.move rfl) ?_
              refine WL.yldG (by decide) rfl (Yld.idxC (xs := x00) sty_24 rfl rfl (RdH.memM (k := 0) rfl hf00) hx18) ?_
              refine WL.yldG (by decide) rfl (Yld.loadC0 (xs := x00) scal_5 rfl (RdH.memM (k := 0) rfl hf00) hx18 rfl) ?_
              refine WL.yldG (by decide) rfl (Yld.gtr_u8 (a := x18) (b := 1#8) rfl rfl) ?_
              refine WL.yld (by decide) (Yld.pickF rfl rfl) ?_
              refine WL.yld (by decide) (Yld.move rfl) ?_
              refine WL.new (v' := .bool false) (congrArg Value.bool (decide_eq_false hc19)) ?_
              refine WL.yldG (by decide) rfl (Yld.move rfl) ?_
              refine WL.yldG (by decide) rfl (Yld.idxC (xs := x00) sty_24 rfl rfl (RdH.memM (k := 0) rfl hf00) hx22) ?_
              refine WL.yldG (by decide) rfl (Yld.loadC0 (xs := x00) scal_5 rfl (RdH.memM (k := 0) rfl hf00) hx22 rfl) ?_
              refine WL.yldG (by decide) rfl (Yld.neq_u8 (a := x22) (b := 0#8) rfl rfl) ?_
              refine WL.yld (by decide) (Yld.pickF rfl rfl) ?_
              refine WL.yld (by decide) (Yld.move rfl) ?_
              refine WL.new (v' := .bool true) (congrArg Value.bool (bne_iff_ne.2 hc23)) ?_
              refine WL.skip (by decide) rfl rfl ?_
              refine WL.skip (by decide) rfl rfl ?_
              refine WL.yld (by decide) (Yld.pickT rfl rfl) ?_
              refine WL.yld (by decide) (Yld.move rfl) ?_
              refine WL.skip (by decide) rfl rfl ?_
              refine WL.skip (by decide) rfl rfl ?_
              refine WL.skip (by decide) rfl rfl ?_
              refine WL.skip (by decide) rfl rfl ?_
              refine WL.skip (by decide) rfl rfl ?_
              refine WL.skipU (by decide) rfl ?_
              refine WL.skipU (by decide) rfl ?_
              refine WL.skip (by decide) rfl rfl ?_
              refine WL.yld (by decide) (Yld.pickT rfl rfl) ?_
              refine WL.done (hK13 _ _ ?_)
              refine WC.condT rfl ?_
              refine WC.seqRegion fun K32 hK32 => ?_
              refine WL.yld (by decide) (Yld.build rfl (bu_26_)) ?_
              refine WL.eff0 (Eff0.storeBAM 102 agg_26 rfl rfl rfl ⟨rfl, rfl⟩ rfl) ?_
              refine WL.yld (by decide) (Yld.assign rfl) ?_
              refine WL.yld (by decide) (Yld.assign rfl) ?_
              refine WL.done (hK32 _ _ ?_)
              refine WC.ret (QK.thenR ?_)
              refine QK.nilOwn 133 5 (Lay.sz (BitVec 8)) none ?_
              injection h with h; subst h
              exact Ret.fn [133] (ResIs.cellTmp2M (k := 102) rfl agg_26 rfl rfl rfl rfl rfl) rfl (Ext.refl _ _) rfl (by decide) rfl rfl ⟨none, 0, 0, rfl, rfl⟩
        · replace h := of_f hc17 h
          refine WL.yld (by decide) (Yld.move rfl) ?_
          refine WL.yld (by decide) (Yld.idxC (xs := x00) sty_24 rfl rfl (RdH.memM (k := 0) rfl hf00) hx14) ?_
          refine WL.yld (by decide) (Yld.loadC0 (xs := x00) scal_5 rfl (RdH.memM (k := 0) rfl hf00) hx14 rfl) ?_
          refine WL.yld (by decide) (Yld.neq_u8 (a := x14) (b := 78#8) rfl rfl) ?_
          refine WL.yld (by decide) (Yld.move rfl) ?_
          refine WL.new (v' := .bool false) (congrArg Value.bool (bne_eq_false_iff_eq.2 hc15)) ?_
          refine WL.yldG (by decide) rfl (Yld.move rfl) ?_
          refine WL.yldG (by decide) rfl (Yld.idxC (xs := x00) sty_24 rfl rfl (RdH.memM (k := 0) rfl hf00) hx16) ?_
          refine WL.yldG (by decide) rfl (Yld.loadC0 (xs := x00) scal_5 rfl (RdH.memM (k := 0) rfl hf00) hx16 rfl) ?_
          refine WL.yldG (by decide) rfl (Yld.neq_u8 (a := x16) (b := 165#8) rfl rfl) ?_
          refine WL.yld (by decide) (Yld.pickF rfl rfl) ?_
          refine WL.yld (by decide) (Yld.move rfl) ?_
          refine WL.new (v' := .bool true) (congrArg Value.bool (bne_iff_ne.2 hc17)) ?_
          refine WL.skip (by decide) rfl rfl ?_
          refine WL.skip (by decide) rfl rfl ?_
          refine WL.skip (by decide) rfl rfl ?_
          refine WL.skip (by decide) rfl rfl ?_
          refine WL.yld (by decide) (Yld.pickT rfl rfl) ?_
          refine WL.yld (by decide) (Yld.move rfl) ?_
          refine WL.skip (by decide) rfl rfl ?_
          refine WL.skip (by decide) rfl rfl ?_
          refine WL.skip (by decide) rfl rfl ?_
          refine WL.skip (by decide) rfl rfl ?_
          refine WL.yld (by decide) (Yld.pickT rfl rfl) ?_
          refine WL.yld (by decide) (Yld.move rfl) ?_
          refine WL.skip (by decide) rfl rfl ?_
          refine WL.skip (by decide) rfl rfl ?_
          refine WL.yld (by decide) (Yld.pickT rfl rfl) ?_
          refine WL.yld (by decide) (Yld.move rfl) ?_
          refine WL.skip (by decide) rfl rfl ?_
          refine WL.skip (by decide) rfl rfl ?_
          refine WL.skip (by decide) rfl rfl ?_
          refine WL.skip (by decide) rfl rfl ?_
          refine WL.skip (by decide) rfl rfl ?_
          refine WL.skipU (by decide) rfl ?_
          refine WL.skipU (by decide) rfl ?_
          refine WL.skip (by decide) rfl rfl ?_
          refine WL.yld (by decide) (Yld.pickT rfl rfl) ?_
          refine WL.done (hK13 _ _ ?_)
          refine WC.condT rfl ?_
          refine WC.seqRegion fun K34 hK34 => ?_
          refine WL.yld (by decide) (Yld.build rfl (bu_26_)) ?_
          refine WL.eff0 (Eff0.storeBAM 102 agg_26 rfl rfl rfl ⟨rfl, rfl⟩ rfl) ?_
          refine WL.yld (by decide) (Yld.assign rfl) ?_
          refine WL.yld (by decide) (Yld.assign rfl) ?_
          refine WL.done (hK34 _ _ ?_)
          refine WC.ret (QK.thenR ?_)
          refine QK.nilOwn 135 5 (Lay.sz (BitVec 8)) none ?_
          injection h with h; subst h
          exact Ret.fn [135] (ResIs.cellTmp2M (k := 102) rfl agg_26 rfl rfl rfl rfl rfl) rfl (Ext.refl _ _) rfl (by decide) rfl rfl ⟨none, 0, 0, rfl, rfl⟩
      · replace h := of_f hc15 h
        refine WL.yld (by decide) (Yld.move rfl) ?_
        refine WL.yld (by decide) (Yld.idxC (xs := x00) sty_24 rfl rfl (RdH.memM (k := 0) rfl hf00) hx14) ?_
        refine WL.yld (by decide) (Yld.loadC0 (xs := x00) scal_5 rfl (RdH.memM (k := 0) rfl hf00) hx14 rfl) ?_
        refine WL.yld (by decide) (Yld.neq_u8 (a := x14) (b := 78#8) rfl rfl) ?_
        refine WL.yld (by decide) (Yld.move rfl) ?_
        refine WL.new (v' := .bool true) (congrArg Value.bool (bne_iff_ne.2 hc15)) ?_
        refine WL.skip (by decide) rfl rfl ?_
        refine WL.skip (by decide) rfl rfl ?_
        refine WL.skip (by decide) rfl rfl ?_
        refine WL.skip (by decide) rfl rfl ?_
        refine WL.yld (by decide) (Yld.pickT rfl rfl) ?_
        refine WL.yld (by decide) (Yld.move rfl) ?_
        refine WL.skip (by decide) rfl rfl ?_
        refine WL.skip (by decide) rfl rfl ?_
        refine WL.skip (by decide) rfl rfl ?_
        refine WL.skip (by decide) rfl rfl ?_
        refine WL.yld (by decide) (Yld.pickT rfl rfl) ?_
        refine WL.yld (by decide) (Yld.move rfl) ?_
        refine WL.skip (by decide) rfl rfl ?_
        refine WL.skip (by decide) rfl rfl ?_
        refine WL.skip (by decide) rfl rfl ?_
        refine WL.skip (by decide) rfl rfl ?_
        refine WL.yld (by decide) (Yld.pickT rfl rfl) ?_
        refine WL.yld (by decide) (Yld.move rfl) ?_
        refine WL.skip (by decide) rfl rfl ?_
        refine WL.skip (by decide) rfl rfl ?_
        refine WL.yld (by decide) (Yld.pickT rfl rfl) ?_
        refine WL.yld (by decide) (Yld.move rfl) ?_
        refine WL.skip (by decide) rfl rfl ?_
        refine WL.skip (by decide) rfl rfl ?_
        refine WL.skip (by decide) rfl rfl ?_
        refine WL.skip (by decide) rfl rfl ?_
        refine WL.skip (by decide) rfl rfl ?_
        refine WL.skipU (by decide) rfl ?_
        refine WL.skipU (by decide) rfl ?_
        refine WL.skip (by decide) rfl rfl ?_
        refine WL.yld (by decide) (Yld.pickT rfl rfl) ?_
        refine WL.done (hK13 _ _ ?_)
        refine WC.condT rfl ?_
        refine WC.seqRegion fun K36 hK36 => ?_
        refine WL.yld (by decide) (Yld.build rfl (bu_26_)) ?_
        refine WL.eff0 (Eff0.storeBAM 102 agg_26 rfl rfl rfl ⟨rfl, rfl⟩ rfl) ?_
        refine WL.yld (by decide) (Yld.assign rfl) ?_
        refine WL.yld (by decide) (Yld.assign rfl) ?_
        refine WL.done (hK36 _ _ ?_)
        refine WC.ret (QK.thenR ?_)
        refine QK.nilOwn 137 5 (Lay.sz (BitVec 8)) none ?_
        injection h with h; subst h
        exact Ret.fn [137] (ResIs.cellTmp2M (k := 102) rfl agg_26 rfl rfl rfl rfl rfl) rfl (Ext.refl _ _) rfl (by decide) rfl rfl ⟨none, 0, 0, rfl, rfl⟩
    · rintro _ h
      unfold m_r06_Decode_j0 at h
      refine WC.seqRegion fun K38 hK38 => ?_
      obtain ⟨x39, hx39, h⟩ := bnd h
      obtain ⟨x41, hx41, h⟩ := bnd h
      refine WL.yld (by decide) (Yld.move rfl) ?_
      refine WL.yld (by decide) (Yld.conv_u64_i64 (a := x10) some_22 und_3 rfl) ?_
      refine WL.eff (by decide) (Eff.callS 140 rfl Try.func11 nm_11 rfl rfl (fun w hb hh => w_r06_Size (Mem.snap w) x10.toInt hx39)) ?_
      rintro _ _ ⟨_, ⟨rfl, rfl⟩, rfl⟩
      refine WL.yld (by decide) (Yld.move rfl) ?_
      refine WL.yld (by decide) (Yld.conv_u64_i64 (a := x10) some_22 und_3 rfl) ?_
      refine WL.yld (by decide) (Yld.addC rfl rfl hx41) ?_
      refine WL.yld (by decide) (Yld.assign rfl) ?_
      refine WL.yld (by decide) (Yld.assign rfl) ?_
      refine WL.done (hK38 _ _ ?_)
      refine WC.seq fun K42 hK42 => ?_
      refine WC.seqRegion fun K43 hK43 => ?_
      refine WL.yld (by decide) (Yld.move rfl) ?_
      refine WL.yld (by decide) (Yld.lenC (xs := x00) und_24 rfl (RdH.memM (k := 0) rfl hf00)) ?_
      refine WL.yld (by decide) (Yld.move rfl) ?_
      refine WL.yld (by decide) (Yld.lss rfl rfl) ?_
      refine WL.done (hK43 _ _ ?_)
      by_cases hc44 : (x00.length : Int) < x39
      · replace h := of_t hc44 h
        refine WC.condTe rfl (decide_eq_true hc44) ?_
        refine WC.seqRegion fun K45 hK45 => ?_
        refine WL.yld (by decide) (Yld.build rfl (bu_26_)) ?_
        refine WL.eff0 (Eff0.storeBAM 102 agg_26 rfl rfl rfl ⟨rfl, rfl⟩ rfl) ?_
        refine WL.yld (by decide) (Yld.assign rfl) ?_
        refine WL.yld (by decide) (Yld.assign rfl) ?_
        refine WL.done (hK45 _ _ ?_)
        refine WC.ret (QK.thenR ?_)
        refine QK.nilOwn 146 5 (Lay.sz (BitVec 8)) none ?_
        injection h with h; subst h
        exact Ret.fn [146] (ResIs.cellTmp2M (k := 102) rfl agg_26 rfl rfl rfl rfl rfl) rfl (Ext.refl _ _) rfl (by decide) rfl rfl ⟨none, 0, 0, rfl, rfl⟩
      · replace h := of_f hc44 h
        refine WC.condFe rfl (decide_eq_false hc44) ?_
        refine WC.skip ?_
        refine QK.thenN (hK42 _ _ ?_)
        refine WC.seq fun K47 hK47 => ?_
        refine WC.seqRegionD (n := 12) [(0, _), (102, _)] rfl mixed (Sub.cons rfl (Sub.cons rfl (Sub.nil _))) fun K48 hK48 => ?_
        obtain ⟨x49, hx49, h⟩ := bnd h
        obtain ⟨x50, hx50, h⟩ := bnd h
        obtain ⟨x58, hx58, h⟩ := bnd h
        obtain ⟨x59, hx59, h⟩ := bnd h
        refine WD.take 0 rfl (by kernel_rfl) (by kernel_rfl) (by kernel_rfl) (by decide) (Yld.move rfl) ?_
        refine WD.take 1 rfl (by kernel_rfl) (by kernel_rfl) (by kernel_rfl) (by decide) (Yld.move rfl) ?_
        refine WD.take 2 rfl (by kernel_rfl) (by kernel_rfl) (by kernel_rfl) (by decide) (Yld.sliceHC (xs := x00) sty_24 rfl rfl (RdH.memM (k := 0) rfl hf00) hx49) ?_
        refine WD.take 5 rfl (by kernel_rfl) (by kernel_rfl) (by kernel_rfl) (by decide) (Yld.move rfl) ?_
        refine WD.take 6 rfl (by kernel_rfl) (by kernel_rfl) (by kernel_rfl) (by decide) (Yld.move rfl) ?_
        refine WD.take 7 rfl (by kernel_rfl) (by kernel_rfl) (by kernel_rfl) (by decide) (Yld.move rfl) ?_
        refine WD.take 8 rfl (by kernel_rfl) (by kernel_rfl) (by kernel_rfl) (by decide) (Yld.addC rfl rfl hx58) ?_
        refine WD.take 9 rfl (by kernel_rfl) (by kernel_rfl) (by kernel_rfl) (by decide) (Yld.sliceLHC (xs := x00) sty_24 rfl rfl rfl (RdH.memM (k := 0) rfl hf00) hx59) ?_
        refine WD.take 10 rfl (by kernel_rfl) (by kernel_rfl) (by kernel_rfl) (by decide) (Yld.b2sC (xs := x59) und_24 und_5 und_9 rfl (RdT.slc (RdH.memM (k := 0) rfl hf00) hx59)) ?_
        refine WD.one 3 (by kernel_rfl) ?_
        refine WS.eff rfl (by decide) (Eff.callS 154 rfl Try.func25 nm_25 rfl rfl (fun w hb hh => w_r06_Check (Mem.snap w) A00 x49.length c00 _ (RdH.sn (RdT.slc0 (RdH.memM (k := 0) rfl hf00) hx49) w hb hh) hx50)) ?_
        rintro _ _ ⟨_, ⟨A55, n56, c57, rfl, rfl⟩, rfl⟩
        refine ⟨(Sub.cons rfl (Sub.cons rfl (Sub.nil _))), ?_⟩
        refine WD.one 4 (by kernel_rfl) ?_
        refine WS.yld rfl (by decide) (Yld.b2sC (xs := x50) und_24 und_5 und_9 rfl (RdH.own (k := 154) rfl)) ?_
        refine WD.take 11 rfl (by kernel_rfl) (by kernel_rfl) (by kernel_rfl) (by decide) (Yld.neqStr (a := x50) (b := x59) rfl rfl) ?_
        refine WD.done (by kernel_rfl) (hK48 _ _ ?_)
        by_cases hc60 : x50 = x59
        · replace h := of_t hc60 h
          refine WC.condFe rfl (neq_of_eq hc60) ?_
          refine WC.skip ?_
          refine QK.thenN (hK47 _ _ ?_)
          refine WC.seqCut (σ := Unit) (fun _ => [(0, .slice A00 n00 c00), (2, .pointer (some ⟨g2, 0, none⟩)), (6, I64 x39), (7, I64 x41)]) (fun _ => [(0, .mem M0), (102, .blk g2 26 [U64 0#64, U32 0#32, .bool false, .slice none 0 0])]) (fun _ => m_r06_Decode_j1 x00 x39 x41 = some res) (fun K61 hK61 => ?_) ?_
          · skip
            refine WC.seqRegion fun K62 hK62 => ?_
            obtain ⟨x63, hx63, h⟩ := bnd h
            refine WL.yld (by decide) (Yld.move rfl) ?_
            refine WL.yld (by decide) (Yld.addC rfl rfl hx63) ?_
            refine WL.yld (by decide) (Yld.assign rfl) ?_
            refine WL.done (hK62 _ _ ?_)
            refine WC.block ?_
            refine WC.loop (σ := Nat × Int) (fun ⟨q65, x64⟩ => [(0, .slice A00 n00 c00), (2, .pointer (some ⟨g2, 0, none⟩)), (6, I64 x39), (7, I64 x41), (8, I64 x64)]) (fun ⟨q65, x64⟩ => [(0, .mem M0), (102, .blk g2 26 [U64 0#64, U32 0#32, .bool false, .slice none 0 0])]) (fun ⟨q65, x64⟩ => m_r06_Decode_l2 x00 x39 x41 q65 x64 = some res) (fun ⟨q65, x64⟩ => q65) ⟨forever, x63⟩ ?_ (Sub.cons rfl (Sub.cons rfl (Sub.cons rfl (Sub.cons rfl (Sub.cons rfl (Sub.nil _)))))) (Sub.cons rfl (Sub.cons rfl (Sub.nil _))) ?_
            · exact h
            rintro ⟨q65, x64⟩ h K66 hK66
            cases q65 with
            | zero => exact absurd h (by simp [m_r06_Decode_l2])
            | succ q65 =>
              unfold m_r06_Decode_l2 at h
              refine WC.seq fun K67 hK67 => ?_
              refine WC.seqRegion fun K68 hK68 => ?_
              refine WL.yld (by decide) (Yld.move rfl) ?_
              refine WL.yld (by decide) (Yld.move rfl) ?_
              refine WL.yld (by decide) (Yld.lss rfl rfl) ?_
              refine WL.done (hK68 _ _ ?_)
              by_cases hc69 : x64 < x39
              · replace h := of_t hc69 h
                refine WC.condTe rfl (decide_eq_true hc69) ?_
                refine WC.skip ?_
                refine QK.thenN (hK67 _ _ ?_)
                refine WC.seq fun K70 hK70 => ?_
                refine WC.block ?_
                refine WC.seqRegion fun K71 hK71 => ?_
                obtain ⟨x72, hx72, h⟩ := bnd h
                refine WL.yld (by decide) (Yld.move rfl) ?_
                refine WL.yld (by decide) (Yld.move rfl) ?_
                refine WL.yld (by decide) (Yld.idxC (xs := x00) sty_24 rfl rfl (RdH.memM (k := 0) rfl hf00) hx72) ?_
                refine WL.yld (by decide) (Yld.loadC0 (xs := x00) scal_5 rfl (RdH.memM (k := 0) rfl hf00) hx72 rfl) ?_
                refine WL.yld (by decide) (Yld.neq_u8 (a := x72) (b := 0#8) rfl rfl) ?_
                refine WL.done (hK71 _ _ ?_)
                by_cases hc73 : x72 = 0#8
                · replace h := of_t hc73 h
                  refine WC.condFe rfl (bne_eq_false_iff_eq.2 hc73) ?_
                  refine WC.skip ?_
                  refine QK.blockN ?_
                  refine QK.thenN (hK70 _ _ ?_)
                  refine WC.region fun K74 hK74 => ?_
                  obtain ⟨x75, hx75, h⟩ := bnd h
                  refine WL.yld (by decide) (Yld.move rfl) ?_
                  refine WL.yld (by decide) (Yld.addC rfl rfl hx75) ?_
                  refine WL.yld (by decide) (Yld.assign rfl) ?_
                  refine WL.done (hK74 _ _ ?_)
                  refine QK.thenN ?_
                  refine hK66 ⟨q65, x75⟩ _ _ ?_ (Nat.lt_succ_self _) (Sub.cons rfl (Sub.cons rfl (Sub.cons rfl (Sub.cons rfl (Sub.cons rfl (Sub.nil _)))))) (Sub.cons rfl (Sub.cons rfl (Sub.nil _)))
                  exact h
                · replace h := of_f hc73 h
                  refine WC.condTe rfl (bne_iff_ne.2 hc73) ?_
                  refine WC.seqRegion fun K76 hK76 => ?_
                  refine WL.yld (by decide) (Yld.build rfl (bu_26_)) ?_
                  refine WL.eff0 (Eff0.storeBAM 102 agg_26 rfl rfl rfl ⟨rfl, rfl⟩ rfl) ?_
                  refine WL.yld (by decide) (Yld.assign rfl) ?_
                  refine WL.yld (by decide) (Yld.assign rfl) ?_
                  refine WL.done (hK76 _ _ ?_)
                  refine WC.ret (QK.blockR (QK.thenR (QK.thenR (QK.blockR (QK.thenR ?_)))))
                  refine QK.nilOwn 177 5 (Lay.sz (BitVec 8)) none ?_
                  injection h with h; subst h
                  exact Ret.fn [177] (ResIs.cellTmp2M (k := 102) rfl agg_26 rfl rfl rfl rfl rfl) rfl (Ext.refl _ _) rfl (by decide) rfl rfl ⟨none, 0, 0, rfl, rfl⟩
              · replace h := of_f hc69 h
                refine WC.condFe rfl (decide_eq_false hc69) ?_
                refine WC.exit (QK.thenE (QK.thenE (QK.blockX ?_)))
                refine QK.thenN ?_
                refine hK61 () _ _ ?_ (Sub.cons rfl (Sub.cons rfl (Sub.cons rfl (Sub.cons rfl (Sub.nil _))))) (Sub.cons rfl (Sub.cons rfl (Sub.nil _)))
                exact h
          · rintro _ h
            unfold m_r06_Decode_j1 at h
            refine WC.seqRegionD (n := 21) [(0, _)] rfl mixed (Sub.cons rfl (Sub.nil _)) fun K78 hK78 => ?_
            obtain ⟨x79, hx79, h⟩ := bnd h
            obtain ⟨x80, hx80, h⟩ := bnd h
            obtain ⟨x82, hx82, h⟩ := bnd h
            obtain ⟨x83, hx83, h⟩ := bnd h
            obtain ⟨x85, hx85, h⟩ := bnd h
            obtain ⟨x87, hx87, h⟩ := bnd h
            obtain ⟨x88, hx88, h⟩ := bnd h
            refine WD.take 0 rfl (by kernel_rfl) (by kernel_rfl) (by kernel_rfl) (by decide) (Yld.move rfl) ?_
            refine WD.take 1 rfl (by kernel_rfl) (by kernel_rfl) (by kernel_rfl) (by decide) (Yld.sliceLHC (xs := x00) sty_24 rfl rfl rfl (RdH.memM (k := 0) rfl hf00) hx79) ?_
            refine WD.take 3 rfl (by kernel_rfl) (by kernel_rfl) (by kernel_rfl) (by decide) (Yld.move rfl) ?_
            refine WD.take 4 rfl (by kernel_rfl) (by kernel_rfl) (by kernel_rfl) (by decide) (Yld.sliceLHC (xs := x00) sty_24 rfl rfl rfl (RdH.memM (k := 0) rfl hf00) hx82) ?_
            refine WD.take 7 rfl (by kernel_rfl) (by kernel_rfl) (by kernel_rfl) (by decide) (Yld.move rfl) ?_
            refine WD.take 8 rfl (by kernel_rfl) (by kernel_rfl) (by kernel_rfl) (by decide) (Yld.idxC (xs := x00) sty_24 rfl rfl (RdH.memM (k := 0) rfl hf00) hx85) ?_
            refine WD.take 9 rfl (by kernel_rfl) (by kernel_rfl) (by kernel_rfl) (by decide) (Yld.loadC0 (xs := x00) scal_5 rfl (RdH.memM (k := 0) rfl hf00) hx85 rfl) ?_
            refine WD.take 10 rfl (by kernel_rfl) (by kernel_rfl) (by kernel_rfl) (by decide) (Yld.eql_u8 (a := x85) (b := 1#8) rfl rfl) ?_
            refine WD.take 12 rfl (by kernel_rfl) (by kernel_rfl) (by kernel_rfl) (by decide) (Yld.move rfl) ?_
            refine WD.take 13 rfl (by kernel_rfl) (by kernel_rfl) (by kernel_rfl) (by decide) (Yld.move rfl) ?_
            refine WD.take 14 rfl (by kernel_rfl) (by kernel_rfl) (by kernel_rfl) (by decide) (Yld.sliceLHC (xs := x00) sty_24 rfl rfl rfl (RdH.memM (k := 0) rfl hf00) hx87) ?_
            refine WD.take 17 rfl (by kernel_rfl) (by kernel_rfl) (by kernel_rfl) (by decide) (Yld.move rfl) ?_
            refine WD.two 2 11 (by kernel_rfl) ?_ ?_
            · skip
              refine WS.eff rfl (by decide) (Eff.callS 181 rfl Try.func29 nm_29 rfl rfl (fun w hb hh => w_r06_Value (Mem.snap w) (subA A00 c00 ((8 : Int)).toNat (Lay.sz (BitVec 8))) x79.length (c00 - ((8 : Int)).toNat) _ (RdH.sn (RdT.slc (RdH.memM (k := 0) rfl hf00) hx79) w hb hh) hx80)) ?_
              rintro _ _ ⟨_, ⟨rfl, rfl⟩, rfl⟩
              refine ⟨(Sub.cons rfl (Sub.nil _)), ?_⟩
              refine WD.two 5 11 (by kernel_rfl) ?_ ?_
              · skip
                refine WS.eff rfl (by decide) (Eff.callS 184 rfl Try.func29 nm_29 rfl rfl (fun w hb hh => w_r06_Value (Mem.snap w) (subA A00 c00 ((4 : Int)).toNat (Lay.sz (BitVec 8))) x82.length (c00 - ((4 : Int)).toNat) _ (RdH.sn (RdT.slc (RdH.memM (k := 0) rfl hf00) hx82) w hb hh) hx83)) ?_
                rintro _ _ ⟨_, ⟨rfl, rfl⟩, rfl⟩
                refine ⟨(Sub.cons rfl (Sub.nil _)), ?_⟩
                refine WD.take 6 rfl (by kernel_rfl) (by kernel_rfl) (by kernel_rfl) (by decide) (Yld.conv_u64_u32 (a := x83) some_22 und_23 rfl) ?_
                refine WD.one 11 (by kernel_rfl) ?_
                refine WS.eff rfl (by decide) (Eff.buildC 186 ([] : List (BitVec 8)) sty_24 rfl rfl rfl rfl rfl (by decide)) ?_
                rintro _ _ ⟨g86, rfl, rfl⟩
                refine ⟨(Sub.cons rfl (Sub.nil _)), ?_⟩
                refine WD.one 15 (by kernel_rfl) ?_
                refine WS.eff rfl (by decide) (Eff.appendC 186 (xs := ([] : List (BitVec 8))) (ys := x87) sty_24 rfl rfl rfl (RdT.slc (RdH.memM (k := 0) rfl hf00) hx87) hx88) ?_
                rintro _ _ ⟨A89, c90, rfl, rfl⟩
                refine ⟨(Sub.cons rfl (Sub.nil _)), ?_⟩
                refine WD.take 16 rfl (by kernel_rfl) (by kernel_rfl) (by kernel_rfl) (by decide) (Yld.build rfl (bu_26_0_1_2_3 x80 (x83.setWidth 32) (x85 == 1#8) A89 x88.length c90)) ?_
                refine WD.one 18 (by kernel_rfl) ?_
                refine WS.eff0 rfl (Eff0.storeBAM 102 agg_26 rfl rfl rfl ⟨rfl, rfl⟩ rfl) (Sub.cons rfl (Sub.nil _)) ?_
                refine WD.take 19 rfl (by kernel_rfl) (by kernel_rfl) (by kernel_rfl) (by decide) (Yld.assign rfl) ?_
                refine WD.take 20 rfl (by kernel_rfl) (by kernel_rfl) (by kernel_rfl) (by decide) (Yld.assign rfl) ?_
                refine WD.done (by kernel_rfl) (hK78 _ _ ?_)
                refine WC.ret ?_
                injection h with h; subst h
                exact Ret.fn [186] (ResIs.cellTmp2M (k := 102) rfl agg_26 rfl rfl rfl rfl rfl) rfl (Ext.refl _ _) rfl (by decide) rfl rfl ⟨A89, x88.length, c90, rfl, rfl⟩
              · skip
                refine WS.eff rfl (by decide) (Eff.buildC 186 ([] : List (BitVec 8)) sty_24 rfl rfl rfl rfl rfl (by decide)) ?_
                rintro _ _ ⟨g86, rfl, rfl⟩
                refine ⟨(Sub.cons rfl (Sub.nil _)), ?_⟩
                refine WD.one 5 (by kernel_rfl) ?_
                refine WS.eff rfl (by decide) (Eff.callS 184 rfl Try.func29 nm_29 rfl rfl (fun w hb hh => w_r06_Value (Mem.snap w) (subA A00 c00 ((4 : Int)).toNat (Lay.sz (BitVec 8))) x82.length (c00 - ((4 : Int)).toNat) _ (RdH.sn (RdT.slc (RdH.memM (k := 0) rfl hf00) hx82) w hb hh) hx83)) ?_
                rintro _ _ ⟨_, ⟨rfl, rfl⟩, rfl⟩
                refine ⟨(Sub.cons rfl (Sub.nil _)), ?_⟩
                refine WD.take 6 rfl (by kernel_rfl) (by kernel_rfl) (by kernel_rfl) (by decide) (Yld.conv_u64_u32 (a := x83) some_22 und_23 rfl) ?_
                refine WD.one 15 (by kernel_rfl) ?_
                refine WS.eff rfl (by decide) (Eff.appendC 186 (xs := ([] : List (BitVec 8))) (ys := x87) sty_24 rfl rfl rfl (RdT.slc (RdH.memM (k := 0) rfl hf00) hx87) hx88) ?_
                rintro _ _ ⟨A89, c90, rfl, rfl⟩
                refine ⟨(Sub.cons rfl (Sub.nil _)), ?_⟩
                refine WD.take 16 rfl (by kernel_rfl) (by kernel_rfl) (by kernel_rfl) (by decide) (Yld.build rfl (bu_26_0_1_2_3 x80 (x83.setWidth 32) (x85 == 1#8) A89 x88.length c90)) ?_
                refine WD.one 18 (by kernel_rfl) ?_
                refine WS.eff0 rfl (Eff0.storeBAM 102 agg_26 rfl rfl rfl ⟨rfl, rfl⟩ rfl) (Sub.cons rfl (Sub.nil _)) ?_
                refine WD.take 19 rfl (by kernel_rfl) (by kernel_rfl) (by kernel_rfl) (by decide) (Yld.assign rfl) ?_
                refine WD.take 20 rfl (by kernel_rfl) (by kernel_rfl) (by kernel_rfl) (by decide) (Yld.assign rfl) ?_
                refine WD.done (by kernel_rfl) (hK78 _ _ ?_)
                refine WC.ret ?_
                injection h with h; subst h
                exact Ret.fn [186] (ResIs.cellTmp2M (k := 102) rfl agg_26 rfl rfl rfl rfl rfl) rfl (Ext.refl _ _) rfl (by decide) rfl rfl ⟨A89, x88.length, c90, rfl, rfl⟩
            · skip
              refine WS.eff rfl (by decide) (Eff.buildC 186 ([] : List (BitVec 8)) sty_24 rfl rfl rfl rfl rfl (by decide)) ?_
              rintro _ _ ⟨g86, rfl, rfl⟩
              refine ⟨(Sub.cons rfl (Sub.nil _)), ?_⟩
              refine WD.one 2 (by kernel_rfl) ?_
              refine WS.eff rfl (by decide) (Eff.callS 181 rfl Try.func29 nm_29 rfl rfl (fun w hb hh => w_r06_Value (Mem.snap w) (subA A00 c00 ((8 : Int)).toNat (Lay.sz (BitVec 8))) x79.length (c00 - ((8 : Int)).toNat) _ (RdH.sn (RdT.slc (RdH.memM (k := 0) rfl hf00) hx79) w hb hh) hx80)) ?_
              rintro _ _ ⟨_, ⟨rfl, rfl⟩, rfl⟩
              refine ⟨(Sub.cons rfl (Sub.nil _)), ?_⟩
              refine WD.one 5 (by kernel_rfl) ?_
              refine WS.eff rfl (by decide) (Eff.callS 184 rfl Try.func29 nm_29 rfl rfl (fun w hb hh => w_r06_Value (Mem.snap w) (subA A00 c00 ((4 : Int)).toNat (Lay.sz (BitVec 8))) x82.length (c00 - ((4 : Int)).toNat) _ (RdH.sn (RdT.slc (RdH.memM (k := 0) rfl hf00) hx82) w hb hh) hx83)) ?_
              rintro _ _ ⟨_, ⟨rfl, rfl⟩, rfl⟩
              refine ⟨(Sub.cons rfl (Sub.nil _)), ?_⟩
              refine WD.take 6 rfl (by kernel_rfl) (by kernel_rfl) (by kernel_rfl) (by decide) (Yld.conv_u64_u32 (a := x83) some_22 und_23 rfl) ?_
              refine WD.one 15 (by kernel_rfl) ?_
              refine WS.eff rfl (by decide) (Eff.appendC 186 (xs := ([] : List (BitVec 8))) (ys := x87) sty_24 rfl rfl rfl (RdT.slc (RdH.memM (k := 0) rfl hf00) hx87) hx88) ?_
              rintro _ _ ⟨A89, c90, rfl, rfl⟩
              refine ⟨(Sub.cons rfl (Sub.nil _)), ?_⟩
              refine WD.take 16 rfl (by kernel_rfl) (by kernel_rfl) (by kernel_rfl) (by decide) (Yld.build rfl (bu_26_0_1_2_3 x80 (x83.setWidth 32) (x85 == 1#8) A89 x88.length c90)) ?_
              refine WD.one 18 (by kernel_rfl) ?_
              refine WS.eff0 rfl (Eff0.storeBAM 102 agg_26 rfl rfl rfl ⟨rfl, rfl⟩ rfl) (Sub.cons rfl (Sub.nil _)) ?_
              refine WD.take 19 rfl (by kernel_rfl) (by kernel_rfl) (by kernel_rfl) (by decide) (Yld.assign rfl) ?_
              refine WD.take 20 rfl (by kernel_rfl) (by kernel_rfl) (by kernel_rfl) (by decide) (Yld.assign rfl) ?_
              refine WD.done (by kernel_rfl) (hK78 _ _ ?_)
              refine WC.ret ?_
              injection h with h; subst h
              exact Ret.fn [186] (ResIs.cellTmp2M (k := 102) rfl agg_26 rfl rfl rfl rfl rfl) rfl (Ext.refl _ _) rfl (by decide) rfl rfl ⟨A89, x88.length, c90, rfl, rfl⟩
        · replace h := of_f hc60 h
          refine WC.condTe rfl (neq_of_ne hc60) ?_
          refine WC.seqRegion fun K91 hK91 => ?_
          refine WL.yld (by decide) (Yld.build rfl (bu_26_)) ?_
          refine WL.eff0 (Eff0.storeBAM 102 agg_26 rfl rfl rfl ⟨rfl, rfl⟩ rfl) ?_
          refine WL.yld (by decide) (Yld.assign rfl) ?_
          refine WL.yld (by decide) (Yld.assign rfl) ?_
          refine WL.done (hK91 _ _ ?_)
          refine WC.ret (QK.thenR ?_)
          refine QK.nilOwn 192 5 (Lay.sz (BitVec 8)) none ?_
          injection h with h; subst h
          exact Ret.fn [192] (ResIs.cellTmp2M (k := 102) rfl agg_26 rfl rfl rfl rfl rfl) rfl (Ext.refl _ _) rfl (by decide) rfl rfl ⟨none, 0, 0, rfl, rfl⟩

set_option maxRecDepth 10000 in
theorem w_slices_Clone_byte_byte (M0 : Mem) (A00 : Option Addr) (n00 c00 : Nat) (x00 : List (BitVec 8)) (hf00 : SlT M0 A00 n00 c00 x00) {res : (List (BitVec 8))} (h : m_slices_Clone_byte_byte x00 = some res) :
    Fn Try.prog 28 #[.slice A00 n00 c00] M0 fun r M' es => ∃ (A1 : Option Addr) (n1 c1 : Nat), r = .slice A1 n1 c1 ∧ es = [.own 5 (Lay.sz (BitVec 8)) A1 n1 c1 (cel res)] := by
  refine Fn.intro (N := 8) Try.func28 rfl rfl (Nat.le_of_ble_eq_true rfl) fun w0 => ?_
  unfold m_slices_Clone_byte_byte at h
  refine WC.seqRegion fun K1 hK1 => ?_
  refine WL.yld (by decide) (Yld.assign rfl) ?_
  refine WL.done (hK1 _ _ ?_)
  refine WC.seq fun K2 hK2 => ?_
  refine WC.seqRegion fun K3 hK3 => ?_
  refine WL.yld (by decide) (Yld.move rfl) ?_
  refine WL.yld (by decide) (Yld.eqlNil und_24 rfl rfl) ?_
  refine WL.done (hK3 _ _ ?_)
  by_cases hA4 : A00 = none
  · have hz := nil_of hf00 hA4
    subst hz
    replace h : some ([] : List (BitVec 8)) = some res := h
    refine WC.condTe rfl (by rw [hA4]; rfl) ?_
    refine WC.seqRegion fun K5 hK5 => ?_
    refine WL.yld (by decide) (Yld.assign rfl) ?_
    refine WL.done (hK5 _ _ ?_)
    refine WC.ret (QK.thenR ?_)
    refine QK.nilOwn 106 5 (Lay.sz (BitVec 8)) none ?_
    injection h with h; subst h
    exact Ret.fn [106] (ResIs.one rfl rfl) rfl (Ext.refl _ _) rfl (by decide) rfl rfl ⟨none, 0, 0, rfl, rfl⟩
  · skip
    refine WC.condFe rfl (isNone_ne hA4) ?_
    refine WC.skip ?_
    refine QK.thenN (hK2 _ _ ?_)
    refine WC.seqRegion fun K7 hK7 => ?_
    obtain ⟨x9, hx9, h⟩ := bnd h
    refine WL.eff (by decide) (Eff.buildC 108 ([] : List (BitVec 8)) sty_24 rfl rfl rfl rfl rfl (by decide)) ?_
    rintro _ _ ⟨g8, rfl, rfl⟩
    refine WL.yld (by decide) (Yld.move rfl) ?_
    refine WL.eff (by decide) (Eff.appendC 108 (xs := ([] : List (BitVec 8))) (ys := x00) sty_24 rfl rfl rfl (RdH.memM (k := 0) rfl hf00) hx9) ?_
    rintro _ _ ⟨A10, c11, rfl, rfl⟩
    refine WL.yld (by decide) (Yld.assign rfl) ?_
    refine WL.done (hK7 _ _ ?_)
    refine WC.ret ?_
    injection h with h; subst h
    exact Ret.fn [108] (ResIs.one rfl rfl) rfl (Ext.refl _ _) rfl (by decide) rfl rfl ⟨A10, x9.length, c11, rfl, rfl⟩

set_option maxRecDepth 10000 in
theorem w_needle_Decode (M0 : Mem) (A00 : Option Addr) (n00 c00 : Nat) (x00 : List (BitVec 8)) (hf00 : SlT M0 A00 n00 c00 x00) {res : (BitVec 64) × (BitVec 32) × Bool × (List (BitVec 8)) × Int × Int} (h : m_needle_Decode x00 = some res) :
    Fn Try.prog 18 #[.slice A00 n00 c00] M0 fun r M' es => ∃ (A1 : Option Addr) (n1 c1 : Nat), r = .tuple #[.agg ([U64 res.1, U32 res.2.1, .bool res.2.2.1, .slice A1 n1 c1] : List Value).toArray, I64 res.2.2.2.2.1, I64 res.2.2.2.2.2] ∧ es = [.own 5 (Lay.sz (BitVec 8)) A1 n1 c1 (cel res.2.2.2.1)] := by
  refine Fn.intro (N := 118) Try.func18 rfl rfl (Nat.le_of_ble_eq_true rfl) fun w0 => ?_
  unfold m_needle_Decode at h
  refine WC.seqRegion fun K1 hK1 => ?_
  refine WL.eff (by decide) (Eff.alloc 102 rfl zr_26) ?_
  rintro _ _ ⟨g2, rfl, rfl⟩
  refine WL.yld (by decide) (Yld.assign rfl) ?_
  refine WL.yld (by decide) (Yld.assign rfl) ?_
  refine WL.done (hK1 _ _ ?_)
  refine WC.seq fun K3 hK3 => ?_
  refine WC.seqRegion fun K4 hK4 => ?_
  refine WL.yld (by decide) (Yld.move rfl) ?_
  refine WL.yld (by decide) (Yld.lenC (xs := x00) und_24 rfl (RdH.memM (k := 0) rfl hf00)) ?_
  refine WL.yld (by decide) (Yld.lss rfl rfl) ?_
  refine WL.done (hK4 _ _ ?_)
  by_cases hc5 : (x00.length : Int) < (20 : Int)
  · replace h := of_t hc5 h
    refine WC.condTe rfl (decide_eq_true hc5) ?_
    refine WC.seqRegion fun K6 hK6 => ?_
    refine WL.yld (by decide) (Yld.build rfl (bu_26_)) ?_
    refine WL.eff0 (Eff0.storeBAM 102 agg_26 rfl rfl rfl ⟨rfl, rfl⟩ rfl) ?_
    refine WL.yld (by decide) (Yld.assign rfl) ?_
    refine WL.yld (by decide) (Yld.assign rfl) ?_
    refine WL.done (hK6 _ _ ?_)
    refine WC.ret (QK.thenR ?_)
    refine QK.nilOwn 107 5 (Lay.sz (BitVec 8)) none ?_
    injection h with h; subst h
    exact Ret.fn [107] (ResIs.cellTmp2M (k := 102) rfl agg_26 rfl rfl rfl rfl rfl) rfl (Ext.refl _ _) rfl (by decide) rfl rfl ⟨none, 0, 0, rfl, rfl⟩
  · replace h := of_f hc5 h
    refine WC.condFe rfl (decide_eq_false hc5) ?_
    refine WC.skip ?_
    refine QK.thenN (hK3 _ _ ?_)
    refine WC.seqRegion fun K8 hK8 => ?_
    obtain ⟨x9, hx9, h⟩ := bnd h
    obtain ⟨x10, hx10, h⟩ := bnd h
    refine WL.yld (by decide) (Yld.move rfl) ?_
    refine WL.yld (by decide) (Yld.sliceLHC (xs := x00) sty_24 rfl rfl rfl (RdH.memM (k := 0) rfl hf00) hx9) ?_
    refine WL.eff (by decide) (Eff.callS 111 rfl Try.func26 nm_26 rfl rfl (fun w hb hh => w_needle_big (Mem.snap w) (subA A00 c00 ((16 : Int)).toNat (Lay.sz (BitVec 8))) x9.length (c00 - ((16 : Int)).toNat) _ (RdH.sn (RdT.slc (RdH.memM (k := 0) rfl hf00) hx9) w hb hh) hx10)) ?_
    rintro _ _ ⟨_, ⟨rfl, rfl⟩, rfl⟩
    refine WL.yld (by decide) (Yld.assign rfl) ?_
    refine WL.done (hK8 _ _ ?_)
    refine WC.seqCut (σ := Unit) (fun _ => [(0, .slice A00 n00 c00), (2, .pointer (some ⟨g2, 0, none⟩)), (5, U64 x10)]) (fun _ => [(0, .mem M0), (102, .blk g2 26 [U64 0#64, U32 0#32, .bool false, .slice none 0 0])]) (fun _ => m_needle_Decode_j0 x00 x10 = some res) (fun K12 hK12 => ?_) ?_
    · skip
      refine WC.seqRegion fun K13 hK13 => ?_
      obtain ⟨x14, hx14, h⟩ := bnd h
      by_cases hc15 : x14 = 78#8
      · replace h := of_t hc15 h
        obtain ⟨x16, hx16, h⟩ := bnd h
        by_cases hc17 : x16 = 165#8
        · replace h := of_t hc17 h
          obtain ⟨x18, hx18, h⟩ := bnd h
          by_cases hc19 : 1#8 < x18
          · replace h := of_t hc19 h
            refine WL.yld (by decide) (Yld.move rfl) ?_
            refine WL.yld (by decide) (Yld.idxC (xs := x00) sty_24 rfl rfl (RdH.memM (k := 0) rfl hf00) hx14) ?_
            refine WL.yld (by decide) (Yld.loadC0 (xs := x00) scal_5 rfl (RdH.memM (k := 0) rfl hf00) hx14 rfl) ?_
            refine WL.yld (by decide) (Yld.neq_u8 (a := x14) (b := 78#8) rfl rfl) ?_
            refine WL.yld (by decide) (Yld.move rfl) ?_
            refine WL.new (v' := .bool false) (congrArg Value.bool (bne_eq_false_iff_eq.2 hc15)) ?_
            refine WL.yldG (by decide) rfl (Yld.move rfl) ?_
            refine WL.yldG (by decide) rfl (Yld.idxC (xs := x00) sty_24 rfl rfl (RdH.memM (k := 0) rfl hf00) hx16) ?_
            refine WL.yldG (by decide) rfl (Yld.loadC0 (xs := x00) scal_5 rfl (RdH.memM (k := 0) rfl hf00) hx16 rfl) ?_
            refine WL.yldG (by decide) rfl (Yld.neq_u8 (a := x16) (b := 165#8) rfl rfl) ?_
            refine WL.yld (by decide) (Yld.pickF rfl rfl) ?_
            refine WL.yld (by decide) (Yld.move rfl) ?_
            refine WL.new (v' := .bool false) (congrArg Value.bool (bne_eq_false_iff_eq.2 hc17)) ?_
            refine WL.yldG (by decide) rfl (Yld.move rfl) ?_
            refine WL.yldG (by decide) rfl (Yld.idxC (xs := x00) sty_24 rfl rfl (RdH.memM (k := 0) rfl hf00) hx18) ?_
            refine WL.yldG (by decide) rfl (Yld.loadC0 (xs := x00) scal_5 rfl (RdH.memM (k := 0) rfl hf00) hx18 rfl) ?_
            refine WL.yldG (by decide) rfl (Yld.gtr_u8 (a := x18) (b := 1#8) rfl rfl) ?_
            refine WL.yld (by decide) (Yld.pickF rfl rfl) ?_
            refine WL.yld (by decide) (Yld.move rfl) ?_
            refine WL.new (v' := .bool true) (congrArg Value.bool (decide_eq_true hc19)) ?_
            refine WL.skip (by decide) rfl rfl ?_
            refine WL.skip (by decide) rfl rfl ?_
            refine WL.skip (by decide) rfl rfl ?_
            refine WL.skip (by decide) rfl rfl ?_
            refine WL.yld (by decide) (Yld.pickT rfl rfl) ?_
            refine WL.yld (by decide) (Yld.move rfl) ?_
            refine WL.skip (by decide) rfl rfl ?_
            refine WL.skip (by decide) rfl rfl ?_
            refine WL.yld (by decide) (Yld.pickT rfl rfl) ?_
            refine WL.yld (by decide) (Yld.move rfl) ?_
            refine WL.skip (by decide) rfl rfl ?_
            refine WL.skip (by decide) rfl rfl ?_
            refine WL.skip (by decide) rfl rfl ?_
            refine WL.skip (by decide) rfl rfl ?_
            refine WL.skip (by decide) rfl rfl ?_
            refine WL.skipU (by decide) rfl ?_
            refine WL.skipU (by decide) rfl ?_
            refine WL.skip (by decide) rfl rfl ?_
            refine WL.yld (by decide) (Yld.pickT rfl rfl) ?_
            refine WL.done (hK13 _ _ ?_)
            refine WC.condT rfl ?_
            refine WC.seqRegion fun K20 hK20 => ?_
            refine WL.yld (by decide) (Yld.build rfl (bu_26_)) ?_
            refine WL.eff0 (Eff0.storeBAM 102 agg_26 rfl rfl rfl ⟨rfl, rfl⟩ rfl) ?_
            refine WL.yld (by decide) (Yld.assign rfl) ?_
            refine WL.yld (by decide) (Yld.assign rfl) ?_
            refine WL.done (hK20 _ _ ?_)
            refine WC.ret (QK.thenR ?_)
            refine QK.nilOwn 121 5 (Lay.sz (BitVec 8)) none ?_
            injection h with h; subst h
            exact Ret.fn [121] (ResIs.cellTmp2M (k := 102) rfl agg_26 rfl rfl rfl rfl rfl) rfl (Ext.refl _ _) rfl (by decide) rfl rfl ⟨none, 0, 0, rfl, rfl⟩
          · replace h := of_f hc19 h
            obtain ⟨x22, hx22, h⟩ := bnd h
            by_cases hc23 : x22 = 0#8
            · replace h := of_t hc23 h
              by_cases hc24 : 4096#64 < x10
              · replace h := of_t hc24 h
                refine WL.yld (by decide) (Yld.move rfl) ?_
                refine WL.yld (by decide) (Yld.idxC (xs := x00) sty_24 rfl rfl (RdH.memM (k := 0) rfl hf00) hx14) ?_
                refine WL.yld (by decide) (Yld.loadC0 (xs := x00) scal_5 rfl (RdH.memM (k := 0) rfl hf00) hx14 rfl) ?_
                refine WL.yld (by decide) (Yld.neq_u8 (a := x14) (b := 78#8) rfl rfl) ?_
                refine WL.yld (by decide) (Yld.move rfl) ?_
                refine WL.new (v' := .bool false) (congrArg Value.bool (bne_eq_false_iff_eq.2 hc15)) ?_
                refine WL.yldG (by decide) rfl (Yld.move rfl) ?_
                refine WL.yldG (by decide) rfl (Yld.idxC (xs := x00) sty_24 rfl rfl (RdH.memM (k := 0) rfl hf00) hx16) ?_
                refine WL.yldG (by decide) rfl (Yld.loadC0 (xs := x00) scal_5 rfl (RdH.memM (k := 0) rfl hf00) hx16 rfl) ?_
                refine WL.yldG (by decide) rfl (Yld.neq_u8 (a := x16) (b := 165#8) rfl rfl) ?_
                refine WL.yld (by decide) (Yld.pickF rfl rfl) ?_
                refine WL.yld (by decide) (Yld.move rfl) ?_
                refine WL.new (v' := .bool false) (congrArg Value.bool (bne_eq_false_iff_eq.2 hc17)) ?_
                refine WL.yldG (by decide) rfl (Yld.move rfl) ?_
                refine WL.yldG (by decide) rfl (Yld.idxC (xs := x00) sty_24 rfl rfl (RdH.memM (k := 0) rfl hf00) hx18) ?_
                refine WL.yldG (by decide) rfl (Yld.loadC0 (xs := x00) scal_5 rfl (RdH.memM (k := 0) rfl hf00) hx18 rfl) ?_
                refine WL.yldG (by decide) rfl (Yld.gtr_u8 (a := x18) (b := 1#8) rfl rfl) ?_
                refine WL.yld (by decide) (Yld.pickF rfl rfl) ?_
                refine WL.yld (by decide) (Yld.move rfl) ?_
                refine WL.new (v' := .bool false) (congrArg Value.bool (decide_eq_false hc19)) ?_
                refine WL.yldG (by decide) rfl (Yld.move rfl) ?_
                refine WL.yldG (by decide) rfl (Yld.idxC (xs := x00) sty_24 rfl rfl (RdH.memM (k := 0) rfl hf00) hx22) ?_
                refine WL.yldG (by decide) rfl (Yld.loadC0 (xs := x00) scal_5 rfl (RdH.memM (k := 0) rfl hf00) hx22 rfl) ?_
                refine WL.yldG (by decide) rfl (Yld.neq_u8 (a := x22) (b := 0#8) rfl rfl) ?_
                refine WL.yld (by decide) (Yld.pickF rfl rfl) ?_
                refine WL.yld (by decide) (Yld.move rfl) ?_
                refine WL.new (v' := .bool false) (congrArg Value.bool (bne_eq_false_iff_eq.2 hc23)) ?_
                refine WL.yldG (by decide) rfl (Yld.move rfl) ?_
                refine WL.yldG (by decide) rfl (Yld.gtr_u64 (a := x10) (b := 4096#64) rfl rfl) ?_
                refine WL.yld (by decide) (Yld.pickF rfl rfl) ?_
                refine WL.yld (by decide) (Yld.move rfl) ?_
                refine WL.new (v' := .bool true) (congrArg Value.bool (decide_eq_true hc24)) ?_
                refine WL.skip (by decide) rfl rfl ?_
                refine WL.skip (by decide) rfl rfl ?_
                refine WL.skip (by decide) rfl rfl ?_
                refine WL.skip (by decide) rfl rfl ?_
                refine WL.skip (by decide) rfl rfl ?_
                refine WL.skipU (by decide) rfl ?_
                refine WL.skipU (by decide) rfl ?_
                refine WL.skip (by decide) rfl rfl ?_
                refine WL.yld (by decide) (Yld.pickT rfl rfl) ?_
                refine WL.done (hK13 _ _ ?_)
                refine WC.condT rfl ?_
                refine WC.seqRegion fun K25 hK25 => ?_
                refine WL.yld (by decide) (Yld.build rfl (bu_26_)) ?_
                refine WL.eff0 (Eff0.storeBAM 102 agg_26 rfl rfl rfl ⟨rfl, rfl⟩ rfl) ?_
                refine WL.yld (by decide) (Yld.assign rfl) ?_
                refine WL.yld (by decide) (Yld.assign rfl) ?_
                refine WL.done (hK25 _ _ ?_)
                refine WC.ret (QK.thenR ?_)
                refine QK.nilOwn 126 5 (Lay.sz (BitVec 8)) none ?_
                injection h with h; subst h
                exact Ret.fn [126] (ResIs.cellTmp2M (k := 102) rfl agg_26 rfl rfl rfl rfl rfl) rfl (Ext.refl _ _) rfl (by decide) rfl rfl ⟨none, 0, 0, rfl, rfl⟩
              · replace h := of_f hc24 h
                obtain ⟨x27, hx27, h⟩ := bnd h
                by_cases hc28 : x27 = 1#8
                · replace h := of_t hc28 h
                  refine WL.yld (by decide) (Yld.move rfl) ?_
                  refine WL.yld (by decide) (Yld.idxC (xs := x00) sty_24 rfl rfl (RdH.memM (k := 0) rfl hf00) hx14) ?_
                  refine WL.yld (by decide) (Yld.loadC0 (xs := x00) scal_5 rfl (RdH.memM (k := 0) rfl hf00) hx14 rfl) ?_
                  refine WL.yld (by decide) (Yld.neq_u8 (a := x14) (b := 78#8) rfl rfl) ?_
                  refine WL.yld (by decide) (Yld.move rfl) ?_
                  refine WL.new (v' := .bool false) (congrArg Value.bool (bne_eq_false_iff_eq.2 hc15)) ?_
                  refine WL.yldG (by decide) rfl (Yld.move rfl) ?_
                  refine WL.yldG (by decide) rfl (Yld.idxC (xs := x00) sty_24 rfl rfl (RdH.memM (k := 0) rfl hf00) hx16) ?_
                  refine WL.yldG (by decide) rfl (Yld.loadC0 (xs := x00) scal_5 rfl (RdH.memM (k := 0) rfl hf00) hx16 rfl) ?_
                  refine WL.yldG (by decide) rfl (Yld.neq_u8 (a := x16) (b := 165#8) rfl rfl) ?_
                  refine WL.yld (by decide) (Yld.pickF rfl rfl) ?_
                  refine WL.yld (by decide) (Yld.move rfl) ?_
                  refine WL.new (v' := .bool false) (congrArg Value.bool (bne_eq_false_iff_eq.2 hc17)) ?_
                  refine WL.yldG (by decide) rfl (Yld.move rfl) ?_
                  refine WL.yldG (by decide) rfl (Yld.idxC (xs := x00) sty_24 rfl rfl (RdH.memM (k := 0) rfl hf00) hx18) ?_
                  refine WL.yldG (by decide) rfl (Yld.loadC0 (xs := x00) scal_5 rfl (RdH.memM (k := 0) rfl hf00) hx18 rfl) ?_
                  refine WL.yldG (by decide) rfl (Yld.gtr_u8 (a := x18) (b := 1#8) rfl rfl) ?_
                  refine WL.yld (by decide) (Yld.pickF rfl rfl) ?_
                  refine WL.yld (by decide) (Yld.move rfl) ?_
                  refine WL.new (v' := .bool false) (congrArg Value.bool (decide_eq_false hc19)) ?_
                  refine WL.yldG (by decide) rfl (Yld.move rfl) ?_
                  refine WL.yldG (by decide) rfl (Yld.idxC (xs := x00) sty_24 rfl rfl (RdH.memM (k := 0) rfl hf00) hx22) ?_
                  refine WL.yldG (by decide) rfl (Yld.loadC0 (xs := x00) scal_5 rfl (RdH.memM (k := 0) rfl hf00) hx22 rfl) ?_
                  refine WL.yldG (by decide) rfl (Yld.neq_u8 (a := x22) (b := 0#8) rfl rfl) ?_
                  refine WL.yld (by decide) (Yld.pickF rfl rfl) ?_
                  refine WL.yld (by decide) (Yld.move rfl) ?_
                  refine WL.new (v' := .bool false) (congrArg Value.bool (bne_eq_false_iff_eq.2 hc23)) ?_
                  refine WL.yldG (by decide) rfl (Yld.move rfl) ?_
                  refine WL.yldG (by decide) rfl (Yld.gtr_u64 (a := x10) (b := 4096#64) rfl rfl) ?_
                  refine WL.yld (by decide) (Yld.pickF rfl rfl) ?_
                  refine WL.yld (by decide) (Yld.move rfl) ?_
                  refine WL.new (v' := .bool false) (congrArg Value.bool (decide_eq_false hc24)) ?_
                  refine WL.yldG (by decide) rfl (Yld.move rfl) ?_
                  refine WL.yldG (by decide) rfl (Yld.idxC (xs := x00) sty_24 rfl rfl (RdH.memM (k := 0) rfl hf00) hx27) ?_
                  refine WL.yldG (by decide) rfl (Yld.loadC0 (xs := x00) scal_5 rfl (RdH.memM (k := 0) rfl hf00) hx27 rfl) ?_
                  refine WL.yldG (by decide) rfl (Yld.eql_u8 (a := x27) (b := 1#8) rfl rfl) ?_
                  refine WL.yldG (by decide) rfl (Yld.move rfl) ?_
                  refine WL.new (v' := .bool true) (congrArg Value.bool (beq_iff_eq.2 hc28)) ?_
                  refine WL.yldG (by decide) rfl (Yld.move rfl) ?_
                  refine WL.yldG (by decide) rfl (Yld.gtr_u64 (a := x10) (b := 0#64) rfl rfl) ?_
                  refine WL.yldG (by decide) rfl (Yld.pickT rfl rfl) ?_
                  refine WL.yld (by decide) (Yld.pickF rfl rfl) ?_
                  refine WL.done (hK13 _ _ ?_)
                  by_cases hc29 : 0#64 < x10
                  · replace h := of_t hc29 h
                    refine WC.condTe rfl (decide_eq_true hc29) ?_
                    refine WC.seqRegion fun K30 hK30 => ?_
                    refine WL.yld (by decide) (Yld.build rfl (bu_26_)) ?_
                    refine WL.eff0 (Eff0.storeBAM 102 agg_26 rfl rfl rfl ⟨rfl, rfl⟩ rfl) ?_
                    refine WL.yld (by decide) (Yld.assign rfl) ?_
                    refine WL.yld (by decide) (Yld.assign rfl) ?_
                    refine WL.done (hK30 _ _ ?_)
                    refine WC.ret (QK.thenR ?_)
                    refine QK.nilOwn 131 5 (Lay.sz (BitVec 8)) none ?_
                    injection h with h; subst h
                    exact Ret.fn [131] (ResIs.cellTmp2M (k := 102) rfl agg_26 rfl rfl rfl rfl rfl) rfl (Ext.refl _ _) rfl (by decide) rfl rfl ⟨none, 0, 0, rfl, rfl⟩
                  · replace h := of_f hc29 h
                    refine WC.condFe rfl (decide_eq_false hc29) ?_
                    refine WC.skip ?_
                    refine QK.thenN ?_
                    refine hK12 () _ _ ?_ (Sub.cons rfl (Sub.cons rfl (Sub.cons rfl (Sub.nil _)))) (Sub.cons rfl (Sub.cons rfl (Sub.nil _)))
                    exact h
                · replace h := of_f hc28 h
                  refine WL.yld (by decide) (Yld.move rfl) ?_
                  refine WL.yld (by decide) (Yld.idxC (xs := x00) sty_24 rfl rfl (RdH.memM (k := 0) rfl hf00) hx14) ?_
                  refine WL.yld (by decide) (Yld.loadC0 (xs := x00) scal_5 rfl (RdH.memM (k := 0) rfl hf00) hx14 rfl) ?_
                  refine WL.yld (by decide) (Yld.neq_u8 (a := x14) (b := 78#8) rfl rfl) ?_
                  refine WL.yld (by decide) (Yld.move rfl) ?_
                  refine WL.new (v' := .bool false) (congrArg Value.bool (bne_eq_false_iff_eq.2 hc15)) ?_
                  refine WL.yldG (by decide) rfl (Yld.move rfl) ?_
                  refine WL.yldG (by decide) rfl (Yld.idxC (xs := x00) sty_24 rfl rfl (RdH.memM (k := 0) rfl hf00) hx16) ?_
                  refine WL.yldG (by decide) rfl (Yld.loadC0 (xs := x00) scal_5 rfl (RdH.memM (k := 0) rfl hf00) hx16 rfl) ?_
                  refine WL.yldG (by decide) rfl (Yld.neq_u8 (a := x16) (b := 165#8) rfl rfl) ?_
                  refine WL.yld (by decide) (Yld.pickF rfl rfl) ?_
                  refine WL.yld (by decide) (Yld.move rfl) ?_
                  refine WL.new (v' := .bool false) (congrArg Value.bool (bne_eq_false_iff_eq.2 hc17)) ?_
                  refine WL.yldG (by decide) rfl (Yld.move rfl) ?_
                  refine WL.yldG (by decide) rfl (Yld.idxC (xs := x00) sty_24 rfl rfl (RdH.memM (k := 0) rfl hf00) hx18) ?_
                  refine WL.yldG (by decide) rfl (Yld.loadC0 (xs := x00) scal_5 rfl (RdH.memM (k := 0) rfl hf00) hx18 rfl) ?_
                  refine WL.yldG (by decide) rfl (Yld.gtr_u8 (a := x18) (b := 1#8) rfl rfl) ?_
                  refine WL.yld (by decide) (Yld.pickF rfl rfl) ?_
                  refine WL.yld (by decide) (Yld.move rfl) ?_
                  refine WL.new (v' := .bool false) (congrArg Value.bool (decide_eq_false hc19)) ?_
                  refine WL.yldG (by decide) rfl (Yld.move rfl) ?_
                  refine WL.yldG (by decide) rfl (Yld.idxC (xs := x00) sty_24 rfl rfl (RdH.memM (k := 0) rfl hf00) hx22) ?_
                  refine WL.yldG (by decide) rfl (Yld.loadC0 (xs := x00) scal_5 rfl (RdH.memM (k := 0) rfl hf00) hx22 rfl) ?_
                  refine WL.yldG (by decide) rfl (Yld.neq_u8 (a := x22) (b := 0#8) rfl rfl) ?_
                  refine WL.yld (by decide) (Yld.pickF rfl rfl) ?_
                  refine WL.yld (by decide) (Yld.move rfl) ?_
                  refine WL.new (v' := .bool false) (congrArg Value.bool (bne_eq_false_iff_eq.2 hc23)) ?_
                  refine WL.yldG (by decide) rfl (Yld.move rfl) ?_
                  refine WL.yldG (by decide) rfl (Yld.gtr_u64 (a := x10) (b := 4096#64) rfl rfl) ?_
                  refine WL.yld (by decide) (Yld.pickF rfl rfl) ?_
                  refine WL.yld (by decide) (Yld.move rfl) ?_
                  refine WL.new (v' := .bool false) (congrArg Value.bool (decide_eq_false hc24)) ?_
                  refine WL.yldG (by decide) rfl (Yld.move rfl) ?_
                  refine WL.yldG (by decide) rfl (Yld.idxC (xs := x00) sty_24 rfl rfl (RdH.memM (k := 0) rfl hf00) hx27) ?_
                  refine WL.yldG (by decide) rfl (Yld.loadC0 (xs := x00) scal_5 rfl (RdH.memM (k := 0) rfl hf00) hx27 rfl) ?_
                  refine WL.yldG (by decide) rfl (Yld.eql_u8 (a := x27) (b := 1#8) rfl rfl) ?_
                  refine WL.yldG (by decide) rfl (Yld.move rfl) ?_
                  refine WL.new (v' := .bool false) (congrArg Value.bool (beq_eq_false_iff_ne.2 hc28)) ?_
                  refine WL.skip (by decide) rfl rfl ?_
                  refine WL.skip (by decide) rfl rfl ?_
                  refine WL.yldG (by decide) rfl (Yld.pickF rfl rfl) ?_
                  refine WL.yld (by decide) (Yld.pickF rfl rfl) ?_
                  refine WL.done (hK13 _ _ ?_)
                  refine WC.condF rfl ?_
                  refine WC.skip ?_
                  refine QK.thenN ?_
                  refine hK12 () _ _ ?_ (Sub.cons rfl (Sub.cons rfl (Sub.cons rfl (Sub.nil _)))) (Sub.cons rfl (Sub.cons rfl (Sub.nil _)))
                  exact h
            · replace h := of_f hc23 h
              refine WL.yld (by decide) (Yld.move rfl) ?_
              refine WL.yld (by decide) (Yld.idxC (xs := x00) sty_24 rfl rfl (RdH.memM (k := 0) rfl hf00) hx14) ?_
              refine WL.yld (by decide) (Yld.loadC0 (xs := x00) scal_5 rfl (RdH.memM (k := 0) rfl hf00) hx14 rfl) ?_
              refine WL.yld (by decide) (Yld.neq_u8 (a := x14) (b := 78#8) rfl rfl) ?_
              refine WL.yld (by decide) (Yld.move rfl) ?_
              refine WL.new (v' := .bool false) (congrArg Value.bool (bne_eq_false_iff_eq.2 hc15)) ?_
              refine WL.yldG (by decide) rfl (Yld.move rfl) ?_
              refine WL.yldG (by decide) rfl (Yld.idxC (xs := x00) sty_24 rfl rfl (RdH.memM (k := 0) rfl hf00) hx16) ?_
              refine WL.yldG (by decide) rfl (Yld.loadC0 (xs := x00) scal_5 rfl (RdH.memM (k := 0) rfl hf00) hx16 rfl) ?_
              refine WL.yldG (by decide) rfl (Yld.neq_u8 (a := x16) (b := 165#8) rfl rfl) ?_
              refine WL.yld (by decide) (Yld.pickF rfl rfl) ?_
              refine WL.yld (by decide) (Yld.move rfl) ?_
              refine WL.new (v' := .bool false) (congrArg Value.bool (bne_eq_false_iff_eq.2 hc17)) ?_
              refine WL.yldG (by decide) rfl (Yld.move rfl) ?_
              refine WL.yldG (by decide) rfl (Yld.idxC (xs := x00) sty_24 rfl rfl (RdH.memM (k := 0) rfl hf00) hx18) ?_
              refine WL.yldG (by decide) rfl (Yld.loadC0 (xs := x00) scal_5 rfl (RdH.memM (k := 0) rfl hf00) hx18 rfl) ?_
              refine WL.yldG (by decide) rfl (Yld.gtr_u8 (a := x18) (b := 1#8) rfl rfl) ?_
              refine WL.yld (by decide) (Yld.pickF rfl rfl) ?_
              refine WL.yld (by decide) (Yld.move rfl) ?_
              refine WL.new (v' := .bool false) (congrArg Value.bool (decide_eq_false hc19)) ?_
              refine WL.yldG (by decide) rfl (Yld.move rfl) ?_
              refine WL.yldG (by decide) rfl (Yld.idxC (xs := x00) sty_24 rfl rfl (RdH.memM (k := 0) rfl hf00) hx22) ?_
              refine WL.yldG (by decide) rfl (Yld.loadC0 (xs := x00) scal_5 rfl (RdH.memM (k := 0) rfl hf00) hx22 rfl) ?_
              refine WL.yldG (by decide) rfl (Yld.neq_u8 (a := x22) (b := 0#8) rfl rfl) ?_
              refine WL.yld (by decide) (Yld.pickF rfl rfl) ?_
              refine WL.yld (by decide) (Yld.move rfl) ?_
              refine WL.new (v' := .bool true) (congrArg Value.bool (bne_iff_ne.2 hc23)) ?_
              refine WL.skip (by decide) rfl rfl ?_
              refine WL.skip (by decide) rfl rfl ?_
              refine WL.yld (by decide) (Yld.pickT rfl rfl) ?_
              refine WL.yld (by decide) (Yld.move rfl) ?_
              refine WL.skip (by decide) rfl rfl ?_
              refine WL.skip (by decide) rfl rfl ?_
              refine WL.skip (by decide) rfl rfl ?_
              refine WL.skip (by decide) rfl rfl ?_
              refine WL.skip (by decide) rfl rfl ?_
              refine WL.skipU (by decide) rfl ?_
              refine WL.skipU (by decide) rfl ?_
              refine WL.skip (by decide) rfl rfl ?_
              refine WL.yld (by decide) (Yld.pickT rfl rfl) ?_
              refine WL.done (hK13 _ _ ?_)
              refine WC.condT rfl ?_
              refine WC.seqRegion fun K32 hK32 => ?_
              refine WL.yld (by decide) (Yld.build rfl (bu_26_)) ?_
              refine WL.eff0 (Eff0.storeBAM 102 agg_26 rfl rfl rfl ⟨rfl, rfl⟩ rfl) ?_
              refine WL.yld (by decide) (Yld.assign rfl) ?_
              refine WL.yld (by decide) (Yld.assign rfl) ?_
              refine WL.done (hK32 _ _ ?_)
              refine WC.ret (QK.thenR ?_)
              refine QK.nilOwn 133 5 (Lay.sz (BitVec 8)) none ?_
              injection h with h; subst h
              exact Ret.fn [133] (ResIs.cellTmp2M (k := 102) rfl agg_26 rfl rfl rfl rfl rfl) rfl (Ext.refl _ _) rfl (by decide) rfl rfl ⟨none, 0, 0, rfl, rfl⟩
        · replace h := of_f hc17 h
          refine WL.yld (by decide) (Yld.move rfl) ?_
          refine WL.yld (by decide) (Yld.idxC (xs := x00) sty_24 rfl rfl (RdH.memM (k := 0) rfl hf00) hx14) ?_
          refine WL.yld (by decide) (Yld.loadC0 (xs := x00) scal_5 rfl (RdH.memM (k := 0) rfl hf00) hx14 rfl) ?_
          refine WL.yld (by decide) (Yld.neq_u8 (a := x14) (b := 78#8) rfl rfl) ?_
          refine WL.yld (by decide) (Yld.move rfl) ?_
          refine WL.new (v' := .bool false) (congrArg Value.bool (bne_eq_false_iff_eq.2 hc15)) ?_
          refine WL.yldG (by decide) rfl (Yld.move rfl) ?_
          refine WL.yldG (by decide) rfl (Yld.idxC (xs := x00) sty_24 rfl rfl (RdH.memM (k := 0) rfl hf00) hx16) ?_
          refine WL.yldG (by decide) rfl (Yld.loadC0 (xs := x00) scal_5 rfl (RdH.memM (k := 0) rfl hf00) hx16 rfl) ?_
          refine WL.yldG (by decide) rfl (Yld.neq_u8 (a := x16) (b := 165#8) rfl rfl) ?_
          refine WL.yld (by decide) (Yld.pickF rfl rfl) ?_
          refine WL.yld (by decide) (Yld.move rfl) ?_
          refine WL.new (v' := .bool true) (congrArg Value.bool (bne_iff_ne.2 hc17)) ?_
          refine WL.skip (by decide) rfl rfl ?_
          refine WL.skip (by decide) rfl rfl ?_
          refine WL.skip (by decide) rfl rfl ?_
          refine WL.skip (by decide) rfl rfl ?_
          refine WL.yld (by decide) (Yld.pickT rfl rfl) ?_
          refine WL.yld (by decide) (Yld.move rfl) ?_
          refine WL.skip (by decide) rfl rfl ?_
          refine WL.skip (by decide) rfl rfl ?_
          refine WL.skip (by decide) rfl rfl ?_
          refine WL.skip (by decide) rfl rfl ?_
          refine WL.yld (by decide) (Yld.pickT rfl rfl) ?_
          refine WL.yld (by decide) (Yld.move rfl) ?_
          refine WL.skip (by decide) rfl rfl ?_
          refine WL.skip (by decide) rfl rfl ?_
          refine WL.yld (by decide) (Yld.pickT rfl rfl) ?_
          refine WL.yld (by decide) (Yld.move rfl) ?_
          refine WL.skip (by decide) rfl rfl ?_
          refine WL.skip (by decide) rfl rfl ?_
          refine WL.skip (by decide) rfl rfl ?_
          refine WL.skip (by decide) rfl rfl ?_
          refine WL.skip (by decide) rfl rfl ?_
          refine WL.skipU (by decide) rfl ?_
          refine WL.skipU (by decide) rfl ?_
          refine WL.skip (by decide) rfl rfl ?_
          refine WL.yld (by decide) (Yld.pickT rfl rfl) ?_
          refine WL.done (hK13 _ _ ?_)
          refine WC.condT rfl ?_
          refine WC.seqRegion fun K34 hK34 => ?_
          refine WL.yld (by decide) (Yld.build rfl (bu_26_)) ?_
          refine WL.eff0 (Eff0.storeBAM 102 agg_26 rfl rfl rfl ⟨rfl, rfl⟩ rfl) ?_
          refine WL.yld (by decide) (Yld.assign rfl) ?_
          refine WL.yld (by decide) (Yld.assign rfl) ?_
          refine WL.done (hK34 _ _ ?_)
          refine WC.ret (QK.thenR ?_)
          refine QK.nilOwn 135 5 (Lay.sz (BitVec 8)) none ?_
          injection h with h; subst h
          exact Ret.fn [135] (ResIs.cellTmp2M (k := 102) rfl agg_26 rfl rfl rfl rfl rfl) rfl (Ext.refl _ _) rfl (by decide) rfl rfl ⟨none, 0, 0, rfl, rfl⟩
      · replace h := of_f hc15 h
        refine WL.yld (by decide) (Yld.move rfl) ?_
        refine WL.yld (by decide) (Yld.idxC (xs := x00) sty_24 rfl rfl (RdH.memM (k := 0) rfl hf00) hx14) ?_
        refine WL.yld (by decide) (Yld.loadC0 (xs := x00) scal_5 rfl (RdH.memM (k := 0) rfl hf00) hx14 rfl) ?_
        refine WL.yld (by decide) (Yld.neq_u8 (a := x14) (b := 78#8) rfl rfl) ?_
        refine WL.yld (by decide) (Yld.move rfl) ?_
        refine WL.new (v' := .bool true) (congrArg Value.bool (bne_iff_ne.2 hc15)) ?_
        refine WL.skip (by decide) rfl rfl ?_
        refine WL.skip (by decide) rfl rfl ?_
        refine WL.skip (by decide) rfl rfl ?_
        refine WL.skip (by decide) rfl rfl ?_
        refine WL.yld (by decide) (Yld.pickT rfl rfl) ?_
        refine WL.yld (by decide) (Yld.move rfl) ?_
        refine WL.skip (by decide) rfl rfl ?_
        refine WL.skip (by decide) rfl rfl ?_
        refine WL.skip (by decide) rfl rfl ?_
        refine WL.skip (by decide) rfl rfl ?_
        refine WL.yld (by decide) (Yld.pickT rfl rfl) ?_
        refine WL.yld (by decide) (Yld.move rfl) ?_
        refine WL.skip (by decide) rfl rfl ?_
        refine WL.skip (by decide) rfl rfl ?_
        refine WL.skip (by decide) rfl rfl ?_
        refine WL.skip (by decide) rfl rfl ?_
        refine WL.yld (by decide) (Yld.pickT rfl rfl) ?_
        refine WL.yld (by decide) (Yld.move rfl) ?_
        refine WL.skip (by decide) rfl rfl ?_
        refine WL.skip (by decide) rfl rfl ?_
        refine WL.yld (by decide) (Yld.pickT rfl rfl) ?_
        refine WL.yld (by decide) (Yld.move rfl) ?_
        refine WL.skip (by decide) rfl rfl ?_
        refine WL.skip (by decide) rfl rfl ?_
        refine WL.skip (by decide) rfl rfl ?_
        refine WL.skip (by decide) rfl rfl ?_
        refine WL.skip (by decide) rfl rfl ?_
        refine WL.skipU (by decide) rfl ?_
        refine WL.skipU (by decide) rfl ?_
        refine WL.skip (by decide) rfl rfl ?_
        refine WL.yld (by decide) (Yld.pickT rfl rfl) ?_
        refine WL.done (hK13 _ _ ?_)
        refine WC.condT rfl ?_
        refine WC.seqRegion fun K36 hK36 => ?_
        refine WL.yld (by decide) (Yld.build rfl (bu_26_)) ?_
        refine WL.eff0 (Eff0.storeBAM 102 agg_26 rfl rfl rfl ⟨rfl, rfl⟩ rfl) ?_
        refine WL.yld (by decide) (Yld.assign rfl) ?_
        refine WL.yld (by decide) (Yld.assign rfl) ?_
        refine WL.done (hK36 _ _ ?_)
        refine WC.ret (QK.thenR ?_)
        refine QK.nilOwn 137 5 (Lay.sz (BitVec 8)) none ?_
        injection h with h; subst h
        exact Ret.fn [137] (ResIs.cellTmp2M (k := 102) rfl agg_26 rfl rfl rfl rfl rfl) rfl (Ext.refl _ _) rfl (by decide) rfl rfl ⟨none, 0, 0, rfl, rfl⟩
    · rintro _ h
      unfold m_needle_Decode_j0 at h
      refine WC.seqRegion fun K38 hK38 => ?_
      obtain ⟨x39, hx39, h⟩ := bnd h
      obtain ⟨x41, hx41, h⟩ := bnd h
      refine WL.yld (by decide) (Yld.move rfl) ?_
      refine WL.yld (by decide) (Yld.conv_u64_i64 (a := x10) some_22 und_3 rfl) ?_
      refine WL.eff (by decide) (Eff.callS 140 rfl Try.func10 nm_10 rfl rfl (fun w hb hh => w_needle_Size (Mem.snap w) x10.toInt hx39)) ?_
      rintro _ _ ⟨_, ⟨rfl, rfl⟩, rfl⟩
      refine WL.yld (by decide) (Yld.move rfl) ?_
      refine WL.yld (by decide) (Yld.conv_u64_i64 (a := x10) some_22 und_3 rfl) ?_
      refine WL.yld (by decide) (Yld.addC rfl rfl hx41) ?_
      refine WL.yld (by decide) (Yld.assign rfl) ?_
      refine WL.yld (by decide) (Yld.assign rfl) ?_
      refine WL.done (hK38 _ _ ?_)
      refine WC.seq fun K42 hK42 => ?_
      refine WC.seqRegion fun K43 hK43 => ?_
      refine WL.yld (by decide) (Yld.move rfl) ?_
      refine WL.yld (by decide) (Yld.lenC (xs := x00) und_24 rfl (RdH.memM (k := 0) rfl hf00)) ?_
      refine WL.yld (by decide) (Yld.move rfl) ?_
      refine WL.yld (by decide) (Yld.lss rfl rfl) ?_
      refine WL.done (hK43 _ _ ?_)
      by_cases hc44 : (x00.length : Int) < x39
      · replace h := of_t hc44 h
        refine WC.condTe rfl (decide_eq_true hc44) ?_
        refine WC.seqRegion fun K45 hK45 => ?_
        refine WL.yld (by decide) (Yld.build rfl (bu_26_)) ?_
        refine WL.eff0 (Eff0.storeBAM 102 agg_26 rfl rfl rfl ⟨rfl, rfl⟩ rfl) ?_
        refine WL.yld (by decide) (Yld.assign rfl) ?_
        refine WL.yld (by decide) (Yld.assign rfl) ?_
        refine WL.done (hK45 _ _ ?_)
        refine WC.ret (QK.thenR ?_)
        refine QK.nilOwn 146 5 (Lay.sz (BitVec 8)) none ?_
        injection h with h; subst h
        exact Ret.fn [146] (ResIs.cellTmp2M (k := 102) rfl agg_26 rfl rfl rfl rfl rfl) rfl (Ext.refl _ _) rfl (by decide) rfl rfl ⟨none, 0, 0, rfl, rfl⟩
      · replace h := of_f hc44 h
        refine WC.condFe rfl (decide_eq_false hc44) ?_
        refine WC.skip ?_
        refine QK.thenN (hK42 _ _ ?_)
        refine WC.seqRegion fun K47 hK47 => ?_
        refine WL.yld (by decide) (Yld.build rfl (bu_48_)) ?_
        refine WL.eff (by decide) (Eff.box 148 (us := [.slice none 0 0]) rfl rfl rfl) ?_
        rintro _ _ ⟨g48, rfl, rfl⟩
        refine WL.yld (by decide) (Yld.assign rfl) ?_
        refine WL.done (hK47 _ _ ?_)
        refine WC.seqRegion fun K49 hK49 => ?_
        obtain ⟨x50, hx50, h⟩ := bnd h
        obtain ⟨x51, hx51, h⟩ := bnd h
        refine WL.yld (by decide) (Yld.move rfl) ?_
        refine WL.yld (by decide) (Yld.move rfl) ?_
        refine WL.yld (by decide) (Yld.move rfl) ?_
        refine WL.yld (by decide) (Yld.sliceHC (xs := x00) sty_24 rfl rfl (RdH.memM (k := 0) rfl hf00) hx50) ?_
        refine WL.eff (by decide) (Eff.callS 152 rfl Try.func23 nm_23 rfl rfl (fun w hb hh => w_crc32c_Sum (Mem.snap w) A00 x50.length c00 _ (RdH.sn (RdT.slc0 (RdH.memM (k := 0) rfl hf00) hx50) w hb hh) hx51)) ?_
        rintro _ _ ⟨_, ⟨rfl, rfl⟩, rfl⟩
        refine WL.yld (by decide) (Yld.conv_u32_u64 (a := x51) some_23 und_22 rfl) ?_
        refine WL.inl (by decide) Try.func22 nm_22 rfl rfl (Tri.intro (N := 26) Try.func22 rfl rfl (Nat.le_of_ble_eq_true rfl) ?_)
        refine WC.seqRegion fun K53 hK53 => ?_
        refine WL.yld (by decide) (Yld.move rfl) ?_
        refine WL.yld (by decide) (Yld.move rfl) ?_
        refine WL.done (hK53 _ _ ?_)
        refine WC.block ?_
        refine WC.nilOwn 155 5 (Lay.sz (BitVec 8)) none ?_
        refine WC.loop (σ := Nat × (Option Addr) × Nat × Nat × (List (BitVec 8)) × Int) (fun ⟨q61, A56, n57, c58, x59, x60⟩ => [(0, .pointer (some ⟨g48, 0, none⟩)), (1, U64 (x51.setWidth 64)), (7, I64 (4 : Int)), (8, I64 x60)]) (fun ⟨q61, A56, n57, c58, x59, x60⟩ => [(0, .mem M0), (102, .blk g2 26 [U64 0#64, U32 0#32, .bool false, .slice none 0 0]), (148, .blk g48 48 [.slice A56 n57 c58]), (155, .own 5 (Lay.sz (BitVec 8)) A56 n57 c58 (cel x59))]) (fun ⟨q61, A56, n57, c58, x59, x60⟩ => m_needle_Decode_l1 x00 x39 x41 x51 q61 x59 x60 = some res) (fun ⟨q61, A56, n57, c58, x59, x60⟩ => q61) ⟨forever, none, 0, 0, ([] : List (BitVec 8)), (0 : Int)⟩ ?_ (Sub.cons rfl (Sub.cons rfl (Sub.cons rfl (Sub.cons rfl (Sub.nil _))))) (Sub.cons rfl (Sub.cons rfl (Sub.cons rfl (Sub.cons rfl (Sub.nil _))))) ?_
        · exact h
        rintro ⟨q61, A56, n57, c58, x59, x60⟩ h K62 hK62
        cases q61 with
        | zero => exact absurd h (by simp [m_needle_Decode_l1])
        | succ q61 =>
          unfold m_needle_Decode_l1 at h
          refine WC.seqRegion fun K63 hK63 => ?_
          refine WL.yld (by decide) (Yld.lss rfl rfl) ?_
          refine WL.done (hK63 _ _ ?_)
          refine WC.seq fun K64 hK64 => ?_
          by_cases hc65 : x60 < (4 : Int)
          · replace h := of_t hc65 h
            refine WC.condTe rfl (decide_eq_true hc65) ?_
            refine WC.skip ?_
            refine QK.thenN (hK64 _ _ ?_)
            refine WC.seq fun K66 hK66 => ?_
            refine WC.block ?_
            refine WC.seqRegion fun K67 hK67 => ?_
            refine WL.yld (by decide) (Yld.move rfl) ?_
            refine WL.yld (by decide) (Yld.assign rfl) ?_
            refine WL.done (hK67 _ _ ?_)
            refine WC.regionD (n := 15) [(102, _)] rfl mixed (Sub.cons rfl (Sub.nil _)) fun K68 hK68 => ?_
            obtain ⟨x69, hx69, h⟩ := bnd h
            obtain ⟨x70, hx70, h⟩ := bnd h
            obtain ⟨x72, hx72, h⟩ := bnd h
            refine WD.take 0 rfl (by kernel_rfl) (by kernel_rfl) (by kernel_rfl) (by decide) (Yld.move rfl) ?_
            refine WD.take 1 rfl (by kernel_rfl) (by kernel_rfl) (by kernel_rfl) (by decide) (Yld.move rfl) ?_
            refine WD.take 2 rfl (by kernel_rfl) (by kernel_rfl) (by kernel_rfl) (by decide) (Yld.nilCheckP rfl) ?_
            refine WD.take 3 rfl (by kernel_rfl) (by kernel_rfl) (by kernel_rfl) (by decide) (Yld.fieldAddr Try.underlying48 rfl nz_24 rfl rfl) ?_
            refine WD.take 5 rfl (by kernel_rfl) (by kernel_rfl) (by kernel_rfl) (by decide) (Yld.move rfl) ?_
            refine WD.take 6 rfl (by kernel_rfl) (by kernel_rfl) (by kernel_rfl) (by decide) (Yld.move rfl) ?_
            refine WD.take 7 rfl (by kernel_rfl) (by kernel_rfl) (by kernel_rfl) (by decide) (Yld.mulC rfl rfl hx69) ?_
            refine WD.take 8 rfl (by kernel_rfl) (by kernel_rfl) (by kernel_rfl) (by decide) (Yld.shrC_u64 (a := (x51.setWidth 64)) rfl rfl hx70) ?_
            refine WD.take 9 rfl (by kernel_rfl) (by kernel_rfl) (by kernel_rfl) (by decide) (Yld.conv_u64_u8 (a := x70) some_22 und_5 rfl) ?_
            refine WD.two 4 10 (by kernel_rfl) ?_ ?_
            · skip
              refine WS.yld rfl (by decide) (Yld.loadB (k := 148) scal_24 rfl rfl rfl) ?_
              refine WD.one 10 (by kernel_rfl) ?_
              refine WS.eff rfl (by decide) (Eff.buildC 171 ([x70.setWidth 8] : List (BitVec 8)) sty_24 rfl rfl rfl rfl rfl (by decide)) ?_
              rintro _ _ ⟨g71, rfl, rfl⟩
              refine ⟨(Sub.cons rfl (Sub.nil _)), ?_⟩
              refine WD.one 11 (by kernel_rfl) ?_
              refine WS.eff rfl (by decide) (Eff.appendC 155 (xs := x59) (ys := ([x70.setWidth 8] : List (BitVec 8))) sty_24 rfl rfl rfl (RdH.own (k := 171) rfl) hx72) ?_
              rintro _ _ ⟨A73, c74, rfl, rfl⟩
              refine ⟨(Sub.cons rfl (Sub.nil _)), ?_⟩
              refine WD.take 12 rfl (by kernel_rfl) (by kernel_rfl) (by kernel_rfl) (by decide) (Yld.nilCheckP rfl) ?_
              refine WD.take 13 rfl (by kernel_rfl) (by kernel_rfl) (by kernel_rfl) (by decide) (Yld.fieldAddr Try.underlying48 rfl nz_24 rfl rfl) ?_
              refine WD.one 14 (by kernel_rfl) ?_
              refine WS.eff0 rfl (Eff0.storeB 148 siz_24 rfl rfl rfl rfl (Nat.le_of_ble_eq_true rfl)) (Sub.cons rfl (Sub.nil _)) ?_
              refine WD.done (by kernel_rfl) (hK68 _ _ ?_)
              refine QK.blockN ?_
              refine QK.thenN (hK66 _ _ ?_)
              refine WC.region fun K75 hK75 => ?_
              obtain ⟨x76, hx76, h⟩ := bnd h
              refine WL.yld (by decide) (Yld.addC rfl rfl hx76) ?_
              refine WL.yld (by decide) (Yld.move rfl) ?_
              refine WL.done (hK75 _ _ ?_)
              refine QK.thenN ?_
              refine hK62 ⟨q61, A73, x72.length, c74, x72, x76⟩ _ _ ?_ (Nat.lt_succ_self _) (Sub.cons rfl (Sub.cons rfl (Sub.cons rfl (Sub.cons rfl (Sub.nil _))))) (Sub.cons rfl (Sub.cons rfl (Sub.cons rfl (Sub.cons rfl (Sub.nil _)))))
              exact h
            · skip
              refine WS.eff rfl (by decide) (Eff.buildC 171 ([x70.setWidth 8] : List (BitVec 8)) sty_24 rfl rfl rfl rfl rfl (by decide)) ?_
              rintro _ _ ⟨g71, rfl, rfl⟩
              refine ⟨(Sub.cons rfl (Sub.nil _)), ?_⟩
              refine WD.one 4 (by kernel_rfl) ?_
              refine WS.yld rfl (by decide) (Yld.loadB (k := 148) scal_24 rfl rfl rfl) ?_
              refine WD.one 11 (by kernel_rfl) ?_
              refine WS.eff rfl (by decide) (Eff.appendC 155 (xs := x59) (ys := ([x70.setWidth 8] : List (BitVec 8))) sty_24 rfl rfl rfl (RdH.own (k := 171) rfl) hx72) ?_
              rintro _ _ ⟨A73, c74, rfl, rfl⟩
              refine ⟨(Sub.cons rfl (Sub.nil _)), ?_⟩
              refine WD.take 12 rfl (by kernel_rfl) (by kernel_rfl) (by kernel_rfl) (by decide) (Yld.nilCheckP rfl) ?_
              refine WD.take 13 rfl (by kernel_rfl) (by kernel_rfl) (by kernel_rfl) (by decide) (Yld.fieldAddr Try.underlying48 rfl nz_24 rfl rfl) ?_
              refine WD.one 14 (by kernel_rfl) ?_
              refine WS.eff0 rfl (Eff0.storeB 148 siz_24 rfl rfl rfl rfl (Nat.le_of_ble_eq_true rfl)) (Sub.cons rfl (Sub.nil _)) ?_
              refine WD.done (by kernel_rfl) (hK68 _ _ ?_)
              refine QK.blockN ?_
              refine QK.thenN (hK66 _ _ ?_)
              refine WC.region fun K77 hK77 => ?_
              obtain ⟨x78, hx78, h⟩ := bnd h
              refine WL.yld (by decide) (Yld.addC rfl rfl hx78) ?_
              refine WL.yld (by decide) (Yld.move rfl) ?_
              refine WL.done (hK77 _ _ ?_)
              refine QK.thenN ?_
              refine hK62 ⟨q61, A73, x72.length, c74, x72, x78⟩ _ _ ?_ (Nat.lt_succ_self _) (Sub.cons rfl (Sub.cons rfl (Sub.cons rfl (Sub.cons rfl (Sub.nil _))))) (Sub.cons rfl (Sub.cons rfl (Sub.cons rfl (Sub.cons rfl (Sub.nil _)))))
              exact h
          · replace h := of_f hc65 h
            refine WC.condFe rfl (decide_eq_false hc65) ?_
            refine WC.exit (QK.thenE (QK.thenE (QK.blockX ?_)))
            refine Ret.goN (ResIs.zero rfl) ?_
            refine WL.done (hK49 _ _ ?_)
            refine WC.seq fun K79 hK79 => ?_
            refine WC.seqRegionD (n := 11) [(0, _), (102, _), (148, _), (155, _)] rfl mixed (Sub.cons rfl (Sub.cons rfl (Sub.cons rfl (Sub.cons rfl (Sub.nil _))))) fun K80 hK80 => ?_
            obtain ⟨x81, hx81, h⟩ := bnd h
            obtain ⟨x82, hx82, h⟩ := bnd h
            obtain ⟨x83, hx83, h⟩ := bnd h
            refine WD.take 0 rfl (by kernel_rfl) (by kernel_rfl) (by kernel_rfl) (by decide) (Yld.move rfl) ?_
            refine WD.take 1 rfl (by kernel_rfl) (by kernel_rfl) (by kernel_rfl) (by decide) (Yld.nilCheckP rfl) ?_
            refine WD.take 2 rfl (by kernel_rfl) (by kernel_rfl) (by kernel_rfl) (by decide) (Yld.fieldAddr Try.underlying48 rfl nz_24 rfl rfl) ?_
            refine WD.take 3 rfl (by kernel_rfl) (by kernel_rfl) (by kernel_rfl) (by decide) (Yld.loadB (k := 148) scal_24 rfl rfl rfl) ?_
            refine WD.take 4 rfl (by kernel_rfl) (by kernel_rfl) (by kernel_rfl) (by decide) (Yld.move rfl) ?_
            refine WD.take 5 rfl (by kernel_rfl) (by kernel_rfl) (by kernel_rfl) (by decide) (Yld.move rfl) ?_
            refine WD.take 6 rfl (by kernel_rfl) (by kernel_rfl) (by kernel_rfl) (by decide) (Yld.move rfl) ?_
            refine WD.take 7 rfl (by kernel_rfl) (by kernel_rfl) (by kernel_rfl) (by decide) (Yld.addC rfl rfl hx81) ?_
            refine WD.take 8 rfl (by kernel_rfl) (by kernel_rfl) (by kernel_rfl) (by decide) (Yld.sliceLHC (xs := x00) sty_24 rfl rfl rfl (RdH.memM (k := 0) rfl hf00) hx82) ?_
            refine WD.one 9 (by kernel_rfl) ?_
            refine WS.eff rfl (by decide) (Eff.callS 184 rfl Try.func27 nm_27 rfl rfl (fun w hb hh => w_slices_Equal_byte_byte (Mem.snap w) A56 n57 c58 _ (RdH.sn (RdH.own (k := 155) rfl) w hb hh) (subA A00 c00 (x41).toNat (Lay.sz (BitVec 8))) x82.length (c00 - (x41).toNat) _ (RdH.sn (RdT.slc (RdH.memM (k := 0) rfl hf00) hx82) w hb hh) hx83)) ?_
            rintro _ _ ⟨_, ⟨rfl, rfl⟩, rfl⟩
            refine ⟨(Sub.cons rfl (Sub.cons rfl (Sub.cons rfl (Sub.cons rfl (Sub.nil _))))), ?_⟩
            refine WD.take 10 rfl (by kernel_rfl) (by kernel_rfl) (by kernel_rfl) (by decide) (Yld.notB rfl) ?_
            refine WD.done (by kernel_rfl) (hK80 _ _ ?_)
            by_cases hc85 : x83 = true
            · replace h := of_t hc85 h
              refine WC.condFe rfl (not_f hc85) ?_
              refine WC.skip ?_
              refine QK.thenN (hK79 _ _ ?_)
              refine WC.seqCut (σ := Unit) (fun _ => [(0, .slice A00 n00 c00), (2, .pointer (some ⟨g2, 0, none⟩)), (6, I64 x39), (7, I64 x41)]) (fun _ => [(0, .mem M0), (102, .blk g2 26 [U64 0#64, U32 0#32, .bool false, .slice none 0 0])]) (fun _ => m_needle_Decode_j2 x00 x39 x41 = some res) (fun K86 hK86 => ?_) ?_
              · skip
                refine WC.seqRegion fun K87 hK87 => ?_
                obtain ⟨x88, hx88, h⟩ := bnd h
                obtain ⟨x89, hx89, h⟩ := bnd h
                refine WL.yld (by decide) (Yld.move rfl) ?_
                refine WL.yld (by decide) (Yld.move rfl) ?_
                refine WL.yld (by decide) (Yld.addC rfl rfl hx88) ?_
                refine WL.yld (by decide) (Yld.move rfl) ?_
                refine WL.yld (by decide) (Yld.sliceLHC (xs := x00) sty_24 rfl rfl rfl (RdH.memM (k := 0) rfl hf00) hx89) ?_
                refine WL.yld (by decide) (Yld.lenC (xs := x89) und_24 rfl (RdT.slc (RdH.memM (k := 0) rfl hf00) hx89)) ?_
                refine WL.yld (by decide) (Yld.move rfl) ?_
                refine WL.done (hK87 _ _ ?_)
                refine WC.block ?_
                refine WC.loop (σ := Nat × Int) (fun ⟨q91, x90⟩ => [(0, .slice A00 n00 c00), (2, .pointer (some ⟨g2, 0, none⟩)), (6, I64 x39), (7, I64 x41), (91, .slice (subA A00 c00 (x88).toNat (Lay.sz (BitVec 8))) x89.length (c00 - (x88).toNat)), (92, I64 (x89.length : Int)), (93, I64 x90)]) (fun ⟨q91, x90⟩ => [(0, .mem M0), (102, .blk g2 26 [U64 0#64, U32 0#32, .bool false, .slice none 0 0])]) (fun ⟨q91, x90⟩ => m_needle_Decode_l3 x00 x39 x41 x89 q91 x90 = some res) (fun ⟨q91, x90⟩ => q91) ⟨forever, (0 : Int)⟩ ?_ (Sub.cons rfl (Sub.cons rfl (Sub.cons rfl (Sub.cons rfl (Sub.cons rfl (Sub.cons rfl (Sub.cons rfl (Sub.nil _)))))))) (Sub.cons rfl (Sub.cons rfl (Sub.nil _))) ?_
                · exact h
                rintro ⟨q91, x90⟩ h K92 hK92
                cases q91 with
                | zero => exact absurd h (by simp [m_needle_Decode_l3])
                | succ q91 =>
                  unfold m_needle_Decode_l3 at h
                  refine WC.seqRegion fun K93 hK93 => ?_
                  refine WL.yld (by decide) (Yld.lss rfl rfl) ?_
                  refine WL.done (hK93 _ _ ?_)
                  refine WC.seq fun K94 hK94 => ?_
                  by_cases hc95 : x90 < (x89.length : Int)
                  · replace h := of_t hc95 h
                    refine WC.condTe rfl (decide_eq_true hc95) ?_
                    refine WC.skip ?_
                    refine QK.thenN (hK94 _ _ ?_)
                    refine WC.seq fun K96 hK96 => ?_
                    refine WC.block ?_
                    refine WC.seqRegion fun K97 hK97 => ?_
                    obtain ⟨x98, hx98, h⟩ := bnd h
                    refine WL.yld (by decide) (Yld.idxC (xs := x89) sty_24 rfl rfl (RdT.slc (RdH.memM (k := 0) rfl hf00) hx89) hx98) ?_
                    refine WL.yld (by decide) (Yld.loadC0 (xs := x89) scal_5 rfl (RdT.slc (RdH.memM (k := 0) rfl hf00) hx89) hx98 rfl) ?_
                    refine WL.yld (by decide) (Yld.assign rfl) ?_
                    refine WL.done (hK97 _ _ ?_)
                    refine WC.seqRegion fun K99 hK99 => ?_
                    refine WL.yld (by decide) (Yld.move rfl) ?_
                    refine WL.yld (by decide) (Yld.neq_u8 (a := x98) (b := 0#8) rfl rfl) ?_
                    refine WL.done (hK99 _ _ ?_)
                    by_cases hc100 : x98 = 0#8
                    · replace h := of_t hc100 h
                      refine WC.condFe rfl (bne_eq_false_iff_eq.2 hc100) ?_
                      refine WC.skip ?_
                      refine QK.blockN ?_
                      refine QK.thenN (hK96 _ _ ?_)
                      refine WC.region fun K101 hK101 => ?_
                      obtain ⟨x102, hx102, h⟩ := bnd h
                      refine WL.yld (by decide) (Yld.addC rfl rfl hx102) ?_
                      refine WL.yld (by decide) (Yld.move rfl) ?_
                      refine WL.done (hK101 _ _ ?_)
                      refine QK.thenN ?_
                      refine hK92 ⟨q91, x102⟩ _ _ ?_ (Nat.lt_succ_self _) (Sub.cons rfl (Sub.cons rfl (Sub.cons rfl (Sub.cons rfl (Sub.cons rfl (Sub.cons rfl (Sub.cons rfl (Sub.nil _)))))))) (Sub.cons rfl (Sub.cons rfl (Sub.nil _)))
                      exact h
                    · replace h := of_f hc100 h
                      refine WC.condTe rfl (bne_iff_ne.2 hc100) ?_
                      refine WC.seqRegion fun K103 hK103 => ?_
                      refine WL.yld (by decide) (Yld.build rfl (bu_26_)) ?_
                      refine WL.eff0 (Eff0.storeBAM 102 agg_26 rfl rfl rfl ⟨rfl, rfl⟩ rfl) ?_
                      refine WL.yld (by decide) (Yld.assign rfl) ?_
                      refine WL.yld (by decide) (Yld.assign rfl) ?_
                      refine WL.done (hK103 _ _ ?_)
                      refine WC.ret (QK.blockR (QK.thenR (QK.thenR (QK.blockR (QK.thenR ?_)))))
                      refine QK.nilOwn 204 5 (Lay.sz (BitVec 8)) none ?_
                      injection h with h; subst h
                      exact Ret.fn [204] (ResIs.cellTmp2M (k := 102) rfl agg_26 rfl rfl rfl rfl rfl) rfl (Ext.refl _ _) rfl (by decide) rfl rfl ⟨none, 0, 0, rfl, rfl⟩
                  · replace h := of_f hc95 h
                    refine WC.condFe rfl (decide_eq_false hc95) ?_
                    refine WC.exit (QK.thenE (QK.thenE (QK.blockX ?_)))
                    refine QK.thenN ?_
                    refine hK86 () _ _ ?_ (Sub.cons rfl (Sub.cons rfl (Sub.cons rfl (Sub.cons rfl (Sub.nil _))))) (Sub.cons rfl (Sub.cons rfl (Sub.nil _)))
                    exact h
              · rintro _ h
                unfold m_needle_Decode_j2 at h
                refine WC.seqRegionD (n := 20) [(0, _)] rfl mixed (Sub.cons rfl (Sub.nil _)) fun K105 hK105 => ?_
                obtain ⟨x106, hx106, h⟩ := bnd h
                obtain ⟨x107, hx107, h⟩ := bnd h
                obtain ⟨x109, hx109, h⟩ := bnd h
                obtain ⟨x110, hx110, h⟩ := bnd h
                obtain ⟨x112, hx112, h⟩ := bnd h
                obtain ⟨x113, hx113, h⟩ := bnd h
                obtain ⟨x114, hx114, h⟩ := bnd h
                refine WD.take 0 rfl (by kernel_rfl) (by kernel_rfl) (by kernel_rfl) (by decide) (Yld.move rfl) ?_
                refine WD.take 1 rfl (by kernel_rfl) (by kernel_rfl) (by kernel_rfl) (by decide) (Yld.sliceLHC (xs := x00) sty_24 rfl rfl rfl (RdH.memM (k := 0) rfl hf00) hx106) ?_
                refine WD.take 3 rfl (by kernel_rfl) (by kernel_rfl) (by kernel_rfl) (by decide) (Yld.move rfl) ?_
                refine WD.take 4 rfl (by kernel_rfl) (by kernel_rfl) (by kernel_rfl) (by decide) (Yld.sliceLHC (xs := x00) sty_24 rfl rfl rfl (RdH.memM (k := 0) rfl hf00) hx109) ?_
                refine WD.take 7 rfl (by kernel_rfl) (by kernel_rfl) (by kernel_rfl) (by decide) (Yld.move rfl) ?_
                refine WD.take 8 rfl (by kernel_rfl) (by kernel_rfl) (by kernel_rfl) (by decide) (Yld.idxC (xs := x00) sty_24 rfl rfl (RdH.memM (k := 0) rfl hf00) hx112) ?_
                refine WD.take 9 rfl (by kernel_rfl) (by kernel_rfl) (by kernel_rfl) (by decide) (Yld.loadC0 (xs := x00) scal_5 rfl (RdH.memM (k := 0) rfl hf00) hx112 rfl) ?_
                refine WD.take 10 rfl (by kernel_rfl) (by kernel_rfl) (by kernel_rfl) (by decide) (Yld.eql_u8 (a := x112) (b := 1#8) rfl rfl) ?_
                refine WD.take 11 rfl (by kernel_rfl) (by kernel_rfl) (by kernel_rfl) (by decide) (Yld.move rfl) ?_
                refine WD.take 12 rfl (by kernel_rfl) (by kernel_rfl) (by kernel_rfl) (by decide) (Yld.move rfl) ?_
                refine WD.take 13 rfl (by kernel_rfl) (by kernel_rfl) (by kernel_rfl) (by decide) (Yld.sliceLHC (xs := x00) sty_24 rfl rfl rfl (RdH.memM (k := 0) rfl hf00) hx113) ?_
                refine WD.take 16 rfl (by kernel_rfl) (by kernel_rfl) (by kernel_rfl) (by decide) (Yld.move rfl) ?_
                refine WD.one 2 (by kernel_rfl) ?_
                refine WS.eff rfl (by decide) (Eff.callS 208 rfl Try.func26 nm_26 rfl rfl (fun w hb hh => w_needle_big (Mem.snap w) (subA A00 c00 ((8 : Int)).toNat (Lay.sz (BitVec 8))) x106.length (c00 - ((8 : Int)).toNat) _ (RdH.sn (RdT.slc (RdH.memM (k := 0) rfl hf00) hx106) w hb hh) hx107)) ?_
                rintro _ _ ⟨_, ⟨rfl, rfl⟩, rfl⟩
                refine ⟨(Sub.cons rfl (Sub.nil _)), ?_⟩
                refine WD.one 5 (by kernel_rfl) ?_
                refine WS.eff rfl (by decide) (Eff.callS 211 rfl Try.func26 nm_26 rfl rfl (fun w hb hh => w_needle_big (Mem.snap w) (subA A00 c00 ((4 : Int)).toNat (Lay.sz (BitVec 8))) x109.length (c00 - ((4 : Int)).toNat) _ (RdH.sn (RdT.slc (RdH.memM (k := 0) rfl hf00) hx109) w hb hh) hx110)) ?_
                rintro _ _ ⟨_, ⟨rfl, rfl⟩, rfl⟩
                refine ⟨(Sub.cons rfl (Sub.nil _)), ?_⟩
                refine WD.take 6 rfl (by kernel_rfl) (by kernel_rfl) (by kernel_rfl) (by decide) (Yld.conv_u64_u32 (a := x110) some_22 und_23 rfl) ?_
                refine WD.one 14 (by kernel_rfl) ?_
                refine WS.eff rfl (by decide) (Eff.callS 218 rfl Try.func28 nm_28 rfl rfl (fun w hb hh => w_slices_Clone_byte_byte (Mem.snap w) (subA A00 c00 ((20 : Int)).toNat (Lay.sz (BitVec 8))) x113.length (c00 - ((20 : Int)).toNat) _ (RdH.sn (RdT.slc (RdH.memM (k := 0) rfl hf00) hx113) w hb hh) hx114)) ?_
                rintro _ _ ⟨_, ⟨A119, n120, c121, rfl, rfl⟩, rfl⟩
                refine ⟨(Sub.cons rfl (Sub.nil _)), ?_⟩
                refine WD.take 15 rfl (by kernel_rfl) (by kernel_rfl) (by kernel_rfl) (by decide) (Yld.build rfl (bu_26_0_1_2_3 x107 (x110.setWidth 32) (x112 == 1#8) A119 n120 c121)) ?_
                refine WD.one 17 (by kernel_rfl) ?_
                refine WS.eff0 rfl (Eff0.storeBAM 102 agg_26 rfl rfl rfl ⟨rfl, rfl⟩ rfl) (Sub.cons rfl (Sub.nil _)) ?_
                refine WD.take 18 rfl (by kernel_rfl) (by kernel_rfl) (by kernel_rfl) (by decide) (Yld.assign rfl) ?_
                refine WD.take 19 rfl (by kernel_rfl) (by kernel_rfl) (by kernel_rfl) (by decide) (Yld.assign rfl) ?_
                refine WD.done (by kernel_rfl) (hK105 _ _ ?_)
                refine WC.ret ?_
                injection h with h; subst h
                exact Ret.fn [218] (ResIs.cellTmp2M (k := 102) rfl agg_26 rfl rfl rfl rfl rfl) rfl (Ext.refl _ _) rfl (by decide) rfl rfl ⟨A119, n120, c121, rfl, rfl⟩
            · replace h := of_f hc85 h
              refine WC.condTe rfl (not_t (Bool.eq_false_iff.2 hc85)) ?_
              refine WC.seqRegion fun K122 hK122 => ?_
              refine WL.yld (by decide) (Yld.build rfl (bu_26_)) ?_
              refine WL.eff0 (Eff0.storeBAM 102 agg_26 rfl rfl rfl ⟨rfl, rfl⟩ rfl) ?_
              refine WL.yld (by decide) (Yld.assign rfl) ?_
              refine WL.yld (by decide) (Yld.assign rfl) ?_
              refine WL.done (hK122 _ _ ?_)
              refine WC.ret (QK.thenR ?_)
              refine QK.nilOwn 223 5 (Lay.sz (BitVec 8)) none ?_
              injection h with h; subst h
              exact Ret.fn [223] (ResIs.cellTmp2M (k := 102) rfl agg_26 rfl rfl rfl rfl rfl) rfl (Ext.refl _ _) rfl (by decide) rfl rfl ⟨none, 0, 0, rfl, rfl⟩

set_option maxRecDepth 10000 in
theorem w_r06_Same (M0 : Mem) (x00_0 : BitVec 64) (x00_1 : BitVec 32) (x00_2 : Bool) (A00_3 : Option Addr) (n00_3 c00_3 : Nat) (x00_3 : List (BitVec 8)) (hf00_3 : SlT M0 A00_3 n00_3 c00_3 x00_3) (x01_0 : BitVec 64) (x01_1 : BitVec 32) (x01_2 : Bool) (A01_3 : Option Addr) (n01_3 c01_3 : Nat) (x01_3 : List (BitVec 8)) (hf01_3 : SlT M0 A01_3 n01_3 c01_3 x01_3) {res : Bool} (h : m_r06_Same x00_0 x00_1 x00_2 x00_3 x01_0 x01_1 x01_2 x01_3 = some res) :
    Fn Try.prog 20 #[.agg ([U64 x00_0, U32 x00_1, .bool x00_2, .slice A00_3 n00_3 c00_3] : List Value).toArray, .agg ([U64 x01_0, U32 x01_1, .bool x01_2, .slice A01_3 n01_3 c01_3] : List Value).toArray] M0 fun r M' es => r = .bool res ∧ es = [] := by
  refine Fn.intro (N := 33) Try.func20 rfl rfl (Nat.le_of_ble_eq_true rfl) fun w0 => ?_
  unfold m_r06_Same at h
  refine WC.seqRegion fun K1 hK1 => ?_
  refine WL.eff (by decide) (Eff.box 102 (us := [U64 x00_0, U32 x00_1, .bool x00_2, .slice A00_3 n00_3 c00_3]) rfl rfl rfl) ?_
  rintro _ _ ⟨g2, rfl, rfl⟩
  refine WL.eff (by decide) (Eff.box 103 (us := [U64 x01_0, U32 x01_1, .bool x01_2, .slice A01_3 n01_3 c01_3]) rfl rfl rfl) ?_
  rintro _ _ ⟨g3, rfl, rfl⟩
  refine WL.yld (by decide) (Yld.assign rfl) ?_
  refine WL.done (hK1 _ _ ?_)
  refine WC.seqRegion fun K4 hK4 => ?_
  by_cases hc5 : x00_0 = x01_0
  · replace h := of_t hc5 h
    by_cases hc6 : x00_1 = x01_1
    · replace h := of_t hc6 h
      by_cases hc7 : x00_2 = x01_2
      · replace h := of_t hc7 h
        refine WL.yld (by decide) (Yld.fieldAddr Try.underlying26 rfl nz_22 rfl rfl) ?_
        refine WL.yld (by decide) (Yld.loadB (k := 102) scal_22 rfl rfl rfl) ?_
        refine WL.yld (by decide) (Yld.fieldAddr Try.underlying26 rfl nz_22 rfl rfl) ?_
        refine WL.yld (by decide) (Yld.loadB (k := 103) scal_22 rfl rfl rfl) ?_
        refine WL.yld (by decide) (Yld.eql_u64 (a := x00_0) (b := x01_0) rfl rfl) ?_
        refine WL.yld (by decide) (Yld.move rfl) ?_
        refine WL.new (v' := .bool true) (congrArg Value.bool (beq_iff_eq.2 hc5)) ?_
        refine WL.yldG (by decide) rfl (Yld.fieldAddr Try.underlying26 rfl nz_23 rfl rfl) ?_
        refine WL.yldG (by decide) rfl (Yld.loadB (k := 102) scal_23 rfl rfl rfl) ?_
        refine WL.yldG (by decide) rfl (Yld.fieldAddr Try.underlying26 rfl nz_23 rfl rfl) ?_
        refine WL.yldG (by decide) rfl (Yld.loadB (k := 103) scal_23 rfl rfl rfl) ?_
        refine WL.yldG (by decide) rfl (Yld.eql_u32 (a := x00_1) (b := x01_1) rfl rfl) ?_
        refine WL.yld (by decide) (Yld.pickT rfl rfl) ?_
        refine WL.yld (by decide) (Yld.move rfl) ?_
        refine WL.new (v' := .bool true) (congrArg Value.bool (beq_iff_eq.2 hc6)) ?_
        refine WL.yldG (by decide) rfl (Yld.fieldAddr Try.underlying26 rfl nz_4 rfl rfl) ?_
        refine WL.yldG (by decide) rfl (Yld.loadB (k := 102) scal_4 rfl rfl rfl) ?_
        refine WL.yldG (by decide) rfl (Yld.fieldAddr Try.underlying26 rfl nz_4 rfl rfl) ?_
        refine WL.yldG (by decide) rfl (Yld.loadB (k := 103) scal_4 rfl rfl rfl) ?_
        refine WL.yldG (by decide) rfl (Yld.eqlB und_4 rfl rfl) ?_
        refine WL.yld (by decide) (Yld.pickT rfl rfl) ?_
        refine WL.yld (by decide) (Yld.move rfl) ?_
        refine WL.new (v' := .bool true) (congrArg Value.bool (beq_iff_eq.2 hc7)) ?_
        refine WL.yldG (by decide) rfl (Yld.fieldAddr Try.underlying26 rfl nz_24 rfl rfl) ?_
        refine WL.yldG (by decide) rfl (Yld.loadB (k := 102) scal_24 rfl rfl rfl) ?_
        refine WL.yldG (by decide) rfl (Yld.b2sC (xs := x00_3) und_24 und_5 und_9 rfl (RdH.memM (k := 0) rfl hf00_3)) ?_
        refine WL.yldG (by decide) rfl (Yld.fieldAddr Try.underlying26 rfl nz_24 rfl rfl) ?_
        refine WL.yldG (by decide) rfl (Yld.loadB (k := 103) scal_24 rfl rfl rfl) ?_
        refine WL.yldG (by decide) rfl (Yld.b2sC (xs := x01_3) und_24 und_5 und_9 rfl (RdH.memM (k := 0) rfl hf01_3)) ?_
        refine WL.yldG (by decide) rfl (Yld.eqlStr (a := x00_3) (b := x01_3) rfl rfl) ?_
        refine WL.yld (by decide) (Yld.pickT rfl rfl) ?_
        refine WL.yld (by decide) (Yld.assign rfl) ?_
        refine WL.done (hK4 _ _ ?_)
        refine WC.ret ?_
        injection h with h; subst h
        exact Ret.fn [] (ResIs.one rfl rfl) rfl (Ext.refl _ _) rfl (by decide) rfl rfl ⟨rfl, rfl⟩
      · replace h := of_f hc7 h
        refine WL.yld (by decide) (Yld.fieldAddr Try.underlying26 rfl nz_22 rfl rfl) ?_
        refine WL.yld (by decide) (Yld.loadB (k := 102) scal_22 rfl rfl rfl) ?_
        refine WL.yld (by decide) (Yld.fieldAddr Try.underlying26 rfl nz_22 rfl rfl) ?_
        refine WL.yld (by decide) (Yld.loadB (k := 103) scal_22 rfl rfl rfl) ?_
        refine WL.yld (by decide) (Yld.eql_u64 (a := x00_0) (b := x01_0) rfl rfl) ?_
        refine WL.yld (by decide) (Yld.move rfl) ?_
        refine WL.new (v' := .bool true) (congrArg Value.bool (beq_iff_eq.2 hc5)) ?_
        refine WL.yldG (by decide) rfl (Yld.fieldAddr Try.underlying26 rfl nz_23 rfl rfl) ?_
        refine WL.yldG (by decide) rfl (Yld.loadB (k := 102) scal_23 rfl rfl rfl) ?_
        refine WL.yldG (by decide) rfl (Yld.fieldAddr Try.underlying26 rfl nz_23 rfl rfl) ?_
        refine WL.yldG (by decide) rfl (Yld.loadB (k := 103) scal_23 rfl rfl rfl) ?_
        refine WL.yldG (by decide) rfl (Yld.eql_u32 (a := x00_1) (b := x01_1) rfl rfl) ?_
        refine WL.yld (by decide) (Yld.pickT rfl rfl) ?_
        refine WL.yld (by decide) (Yld.move rfl) ?_
        refine WL.new (v' := .bool true) (congrArg Value.bool (beq_iff_eq.2 hc6)) ?_
        refine WL.yldG (by decide) rfl (Yld.fieldAddr Try.underlying26 rfl nz_4 rfl rfl) ?_
        refine WL.yldG (by decide) rfl (Yld.loadB (k := 102) scal_4 rfl rfl rfl) ?_
        refine WL.yldG (by decide) rfl (Yld.fieldAddr Try.underlying26 rfl nz_4 rfl rfl) ?_
        refine WL.yldG (by decide) rfl (Yld.loadB (k := 103) scal_4 rfl rfl rfl) ?_
        refine WL.yldG (by decide) rfl (Yld.eqlB und_4 rfl rfl) ?_
        refine WL.yld (by decide) (Yld.pickT rfl rfl) ?_
        refine WL.yld (by decide) (Yld.move rfl) ?_
        refine WL.new (v' := .bool false) (congrArg Value.bool (beq_eq_false_iff_ne.2 hc7)) ?_
        refine WL.skip (by decide) rfl rfl ?_
        refine WL.skip (by decide) rfl rfl ?_
        refine WL.skip (by decide) rfl rfl ?_
        refine WL.skip (by decide) rfl rfl ?_
        refine WL.skip (by decide) rfl rfl ?_
        refine WL.skip (by decide) rfl rfl ?_
        refine WL.skip (by decide) rfl rfl ?_
        refine WL.yld (by decide) (Yld.pickF rfl rfl) ?_
        refine WL.yld (by decide) (Yld.assign rfl) ?_
        refine WL.done (hK4 _ _ ?_)
        refine WC.ret ?_
        injection h with h; subst h
        exact Ret.fn [] (ResIs.one rfl rfl) rfl (Ext.refl _ _) rfl (by decide) rfl rfl ⟨rfl, rfl⟩
    · replace h := of_f hc6 h
      refine WL.yld (by decide) (Yld.fieldAddr Try.underlying26 rfl nz_22 rfl rfl) ?_
      refine WL.yld (by decide) (Yld.loadB (k := 102) scal_22 rfl rfl rfl) ?_
      refine WL.yld (by decide) (Yld.fieldAddr Try.underlying26 rfl nz_22 rfl rfl) ?_
      refine WL.yld (by decide) (Yld.loadB (k := 103) scal_22 rfl rfl rfl) ?_
      refine WL.yld (by decide) (Yld.eql_u64 (a := x00_0) (b := x01_0) rfl rfl) ?_
      refine WL.yld (by decide) (Yld.move rfl) ?_
      refine WL.new (v' := .bool true) (congrArg Value.bool (beq_iff_eq.2 hc5)) ?_
      refine WL.yldG (by decide) rfl (Yld.fieldAddr Try.underlying26 rfl nz_23 rfl rfl) ?_
      refine WL.yldG (by decide) rfl (Yld.loadB (k := 102) scal_23 rfl rfl rfl) ?_
      refine WL.yldG (by decide) rfl (Yld.fieldAddr Try.underlying26 rfl nz_23 rfl rfl) ?_
      refine WL.yldG (by decide) rfl (Yld.loadB (k := 103) scal_23 rfl rfl rfl) ?_
      refine WL.yldG (by decide) rfl (Yld.eql_u32 (a := x00_1) (b := x01_1) rfl rfl) ?_
      refine WL.yld (by decide) (Yld.pickT rfl rfl) ?_
      refine WL.yld (by decide) (Yld.move rfl) ?_
      refine WL.new (v' := .bool false) (congrArg Value.bool (beq_eq_false_iff_ne.2 hc6)) ?_
      refine WL.skip (by decide) rfl rfl ?_
      refine WL.skip (by decide) rfl rfl ?_
      refine WL.skip (by decide) rfl rfl ?_
      refine WL.skip (by decide) rfl rfl ?_
      refine WL.skip (by decide) rfl rfl ?_
      refine WL.yld (by decide) (Yld.pickF rfl rfl) ?_
      refine WL.yld (by decide) (Yld.move rfl) ?_
      refine WL.skip (by decide) rfl rfl ?_
      refine WL.skip (by decide) rfl rfl ?_
      refine WL.skip (by decide) rfl rfl ?_
      refine WL.skip (by decide) rfl rfl ?_
      refine WL.skip (by decide) rfl rfl ?_
      refine WL.skip (by decide) rfl rfl ?_
      refine WL.skip (by decide) rfl rfl ?_
      refine WL.yld (by decide) (Yld.pickF rfl rfl) ?_
      refine WL.yld (by decide) (Yld.assign rfl) ?_
      refine WL.done (hK4 _ _ ?_)
      refine WC.ret ?_
      injection h with h; subst h
      exact Ret.fn [] (ResIs.one rfl rfl) rfl (Ext.refl _ _) rfl (by decide) rfl rfl ⟨rfl, rfl⟩
  · replace h := of_f hc5 h
    refine WL.yld (by decide) (Yld.fieldAddr Try.underlying26 rfl nz_22 rfl rfl) ?_
    refine WL.yld (by decide) (Yld.loadB (k := 102) scal_22 rfl rfl rfl) ?_
    refine WL.yld (by decide) (Yld.fieldAddr Try.underlying26 rfl nz_22 rfl rfl) ?_
    refine WL.yld (by decide) (Yld.loadB (k := 103) scal_22 rfl rfl rfl) ?_
    refine WL.yld (by decide) (Yld.eql_u64 (a := x00_0) (b := x01_0) rfl rfl) ?_
    refine WL.yld (by decide) (Yld.move rfl) ?_
    refine WL.new (v' := .bool false) (congrArg Value.bool (beq_eq_false_iff_ne.2 hc5)) ?_
    refine WL.skip (by decide) rfl rfl ?_
    refine WL.skip (by decide) rfl rfl ?_
    refine WL.skip (by decide) rfl rfl ?_
    refine WL.skip (by decide) rfl rfl ?_
    refine WL.skip (by decide) rfl rfl ?_
    refine WL.yld (by decide) (Yld.pickF rfl rfl) ?_
    refine WL.yld (by decide) (Yld.move rfl) ?_
    refine WL.skip (by decide) rfl rfl ?_
    refine WL.skip (by decide) rfl rfl ?_
    refine WL.skip (by decide) rfl rfl ?_
    refine WL.skip (by decide) rfl rfl ?_
    refine WL.skip (by decide) rfl rfl ?_
    refine WL.yld (by decide) (Yld.pickF rfl rfl) ?_
    refine WL.yld (by decide) (Yld.move rfl) ?_
    refine WL.skip (by decide) rfl rfl ?_
    refine WL.skip (by decide) rfl rfl ?_
    refine WL.skip (by decide) rfl rfl ?_
    refine WL.skip (by decide) rfl rfl ?_
    refine WL.skip (by decide) rfl rfl ?_
    refine WL.skip (by decide) rfl rfl ?_
    refine WL.skip (by decide) rfl rfl ?_
    refine WL.yld (by decide) (Yld.pickF rfl rfl) ?_
    refine WL.yld (by decide) (Yld.assign rfl) ?_
    refine WL.done (hK4 _ _ ?_)
    refine WC.ret ?_
    injection h with h; subst h
    exact Ret.fn [] (ResIs.one rfl rfl) rfl (Ext.refl _ _) rfl (by decide) rfl rfl ⟨rfl, rfl⟩

set_option maxRecDepth 10000 in
theorem w_law06_cut (M0 : Mem) (x00_0 : BitVec 64) (x00_1 : BitVec 32) (x00_2 : Bool) (A00_3 : Option Addr) (n00_3 c00_3 : Nat) (x00_3 : List (BitVec 8)) (hf00_3 : SlT M0 A00_3 n00_3 c00_3 x00_3) {res : (BitVec 64) × (BitVec 32) × Bool × (List (BitVec 8))} (h : m_law06_cut x00_0 x00_1 x00_2 x00_3 = some res) :
    Fn Try.prog 15 #[.agg ([U64 x00_0, U32 x00_1, .bool x00_2, .slice A00_3 n00_3 c00_3] : List Value).toArray] M0 fun r M' es => ∃ (A1 : Option Addr) (n1 c1 : Nat), r = .agg ([U64 res.1, U32 res.2.1, .bool res.2.2.1, .slice A1 n1 c1] : List Value).toArray ∧ es = [] ∧ SlT M' A1 n1 c1 res.2.2.2 := by
  refine Fn.intro (N := 12) Try.func15 rfl rfl (Nat.le_of_ble_eq_true rfl) fun w0 => ?_
  unfold m_law06_cut at h
  refine WC.seqRegion fun K1 hK1 => ?_
  refine WL.eff (by decide) (Eff.box 102 (us := [U64 x00_0, U32 x00_1, .bool x00_2, .slice A00_3 n00_3 c00_3]) rfl rfl rfl) ?_
  rintro _ _ ⟨g2, rfl, rfl⟩
  refine WL.eff (by decide) (Eff.alloc 103 rfl zr_26) ?_
  rintro _ _ ⟨g3, rfl, rfl⟩
  refine WL.done (hK1 _ _ ?_)
  refine WC.seq fun K4 hK4 => ?_
  refine WC.seqRegion fun K5 hK5 => ?_
  refine WL.yld (by decide) (Yld.fieldAddr Try.underlying26 rfl nz_24 rfl rfl) ?_
  refine WL.yld (by decide) (Yld.loadB (k := 102) scal_24 rfl rfl rfl) ?_
  refine WL.yld (by decide) (Yld.lenC (xs := x00_3) und_24 rfl (RdH.memM (k := 0) rfl hf00_3)) ?_
  refine WL.yld (by decide) (Yld.gtr rfl rfl) ?_
  refine WL.done (hK5 _ _ ?_)
  by_cases hc6 : (6000 : Int) < (x00_3.length : Int)
  · replace h := of_t hc6 h
    refine WC.condTe rfl (decide_eq_true hc6) ?_
    refine WC.region fun K7 hK7 => ?_
    obtain ⟨x8, hx8, h⟩ := bnd h
    refine WL.yld (by decide) (Yld.fieldAddr Try.underlying26 rfl nz_24 rfl rfl) ?_
    refine WL.yld (by decide) (Yld.loadB (k := 102) scal_24 rfl rfl rfl) ?_
    refine WL.yld (by decide) (Yld.sliceHC (xs := x00_3) sty_24 rfl rfl (RdH.memM (k := 0) rfl hf00_3) hx8) ?_
    refine WL.yld (by decide) (Yld.fieldAddr Try.underlying26 rfl nz_24 rfl rfl) ?_
    refine WL.eff0 (Eff0.storeB 102 siz_24 rfl rfl rfl rfl (Nat.le_of_ble_eq_true rfl)) ?_
    refine WL.done (hK7 _ _ ?_)
    refine QK.thenN (hK4 _ _ ?_)
    refine WC.seqRegion fun K9 hK9 => ?_
    refine WL.yld (by decide) (Yld.loadBM (k := 102) agg_26 rfl rfl rfl) ?_
    refine WL.eff0 (Eff0.storeBAM 103 agg_26 rfl rfl rfl ⟨rfl, rfl⟩ rfl) ?_
    refine WL.done (hK9 _ _ ?_)
    refine WC.ret ?_
    injection h with h; subst h
    exact Ret.fn [] (ResIs.cellM (k := 103) rfl agg_26 rfl rfl rfl) rfl (Ext.refl _ _) rfl (by decide) rfl rfl ⟨A00_3, x8.length, c00_3, rfl, rfl, (SlT.slc0 hf00_3 hx8)⟩
  · replace h := of_f hc6 h
    refine WC.condFe rfl (decide_eq_false hc6) ?_
    refine WC.skip ?_
    refine QK.thenN (hK4 _ _ ?_)
    refine WC.seqRegion fun K10 hK10 => ?_
    refine WL.yld (by decide) (Yld.loadBM (k := 102) agg_26 rfl rfl rfl) ?_
    refine WL.eff0 (Eff0.storeBAM 103 agg_26 rfl rfl rfl ⟨rfl, rfl⟩ rfl) ?_
    refine WL.done (hK10 _ _ ?_)
    refine WC.ret ?_
    injection h with h; subst h
    exact Ret.fn [] (ResIs.cellM (k := 103) rfl agg_26 rfl rfl rfl) rfl (Ext.refl _ _) rfl (by decide) rfl rfl ⟨A00_3, n00_3, c00_3, rfl, rfl, hf00_3⟩

set_option maxRecDepth 10000 in
theorem w_law06_awake (M0 : Mem)  {res : Bool} (h : m_law06_awake = some res) :
    Fn Try.prog 14 #[] M0 fun r M' es => r = .bool res ∧ es = [] := by
  refine Fn.intro (N := 52) Try.func14 rfl rfl (Nat.le_of_ble_eq_true rfl) fun w0 => ?_
  unfold m_law06_awake at h
  refine WC.seqRegion fun K1 hK1 => ?_
  refine WL.yld (by decide) (Yld.assign rfl) ?_
  refine WL.done (hK1 _ _ ?_)
  refine WC.seqRegion fun K2 hK2 => ?_
  obtain ⟨x4, hx4, h⟩ := bnd h
  obtain ⟨x5, hx5, h⟩ := bnd h
  refine WL.eff (by decide) (Eff.makeC 103 0#8 sty_24 rfl rfl rfl rfl rfl rfl hx4) ?_
  rintro _ _ ⟨g3, rfl, rfl⟩
  refine WL.eff (by decide) (Eff.callS 109 rfl Try.func18 nm_18 rfl rfl (fun w hb hh => w_needle_Decode (Mem.snap w) (some ⟨g3, 0, none⟩) x4.length x4.length _ (RdH.sn (RdH.own (k := 103) rfl) w hb hh) hx5)) ?_
  rintro _ _ ⟨_, ⟨A10, n11, c12, rfl, rfl⟩, rfl⟩
  refine WL.yld (by decide) (Yld.move rfl) ?_
  refine WL.yld (by decide) (Yld.extract rfl rfl) ?_
  refine WL.yld (by decide) (Yld.extract rfl rfl) ?_
  refine WL.yld (by decide) (Yld.extract rfl rfl) ?_
  refine WL.eff (by decide) (Eff.alloc 113 rfl zr_26) ?_
  rintro _ _ ⟨g13, rfl, rfl⟩
  refine WL.eff0 (Eff0.storeBAM 113 agg_26 rfl rfl rfl ⟨rfl, rfl⟩ rfl) ?_
  refine WL.yld (by decide) (Yld.assign rfl) ?_
  refine WL.yld (by decide) (Yld.assign rfl) ?_
  refine WL.done (hK2 _ _ ?_)
  refine WC.seqRegion fun K14 hK14 => ?_
  obtain ⟨x15, hx15, h⟩ := bnd h
  refine WL.yld (by decide) (Yld.build rfl (bu_26_2 true)) ?_
  refine WL.eff (by decide) (Eff.callS 119 rfl Try.func16 nm_16 rfl rfl (fun w hb hh => w_needle_Encode (Mem.snap w) 0#64 0#32 true none 0 0 _ (RdH.sn (RdT.nil (α := BitVec 8)) w hb hh) hx15)) ?_
  rintro _ _ ⟨_, ⟨A20, n21, c22, rfl, rfl⟩, rfl⟩
  refine WL.yld (by decide) (Yld.move rfl) ?_
  refine WL.yld (by decide) (Yld.extract rfl rfl) ?_
  refine WL.yld (by decide) (Yld.extract rfl rfl) ?_
  refine WL.yld (by decide) (Yld.assign rfl) ?_
  refine WL.yld (by decide) (Yld.assign rfl) ?_
  refine WL.done (hK14 _ _ ?_)
  refine WC.seqRegionD (n := 36) [(0, _), (103, _), (109, _), (113, _), (119, _)] rfl mixed (Sub.cons rfl (Sub.cons rfl (Sub.cons rfl (Sub.cons rfl (Sub.cons rfl (Sub.nil _)))))) fun K23 hK23 => ?_
  obtain ⟨x24, hx24, h⟩ := bnd h
  by_cases hc26 : x24 = (24 : Int)
  · replace h := of_t hc26 h
    obtain ⟨x27, hx27, h⟩ := bnd h
    by_cases hc29 : x27 = (32 : Int)
    · replace h := of_t hc29 h
      obtain ⟨x30, hx30, h⟩ := bnd h
      by_cases hc32 : x30 = (32 : Int)
      · replace h := of_t hc32 h
        obtain ⟨x33, hx33, h⟩ := bnd h
        by_cases hc35 : x33 = (40 : Int)
        · replace h := of_t hc35 h
          by_cases hc36 : x5.2.2.2.2.2 = (3 : Int)
          · replace h := of_t hc36 h
            by_cases hc37 : x15.2 = (0 : Int)
            · replace h := of_t hc37 h
              by_cases hc38 : (x15.1.length : Int) = (24 : Int)
              · replace h := of_t hc38 h
                obtain ⟨x39, hx39, h⟩ := bnd h
                refine WD.one 0 (by kernel_rfl) ?_
                refine WS.eff rfl (by decide) (Eff.callS 125 rfl Try.func10 nm_10 rfl rfl (fun w hb hh => w_needle_Size (Mem.snap w) (0 : Int) hx24)) ?_
                rintro _ _ ⟨_, ⟨rfl, rfl⟩, rfl⟩
                refine ⟨(Sub.cons rfl (Sub.cons rfl (Sub.cons rfl (Sub.cons rfl (Sub.cons rfl (Sub.nil _)))))), ?_⟩
                refine WD.take 1 rfl (by kernel_rfl) (by kernel_rfl) (by kernel_rfl) (by decide) (Yld.eqlI rfl rfl) ?_
                refine WD.take 2 rfl (by kernel_rfl) (by kernel_rfl) (by kernel_rfl) (by decide) (Yld.move rfl) ?_
                refine WD.new (v' := .bool true) (congrArg Value.bool (beq_iff_eq.2 hc26)) ?_
                refine WD.one 3 (by kernel_rfl) ?_
                refine WS.effG rfl (by decide) rfl (Eff.callS 128 rfl Try.func10 nm_10 rfl rfl (fun w hb hh => w_needle_Size (Mem.snap w) (1 : Int) hx27)) ?_
                rintro _ _ ⟨_, ⟨rfl, rfl⟩, rfl⟩
                refine ⟨(Sub.cons rfl (Sub.cons rfl (Sub.cons rfl (Sub.cons rfl (Sub.cons rfl (Sub.nil _)))))), ?_⟩
                refine WD.takeG 4 rfl (by kernel_rfl) (by kernel_rfl) (by kernel_rfl) (by decide) rfl (Yld.eqlI rfl rfl) ?_
                refine WD.take 5 rfl (by kernel_rfl) (by kernel_rfl) (by kernel_rfl) (by decide) (Yld.pickT rfl rfl) ?_
                refine WD.take 6 rfl (by kernel_rfl) (by kernel_rfl) (by kernel_rfl) (by decide) (Yld.move rfl) ?_
                refine WD.new (v' := .bool true) (congrArg Value.bool (beq_iff_eq.2 hc29)) ?_
                refine WD.one 7 (by kernel_rfl) ?_
                refine WS.effG rfl (by decide) rfl (Eff.callS 131 rfl Try.func10 nm_10 rfl rfl (fun w hb hh => w_needle_Size (Mem.snap w) (8 : Int) hx30)) ?_
                rintro _ _ ⟨_, ⟨rfl, rfl⟩, rfl⟩
                refine ⟨(Sub.cons rfl (Sub.cons rfl (Sub.cons rfl (Sub.cons rfl (Sub.cons rfl (Sub.nil _)))))), ?_⟩
                refine WD.takeG 8 rfl (by kernel_rfl) (by kernel_rfl) (by kernel_rfl) (by decide) rfl (Yld.eqlI rfl rfl) ?_
                refine WD.take 9 rfl (by kernel_rfl) (by kernel_rfl) (by kernel_rfl) (by decide) (Yld.pickT rfl rfl) ?_
                refine WD.take 10 rfl (by kernel_rfl) (by kernel_rfl) (by kernel_rfl) (by decide) (Yld.move rfl) ?_
                refine WD.new (v' := .bool true) (congrArg Value.bool (beq_iff_eq.2 hc32)) ?_
                refine WD.one 11 (by kernel_rfl) ?_
                refine WS.effG rfl (by decide) rfl (Eff.callS 134 rfl Try.func10 nm_10 rfl rfl (fun w hb hh => w_needle_Size (Mem.snap w) (9 : Int) hx33)) ?_
                rintro _ _ ⟨_, ⟨rfl, rfl⟩, rfl⟩
                refine ⟨(Sub.cons rfl (Sub.cons rfl (Sub.cons rfl (Sub.cons rfl (Sub.cons rfl (Sub.nil _)))))), ?_⟩
                refine WD.takeG 12 rfl (by kernel_rfl) (by kernel_rfl) (by kernel_rfl) (by decide) rfl (Yld.eqlI rfl rfl) ?_
                refine WD.take 13 rfl (by kernel_rfl) (by kernel_rfl) (by kernel_rfl) (by decide) (Yld.pickT rfl rfl) ?_
                refine WD.take 14 rfl (by kernel_rfl) (by kernel_rfl) (by kernel_rfl) (by decide) (Yld.move rfl) ?_
                refine WD.new (v' := .bool true) (congrArg Value.bool (beq_iff_eq.2 hc35)) ?_
                refine WD.takeG 15 rfl (by kernel_rfl) (by kernel_rfl) (by kernel_rfl) (by decide) rfl (Yld.move rfl) ?_
                refine WD.takeG 16 rfl (by kernel_rfl) (by kernel_rfl) (by kernel_rfl) (by decide) rfl (Yld.eqlI rfl rfl) ?_
                refine WD.take 17 rfl (by kernel_rfl) (by kernel_rfl) (by kernel_rfl) (by decide) (Yld.pickT rfl rfl) ?_
                refine WD.take 18 rfl (by kernel_rfl) (by kernel_rfl) (by kernel_rfl) (by decide) (Yld.move rfl) ?_
                refine WD.new (v' := .bool true) (congrArg Value.bool (beq_iff_eq.2 hc36)) ?_
                refine WD.takeG 19 rfl (by kernel_rfl) (by kernel_rfl) (by kernel_rfl) (by decide) rfl (Yld.move rfl) ?_
                refine WD.takeG 20 rfl (by kernel_rfl) (by kernel_rfl) (by kernel_rfl) (by decide) rfl (Yld.eqlI rfl rfl) ?_
                refine WD.take 21 rfl (by kernel_rfl) (by kernel_rfl) (by kernel_rfl) (by decide) (Yld.pickT rfl rfl) ?_
                refine WD.take 22 rfl (by kernel_rfl) (by kernel_rfl) (by kernel_rfl) (by decide) (Yld.move rfl) ?_
                refine WD.new (v' := .bool true) (congrArg Value.bool (beq_iff_eq.2 hc37)) ?_
                refine WD.takeG 23 rfl (by kernel_rfl) (by kernel_rfl) (by kernel_rfl) (by decide) rfl (Yld.move rfl) ?_
                refine WD.takeG 24 rfl (by kernel_rfl) (by kernel_rfl) (by kernel_rfl) (by decide) rfl (Yld.lenC (xs := x15.1) und_24 rfl (RdH.own (k := 119) rfl)) ?_
                refine WD.takeG 25 rfl (by kernel_rfl) (by kernel_rfl) (by kernel_rfl) (by decide) rfl (Yld.eqlI rfl rfl) ?_
                refine WD.take 26 rfl (by kernel_rfl) (by kernel_rfl) (by kernel_rfl) (by decide) (Yld.pickT rfl rfl) ?_
                refine WD.take 27 rfl (by kernel_rfl) (by kernel_rfl) (by kernel_rfl) (by decide) (Yld.move rfl) ?_
                refine WD.new (v' := .bool true) (congrArg Value.bool (beq_iff_eq.2 hc38)) ?_
                refine WD.takeG 28 rfl (by kernel_rfl) (by kernel_rfl) (by kernel_rfl) (by decide) rfl (Yld.move rfl) ?_
                refine WD.takeG 29 rfl (by kernel_rfl) (by kernel_rfl) (by kernel_rfl) (by decide) rfl (Yld.sliceHC (xs := x15.1) sty_24 rfl rfl (RdH.own (k := 119) rfl) hx39) ?_
                refine WD.takeG 30 rfl (by kernel_rfl) (by kernel_rfl) (by kernel_rfl) (by decide) rfl (Yld.b2sC (xs := x39) und_24 und_5 und_9 rfl (RdT.slc0 (RdH.own (k := 119) rfl) hx39)) ?_
                refine WD.one 31 (by kernel_rfl) ?_
                refine WS.effG rfl (by decide) rfl (Eff.buildC 140 ([78#8, 165#8, 1#8, 0#8] : List (BitVec 8)) sty_24 rfl rfl rfl rfl rfl (by decide)) ?_
                rintro _ _ ⟨g40, rfl, rfl⟩
                refine ⟨(Sub.cons rfl (Sub.cons rfl (Sub.cons rfl (Sub.cons rfl (Sub.cons rfl (Sub.nil _)))))), ?_⟩
                refine WD.one 32 (by kernel_rfl) ?_
                refine WS.yldG rfl (by decide) rfl (Yld.b2sC (xs := ([78#8, 165#8, 1#8, 0#8] : List (BitVec 8))) und_24 und_5 und_9 rfl (RdH.own (k := 140) rfl)) ?_
                refine WD.takeG 33 rfl (by kernel_rfl) (by kernel_rfl) (by kernel_rfl) (by decide) rfl (Yld.eqlStr (a := x39) (b := ([78#8, 165#8, 1#8, 0#8] : List (BitVec 8))) rfl rfl) ?_
                refine WD.take 34 rfl (by kernel_rfl) (by kernel_rfl) (by kernel_rfl) (by decide) (Yld.pickT rfl rfl) ?_
                refine WD.take 35 rfl (by kernel_rfl) (by kernel_rfl) (by kernel_rfl) (by decide) (Yld.assign rfl) ?_
                refine WD.done (by kernel_rfl) (hK23 _ _ ?_)
                refine WC.ret ?_
                injection h with h; subst h
                exact Ret.fn [] (ResIs.one rfl rfl) rfl (Ext.refl _ _) rfl (by decide) rfl rfl ⟨rfl, rfl⟩
              · replace h := of_f hc38 h
                refine WD.one 0 (by kernel_rfl) ?_
                refine WS.eff rfl (by decide) (Eff.callS 125 rfl Try.func10 nm_10 rfl rfl (fun w hb hh => w_needle_Size (Mem.snap w) (0 : Int) hx24)) ?_
                rintro _ _ ⟨_, ⟨rfl, rfl⟩, rfl⟩
                refine ⟨(Sub.cons rfl (Sub.cons rfl (Sub.cons rfl (Sub.cons rfl (Sub.cons rfl (Sub.nil _)))))), ?_⟩
                refine WD.take 1 rfl (by kernel_rfl) (by kernel_rfl) (by kernel_rfl) (by decide) (Yld.eqlI rfl rfl) ?_
                refine WD.take 2 rfl (by kernel_rfl) (by kernel_rfl) (by kernel_rfl) (by decide) (Yld.move rfl) ?_
                refine WD.new (v' := .bool true) (congrArg Value.bool (beq_iff_eq.2 hc26)) ?_
                refine WD.one 3 (by kernel_rfl) ?_
                refine WS.effG rfl (by decide) rfl (Eff.callS 128 rfl Try.func10 nm_10 rfl rfl (fun w hb hh => w_needle_Size (Mem.snap w) (1 : Int) hx27)) ?_
                rintro _ _ ⟨_, ⟨rfl, rfl⟩, rfl⟩
                refine ⟨(Sub.cons rfl (Sub.cons rfl (Sub.cons rfl (Sub.cons rfl (Sub.cons rfl (Sub.nil _)))))), ?_⟩
                refine WD.takeG 4 rfl (by kernel_rfl) (by kernel_rfl) (by kernel_rfl) (by decide) rfl (Yld.eqlI rfl rfl) ?_
                refine WD.take 5 rfl (by kernel_rfl) (by kernel_rfl) (by kernel_rfl) (by decide) (Yld.pickT rfl rfl) ?_
                refine WD.take 6 rfl (by kernel_rfl) (by kernel_rfl) (by kernel_rfl) (by decide) (Yld.move rfl) ?_
                refine WD.new (v' := .bool true) (congrArg Value.bool (beq_iff_eq.2 hc29)) ?_
                refine WD.one 7 (by kernel_rfl) ?_
                refine WS.effG rfl (by decide) rfl (Eff.callS 131 rfl Try.func10 nm_10 rfl rfl (fun w hb hh => w_needle_Size (Mem.snap w) (8 : Int) hx30)) ?_
                rintro _ _ ⟨_, ⟨rfl, rfl⟩, rfl⟩
                refine ⟨(Sub.cons rfl (Sub.cons rfl (Sub.cons rfl (Sub.cons rfl (Sub.cons rfl (Sub.nil _)))))), ?_⟩
                refine WD.takeG 8 rfl (by kernel_rfl) (by kernel_rfl) (by kernel_rfl) (by decide) rfl (Yld.eqlI rfl rfl) ?_
                refine WD.take 9 rfl (by kernel_rfl) (by kernel_rfl) (by kernel_rfl) (by decide) (Yld.pickT rfl rfl) ?_
                refine WD.take 10 rfl (by kernel_rfl) (by kernel_rfl) (by kernel_rfl) (by decide) (Yld.move rfl) ?_
                refine WD.new (v' := .bool true) (congrArg Value.bool (beq_iff_eq.2 hc32)) ?_
                refine WD.one 11 (by kernel_rfl) ?_
                refine WS.effG rfl (by decide) rfl (Eff.callS 134 rfl Try.func10 nm_10 rfl rfl (fun w hb hh => w_needle_Size (Mem.snap w) (9 : Int) hx33)) ?_
                rintro _ _ ⟨_, ⟨rfl, rfl⟩, rfl⟩
                refine ⟨(Sub.cons rfl (Sub.cons rfl (Sub.cons rfl (Sub.cons rfl (Sub.cons rfl (Sub.nil _)))))), ?_⟩
                refine WD.takeG 12 rfl (by kernel_rfl) (by kernel_rfl) (by kernel_rfl) (by decide) rfl (Yld.eqlI rfl rfl) ?_
                refine WD.take 13 rfl (by kernel_rfl) (by kernel_rfl) (by kernel_rfl) (by decide) (Yld.pickT rfl rfl) ?_
                refine WD.take 14 rfl (by kernel_rfl) (by kernel_rfl) (by kernel_rfl) (by decide) (Yld.move rfl) ?_
                refine WD.new (v' := .bool true) (congrArg Value.bool (beq_iff_eq.2 hc35)) ?_
                refine WD.takeG 15 rfl (by kernel_rfl) (by kernel_rfl) (by kernel_rfl) (by decide) rfl (Yld.move rfl) ?_
                refine WD.takeG 16 rfl (by kernel_rfl) (by kernel_rfl) (by kernel_rfl) (by decide) rfl (Yld.eqlI rfl rfl) ?_
                refine WD.take 17 rfl (by kernel_rfl) (by kernel_rfl) (by kernel_rfl) (by decide) (Yld.pickT rfl rfl) ?_
                refine WD.take 18 rfl (by kernel_rfl) (by kernel_rfl) (by kernel_rfl) (by decide) (Yld.move rfl) ?_
                refine WD.new (v' := .bool true) (congrArg Value.bool (beq_iff_eq.2 hc36)) ?_
                refine WD.takeG 19 rfl (by kernel_rfl) (by kernel_rfl) (by kernel_rfl) (by decide) rfl (Yld.move rfl) ?_
                refine WD.takeG 20 rfl (by kernel_rfl) (by kernel_rfl) (by kernel_rfl) (by decide) rfl (Yld.eqlI rfl rfl) ?_
                refine WD.take 21 rfl (by kernel_rfl) (by kernel_rfl) (by kernel_rfl) (by decide) (Yld.pickT rfl rfl) ?_
                refine WD.take 22 rfl (by kernel_rfl) (by kernel_rfl) (by kernel_rfl) (by decide) (Yld.move rfl) ?_
                refine WD.new (v' := .bool true) (congrArg Value.bool (beq_iff_eq.2 hc37)) ?_
                refine WD.takeG 23 rfl (by kernel_rfl) (by kernel_rfl) (by kernel_rfl) (by decide) rfl (Yld.move rfl) ?_
                refine WD.takeG 24 rfl (by kernel_rfl) (by kernel_rfl) (by kernel_rfl) (by decide) rfl (Yld.lenC (xs := x15.1) und_24 rfl (RdH.own (k := 119) rfl)) ?_
                refine WD.takeG 25 rfl (by kernel_rfl) (by kernel_rfl) (by kernel_rfl) (by decide) rfl (Yld.eqlI rfl rfl) ?_
                refine WD.take 26 rfl (by kernel_rfl) (by kernel_rfl) (by kernel_rfl) (by decide) (Yld.pickT rfl rfl) ?_
                refine WD.take 27 rfl (by kernel_rfl) (by kernel_rfl) (by kernel_rfl) (by decide) (Yld.move rfl) ?_
                refine WD.new (v' := .bool false) (congrArg Value.bool (beq_eq_false_iff_ne.2 hc38)) ?_
                refine WD.takeS 28 rfl (by kernel_rfl) (by kernel_rfl) (by kernel_rfl) (by decide) rfl rfl ?_
                refine WD.takeS 29 rfl (by kernel_rfl) (by kernel_rfl) (by kernel_rfl) (by decide) rfl rfl ?_
                refine WD.takeS 30 rfl (by kernel_rfl) (by kernel_rfl) (by kernel_rfl) (by decide) rfl rfl ?_
                refine WD.takeS 31 rfl (by kernel_rfl) (by kernel_rfl) (by kernel_rfl) (by decide) rfl rfl ?_
                refine WD.takeS 32 rfl (by kernel_rfl) (by kernel_rfl) (by kernel_rfl) (by decide) rfl rfl ?_
                refine WD.takeS 33 rfl (by kernel_rfl) (by kernel_rfl) (by kernel_rfl) (by decide) rfl rfl ?_
                refine WD.take 34 rfl (by kernel_rfl) (by kernel_rfl) (by kernel_rfl) (by decide) (Yld.pickF rfl rfl) ?_
                refine WD.take 35 rfl (by kernel_rfl) (by kernel_rfl) (by kernel_rfl) (by decide) (Yld.assign rfl) ?_
                refine WD.done (by kernel_rfl) (hK23 _ _ ?_)
                refine WC.ret ?_
                injection h with h; subst h
                exact Ret.fn [] (ResIs.one rfl rfl) rfl (Ext.refl _ _) rfl (by decide) rfl rfl ⟨rfl, rfl⟩
            · replace h := of_f hc37 h
              refine WD.one 0 (by kernel_rfl) ?_
              refine WS.eff rfl (by decide) (Eff.callS 125 rfl Try.func10 nm_10 rfl rfl (fun w hb hh => w_needle_Size (Mem.snap w) (0 : Int) hx24)) ?_
              rintro _ _ ⟨_, ⟨rfl, rfl⟩, rfl⟩
              refine ⟨(Sub.cons rfl (Sub.cons rfl (Sub.cons rfl (Sub.cons rfl (Sub.cons rfl (Sub.nil _)))))), ?_⟩
              refine WD.take 1 rfl (by kernel_rfl) (by kernel_rfl) (by kernel_rfl) (by decide) (Yld.eqlI rfl rfl) ?_
              refine WD.take 2 rfl (by kernel_rfl) (by kernel_rfl) (by kernel_rfl) (by decide) (Yld.move rfl) ?_
              refine WD.new (v' := .bool true) (congrArg Value.bool (beq_iff_eq.2 hc26)) ?_
              refine WD.one 3 (by kernel_rfl) ?_
              refine WS.effG rfl (by decide) rfl (Eff.callS 128 rfl Try.func10 nm_10 rfl rfl (fun w hb hh => w_needle_Size (Mem.snap w) (1 : Int) hx27)) ?_
              rintro _ _ ⟨_, ⟨rfl, rfl⟩, rfl⟩
              refine ⟨(Sub.cons rfl (Sub.cons rfl (Sub.cons rfl (Sub.cons rfl (Sub.cons rfl (Sub.nil _)))))), ?_⟩
              refine WD.takeG 4 rfl (by kernel_rfl) (by kernel_rfl) (by kernel_rfl) (by decide) rfl (Yld.eqlI rfl rfl) ?_
              refine WD.take 5 rfl (by kernel_rfl) (by kernel_rfl) (by kernel_rfl) (by decide) (Yld.pickT rfl rfl) ?_
              refine WD.take 6 rfl (by kernel_rfl) (by kernel_rfl) (by kernel_rfl) (by decide) (Yld.move rfl) ?_
              refine WD.new (v' := .bool true) (congrArg Value.bool (beq_iff_eq.2 hc29)) ?_
              refine WD.one 7 (by kernel_rfl) ?_
              refine WS.effG rfl (by decide) rfl (Eff.callS 131 rfl Try.func10 nm_10 rfl rfl (fun w hb hh => w_needle_Size (Mem.snap w) (8 : Int) hx30)) ?_
              rintro _ _ ⟨_, ⟨rfl, rfl⟩, rfl⟩
              refine ⟨(Sub.cons rfl (Sub.cons rfl (Sub.cons rfl (Sub.cons rfl (Sub.cons rfl (Sub.nil _)))))), ?_⟩
              refine WD.takeG 8 rfl (by kernel_rfl) (by kernel_rfl) (by kernel_rfl) (by decide) rfl (Yld.eqlI rfl rfl) ?_
              refine WD.take 9 rfl (by kernel_rfl) (by kernel_rfl) (by kernel_rfl) (by decide) (Yld.pickT rfl rfl) ?_
              refine WD.take 10 rfl (by kernel_rfl) (by kernel_rfl) (by kernel_rfl) (by decide) (Yld.move rfl) ?_
              refine WD.new (v' := .bool true) (congrArg Value.bool (beq_iff_eq.2 hc32)) ?_
              refine WD.one 11 (by kernel_rfl) ?_
              refine WS.effG rfl (by decide) rfl (Eff.callS 134 rfl Try.func10 nm_10 rfl rfl (fun w hb hh => w_needle_Size (Mem.snap w) (9 : Int) hx33)) ?_
              rintro _ _ ⟨_, ⟨rfl, rfl⟩, rfl⟩
              refine ⟨(Sub.cons rfl (Sub.cons rfl (Sub.cons rfl (Sub.cons rfl (Sub.cons rfl (Sub.nil _)))))), ?_⟩
              refine WD.takeG 12 rfl (by kernel_rfl) (by kernel_rfl) (by kernel_rfl) (by decide) rfl (Yld.eqlI rfl rfl) ?_
              refine WD.take 13 rfl (by kernel_rfl) (by kernel_rfl) (by kernel_rfl) (by decide) (Yld.pickT rfl rfl) ?_
              refine WD.take 14 rfl (by kernel_rfl) (by kernel_rfl) (by kernel_rfl) (by decide) (Yld.move rfl) ?_
              refine WD.new (v' := .bool true) (congrArg Value.bool (beq_iff_eq.2 hc35)) ?_
              refine WD.takeG 15 rfl (by kernel_rfl) (by kernel_rfl) (by kernel_rfl) (by decide) rfl (Yld.move rfl) ?_
              refine WD.takeG 16 rfl (by kernel_rfl) (by kernel_rfl) (by kernel_rfl) (by decide) rfl (Yld.eqlI rfl rfl) ?_
              refine WD.take 17 rfl (by kernel_rfl) (by kernel_rfl) (by kernel_rfl) (by decide) (Yld.pickT rfl rfl) ?_
              refine WD.take 18 rfl (by kernel_rfl) (by kernel_rfl) (by kernel_rfl) (by decide) (Yld.move rfl) ?_
              refine WD.new (v' := .bool true) (congrArg Value.bool (beq_iff_eq.2 hc36)) ?_
              refine WD.takeG 19 rfl (by kernel_rfl) (by kernel_rfl) (by kernel_rfl) (by decide) rfl (Yld.move rfl) ?_
              refine WD.takeG 20 rfl (by kernel_rfl) (by kernel_rfl) (by kernel_rfl) (by decide) rfl (Yld.eqlI rfl rfl) ?_
              refine WD.take 21 rfl (by kernel_rfl) (by kernel_rfl) (by kernel_rfl) (by decide) (Yld.pickT rfl rfl) ?_
              refine WD.take 22 rfl (by kernel_rfl) (by kernel_rfl) (by kernel_rfl) (by decide) (Yld.move rfl) ?_
              refine WD.new (v' := .bool false) (congrArg Value.bool (beq_eq_false_iff_ne.2 hc37)) ?_
              refine WD.takeS 23 rfl (by kernel_rfl) (by kernel_rfl) (by kernel_rfl) (by decide) rfl rfl ?_
              refine WD.takeS 24 rfl (by kernel_rfl) (by kernel_rfl) (by kernel_rfl) (by decide) rfl rfl ?_
              refine WD.takeS 25 rfl (by kernel_rfl) (by kernel_rfl) (by kernel_rfl) (by decide) rfl rfl ?_
              refine WD.take 26 rfl (by kernel_rfl) (by kernel_rfl) (by kernel_rfl) (by decide) (Yld.pickF rfl rfl) ?_
              refine WD.take 27 rfl (by kernel_rfl) (by kernel_rfl) (by kernel_rfl) (by decide) (Yld.move rfl) ?_
              refine WD.takeS 28 rfl (by kernel_rfl) (by kernel_rfl) (by kernel_rfl) (by decide) rfl rfl ?_
              refine WD.takeS 29 rfl (by kernel_rfl) (by kernel_rfl) (by kernel_rfl) (by decide) rfl rfl ?_
              refine WD.takeS 30 rfl (by kernel_rfl) (by kernel_rfl) (by kernel_rfl) (by decide) rfl rfl ?_
              refine WD.takeS 31 rfl (by kernel_rfl) (by kernel_rfl) (by kernel_rfl) (by decide) rfl rfl ?_
              refine WD.takeS 32 rfl (by kernel_rfl) (by kernel_rfl) (by kernel_rfl) (by decide) rfl rfl ?_
              refine WD.takeS 33 rfl (by kernel_rfl) (by kernel_rfl) (by kernel_rfl) (by decide) rfl rfl ?_
              refine WD.take 34 rfl (by kernel_rfl) (by kernel_rfl) (by kernel_rfl) (by decide) (Yld.pickF rfl rfl) ?_
              refine WD.take 35 rfl (by kernel_rfl) (by kernel_rfl) (by kernel_rfl) (by decide) (Yld.assign rfl) ?_
              refine WD.done (by kernel_rfl) (hK23 _ _ ?_)
              refine WC.ret ?_
              injection h with h; subst h
              exact Ret.fn [] (ResIs.one rfl rfl) rfl (Ext.refl _ _) rfl (by decide) rfl rfl ⟨rfl, rfl⟩
          · replace h := of_f hc36 h
            refine WD.one 0 (by kernel_rfl) ?_
            refine WS.eff rfl (by decide) (Eff.callS 125 rfl Try.func10 nm_10 rfl rfl (fun w hb hh => w_needle_Size (Mem.snap w) (0 : Int) hx24)) ?_
            rintro _ _ ⟨_, ⟨rfl, rfl⟩, rfl⟩
            refine ⟨(Sub.cons rfl (Sub.cons rfl (Sub.cons rfl (Sub.cons rfl (Sub.cons rfl (Sub.nil _)))))), ?_⟩
            refine WD.take 1 rfl (by kernel_rfl) (by kernel_rfl) (by kernel_rfl) (by decide) (Yld.eqlI rfl rfl) ?_
            refine WD.take 2 rfl (by kernel_rfl) (by kernel_rfl) (by kernel_rfl) (by decide) (Yld.move rfl) ?_
            refine WD.new (v' := .bool true) (congrArg Value.bool (beq_iff_eq.2 hc26)) ?_
            refine WD.one 3 (by kernel_rfl) ?_
            refine WS.effG rfl (by decide) rfl (Eff.callS 128 rfl Try.func10 nm_10 rfl rfl (fun w hb hh => w_needle_Size (Mem.snap w) (1 : Int) hx27)) ?_
            rintro _ _ ⟨_, ⟨rfl, rfl⟩, rfl⟩
            refine ⟨(Sub.cons rfl (Sub.cons rfl (Sub.cons rfl (Sub.cons rfl (Sub.cons rfl (Sub.nil _)))))), ?_⟩
            refine WD.takeG 4 rfl (by kernel_rfl) (by kernel_rfl) (by kernel_rfl) (by decide) rfl (Yld.eqlI rfl rfl) ?_
            refine WD.take 5 rfl (by kernel_rfl) (by kernel_rfl) (by kernel_rfl) (by decide) (Yld.pickT rfl rfl) ?_
            refine WD.take 6 rfl (by kernel_rfl) (by kernel_rfl) (by kernel_rfl) (by decide) (Yld.move rfl) ?_
            refine WD.new (v' := .bool true) (congrArg Value.bool (beq_iff_eq.2 hc29)) ?_
            refine WD.one 7 (by kernel_rfl) ?_
            refine WS.effG rfl (by decide) rfl (Eff.callS 131 rfl Try.func10 nm_10 rfl rfl (fun w hb hh => w_needle_Size (Mem.snap w) (8 : Int) hx30)) ?_
            rintro _ _ ⟨_, ⟨rfl, rfl⟩, rfl⟩
            refine ⟨(Sub.cons rfl (Sub.cons rfl (Sub.cons rfl (Sub.cons rfl (Sub.cons rfl (Sub.nil _)))))), ?_⟩
            refine WD.takeG 8 rfl (by kernel_rfl) (by kernel_rfl) (by kernel_rfl) (by decide) rfl (Yld.eqlI rfl rfl) ?_
            refine WD.take 9 rfl (by kernel_rfl) (by kernel_rfl) (by kernel_rfl) (by decide) (Yld.pickT rfl rfl) ?_
            refine WD.take 10 rfl (by kernel_rfl) (by kernel_rfl) (by kernel_rfl) (by decide) (Yld.move rfl) ?_
            refine WD.new (v' := .bool true) (congrArg Value.bool (beq_iff_eq.2 hc32)) ?_
            refine WD.one 11 (by kernel_rfl) ?_
            refine WS.effG rfl (by decide) rfl (Eff.callS 134 rfl Try.func10 nm_10 rfl rfl (fun w hb hh => w_needle_Size (Mem.snap w) (9 : Int) hx33)) ?_
            rintro _ _ ⟨_, ⟨rfl, rfl⟩, rfl⟩
            refine ⟨(Sub.cons rfl (Sub.cons rfl (Sub.cons rfl (Sub.cons rfl (Sub.cons rfl (Sub.nil _)))))), ?_⟩
            refine WD.takeG 12 rfl (by kernel_rfl) (by kernel_rfl) (by kernel_rfl) (by decide) rfl (Yld.eqlI rfl rfl) ?_
            refine WD.take 13 rfl (by kernel_rfl) (by kernel_rfl) (by kernel_rfl) (by decide) (Yld.pickT rfl rfl) ?_
            refine WD.take 14 rfl (by kernel_rfl) (by kernel_rfl) (by kernel_rfl) (by decide) (Yld.move rfl) ?_
            refine WD.new (v' := .bool true) (congrArg Value.bool (beq_iff_eq.2 hc35)) ?_
            refine WD.takeG 15 rfl (by kernel_rfl) (by kernel_rfl) (by kernel_rfl) (by decide) rfl (Yld.move rfl) ?_
            refine WD.takeG 16 rfl (by kernel_rfl) (by kernel_rfl) (by kernel_rfl) (by decide) rfl (Yld.eqlI rfl rfl) ?_
            refine WD.take 17 rfl (by kernel_rfl) (by kernel_rfl) (by kernel_rfl) (by decide) (Yld.pickT rfl rfl) ?_
            refine WD.take 18 rfl (by kernel_rfl) (by kernel_rfl) (by kernel_rfl) (by decide) (Yld.move rfl) ?_
            refine WD.new (v' := .bool false) (congrArg Value.bool (beq_eq_false_iff_ne.2 hc36)) ?_
            refine WD.takeS 19 rfl (by kernel_rfl) (by kernel_rfl) (by kernel_rfl) (by decide) rfl rfl ?_
            refine WD.takeS 20 rfl (by kernel_rfl) (by kernel_rfl) (by kernel_rfl) (by decide) rfl rfl ?_
            refine WD.take 21 rfl (by kernel_rfl) (by kernel_rfl) (by kernel_rfl) (by decide) (Yld.pickF rfl rfl) ?_
            refine WD.take 22 rfl (by kernel_rfl) (by kernel_rfl) (by kernel_rfl) (by decide) (Yld.move rfl) ?_
            refine WD.takeS 23 rfl (by kernel_rfl) (by kernel_rfl) (by kernel_rfl) (by decide) rfl rfl ?_
            refine WD.takeS 24 rfl (by kernel_rfl) (by kernel_rfl) (by kernel_rfl) (by decide) rfl rfl ?_
            refine WD.takeS 25 rfl (by kernel_rfl) (by kernel_rfl) (by kernel_rfl) (by decide) rfl rfl ?_
            refine WD.take 26 rfl (by kernel_rfl) (by kernel_rfl) (by kernel_rfl) (by decide) (Yld.pickF rfl rfl) ?_
            refine WD.take 27 rfl (by kernel_rfl) (by kernel_rfl) (by kernel_rfl) (by decide) (Yld.move rfl) ?_
            refine WD.takeS 28 rfl (by kernel_rfl) (by kernel_rfl) (by kernel_rfl) (by decide) rfl rfl ?_
            refine WD.takeS 29 rfl (by kernel_rfl) (by kernel_rfl) (by kernel_rfl) (by decide) rfl rfl ?_
            refine WD.takeS 30 rfl (by kernel_rfl) (by kernel_rfl) (by kernel_rfl) (by decide) rfl rfl ?_
            refine WD.takeS 31 rfl (by kernel_rfl) (by kernel_rfl) (by kernel_rfl) (by decide) rfl rfl ?_
            refine WD.takeS 32 rfl (by kernel_rfl) (by kernel_rfl) (by kernel_rfl) (by decide) rfl rfl ?_
            refine WD.takeS 33 rfl (by kernel_rfl) (by kernel_rfl) (by kernel_rfl) (by decide) rfl rfl ?_
            refine WD.take 34 rfl (by kernel_rfl) (by kernel_rfl) (by kernel_rfl) (by decide) (Yld.pickF rfl rfl) ?_
            refine WD.take 35 rfl (by kernel_rfl) (by kernel_rfl) (by kernel_rfl) (by decide) (Yld.assign rfl) ?_
            refine WD.done (by kernel_rfl) (hK23 _ _ ?_)
            refine WC.ret ?_
            injection h with h; subst h
            exact Ret.fn [] (ResIs.one rfl rfl) rfl (Ext.refl _ _) rfl (by decide) rfl rfl ⟨rfl, rfl⟩
        · replace h := of_f hc35 h
          refine WD.one 0 (by kernel_rfl) ?_
          refine WS.eff rfl (by decide) (Eff.callS 125 rfl Try.func10 nm_10 rfl rfl (fun w hb hh => w_needle_Size (Mem.snap w) (0 : Int) hx24)) ?_
          rintro _ _ ⟨_, ⟨rfl, rfl⟩, rfl⟩
          refine ⟨(Sub.cons rfl (Sub.cons rfl (Sub.cons rfl (Sub.cons rfl (Sub.cons rfl (Sub.nil _)))))), ?_⟩
          refine WD.take 1 rfl (by kernel_rfl) (by kernel_rfl) (by kernel_rfl) (by decide) (Yld.eqlI rfl rfl) ?_
          refine WD.take 2 rfl (by kernel_rfl) (by kernel_rfl) (by kernel_rfl) (by decide) (Yld.move rfl) ?_
          refine WD.new (v' := .bool true) (congrArg Value.bool (beq_iff_eq.2 hc26)) ?_
          refine WD.one 3 (by kernel_rfl) ?_
          refine WS.effG rfl (by decide) rfl (Eff.callS 128 rfl Try.func10 nm_10 rfl rfl (fun w hb hh => w_needle_Size (Mem.snap w) (1 : Int) hx27)) ?_
          rintro _ _ ⟨_, ⟨rfl, rfl⟩, rfl⟩
          refine ⟨(Sub.cons rfl (Sub.cons rfl (Sub.cons rfl (Sub.cons rfl (Sub.cons rfl (Sub.nil _)))))), ?_⟩
          refine WD.takeG 4 rfl (by kernel_rfl) (by kernel_rfl) (by kernel_rfl) (by decide) rfl (Yld.eqlI rfl rfl) ?_
          refine WD.take 5 rfl (by kernel_rfl) (by kernel_rfl) (by kernel_rfl) (by decide) (Yld.pickT rfl rfl) ?_
          refine WD.take 6 rfl (by kernel_rfl) (by kernel_rfl) (by kernel_rfl) (by decide) (Yld.move rfl) ?_
          refine WD.new (v' := .bool true) (congrArg Value.bool (beq_iff_eq.2 hc29)) ?_
          refine WD.one 7 (by kernel_rfl) ?_
          refine WS.effG rfl (by decide) rfl (Eff.callS 131 rfl Try.func10 nm_10 rfl rfl (fun w hb hh => w_needle_Size (Mem.snap w) (8 : Int) hx30)) ?_
          rintro _ _ ⟨_, ⟨rfl, rfl⟩, rfl⟩
          refine ⟨(Sub.cons rfl (Sub.cons rfl (Sub.cons rfl (Sub.cons rfl (Sub.cons rfl (Sub.nil _)))))), ?_⟩
          refine WD.takeG 8 rfl (by kernel_rfl) (by kernel_rfl) (by kernel_rfl) (by decide) rfl (Yld.eqlI rfl rfl) ?_
          refine WD.take 9 rfl (by kernel_rfl) (by kernel_rfl) (by kernel_rfl) (by decide) (Yld.pickT rfl rfl) ?_
          refine WD.take 10 rfl (by kernel_rfl) (by kernel_rfl) (by kernel_rfl) (by decide) (Yld.move rfl) ?_
          refine WD.new (v' := .bool true) (congrArg Value.bool (beq_iff_eq.2 hc32)) ?_
          refine WD.one 11 (by kernel_rfl) ?_
          refine WS.effG rfl (by decide) rfl (Eff.callS 134 rfl Try.func10 nm_10 rfl rfl (fun w hb hh => w_needle_Size (Mem.snap w) (9 : Int) hx33)) ?_
          rintro _ _ ⟨_, ⟨rfl, rfl⟩, rfl⟩
          refine ⟨(Sub.cons rfl (Sub.cons rfl (Sub.cons rfl (Sub.cons rfl (Sub.cons rfl (Sub.nil _)))))), ?_⟩
          refine WD.takeG 12 rfl (by kernel_rfl) (by kernel_rfl) (by kernel_rfl) (by decide) rfl (Yld.eqlI rfl rfl) ?_
          refine WD.take 13 rfl (by kernel_rfl) (by kernel_rfl) (by kernel_rfl) (by decide) (Yld.pickT rfl rfl) ?_
          refine WD.take 14 rfl (by kernel_rfl) (by kernel_rfl) (by kernel_rfl) (by decide) (Yld.move rfl) ?_
          refine WD.new (v' := .bool false) (congrArg Value.bool (beq_eq_false_iff_ne.2 hc35)) ?_
          refine WD.takeS 15 rfl (by kernel_rfl) (by kernel_rfl) (by kernel_rfl) (by decide) rfl rfl ?_
          refine WD.takeS 16 rfl (by kernel_rfl) (by kernel_rfl) (by kernel_rfl) (by decide) rfl rfl ?_
          refine WD.take 17 rfl (by kernel_rfl) (by kernel_rfl) (by kernel_rfl) (by decide) (Yld.pickF rfl rfl) ?_
          refine WD.take 18 rfl (by kernel_rfl) (by kernel_rfl) (by kernel_rfl) (by decide) (Yld.move rfl) ?_
          refine WD.takeS 19 rfl (by kernel_rfl) (by kernel_rfl) (by kernel_rfl) (by decide) rfl rfl ?_
          refine WD.takeS 20 rfl (by kernel_rfl) (by kernel_rfl) (by kernel_rfl) (by decide) rfl rfl ?_
          refine WD.take 21 rfl (by kernel_rfl) (by kernel_rfl) (by kernel_rfl) (by decide) (Yld.pickF rfl rfl) ?_
          refine WD.take 22 rfl (by kernel_rfl) (by kernel_rfl) (by kernel_rfl) (by decide) (Yld.move rfl) ?_
          refine WD.takeS 23 rfl (by kernel_rfl) (by kernel_rfl) (by kernel_rfl) (by decide) rfl rfl ?_
          refine WD.takeS 24 rfl (by kernel_rfl) (by kernel_rfl) (by kernel_rfl) (by decide) rfl rfl ?_
          refine WD.takeS 25 rfl (by kernel_rfl) (by kernel_rfl) (by kernel_rfl) (by decide) rfl rfl ?_
          refine WD.take 26 rfl (by kernel_rfl) (by kernel_rfl) (by kernel_rfl) (by decide) (Yld.pickF rfl rfl) ?_
          refine WD.take 27 rfl (by kernel_rfl) (by kernel_rfl) (by kernel_rfl) (by decide) (Yld.move rfl) ?_
          refine WD.takeS 28 rfl (by kernel_rfl) (by kernel_rfl) (by kernel_rfl) (by decide) rfl rfl ?_
          refine WD.takeS 29 rfl (by kernel_rfl) (by kernel_rfl) (by kernel_rfl) (by decide) rfl rfl ?_
          refine WD.takeS 30 rfl (by kernel_rfl) (by kernel_rfl) (by kernel_rfl) (by decide) rfl rfl ?_
          refine WD.takeS 31 rfl (by kernel_rfl) (by kernel_rfl) (by kernel_rfl) (by decide) rfl rfl ?_
          refine WD.takeS 32 rfl (by kernel_rfl) (by kernel_rfl) (by kernel_rfl) (by decide) rfl rfl ?_
          refine WD.takeS 33 rfl (by kernel_rfl) (by kernel_rfl) (by kernel_rfl) (by decide) rfl rfl ?_
          refine WD.take 34 rfl (by kernel_rfl) (by kernel_rfl) (by kernel_rfl) (by decide) (Yld.pickF rfl rfl) ?_
          refine WD.take 35 rfl (by kernel_rfl) (by kernel_rfl) (by kernel_rfl) (by decide) (Yld.assign rfl) ?_
          refine WD.done (by kernel_rfl) (hK23 _ _ ?_)
          refine WC.ret ?_
          injection h with h; subst h
          exact Ret.fn [] (ResIs.one rfl rfl) rfl (Ext.refl _ _) rfl (by decide) rfl rfl ⟨rfl, rfl⟩
      · replace h := of_f hc32 h
        refine WD.one 0 (by kernel_rfl) ?_
        refine WS.eff rfl (by decide) (Eff.callS 125 rfl Try.func10 nm_10 rfl rfl (fun w hb hh => w_needle_Size (Mem.snap w) (0 : Int) hx24)) ?_
        rintro _ _ ⟨_, ⟨rfl, rfl⟩, rfl⟩
        refine ⟨(Sub.cons rfl (Sub.cons rfl (Sub.cons rfl (Sub.cons rfl (Sub.cons rfl (Sub.nil _)))))), ?_⟩
        refine WD.take 1 rfl (by kernel_rfl) (by kernel_rfl) (by kernel_rfl) (by decide) (Yld.eqlI rfl rfl) ?_
        refine WD.take 2 rfl (by kernel_rfl) (by kernel_rfl) (by kernel_rfl) (by decide) (Yld.move rfl) ?_
        refine WD.new (v' := .bool true) (congrArg Value.bool (beq_iff_eq.2 hc26)) ?_
        refine WD.one 3 (by kernel_rfl) ?_
        refine WS.effG rfl (by decide) rfl (Eff.callS 128 rfl Try.func10 nm_10 rfl rfl (fun w hb hh => w_needle_Size (Mem.snap w) (1 : Int) hx27)) ?_
        rintro _ _ ⟨_, ⟨rfl, rfl⟩, rfl⟩
        refine ⟨(Sub.cons rfl (Sub.cons rfl (Sub.cons rfl (Sub.cons rfl (Sub.cons rfl (Sub.nil _)))))), ?_⟩
        refine WD.takeG 4 rfl (by kernel_rfl) (by kernel_rfl) (by kernel_rfl) (by decide) rfl (Yld.eqlI rfl rfl) ?_
        refine WD.take 5 rfl (by kernel_rfl) (by kernel_rfl) (by kernel_rfl) (by decide) (Yld.pickT rfl rfl) ?_
        refine WD.take 6 rfl (by kernel_rfl) (by kernel_rfl) (by kernel_rfl) (by decide) (Yld.move rfl) ?_
        refine WD.new (v' := .bool true) (congrArg Value.bool (beq_iff_eq.2 hc29)) ?_
        refine WD.one 7 (by kernel_rfl) ?_
        refine WS.effG rfl (by decide) rfl (Eff.callS 131 rfl Try.func10 nm_10 rfl rfl (fun w hb hh => w_needle_Size (Mem.snap w) (8 : Int) hx30)) ?_
        rintro _ _ ⟨_, ⟨rfl, rfl⟩, rfl⟩
        refine ⟨(Sub.cons rfl (Sub.cons rfl (Sub.cons rfl (Sub.cons rfl (Sub.cons rfl (Sub.nil _)))))), ?_⟩
        refine WD.takeG 8 rfl (by kernel_rfl) (by kernel_rfl) (by kernel_rfl) (by decide) rfl (Yld.eqlI rfl rfl) ?_
        refine WD.take 9 rfl (by kernel_rfl) (by kernel_rfl) (by kernel_rfl) (by decide) (Yld.pickT rfl rfl) ?_
        refine WD.take 10 rfl (by kernel_rfl) (by kernel_rfl) (by kernel_rfl) (by decide) (Yld.move rfl) ?_
        refine WD.new (v' := .bool false) (congrArg Value.bool (beq_eq_false_iff_ne.2 hc32)) ?_
        refine WD.takeS 11 rfl (by kernel_rfl) (by kernel_rfl) (by kernel_rfl) (by decide) rfl rfl ?_
        refine WD.takeS 12 rfl (by kernel_rfl) (by kernel_rfl) (by kernel_rfl) (by decide) rfl rfl ?_
        refine WD.take 13 rfl (by kernel_rfl) (by kernel_rfl) (by kernel_rfl) (by decide) (Yld.pickF rfl rfl) ?_
        refine WD.take 14 rfl (by kernel_rfl) (by kernel_rfl) (by kernel_rfl) (by decide) (Yld.move rfl) ?_
        refine WD.takeS 15 rfl (by kernel_rfl) (by kernel_rfl) (by kernel_rfl) (by decide) rfl rfl ?_
        refine WD.takeS 16 rfl (by kernel_rfl) (by kernel_rfl) (by kernel_rfl) (by decide) rfl rfl ?_
        refine WD.take 17 rfl (by kernel_rfl) (by kernel_rfl) (by kernel_rfl) (by decide) (Yld.pickF rfl rfl) ?_
        refine WD.take 18 rfl (by kernel_rfl) (by kernel_rfl) (by kernel_rfl) (by decide) (Yld.move rfl) ?_
        refine WD.takeS 19 rfl (by kernel_rfl) (by kernel_rfl) (by kernel_rfl) (by decide) rfl rfl ?_
        refine WD.takeS 20 rfl (by kernel_rfl) (by kernel_rfl) (by kernel_rfl) (by decide) rfl rfl ?_
        refine WD.take 21 rfl (by kernel_rfl) (by kernel_rfl) (by kernel_rfl) (by decide) (Yld.pickF rfl rfl) ?_
        refine WD.take 22 rfl (by kernel_rfl) (by kernel_rfl) (by kernel_rfl) (by decide) (Yld.move rfl) ?_
        refine WD.takeS 23 rfl (by kernel_rfl) (by kernel_rfl) (by kernel_rfl) (by decide) rfl rfl ?_
        refine WD.takeS 24 rfl (by kernel_rfl) (by kernel_rfl) (by kernel_rfl) (by decide) rfl rfl ?_
        refine WD.takeS 25 rfl (by kernel_rfl) (by kernel_rfl) (by kernel_rfl) (by decide) rfl rfl ?_
        refine WD.take 26 rfl (by kernel_rfl) (by kernel_rfl) (by kernel_rfl) (by decide) (Yld.pickF rfl rfl) ?_
        refine WD.take 27 rfl (by kernel_rfl) (by kernel_rfl) (by kernel_rfl) (by decide) (Yld.move rfl) ?_
        refine WD.takeS 28 rfl (by kernel_rfl) (by kernel_rfl) (by kernel_rfl) (by decide) rfl rfl ?_
        refine WD.takeS 29 rfl (by kernel_rfl) (by kernel_rfl) (by kernel_rfl) (by decide) rfl rfl ?_
        refine WD.takeS 30 rfl (by kernel_rfl) (by kernel_rfl) (by kernel_rfl) (by decide) rfl rfl ?_
        refine WD.takeS 31 rfl (by kernel_rfl) (by kernel_rfl) (by kernel_rfl) (by decide) rfl rfl ?_
        refine WD.takeS 32 rfl (by kernel_rfl) (by kernel_rfl) (by kernel_rfl) (by decide) rfl rfl ?_
        refine WD.takeS 33 rfl (by kernel_rfl) (by kernel_rfl) (by kernel_rfl) (by decide) rfl rfl ?_
        refine WD.take 34 rfl (by kernel_rfl) (by kernel_rfl) (by kernel_rfl) (by decide) (Yld.pickF rfl rfl) ?_
        refine WD.take 35 rfl (by kernel_rfl) (by kernel_rfl) (by kernel_rfl) (by decide) (Yld.assign rfl) ?_
        refine WD.done (by kernel_rfl) (hK23 _ _ ?_)
        refine WC.ret ?_
        injection h with h; subst h
        exact Ret.fn [] (ResIs.one rfl rfl) rfl (Ext.refl _ _) rfl (by decide) rfl rfl ⟨rfl, rfl⟩
    · replace h := of_f hc29 h
      refine WD.one 0 (by kernel_rfl) ?_
      refine WS.eff rfl (by decide) (Eff.callS 125 rfl Try.func10 nm_10 rfl rfl (fun w hb hh => w_needle_Size (Mem.snap w) (0 : Int) hx24)) ?_
      rintro _ _ ⟨_, ⟨rfl, rfl⟩, rfl⟩
      refine ⟨(Sub.cons rfl (Sub.cons rfl (Sub.cons rfl (Sub.cons rfl (Sub.cons rfl (Sub.nil _)))))), ?_⟩
      refine WD.take 1 rfl (by kernel_rfl) (by kernel_rfl) (by kernel_rfl) (by decide) (Yld.eqlI rfl rfl) ?_
      refine WD.take 2 rfl (by kernel_rfl) (by kernel_rfl) (by kernel_rfl) (by decide) (Yld.move rfl) ?_
      refine WD.new (v' := .bool true) (congrArg Value.bool (beq_iff_eq.2 hc26)) ?_
      refine WD.one 3 (by kernel_rfl) ?_
      refine WS.effG rfl (by decide) rfl (Eff.callS 128 rfl Try.func10 nm_10 rfl rfl (fun w hb hh => w_needle_Size (Mem.snap w) (1 : Int) hx27)) ?_
      rintro _ _ ⟨_, ⟨rfl, rfl⟩, rfl⟩
      refine ⟨(Sub.cons rfl (Sub.cons rfl (Sub.cons rfl (Sub.cons rfl (Sub.cons rfl (Sub.nil _)))))), ?_⟩
      refine WD.takeG 4 rfl (by kernel_rfl) (by kernel_rfl) (by kernel_rfl) (by decide) rfl (Yld.eqlI rfl rfl) ?_
      refine WD.take 5 rfl (by kernel_rfl) (by kernel_rfl) (by kernel_rfl) (by decide) (Yld.pickT rfl rfl) ?_
      refine WD.take 6 rfl (by kernel_rfl) (by kernel_rfl) (by kernel_rfl) (by decide) (Yld.move rfl) ?_
      refine WD.new (v' := .bool false) (congrArg Value.bool (beq_eq_false_iff_ne.2 hc29)) ?_
      refine WD.takeS 7 rfl (by kernel_rfl) (by kernel_rfl) (by kernel_rfl) (by decide) rfl rfl ?_
      refine WD.takeS 8 rfl (by kernel_rfl) (by kernel_rfl) (by kernel_rfl) (by decide) rfl rfl ?_
      refine WD.take 9 rfl (by kernel_rfl) (by kernel_rfl) (by kernel_rfl) (by decide) (Yld.pickF rfl rfl) ?_
      refine WD.take 10 rfl (by kernel_rfl) (by kernel_rfl) (by kernel_rfl) (by decide) (Yld.move rfl) ?_
      refine WD.takeS 11 rfl (by kernel_rfl) (by kernel_rfl) (by kernel_rfl) (by decide) rfl rfl ?_
      refine WD.takeS 12 rfl (by kernel_rfl) (by kernel_rfl) (by kernel_rfl) (by decide) rfl rfl ?_
      refine WD.take 13 rfl (by kernel_rfl) (by kernel_rfl) (by kernel_rfl) (by decide) (Yld.pickF rfl rfl) ?_
      refine WD.take 14 rfl (by kernel_rfl) (by kernel_rfl) (by kernel_rfl) (by decide) (Yld.move rfl) ?_
      refine WD.takeS 15 rfl (by kernel_rfl) (by kernel_rfl) (by kernel_rfl) (by decide) rfl rfl ?_
      refine WD.takeS 16 rfl (by kernel_rfl) (by kernel_rfl) (by kernel_rfl) (by decide) rfl rfl ?_
      refine WD.take 17 rfl (by kernel_rfl) (by kernel_rfl) (by kernel_rfl) (by decide) (Yld.pickF rfl rfl) ?_
      refine WD.take 18 rfl (by kernel_rfl) (by kernel_rfl) (by kernel_rfl) (by decide) (Yld.move rfl) ?_
      refine WD.takeS 19 rfl (by kernel_rfl) (by kernel_rfl) (by kernel_rfl) (by decide) rfl rfl ?_
      refine WD.takeS 20 rfl (by kernel_rfl) (by kernel_rfl) (by kernel_rfl) (by decide) rfl rfl ?_
      refine WD.take 21 rfl (by kernel_rfl) (by kernel_rfl) (by kernel_rfl) (by decide) (Yld.pickF rfl rfl) ?_
      refine WD.take 22 rfl (by kernel_rfl) (by kernel_rfl) (by kernel_rfl) (by decide) (Yld.move rfl) ?_
      refine WD.takeS 23 rfl (by kernel_rfl) (by kernel_rfl) (by kernel_rfl) (by decide) rfl rfl ?_
      refine WD.takeS 24 rfl (by kernel_rfl) (by kernel_rfl) (by kernel_rfl) (by decide) rfl rfl ?_
      refine WD.takeS 25 rfl (by kernel_rfl) (by kernel_rfl) (by kernel_rfl) (by decide) rfl rfl ?_
      refine WD.take 26 rfl (by kernel_rfl) (by kernel_rfl) (by kernel_rfl) (by decide) (Yld.pickF rfl rfl) ?_
      refine WD.take 27 rfl (by kernel_rfl) (by kernel_rfl) (by kernel_rfl) (by decide) (Yld.move rfl) ?_
      refine WD.takeS 28 rfl (by kernel_rfl) (by kernel_rfl) (by kernel_rfl) (by decide) rfl rfl ?_
      refine WD.takeS 29 rfl (by kernel_rfl) (by kernel_rfl) (by kernel_rfl) (by decide) rfl rfl ?_
      refine WD.takeS 30 rfl (by kernel_rfl) (by kernel_rfl) (by kernel_rfl) (by decide) rfl rfl ?_
      refine WD.takeS 31 rfl (by kernel_rfl) (by kernel_rfl) (by kernel_rfl) (by decide) rfl rfl ?_
      refine WD.takeS 32 rfl (by kernel_rfl) (by kernel_rfl) (by kernel_rfl) (by decide) rfl rfl ?_
      refine WD.takeS 33 rfl (by kernel_rfl) (by kernel_rfl) (by kernel_rfl) (by decide) rfl rfl ?_
      refine WD.take 34 rfl (by kernel_rfl) (by kernel_rfl) (by kernel_rfl) (by decide) (Yld.pickF rfl rfl) ?_
      refine WD.take 35 rfl (by kernel_rfl) (by kernel_rfl) (by kernel_rfl) (by decide) (Yld.assign rfl) ?_
      refine WD.done (by kernel_rfl) (hK23 _ _ ?_)
      refine WC.ret ?_
      injection h with h; subst h
      exact Ret.fn [] (ResIs.one rfl rfl) rfl (Ext.refl _ _) rfl (by decide) rfl rfl ⟨rfl, rfl⟩
  · replace h := of_f hc26 h
    refine WD.one 0 (by kernel_rfl) ?_
    refine WS.eff rfl (by decide) (Eff.callS 125 rfl Try.func10 nm_10 rfl rfl (fun w hb hh => w_needle_Size (Mem.snap w) (0 : Int) hx24)) ?_
    rintro _ _ ⟨_, ⟨rfl, rfl⟩, rfl⟩
    refine ⟨(Sub.cons rfl (Sub.cons rfl (Sub.cons rfl (Sub.cons rfl (Sub.cons rfl (Sub.nil _)))))), ?_⟩
    refine WD.take 1 rfl (by kernel_rfl) (by kernel_rfl) (by kernel_rfl) (by decide) (Yld.eqlI rfl rfl) ?_
    refine WD.take 2 rfl (by kernel_rfl) (by kernel_rfl) (by kernel_rfl) (by decide) (Yld.move rfl) ?_
    refine WD.new (v' := .bool false) (congrArg Value.bool (beq_eq_false_iff_ne.2 hc26)) ?_
    refine WD.takeS 3 rfl (by kernel_rfl) (by kernel_rfl) (by kernel_rfl) (by decide) rfl rfl ?_
    refine WD.takeS 4 rfl (by kernel_rfl) (by kernel_rfl) (by kernel_rfl) (by decide) rfl rfl ?_
    refine WD.take 5 rfl (by kernel_rfl) (by kernel_rfl) (by kernel_rfl) (by decide) (Yld.pickF rfl rfl) ?_
    refine WD.take 6 rfl (by kernel_rfl) (by kernel_rfl) (by kernel_rfl) (by decide) (Yld.move rfl) ?_
    refine WD.takeS 7 rfl (by kernel_rfl) (by kernel_rfl) (by kernel_rfl) (by decide) rfl rfl ?_
    refine WD.takeS 8 rfl (by kernel_rfl) (by kernel_rfl) (by kernel_rfl) (by decide) rfl rfl ?_
    refine WD.take 9 rfl (by kernel_rfl) (by kernel_rfl) (by kernel_rfl) (by decide) (Yld.pickF rfl rfl) ?_
    refine WD.take 10 rfl (by kernel_rfl) (by kernel_rfl) (by kernel_rfl) (by decide) (Yld.move rfl) ?_
    refine WD.takeS 11 rfl (by kernel_rfl) (by kernel_rfl) (by kernel_rfl) (by decide) rfl rfl ?_
    refine WD.takeS 12 rfl (by kernel_rfl) (by kernel_rfl) (by kernel_rfl) (by decide) rfl rfl ?_
    refine WD.take 13 rfl (by kernel_rfl) (by kernel_rfl) (by kernel_rfl) (by decide) (Yld.pickF rfl rfl) ?_
    refine WD.take 14 rfl (by kernel_rfl) (by kernel_rfl) (by kernel_rfl) (by decide) (Yld.move rfl) ?_
    refine WD.takeS 15 rfl (by kernel_rfl) (by kernel_rfl) (by kernel_rfl) (by decide) rfl rfl ?_
    refine WD.takeS 16 rfl (by kernel_rfl) (by kernel_rfl) (by kernel_rfl) (by decide) rfl rfl ?_
    refine WD.take 17 rfl (by kernel_rfl) (by kernel_rfl) (by kernel_rfl) (by decide) (Yld.pickF rfl rfl) ?_
    refine WD.take 18 rfl (by kernel_rfl) (by kernel_rfl) (by kernel_rfl) (by decide) (Yld.move rfl) ?_
    refine WD.takeS 19 rfl (by kernel_rfl) (by kernel_rfl) (by kernel_rfl) (by decide) rfl rfl ?_
    refine WD.takeS 20 rfl (by kernel_rfl) (by kernel_rfl) (by kernel_rfl) (by decide) rfl rfl ?_
    refine WD.take 21 rfl (by kernel_rfl) (by kernel_rfl) (by kernel_rfl) (by decide) (Yld.pickF rfl rfl) ?_
    refine WD.take 22 rfl (by kernel_rfl) (by kernel_rfl) (by kernel_rfl) (by decide) (Yld.move rfl) ?_
    refine WD.takeS 23 rfl (by kernel_rfl) (by kernel_rfl) (by kernel_rfl) (by decide) rfl rfl ?_
    refine WD.takeS 24 rfl (by kernel_rfl) (by kernel_rfl) (by kernel_rfl) (by decide) rfl rfl ?_
    refine WD.takeS 25 rfl (by kernel_rfl) (by kernel_rfl) (by kernel_rfl) (by decide) rfl rfl ?_
    refine WD.take 26 rfl (by kernel_rfl) (by kernel_rfl) (by kernel_rfl) (by decide) (Yld.pickF rfl rfl) ?_
    refine WD.take 27 rfl (by kernel_rfl) (by kernel_rfl) (by kernel_rfl) (by decide) (Yld.move rfl) ?_
    refine WD.takeS 28 rfl (by kernel_rfl) (by kernel_rfl) (by kernel_rfl) (by decide) rfl rfl ?_
    refine WD.takeS 29 rfl (by kernel_rfl) (by kernel_rfl) (by kernel_rfl) (by decide) rfl rfl ?_
    refine WD.takeS 30 rfl (by kernel_rfl) (by kernel_rfl) (by kernel_rfl) (by decide) rfl rfl ?_
    refine WD.takeS 31 rfl (by kernel_rfl) (by kernel_rfl) (by kernel_rfl) (by decide) rfl rfl ?_
    refine WD.takeS 32 rfl (by kernel_rfl) (by kernel_rfl) (by kernel_rfl) (by decide) rfl rfl ?_
    refine WD.takeS 33 rfl (by kernel_rfl) (by kernel_rfl) (by kernel_rfl) (by decide) rfl rfl ?_
    refine WD.take 34 rfl (by kernel_rfl) (by kernel_rfl) (by kernel_rfl) (by decide) (Yld.pickF rfl rfl) ?_
    refine WD.take 35 rfl (by kernel_rfl) (by kernel_rfl) (by kernel_rfl) (by decide) (Yld.assign rfl) ?_
    refine WD.done (by kernel_rfl) (hK23 _ _ ?_)
    refine WC.ret ?_
    injection h with h; subst h
    exact Ret.fn [] (ResIs.one rfl rfl) rfl (Ext.refl _ _) rfl (by decide) rfl rfl ⟨rfl, rfl⟩

end Go.Proofs.Ytclhepegfmhmjaa
