/-
 Walks (e): what a function's model gives, the function returns. Printed by a program of ours (vcm.py) from the function's operations. Conditions: as each theorem says.
-/
import Derived.Test.YtnbcphofimicdaaWkd
import Derived.Test.YtnbcphofimicdaaMde
namespace Go.Proofs.Ytnbcphofimicdaa
open Go Go.RowKit
set_option linter.unusedVariables false

theorem nm_12 : (Try.f12.name == "runtime.NumGoroutine") = false := by kernel_rfl
theorem nm_20 : (Try.f20.name == "runtime.NumGoroutine") = false := by kernel_rfl
theorem nm_21 : (Try.f21.name == "runtime.NumGoroutine") = false := by kernel_rfl
theorem nm_25 : (Try.f25.name == "runtime.NumGoroutine") = false := by kernel_rfl
theorem nm_30 : (Try.f30.name == "runtime.NumGoroutine") = false := by kernel_rfl
theorem nm_31 : (Try.f31.name == "runtime.NumGoroutine") = false := by kernel_rfl
theorem nm_32 : (Try.f32.name == "runtime.NumGoroutine") = false := by kernel_rfl
theorem nm_33 : (Try.f33.name == "runtime.NumGoroutine") = false := by kernel_rfl
theorem nm_44 : (Try.f44.name == "runtime.NumGoroutine") = false := by kernel_rfl
theorem nm_45 : (Try.f45.name == "runtime.NumGoroutine") = false := by kernel_rfl
theorem nm_47 : (Try.f47.name == "runtime.NumGoroutine") = false := by kernel_rfl
theorem sty_36 : STy Try.prog 36 4 (.bool false) 1 1 := STy.of und_36 (by kernel_rfl) rfl

set_option maxRecDepth 10000 in
theorem w_r04_Code (M0 : Mem)  {res : Int × Int × (List (BitVec 8))} (h : m_r04_Code = some res) :
  Fn Try.prog 12 #[] M0 fun r M' es => ∃ (A1 : Option Addr) (n1 c1 : Nat), r = .agg ([I64 res.1, I64 res.2.1, .slice A1 n1 c1] : List Value).toArray ∧ es = [.own 5 (Lay.sz (BitVec 8)) A1 n1 c1 (cel res.2.2)] := by
 refine Fn.intro (N := 31) Try.func12 rfl rfl (Nat.le_of_ble_eq_true rfl) fun w0 => ?_
 unfold m_r04_Code at h
 refine WC.seqRegion fun K1 hK1 => ?_
 refine WL.eff (by decide) (Eff.alloc 102 rfl zr_26) ?_
 rintro _ _ ⟨g2, rfl, rfl⟩
 refine WL.done (hK1 _ _ ?_)
 refine WC.seqRegion fun K3 hK3 => ?_
 obtain ⟨x4, hx4, h⟩ := bnd h
 refine WL.eff (by decide) (Eff.callS 108 rfl Try.func30 nm_30 rfl rfl (fun w hb hh => w_r03_Vandermonde (Mem.snap w) (6 : Int) (4 : Int) hx4)) ?_
 rintro _ _ ⟨_, ⟨A9, n10, c11, rfl, rfl⟩, rfl⟩
 refine WL.yld (by decide) (Yld.move rfl) ?_
 refine WL.yld (by decide) (Yld.extract rfl rfl) ?_
 refine WL.yld (by decide) (Yld.extract rfl rfl) ?_
 refine WL.eff (by decide) (Eff.alloc 112 rfl zr_26) ?_
 rintro _ _ ⟨g12, rfl, rfl⟩
 refine WL.eff0 (Eff0.storeBAM 112 agg_26 rfl rfl rfl ⟨rfl, rfl⟩ rfl) ?_
 refine WL.yld (by decide) (Yld.assign rfl) ?_
 refine WL.done (hK3 _ _ ?_)
 refine WC.seqRegion fun K13 hK13 => ?_
 obtain ⟨x15, hx15, h⟩ := bnd h
 refine WL.yld (by decide) (Yld.loadBM (k := 112) agg_26 rfl rfl rfl) ?_
 refine WL.eff (by decide) (Eff.buildC 114 ([(0 : Int), (1 : Int), (2 : Int), (3 : Int)] : List (Int)) sty_28 rfl rfl rfl rfl rfl (by decide)) ?_
 rintro _ _ ⟨g14, rfl, rfl⟩
 refine WL.eff (by decide) (Eff.callS 119 rfl Try.func31 nm_31 rfl rfl (fun w hb hh => w_r03_Pick (Mem.snap w) x4.1 x4.2.1 A9 n10 c11 _ (RdH.sn (RdH.own (k := 108) rfl) w hb hh) (some ⟨g14, 0, none⟩) (([(0 : Int), (1 : Int), (2 : Int), (3 : Int)] : List (Int)).length) (([(0 : Int), (1 : Int), (2 : Int), (3 : Int)] : List (Int)).length) _ (RdH.sn (RdH.own (k := 114) rfl) w hb hh) hx15)) ?_
 rintro _ _ ⟨_, ⟨A20, n21, c22, rfl, rfl⟩, rfl⟩
 refine WL.yld (by decide) (Yld.move rfl) ?_
 refine WL.yld (by decide) (Yld.extract rfl rfl) ?_
 refine WL.yld (by decide) (Yld.extract rfl rfl) ?_
 refine WL.eff (by decide) (Eff.alloc 123 rfl zr_26) ?_
 rintro _ _ ⟨g23, rfl, rfl⟩
 refine WL.eff0 (Eff0.storeBAM 123 agg_26 rfl rfl rfl ⟨rfl, rfl⟩ rfl) ?_
 refine WL.yld (by decide) (Yld.assign rfl) ?_
 refine WL.done (hK13 _ _ ?_)
 refine WC.seqRegion fun K24 hK24 => ?_
 obtain ⟨x25, hx25, h⟩ := bnd h
 refine WL.yld (by decide) (Yld.loadBM (k := 123) agg_26 rfl rfl rfl) ?_
 refine WL.eff (by decide) (Eff.callS 129 rfl Try.func32 nm_32 rfl rfl (fun w hb hh => w_r03_Invert (Mem.snap w) x15.1 x15.2.1 A20 n21 c22 _ (RdH.sn (RdH.own (k := 119) rfl) w hb hh) hx25)) ?_
 rintro _ _ ⟨_, ⟨A30, n31, c32, rfl, rfl⟩, rfl⟩
 refine WL.yld (by decide) (Yld.move rfl) ?_
 refine WL.yld (by decide) (Yld.extract rfl rfl) ?_
 refine WL.yld (by decide) (Yld.extract rfl rfl) ?_
 refine WL.eff (by decide) (Eff.alloc 133 rfl zr_26) ?_
 rintro _ _ ⟨g33, rfl, rfl⟩
 refine WL.eff0 (Eff0.storeBAM 133 agg_26 rfl rfl rfl ⟨rfl, rfl⟩ rfl) ?_
 refine WL.yld (by decide) (Yld.assign rfl) ?_
 refine WL.done (hK24 _ _ ?_)
 refine WC.seqRegion fun K34 hK34 => ?_
 obtain ⟨x35, hx35, h⟩ := bnd h
 refine WL.yld (by decide) (Yld.loadBM (k := 112) agg_26 rfl rfl rfl) ?_
 refine WL.yld (by decide) (Yld.loadBM (k := 133) agg_26 rfl rfl rfl) ?_
 refine WL.eff (by decide) (Eff.callS 139 rfl Try.func33 nm_33 rfl rfl (fun w hb hh => w_r03_Mul (Mem.snap w) x4.1 x4.2.1 A9 n10 c11 _ (RdH.sn (RdH.own (k := 108) rfl) w hb hh) x25.1 x25.2.1 A30 n31 c32 _ (RdH.sn (RdH.own (k := 129) rfl) w hb hh) hx35)) ?_
 rintro _ _ ⟨_, ⟨A40, n41, c42, rfl, rfl⟩, rfl⟩
 refine WL.yld (by decide) (Yld.move rfl) ?_
 refine WL.yld (by decide) (Yld.extract rfl rfl) ?_
 refine WL.yld (by decide) (Yld.extract rfl rfl) ?_
 refine WL.eff (by decide) (Eff.alloc 143 rfl zr_26) ?_
 rintro _ _ ⟨g43, rfl, rfl⟩
 refine WL.eff0 (Eff0.storeBAM 143 agg_26 rfl rfl rfl ⟨rfl, rfl⟩ rfl) ?_
 refine WL.yld (by decide) (Yld.assign rfl) ?_
 refine WL.done (hK34 _ _ ?_)
 refine WC.seqRegion fun K44 hK44 => ?_
 refine WL.yld (by decide) (Yld.loadBM (k := 143) agg_26 rfl rfl rfl) ?_
 refine WL.eff0 (Eff0.storeBAM 102 agg_26 rfl rfl rfl ⟨rfl, rfl⟩ rfl) ?_
 refine WL.done (hK44 _ _ ?_)
 refine WC.ret ?_
 injection h with h; subst h
 exact Ret.fn [139] (ResIs.cellM (k := 102) rfl agg_26 rfl rfl (rfl)) rfl (Ext.refl _ _) rfl (by decide) rfl rfl ⟨A40, n41, c42, rfl, rfl⟩

set_option maxRecDepth 10000 in
theorem w_r04_Level (M0 : Mem) (A00 : Option Addr) (n00 c00 : Nat) (rs00 : List Hdr) (x00 : List (List (BitVec 8))) (hf00 : SlT M0 A00 n00 c00 rs00) (hq00 : Rels ((RelB (α := BitVec 8)) M0) rs00 x00) (x01 : Int) {res : Bool} (h : m_r04_Level x00 x01 = some res) :
  Fn Try.prog 44 #[.slice A00 n00 c00, I64 x01] M0 fun r M' es => r = .bool res ∧ es = [] := by
 refine Fn.intro (N := 25) Try.func44 rfl rfl (Nat.le_of_ble_eq_true rfl) fun w0 => ?_
 unfold m_r04_Level at h
 refine WC.seqRegion fun K1 hK1 => ?_
 refine WL.yld (by decide) (Yld.assign rfl) ?_
 refine WL.done (hK1 _ _ ?_)
 refine WC.seq fun K2 hK2 => ?_
 refine WC.seqRegion fun K3 hK3 => ?_
 refine WL.yld (by decide) (Yld.move rfl) ?_
 refine WL.yld (by decide) (Yld.lenD (rs := rs00) (xs := x00) (Rels.len hq00) und_35 rfl (RdH.memM (k := 0) rfl hf00)) ?_
 refine WL.yld (by decide) (Yld.move rfl) ?_
 refine WL.yld (by decide) (Yld.neqI rfl rfl) ?_
 refine WL.done (hK3 _ _ ?_)
 by_cases hc4 : (x00.length : Int) = x01
 ·
  replace h := of_t hc4 h
  refine WC.condFe rfl (bne_eq_false_iff_eq.2 hc4) ?_
  refine WC.skip ?_
  refine QK.thenN (hK2 _ _ ?_)
  refine WC.seqCut (σ := Unit) (fun _ => []) (fun _ => [(0, .mem M0)]) (fun _ => m_r04_Level_j0 = some res) (fun K5 hK5 => ?_) ?_
  ·
   skip
   refine WC.seqRegion fun K6 hK6 => ?_
   refine WL.yld (by decide) (Yld.assign rfl) ?_
   refine WL.done (hK6 _ _ ?_)
   refine WC.block ?_
   refine WC.loop (σ := Nat × Int) (fun ⟨q8, x7⟩ => [(0, .slice A00 n00 c00), (1, I64 x01), (5, I64 x7)]) (fun ⟨q8, x7⟩ => [(0, .mem M0)]) (fun ⟨q8, x7⟩ => m_r04_Level_l1 x00 x01 q8 x7 = some res) (fun ⟨q8, x7⟩ => q8) ⟨forever, (0 : Int)⟩ ?_ (Sub.cons rfl (Sub.cons rfl (Sub.cons rfl (Sub.nil _)))) (Sub.cons rfl (Sub.nil _)) ?_
   ·
    exact h
   rintro ⟨q8, x7⟩ h K9 hK9
   cases q8 with
   | zero => exact absurd h (by simp [m_r04_Level_l1])
   | succ q8 =>
    unfold m_r04_Level_l1 at h
    refine WC.seq fun K10 hK10 => ?_
    refine WC.seqRegion fun K11 hK11 => ?_
    refine WL.yld (by decide) (Yld.move rfl) ?_
    refine WL.yld (by decide) (Yld.move rfl) ?_
    refine WL.yld (by decide) (Yld.lss rfl rfl) ?_
    refine WL.done (hK11 _ _ ?_)
    by_cases hc12 : x7 < x01
    ·
     replace h := of_t hc12 h
     refine WC.condTe rfl (decide_eq_true hc12) ?_
     refine WC.skip ?_
     refine QK.thenN (hK10 _ _ ?_)
     refine WC.seq fun K13 hK13 => ?_
     refine WC.block ?_
     refine WC.seqRegionD (n := 10) [(0, _)] rfl mixed (Sub.cons rfl (Sub.nil _)) fun K14 hK14 => ?_
     obtain ⟨x15, hx15, h⟩ := bnd h
     obtain ⟨x19, hx19, h⟩ := bnd h
     refine WD.take 0 rfl (by kernel_rfl) (by kernel_rfl) (by kernel_rfl) (by decide) (Yld.move rfl) ?_
     refine WD.take 1 rfl (by kernel_rfl) (by kernel_rfl) (by kernel_rfl) (by decide) (Yld.move rfl) ?_
     obtain ⟨r_16, hr17, hq18⟩ := Rels.idx hq00 hx15
     refine WD.take 2 rfl (by kernel_rfl) (by kernel_rfl) (by kernel_rfl) (by decide) (Yld.idxC (xs := rs00) sty_35 rfl rfl (RdH.memM (k := 0) rfl hf00) hr17) ?_
     refine WD.take 3 rfl (by kernel_rfl) (by kernel_rfl) (by kernel_rfl) (by decide) (Yld.loadC0 (xs := rs00) scal_22 rfl (RdH.memM (k := 0) rfl hf00) hr17 rfl) ?_
     refine WD.take 4 rfl (by kernel_rfl) (by kernel_rfl) (by kernel_rfl) (by decide) (Yld.lenC (xs := x15) und_22 rfl (RdH.memM (k := 0) rfl hq18)) ?_
     refine WD.take 5 rfl (by kernel_rfl) (by kernel_rfl) (by kernel_rfl) (by decide) (Yld.move rfl) ?_
     obtain ⟨r_20, hr21, hq22⟩ := Rels.idx hq00 hx19
     refine WD.take 6 rfl (by kernel_rfl) (by kernel_rfl) (by kernel_rfl) (by decide) (Yld.idxC (xs := rs00) sty_35 rfl rfl (RdH.memM (k := 0) rfl hf00) hr21) ?_
     refine WD.take 7 rfl (by kernel_rfl) (by kernel_rfl) (by kernel_rfl) (by decide) (Yld.loadC0 (xs := rs00) scal_22 rfl (RdH.memM (k := 0) rfl hf00) hr21 rfl) ?_
     refine WD.take 8 rfl (by kernel_rfl) (by kernel_rfl) (by kernel_rfl) (by decide) (Yld.lenC (xs := x19) und_22 rfl (RdH.memM (k := 0) rfl hq22)) ?_
     refine WD.take 9 rfl (by kernel_rfl) (by kernel_rfl) (by kernel_rfl) (by decide) (Yld.neqI rfl rfl) ?_
     refine WD.done (by kernel_rfl) (hK14 _ _ ?_)
     by_cases hc23 : (x15.length : Int) = (x19.length : Int)
     ·
      replace h := of_t hc23 h
      refine WC.condFe rfl (bne_eq_false_iff_eq.2 hc23) ?_
      refine WC.skip ?_
      refine QK.blockN ?_
      refine QK.thenN (hK13 _ _ ?_)
      refine WC.region fun K24 hK24 => ?_
      obtain ⟨x25, hx25, h⟩ := bnd h
      refine WL.yld (by decide) (Yld.move rfl) ?_
      refine WL.yld (by decide) (Yld.addC rfl rfl hx25) ?_
      refine WL.yld (by decide) (Yld.assign rfl) ?_
      refine WL.done (hK24 _ _ ?_)
      refine QK.thenN ?_
      refine hK9 ⟨q8, x25⟩ _ _ ?_ (Nat.lt_succ_self _) (Sub.cons rfl (Sub.cons rfl (Sub.cons rfl (Sub.nil _)))) (Sub.cons rfl (Sub.nil _))
      exact h
     ·
      replace h := of_f hc23 h
      refine WC.condTe rfl (bne_iff_ne.2 hc23) ?_
      refine WC.seqRegion fun K26 hK26 => ?_
      refine WL.yld (by decide) (Yld.assign rfl) ?_
      refine WL.done (hK26 _ _ ?_)
      refine WC.ret (QK.blockR (QK.thenR (QK.thenR (QK.blockR (QK.thenR ?_)))))
      injection h with h; subst h
      exact Ret.fn [] (ResIs.one rfl rfl) rfl (Ext.refl _ _) rfl (by decide) rfl rfl ⟨rfl, rfl⟩
    ·
     replace h := of_f hc12 h
     refine WC.condFe rfl (decide_eq_false hc12) ?_
     refine WC.exit (QK.thenE (QK.thenE (QK.blockX ?_)))
     refine QK.thenN ?_
     refine hK5 () _ _ ?_ (Sub.nil _) (Sub.cons rfl (Sub.nil _))
     exact h
  ·
   rintro _ h
   unfold m_r04_Level_j0 at h
   refine WC.seqRegion fun K27 hK27 => ?_
   refine WL.yld (by decide) (Yld.assign rfl) ?_
   refine WL.done (hK27 _ _ ?_)
   refine WC.ret ?_
   injection h with h; subst h
   exact Ret.fn [] (ResIs.one rfl rfl) rfl (Ext.refl _ _) rfl (by decide) rfl rfl ⟨rfl, rfl⟩
 ·
  replace h := of_f hc4 h
  refine WC.condTe rfl (bne_iff_ne.2 hc4) ?_
  refine WC.seqRegion fun K28 hK28 => ?_
  refine WL.yld (by decide) (Yld.assign rfl) ?_
  refine WL.done (hK28 _ _ ?_)
  refine WC.ret (QK.thenR ?_)
  injection h with h; subst h
  exact Ret.fn [] (ResIs.one rfl rfl) rfl (Ext.refl _ _) rfl (by decide) rfl rfl ⟨rfl, rfl⟩

set_option maxRecDepth 10000 in
theorem w_r04_all (M0 : Mem) (A00 : Option Addr) (n00 c00 : Nat) (rs00 : List Hdr) (x00 : List (List (BitVec 8))) (hf00 : SlT M0 A00 n00 c00 rs00) (hq00 : Rels ((RelB (α := BitVec 8)) M0) rs00 x00) {res : (List (List (BitVec 8)))} (h : m_r04_all x00 = some res) :
  Fn Try.prog 45 #[.slice A00 n00 c00] M0 fun r M' es => ∃ (A1 : Option Addr) (n1 c1 : Nat), ∃ rs1 : List Hdr, r = .slice A1 n1 c1 ∧ es = [.own 22 (Lay.sz Hdr) A1 n1 c1 (cel rs1)] ∧ Rels ((RelB (α := BitVec 8)) M') rs1 res := by
 refine Fn.intro (N := 12) Try.func45 rfl rfl (Nat.le_of_ble_eq_true rfl) fun w0 => ?_
 unfold m_r04_all at h
 refine WC.seqRegion fun K1 hK1 => ?_
 refine WL.yld (by decide) (Yld.assign rfl) ?_
 refine WL.done (hK1 _ _ ?_)
 refine WC.seqRegion fun K2 hK2 => ?_
 obtain ⟨x3, hx3, h⟩ := bnd h
 obtain ⟨x11, hx11, h⟩ := bnd h
 refine WL.eff (by decide) (Eff.callS 107 rfl Try.func12 nm_12 rfl rfl (fun w hb hh => w_r04_Code (Mem.snap w) hx3)) ?_
 rintro _ _ ⟨_, ⟨A8, n9, c10, rfl, rfl⟩, rfl⟩
 refine WL.yld (by decide) (Yld.move rfl) ?_
 refine WL.freeze 107 rfl rfl rfl fun M23 hm_M23 hf24 => ?_
 refine WL.eff (by decide) (Eff.callM 117 rfl Try.func47 nm_47 rfl rfl rfl (w_r03_Apply _ x3.1 x3.2.1 A8 n9 c10 _ hf24 A00 n00 c00 rs00 _ (SlRc.lift hf00 hm_M23) (Rels.lift hq00 hm_M23) hx11)) ?_
 rintro _ _ ⟨M25, _, ⟨A26, n27, c28, rs29, rfl, rfl, hq30⟩, hm_M25, rfl⟩
 refine WL.yld (by decide) (Yld.move rfl) ?_
 refine WL.yld (by decide) (Yld.extract rfl rfl) ?_
 refine WL.yld (by decide) (Yld.extract rfl rfl) ?_
 refine WL.yld (by decide) (Yld.assign rfl) ?_
 refine WL.yld (by decide) (Yld.assign rfl) ?_
 refine WL.done (hK2 _ _ ?_)
 refine WC.seqRegion fun K31 hK31 => ?_
 refine WL.yld (by decide) (Yld.move rfl) ?_
 refine WL.yld (by decide) (Yld.assign rfl) ?_
 refine WL.done (hK31 _ _ ?_)
 refine WC.ret ?_
 injection h with h; subst h
 exact Ret.fn [117] (ResIs.one rfl rfl) rfl (Ext.trans hm_M23 hm_M25) rfl (by decide) rfl rfl ⟨A26, n27, c28, rs29, rfl, rfl, hq30⟩

set_option maxRecDepth 10000 in
theorem w_r04_Encode (M0 : Mem) (A00 : Option Addr) (n00 c00 : Nat) (rs00 : List Hdr) (x00 : List (List (BitVec 8))) (hf00 : SlT M0 A00 n00 c00 rs00) (hq00 : Rels ((RelB (α := BitVec 8)) M0) rs00 x00) {res : (List (List (BitVec 8))) × Int} (h : m_r04_Encode x00 = some res) :
  Fn Try.prog 17 #[.slice A00 n00 c00] M0 fun r M' es => ∃ (A1 : Option Addr) (n1 c1 : Nat), ∃ rs1 : List Hdr, r = .tuple #[.slice A1 n1 c1, I64 res.2] ∧ es = [] ∧ SlT M' A1 n1 c1 rs1 ∧ Rels ((RelB (α := BitVec 8)) M') rs1 res.1 := by
 refine Fn.intro (N := 10) Try.func17 rfl rfl (Nat.le_of_ble_eq_true rfl) fun w0 => ?_
 unfold m_r04_Encode at h
 refine WC.seqRegion fun K1 hK1 => ?_
 refine WL.yld (by decide) (Yld.assign rfl) ?_
 refine WL.yld (by decide) (Yld.assign rfl) ?_
 refine WL.done (hK1 _ _ ?_)
 refine WC.seq fun K2 hK2 => ?_
 refine WC.seqRegion fun K3 hK3 => ?_
 obtain ⟨x4, hx4, h⟩ := bnd h
 refine WL.yld (by decide) (Yld.move rfl) ?_
 refine WL.eff (by decide) (Eff.callS 105 rfl Try.func44 nm_44 rfl rfl (fun w hb hh => w_r04_Level (Mem.snap w) A00 n00 c00 rs00 _ (RdH.sn (RdH.memM (k := 0) rfl hf00) w hb hh) (Rels.sn hq00 (hh.sat 0 _ rfl)) (4 : Int) hx4)) ?_
 rintro _ _ ⟨_, ⟨rfl, rfl⟩, rfl⟩
 refine WL.yld (by decide) (Yld.notB rfl) ?_
 refine WL.done (hK3 _ _ ?_)
 by_cases hc6 : x4 = true
 ·
  replace h := of_t hc6 h
  refine WC.condFe rfl (not_f hc6) ?_
  refine WC.skip ?_
  refine QK.thenN (hK2 _ _ ?_)
  refine WC.seqRegion fun K7 hK7 => ?_
  obtain ⟨x8, hx8, h⟩ := bnd h
  obtain ⟨x26, hx26, h⟩ := bnd h
  refine WL.yld (by decide) (Yld.move rfl) ?_
  refine WL.eff (by decide) (Eff.callM 114 rfl Try.func45 nm_45 rfl rfl rfl (w_r04_all _ A00 n00 c00 rs00 _ hf00 hq00 hx8)) ?_
  rintro _ _ ⟨M20, _, ⟨A21, n22, c23, rs24, rfl, rfl, hq25⟩, hm_M20, rfl⟩
  obtain ⟨rs27, hs28, hq29⟩ := Rels.slc hq25 hx26
  rw [← Rels.len hq25] at hs28
  refine WL.yld (by decide) (Yld.sliceLC (xs := rs24) sty_35 rfl rfl (RdH.own (k := 114) rfl) hs28) ?_
  refine WL.yld (by decide) (Yld.assign rfl) ?_
  refine WL.yld (by decide) (Yld.assign rfl) ?_
  refine WL.done (hK7 _ _ ?_)
  refine WC.ret ?_
  refine QK.freeze 114 rfl rfl rfl fun M30 hm_M30 hf31 => ?_
  injection h with h; subst h
  exact Ret.fn [] (ResIs.two rfl rfl rfl) rfl (Ext.trans hm_M20 hm_M30) rfl (by decide) rfl rfl ⟨(subA A21 c23 ((4 : Int)).toNat (Lay.sz Hdr)), rs27.length, (c23 - ((4 : Int)).toNat), rs27, rfl, rfl, (SlT.slc hf31 hs28), (Rels.lift hq29 hm_M30)⟩
 ·
  replace h := of_f hc6 h
  refine WC.condTe rfl (not_t (Bool.eq_false_iff.2 hc6)) ?_
  refine WC.seqRegion fun K32 hK32 => ?_
  refine WL.yld (by decide) (Yld.assign rfl) ?_
  refine WL.yld (by decide) (Yld.assign rfl) ?_
  refine WL.done (hK32 _ _ ?_)
  refine WC.ret (QK.thenR ?_)
  injection h with h; subst h
  exact Ret.fn [] (ResIs.two rfl rfl rfl) rfl (Ext.refl _ _) rfl (by decide) rfl rfl ⟨none, 0, 0, ([] : List Hdr), rfl, rfl, SlT.nil, (Rels.nil (R := (RelB (α := BitVec 8)) M0))⟩

set_option maxRecDepth 10000 in
theorem w_r04_Verify (M0 : Mem) (A00 : Option Addr) (n00 c00 : Nat) (rs00 : List Hdr) (x00 : List (List (BitVec 8))) (hf00 : SlT M0 A00 n00 c00 rs00) (hq00 : Rels ((RelB (α := BitVec 8)) M0) rs00 x00) {res : Bool} (h : m_r04_Verify x00 = some res) :
  Fn Try.prog 25 #[.slice A00 n00 c00] M0 fun r M' es => r = .bool res ∧ es = [] := by
 refine Fn.intro (N := 12) Try.func25 rfl rfl (Nat.le_of_ble_eq_true rfl) fun w0 => ?_
 unfold m_r04_Verify at h
 refine WC.seqRegion fun K1 hK1 => ?_
 refine WL.yld (by decide) (Yld.assign rfl) ?_
 refine WL.done (hK1 _ _ ?_)
 refine WC.seqRegion fun K2 hK2 => ?_
 obtain ⟨x3, hx3, h⟩ := bnd h
 by_cases hc5 : x3 = true
 ·
  replace h := of_t hc5 h
  obtain ⟨x6, hx6, h⟩ := bnd h
  obtain ⟨x10, hx10, h⟩ := bnd h
  obtain ⟨x28, hx28, h⟩ := bnd h
  refine WL.yld (by decide) (Yld.move rfl) ?_
  refine WL.eff (by decide) (Eff.callS 104 rfl Try.func44 nm_44 rfl rfl (fun w hb hh => w_r04_Level (Mem.snap w) A00 n00 c00 rs00 _ (RdH.sn (RdH.memM (k := 0) rfl hf00) w hb hh) (Rels.sn hq00 (hh.sat 0 _ rfl)) (6 : Int) hx3)) ?_
  rintro _ _ ⟨_, ⟨rfl, rfl⟩, rfl⟩
  refine WL.yld (by decide) (Yld.move rfl) ?_
  refine WL.new (v' := .bool true) (congrArg Value.bool hc5) ?_
  refine WL.yldG (by decide) rfl (Yld.move rfl) ?_
  obtain ⟨rs7, hs8, hq9⟩ := Rels.slc hq00 hx6
  refine WL.yldG (by decide) rfl (Yld.sliceHC (xs := rs00) sty_35 rfl rfl (RdH.memM (k := 0) rfl hf00) hs8) ?_
  refine WL.effG (by decide) rfl (Eff.callM 116 rfl Try.func45 nm_45 rfl rfl rfl (w_r04_all _ A00 rs7.length c00 rs7 _ (SlT.slc0 hf00 hs8) hq9 hx10)) ?_
  rintro _ _ ⟨M22, _, ⟨A23, n24, c25, rs26, rfl, rfl, hq27⟩, hm_M22, rfl⟩
  refine WL.yldG (by decide) rfl (Yld.move rfl) ?_
  refine WL.effG (by decide) rfl (Eff.callS 129 rfl Try.func21 nm_21 rfl rfl (fun w hb hh => w_r03_SameRows (Mem.snap w) A23 n24 c25 rs26 _ (RdH.sn (RdH.own (k := 116) rfl) w hb hh) (Rels.sn hq27 (hh.sat 0 _ rfl)) A00 n00 c00 rs00 _ (RdH.sn (RdH.memM (k := 0) rfl (SlRc.lift hf00 hm_M22)) w hb hh) (Rels.sn (Rels.lift hq00 hm_M22) (hh.sat 0 _ rfl)) hx28)) ?_
  rintro _ _ ⟨_, ⟨rfl, rfl⟩, rfl⟩
  refine WL.yld (by decide) (Yld.pickT rfl rfl) ?_
  refine WL.yld (by decide) (Yld.assign rfl) ?_
  refine WL.done (hK2 _ _ ?_)
  refine WC.ret ?_
  injection h with h; subst h
  exact Ret.fn [] (ResIs.one rfl rfl) rfl hm_M22 rfl (by decide) rfl rfl ⟨rfl, rfl⟩
 ·
  replace h := of_f hc5 h
  refine WL.yld (by decide) (Yld.move rfl) ?_
  refine WL.eff (by decide) (Eff.callS 104 rfl Try.func44 nm_44 rfl rfl (fun w hb hh => w_r04_Level (Mem.snap w) A00 n00 c00 rs00 _ (RdH.sn (RdH.memM (k := 0) rfl hf00) w hb hh) (Rels.sn hq00 (hh.sat 0 _ rfl)) (6 : Int) hx3)) ?_
  rintro _ _ ⟨_, ⟨rfl, rfl⟩, rfl⟩
  refine WL.yld (by decide) (Yld.move rfl) ?_
  refine WL.new (v' := .bool false) (congrArg Value.bool (Bool.eq_false_iff.2 hc5)) ?_
  refine WL.skip (by decide) rfl rfl ?_
  refine WL.skip (by decide) rfl rfl ?_
  refine WL.skip (by decide) rfl rfl ?_
  refine WL.skip (by decide) rfl rfl ?_
  refine WL.skip (by decide) rfl rfl ?_
  refine WL.yld (by decide) (Yld.pickF rfl rfl) ?_
  refine WL.yld (by decide) (Yld.assign rfl) ?_
  refine WL.done (hK2 _ _ ?_)
  refine WC.ret ?_
  injection h with h; subst h
  exact Ret.fn [] (ResIs.one rfl rfl) rfl (Ext.refl _ _) rfl (by decide) rfl rfl ⟨rfl, rfl⟩

set_option maxRecDepth 10000 in
theorem w_r04_Restore (M0 : Mem) (A00 : Option Addr) (n00 c00 : Nat) (rs00 : List Hdr) (x00 : List (List (BitVec 8))) (hf00 : SlT M0 A00 n00 c00 rs00) (hq00 : Rels ((RelB (α := BitVec 8)) M0) rs00 x00) (A01 : Option Addr) (n01 c01 : Nat) (x01 : List (Bool)) (hf01 : SlT M0 A01 n01 c01 x01) {res : (List (List (BitVec 8))) × Int} (h : m_r04_Restore x00 x01 = some res) :
  Fn Try.prog 20 #[.slice A00 n00 c00, .slice A01 n01 c01] M0 fun r M' es => ∃ (A1 : Option Addr) (n1 c1 : Nat), ∃ rs1 : List Hdr, r = .tuple #[.slice A1 n1 c1, I64 res.2] ∧ es = [.own 22 (Lay.sz Hdr) A1 n1 c1 (cel rs1)] ∧ Rels ((RelB (α := BitVec 8)) M') rs1 res.1 := by
 refine Fn.intro (N := 82) Try.func20 rfl rfl (Nat.le_of_ble_eq_true rfl) fun w0 => ?_
 unfold m_r04_Restore at h
 refine WC.seqRegion fun K1 hK1 => ?_
 refine WL.yld (by decide) (Yld.assign rfl) ?_
 refine WL.yld (by decide) (Yld.assign rfl) ?_
 refine WL.done (hK1 _ _ ?_)
 refine WC.seqCut (σ := Unit) (fun _ => [(0, .slice A00 n00 c00), (1, .slice A01 n01 c01)]) (fun _ => [(0, .mem M0)]) (fun _ => m_r04_Restore_j0 x00 x01 = some res) (fun K2 hK2 => ?_) ?_
 ·
  skip
  refine WC.seqRegion fun K3 hK3 => ?_
  by_cases hc4 : (x00.length : Int) = (6 : Int)
  ·
   replace h := of_t hc4 h
   refine WL.yld (by decide) (Yld.move rfl) ?_
   refine WL.yld (by decide) (Yld.lenD (rs := rs00) (xs := x00) (Rels.len hq00) und_35 rfl (RdH.memM (k := 0) rfl hf00)) ?_
   refine WL.yld (by decide) (Yld.neqI rfl rfl) ?_
   refine WL.yld (by decide) (Yld.move rfl) ?_
   refine WL.new (v' := .bool false) (congrArg Value.bool (bne_eq_false_iff_eq.2 hc4)) ?_
   refine WL.yldG (by decide) rfl (Yld.move rfl) ?_
   refine WL.yldG (by decide) rfl (Yld.lenC (xs := x01) und_36 rfl (RdH.memM (k := 0) rfl hf01)) ?_
   refine WL.yldG (by decide) rfl (Yld.neqI rfl rfl) ?_
   refine WL.yld (by decide) (Yld.pickF rfl rfl) ?_
   refine WL.done (hK3 _ _ ?_)
   by_cases hc5 : (x01.length : Int) = (6 : Int)
   ·
    replace h := of_t hc5 h
    refine WC.condFe rfl (bne_eq_false_iff_eq.2 hc5) ?_
    refine WC.skip ?_
    refine QK.thenN ?_
    refine hK2 () _ _ ?_ (Sub.cons rfl (Sub.cons rfl (Sub.nil _))) (Sub.cons rfl (Sub.nil _))
    exact h
   ·
    replace h := of_f hc5 h
    refine WC.condTe rfl (bne_iff_ne.2 hc5) ?_
    refine WC.seqRegion fun K6 hK6 => ?_
    refine WL.yld (by decide) (Yld.assign rfl) ?_
    refine WL.yld (by decide) (Yld.assign rfl) ?_
    refine WL.done (hK6 _ _ ?_)
    refine WC.ret (QK.thenR ?_)
    refine QK.nilOwn 107 22 (Lay.sz Hdr) none ?_
    injection h with h; subst h
    exact Ret.fn [107] (ResIs.two rfl rfl rfl) rfl (Ext.refl _ _) rfl (by decide) rfl rfl ⟨none, 0, 0, ([] : List Hdr), rfl, rfl, (Rels.nil (R := (RelB (α := BitVec 8)) M0))⟩
  ·
   replace h := of_f hc4 h
   refine WL.yld (by decide) (Yld.move rfl) ?_
   refine WL.yld (by decide) (Yld.lenD (rs := rs00) (xs := x00) (Rels.len hq00) und_35 rfl (RdH.memM (k := 0) rfl hf00)) ?_
   refine WL.yld (by decide) (Yld.neqI rfl rfl) ?_
   refine WL.yld (by decide) (Yld.move rfl) ?_
   refine WL.new (v' := .bool true) (congrArg Value.bool (bne_iff_ne.2 hc4)) ?_
   refine WL.skip (by decide) rfl rfl ?_
   refine WL.skip (by decide) rfl rfl ?_
   refine WL.skip (by decide) rfl rfl ?_
   refine WL.yld (by decide) (Yld.pickT rfl rfl) ?_
   refine WL.done (hK3 _ _ ?_)
   refine WC.condT rfl ?_
   refine WC.seqRegion fun K8 hK8 => ?_
   refine WL.yld (by decide) (Yld.assign rfl) ?_
   refine WL.yld (by decide) (Yld.assign rfl) ?_
   refine WL.done (hK8 _ _ ?_)
   refine WC.ret (QK.thenR ?_)
   refine QK.nilOwn 109 22 (Lay.sz Hdr) none ?_
   injection h with h; subst h
   exact Ret.fn [109] (ResIs.two rfl rfl rfl) rfl (Ext.refl _ _) rfl (by decide) rfl rfl ⟨none, 0, 0, ([] : List Hdr), rfl, rfl, (Rels.nil (R := (RelB (α := BitVec 8)) M0))⟩
 ·
  rintro _ h
  unfold m_r04_Restore_j0 at h
  refine WC.seqRegion fun K10 hK10 => ?_
  refine WL.yld (by decide) (Yld.assign rfl) ?_
  refine WL.done (hK10 _ _ ?_)
  refine WC.seqRegion fun K11 hK11 => ?_
  refine WL.yld (by decide) (Yld.assign rfl) ?_
  refine WL.done (hK11 _ _ ?_)
  refine WC.seqCut (σ := (Option Addr) × Nat × Nat × (List (Int)) × (Option Addr) × Nat × Nat × (List (List (BitVec 8))) × (List Hdr)) (fun ⟨A14, n15, c16, x17, A20, n21, c22, x23, rs24⟩ => [(6, .slice A14 n15 c16), (7, .slice A20 n21 c22)]) (fun ⟨A14, n15, c16, x17, A20, n21, c22, x23, rs24⟩ => [(0, .mem M0), (113, .own 3 (Lay.sz Int) A14 n15 c16 (cel x17)), (119, .own 22 (Lay.sz Hdr) A20 n21 c22 (cel rs24))]) (fun ⟨A14, n15, c16, x17, A20, n21, c22, x23, rs24⟩ => m_r04_Restore_j1 x17 x23 = some res ∧ Rels ((RelB (α := BitVec 8)) M0) rs24 x23) (fun K26 hK26 => ?_) ?_
  ·
   skip
   refine WC.seqRegion fun K27 hK27 => ?_
   refine WL.yld (by decide) (Yld.assign rfl) ?_
   refine WL.done (hK27 _ _ ?_)
   refine WC.block ?_
   refine WC.nilOwn 129 3 (Lay.sz Int) none ?_
   refine WC.nilOwn 135 22 (Lay.sz Hdr) none ?_
   refine WC.loop (σ := Nat × (Option Addr) × Nat × Nat × (List (Int)) × (Option Addr) × Nat × Nat × (List (List (BitVec 8))) × (List Hdr) × Int) (fun ⟨q43, A30, n31, c32, x33, A36, n37, c38, x39, rs40, x42⟩ => [(0, .slice A00 n00 c00), (1, .slice A01 n01 c01), (6, .slice A30 n31 c32), (7, .slice A36 n37 c38), (8, I64 x42)]) (fun ⟨q43, A30, n31, c32, x33, A36, n37, c38, x39, rs40, x42⟩ => [(0, .mem M0), (129, .own 3 (Lay.sz Int) A30 n31 c32 (cel x33)), (135, .own 22 (Lay.sz Hdr) A36 n37 c38 (cel rs40))]) (fun ⟨q43, A30, n31, c32, x33, A36, n37, c38, x39, rs40, x42⟩ => m_r04_Restore_l2 x00 x01 q43 x33 x39 x42 = some res ∧ Rels ((RelB (α := BitVec 8)) M0) rs40 x39) (fun ⟨q43, A30, n31, c32, x33, A36, n37, c38, x39, rs40, x42⟩ => q43) ⟨forever, none, 0, 0, ([] : List (Int)), none, 0, 0, ([] : List (List (BitVec 8))), ([] : List Hdr), (0 : Int)⟩ ?_ (Sub.cons rfl (Sub.cons rfl (Sub.cons rfl (Sub.cons rfl (Sub.cons rfl (Sub.nil _)))))) (Sub.cons rfl (Sub.cons rfl (Sub.cons rfl (Sub.nil _)))) ?_
   ·
    exact ⟨h, (Rels.nil (R := (RelB (α := BitVec 8)) M0))⟩
   rintro ⟨q43, A30, n31, c32, x33, A36, n37, c38, x39, rs40, x42⟩ ⟨h, hq41⟩ K44 hK44
   cases q43 with
   | zero => exact absurd h (by simp [m_r04_Restore_l2])
   | succ q43 =>
    unfold m_r04_Restore_l2 at h
    refine WC.seq fun K45 hK45 => ?_
    refine WC.seqRegion fun K46 hK46 => ?_
    refine WL.yld (by decide) (Yld.move rfl) ?_
    refine WL.yld (by decide) (Yld.lss rfl rfl) ?_
    refine WL.done (hK46 _ _ ?_)
    by_cases hc47 : x42 < (6 : Int)
    ·
     replace h := of_t hc47 h
     refine WC.condTe rfl (decide_eq_true hc47) ?_
     refine WC.skip ?_
     refine QK.thenN (hK45 _ _ ?_)
     refine WC.seq fun K48 hK48 => ?_
     refine WC.block ?_
     refine WC.seq fun K49 hK49 => ?_
     refine WC.seqRegion fun K50 hK50 => ?_
     obtain ⟨x51, hx51, h⟩ := bnd h
     refine WL.yld (by decide) (Yld.move rfl) ?_
     refine WL.yld (by decide) (Yld.move rfl) ?_
     refine WL.yld (by decide) (Yld.idxC (xs := x01) sty_36 rfl rfl (RdH.memM (k := 0) rfl hf01) hx51) ?_
     refine WL.yld (by decide) (Yld.loadC0 (xs := x01) scal_4 rfl (RdH.memM (k := 0) rfl hf01) hx51 rfl) ?_
     refine WL.yld (by decide) (Yld.notB rfl) ?_
     refine WL.done (hK50 _ _ ?_)
     by_cases hc52 : x51 = true
     ·
      replace h := of_t hc52 h
      refine WC.condFe rfl (not_f hc52) ?_
      refine WC.skip ?_
      refine QK.thenN (hK49 _ _ ?_)
      refine WC.seq fun K53 hK53 => ?_
      refine WC.seqRegionD (n := 15) [(0, _), (129, _), (135, _)] rfl mixed (Sub.cons rfl (Sub.cons rfl (Sub.cons rfl (Sub.nil _)))) fun K54 hK54 => ?_
      by_cases hc55 : (0 : Int) < (x39.length : Int)
      ·
       replace h := of_t hc55 h
       obtain ⟨x56, hx56, h⟩ := bnd h
       obtain ⟨x60, hx60, h⟩ := bnd h
       refine WD.take 0 rfl (by kernel_rfl) (by kernel_rfl) (by kernel_rfl) (by decide) (Yld.move rfl) ?_
       refine WD.take 1 rfl (by kernel_rfl) (by kernel_rfl) (by kernel_rfl) (by decide) (Yld.lenD (rs := rs40) (xs := x39) (Rels.len hq41) und_35 rfl (RdH.own (k := 135) rfl)) ?_
       refine WD.take 2 rfl (by kernel_rfl) (by kernel_rfl) (by kernel_rfl) (by decide) (Yld.gtr rfl rfl) ?_
       refine WD.take 3 rfl (by kernel_rfl) (by kernel_rfl) (by kernel_rfl) (by decide) (Yld.move rfl) ?_
       refine WD.new (v' := .bool true) (congrArg Value.bool (decide_eq_true hc55)) ?_
       refine WD.takeG 4 rfl (by kernel_rfl) (by kernel_rfl) (by kernel_rfl) (by decide) rfl (Yld.move rfl) ?_
       refine WD.takeG 5 rfl (by kernel_rfl) (by kernel_rfl) (by kernel_rfl) (by decide) rfl (Yld.move rfl) ?_
       obtain ⟨r_57, hr58, hq59⟩ := Rels.idx hq00 hx56
       refine WD.takeG 6 rfl (by kernel_rfl) (by kernel_rfl) (by kernel_rfl) (by decide) rfl (Yld.idxC (xs := rs00) sty_35 rfl rfl (RdH.memM (k := 0) rfl hf00) hr58) ?_
       refine WD.takeG 7 rfl (by kernel_rfl) (by kernel_rfl) (by kernel_rfl) (by decide) rfl (Yld.loadC0 (xs := rs00) scal_22 rfl (RdH.memM (k := 0) rfl hf00) hr58 rfl) ?_
       refine WD.takeG 8 rfl (by kernel_rfl) (by kernel_rfl) (by kernel_rfl) (by decide) rfl (Yld.lenC (xs := x56) und_22 rfl (RdH.memM (k := 0) rfl hq59)) ?_
       refine WD.takeG 9 rfl (by kernel_rfl) (by kernel_rfl) (by kernel_rfl) (by decide) rfl (Yld.move rfl) ?_
       obtain ⟨r_61, hr62, hq63⟩ := Rels.idx hq41 hx60
       refine WD.takeG 10 rfl (by kernel_rfl) (by kernel_rfl) (by kernel_rfl) (by decide) rfl (Yld.idxC (xs := rs40) sty_35 rfl rfl (RdH.own (k := 135) rfl) hr62) ?_
       refine WD.takeG 11 rfl (by kernel_rfl) (by kernel_rfl) (by kernel_rfl) (by decide) rfl (Yld.loadC0 (xs := rs40) scal_22 rfl (RdH.own (k := 135) rfl) hr62 rfl) ?_
       refine WD.takeG 12 rfl (by kernel_rfl) (by kernel_rfl) (by kernel_rfl) (by decide) rfl (Yld.lenC (xs := x60) und_22 rfl (RdH.memM (k := 0) rfl hq63)) ?_
       refine WD.takeG 13 rfl (by kernel_rfl) (by kernel_rfl) (by kernel_rfl) (by decide) rfl (Yld.neqI rfl rfl) ?_
       refine WD.take 14 rfl (by kernel_rfl) (by kernel_rfl) (by kernel_rfl) (by decide) (Yld.pickT rfl rfl) ?_
       refine WD.done (by kernel_rfl) (hK54 _ _ ?_)
       by_cases hc64 : (x56.length : Int) = (x60.length : Int)
       ·
        replace h := of_t hc64 h
        refine WC.condFe rfl (bne_eq_false_iff_eq.2 hc64) ?_
        refine WC.skip ?_
        refine QK.thenN (hK53 _ _ ?_)
        refine WC.regionD (n := 13) [(0, _)] rfl mixed (Sub.cons rfl (Sub.nil _)) fun K65 hK65 => ?_
        obtain ⟨x67, hx67, h⟩ := bnd h
        obtain ⟨x70, hx70, h⟩ := bnd h
        obtain ⟨x76, hx76, h⟩ := bnd h
        refine WD.take 0 rfl (by kernel_rfl) (by kernel_rfl) (by kernel_rfl) (by decide) (Yld.move rfl) ?_
        refine WD.take 1 rfl (by kernel_rfl) (by kernel_rfl) (by kernel_rfl) (by decide) (Yld.move rfl) ?_
        refine WD.take 4 rfl (by kernel_rfl) (by kernel_rfl) (by kernel_rfl) (by decide) (Yld.move rfl) ?_
        refine WD.take 5 rfl (by kernel_rfl) (by kernel_rfl) (by kernel_rfl) (by decide) (Yld.move rfl) ?_
        refine WD.take 6 rfl (by kernel_rfl) (by kernel_rfl) (by kernel_rfl) (by decide) (Yld.move rfl) ?_
        obtain ⟨r_71, hr72, hq73⟩ := Rels.idx hq00 hx70
        refine WD.take 7 rfl (by kernel_rfl) (by kernel_rfl) (by kernel_rfl) (by decide) (Yld.idxC (xs := rs00) sty_35 rfl rfl (RdH.memM (k := 0) rfl hf00) hr72) ?_
        refine WD.take 8 rfl (by kernel_rfl) (by kernel_rfl) (by kernel_rfl) (by decide) (Yld.loadC0 (xs := rs00) scal_22 rfl (RdH.memM (k := 0) rfl hf00) hr72 rfl) ?_
        refine WD.two 2 9 (by kernel_rfl) ?_ ?_
        ·
         skip
         refine WS.eff rfl (by decide) (Eff.buildC 166 ([x42] : List (Int)) sty_28 rfl rfl rfl rfl rfl (by decide)) ?_
         rintro _ _ ⟨g66, rfl, rfl⟩
         refine ⟨(Sub.cons rfl (Sub.nil _)), ?_⟩
         refine WD.two 3 9 (by kernel_rfl) ?_ ?_
         ·
          skip
          refine WS.eff rfl (by decide) (Eff.appendC 129 (xs := x33) (ys := ([x42] : List (Int))) sty_28 rfl rfl rfl (RdH.own (k := 166) rfl) hx67) ?_
          rintro _ _ ⟨A68, c69, rfl, rfl⟩
          refine ⟨(Sub.cons rfl (Sub.nil _)), ?_⟩
          refine WD.one 9 (by kernel_rfl) ?_
          have hq75 : Rels ((RelB (α := BitVec 8)) M0) ([(⟨r_71.A, r_71.n, r_71.c⟩ : Hdr)] : List Hdr) ([x70] : List (List (BitVec 8))) := (Rels.cons hq73 Rels.nil)
          refine WS.eff rfl (by decide) (Eff.buildC 174 ([(⟨r_71.A, r_71.n, r_71.c⟩ : Hdr)] : List Hdr) sty_35 rfl rfl rfl rfl rfl (by decide)) ?_
          rintro _ _ ⟨g74, rfl, rfl⟩
          refine ⟨(Sub.cons rfl (Sub.nil _)), ?_⟩
          refine WD.one 10 (by kernel_rfl) ?_
          obtain ⟨hu79, hq80⟩ := Rels.apd hq41 hq75 hx76
          refine WS.eff rfl (by decide) (Eff.appendC 135 (xs := rs40) (ys := ([(⟨r_71.A, r_71.n, r_71.c⟩ : Hdr)] : List Hdr)) sty_35 rfl rfl rfl (RdH.own (k := 174) rfl) hu79) ?_
          rintro _ _ ⟨A77, c78, rfl, rfl⟩
          refine ⟨(Sub.cons rfl (Sub.nil _)), ?_⟩
          refine WD.take 11 rfl (by kernel_rfl) (by kernel_rfl) (by kernel_rfl) (by decide) (Yld.assign rfl) ?_
          refine WD.take 12 rfl (by kernel_rfl) (by kernel_rfl) (by kernel_rfl) (by decide) (Yld.assign rfl) ?_
          refine WD.done (by kernel_rfl) (hK65 _ _ ?_)
          refine QK.blockN ?_
          refine QK.thenN (hK48 _ _ ?_)
          refine WC.region fun K81 hK81 => ?_
          obtain ⟨x82, hx82, h⟩ := bnd h
          refine WL.yld (by decide) (Yld.move rfl) ?_
          refine WL.yld (by decide) (Yld.addC rfl rfl hx82) ?_
          refine WL.yld (by decide) (Yld.assign rfl) ?_
          refine WL.done (hK81 _ _ ?_)
          refine QK.thenN ?_
          refine hK44 ⟨q43, A68, x67.length, c69, x67, A77, (rs40 ++ ([(⟨r_71.A, r_71.n, r_71.c⟩ : Hdr)] : List Hdr)).length, c78, x76, (rs40 ++ ([(⟨r_71.A, r_71.n, r_71.c⟩ : Hdr)] : List Hdr)), x82⟩ _ _ ?_ (Nat.lt_succ_self _) (Sub.cons rfl (Sub.cons rfl (Sub.cons rfl (Sub.cons rfl (Sub.cons rfl (Sub.nil _)))))) (Sub.cons rfl (Sub.cons rfl (Sub.cons rfl (Sub.nil _))))
          exact ⟨h, hq80⟩
         ·
          skip
          have hq75 : Rels ((RelB (α := BitVec 8)) M0) ([(⟨r_71.A, r_71.n, r_71.c⟩ : Hdr)] : List Hdr) ([x70] : List (List (BitVec 8))) := (Rels.cons hq73 Rels.nil)
          refine WS.eff rfl (by decide) (Eff.buildC 174 ([(⟨r_71.A, r_71.n, r_71.c⟩ : Hdr)] : List Hdr) sty_35 rfl rfl rfl rfl rfl (by decide)) ?_
          rintro _ _ ⟨g74, rfl, rfl⟩
          refine ⟨(Sub.cons rfl (Sub.nil _)), ?_⟩
          refine WD.one 3 (by kernel_rfl) ?_
          refine WS.eff rfl (by decide) (Eff.appendC 129 (xs := x33) (ys := ([x42] : List (Int))) sty_28 rfl rfl rfl (RdH.own (k := 166) rfl) hx67) ?_
          rintro _ _ ⟨A68, c69, rfl, rfl⟩
          refine ⟨(Sub.cons rfl (Sub.nil _)), ?_⟩
          refine WD.one 10 (by kernel_rfl) ?_
          obtain ⟨hu79, hq80⟩ := Rels.apd hq41 hq75 hx76
          refine WS.eff rfl (by decide) (Eff.appendC 135 (xs := rs40) (ys := ([(⟨r_71.A, r_71.n, r_71.c⟩ : Hdr)] : List Hdr)) sty_35 rfl rfl rfl (RdH.own (k := 174) rfl) hu79) ?_
          rintro _ _ ⟨A77, c78, rfl, rfl⟩
          refine ⟨(Sub.cons rfl (Sub.nil _)), ?_⟩
          refine WD.take 11 rfl (by kernel_rfl) (by kernel_rfl) (by kernel_rfl) (by decide) (Yld.assign rfl) ?_
          refine WD.take 12 rfl (by kernel_rfl) (by kernel_rfl) (by kernel_rfl) (by decide) (Yld.assign rfl) ?_
          refine WD.done (by kernel_rfl) (hK65 _ _ ?_)
          refine QK.blockN ?_
          refine QK.thenN (hK48 _ _ ?_)
          refine WC.region fun K83 hK83 => ?_
          obtain ⟨x84, hx84, h⟩ := bnd h
          refine WL.yld (by decide) (Yld.move rfl) ?_
          refine WL.yld (by decide) (Yld.addC rfl rfl hx84) ?_
          refine WL.yld (by decide) (Yld.assign rfl) ?_
          refine WL.done (hK83 _ _ ?_)
          refine QK.thenN ?_
          refine hK44 ⟨q43, A68, x67.length, c69, x67, A77, (rs40 ++ ([(⟨r_71.A, r_71.n, r_71.c⟩ : Hdr)] : List Hdr)).length, c78, x76, (rs40 ++ ([(⟨r_71.A, r_71.n, r_71.c⟩ : Hdr)] : List Hdr)), x84⟩ _ _ ?_ (Nat.lt_succ_self _) (Sub.cons rfl (Sub.cons rfl (Sub.cons rfl (Sub.cons rfl (Sub.cons rfl (Sub.nil _)))))) (Sub.cons rfl (Sub.cons rfl (Sub.cons rfl (Sub.nil _))))
          exact ⟨h, hq80⟩
        ·
         skip
         have hq75 : Rels ((RelB (α := BitVec 8)) M0) ([(⟨r_71.A, r_71.n, r_71.c⟩ : Hdr)] : List Hdr) ([x70] : List (List (BitVec 8))) := (Rels.cons hq73 Rels.nil)
         refine WS.eff rfl (by decide) (Eff.buildC 174 ([(⟨r_71.A, r_71.n, r_71.c⟩ : Hdr)] : List Hdr) sty_35 rfl rfl rfl rfl rfl (by decide)) ?_
         rintro _ _ ⟨g74, rfl, rfl⟩
         refine ⟨(Sub.cons rfl (Sub.nil _)), ?_⟩
         refine WD.one 2 (by kernel_rfl) ?_
         refine WS.eff rfl (by decide) (Eff.buildC 166 ([x42] : List (Int)) sty_28 rfl rfl rfl rfl rfl (by decide)) ?_
         rintro _ _ ⟨g66, rfl, rfl⟩
         refine ⟨(Sub.cons rfl (Sub.nil _)), ?_⟩
         refine WD.one 3 (by kernel_rfl) ?_
         refine WS.eff rfl (by decide) (Eff.appendC 129 (xs := x33) (ys := ([x42] : List (Int))) sty_28 rfl rfl rfl (RdH.own (k := 166) rfl) hx67) ?_
         rintro _ _ ⟨A68, c69, rfl, rfl⟩
         refine ⟨(Sub.cons rfl (Sub.nil _)), ?_⟩
         refine WD.one 10 (by kernel_rfl) ?_
         obtain ⟨hu79, hq80⟩ := Rels.apd hq41 hq75 hx76
         refine WS.eff rfl (by decide) (Eff.appendC 135 (xs := rs40) (ys := ([(⟨r_71.A, r_71.n, r_71.c⟩ : Hdr)] : List Hdr)) sty_35 rfl rfl rfl (RdH.own (k := 174) rfl) hu79) ?_
         rintro _ _ ⟨A77, c78, rfl, rfl⟩
         refine ⟨(Sub.cons rfl (Sub.nil _)), ?_⟩
         refine WD.take 11 rfl (by kernel_rfl) (by kernel_rfl) (by kernel_rfl) (by decide) (Yld.assign rfl) ?_
         refine WD.take 12 rfl (by kernel_rfl) (by kernel_rfl) (by kernel_rfl) (by decide) (Yld.assign rfl) ?_
         refine WD.done (by kernel_rfl) (hK65 _ _ ?_)
         refine QK.blockN ?_
         refine QK.thenN (hK48 _ _ ?_)
         refine WC.region fun K85 hK85 => ?_
         obtain ⟨x86, hx86, h⟩ := bnd h
         refine WL.yld (by decide) (Yld.move rfl) ?_
         refine WL.yld (by decide) (Yld.addC rfl rfl hx86) ?_
         refine WL.yld (by decide) (Yld.assign rfl) ?_
         refine WL.done (hK85 _ _ ?_)
         refine QK.thenN ?_
         refine hK44 ⟨q43, A68, x67.length, c69, x67, A77, (rs40 ++ ([(⟨r_71.A, r_71.n, r_71.c⟩ : Hdr)] : List Hdr)).length, c78, x76, (rs40 ++ ([(⟨r_71.A, r_71.n, r_71.c⟩ : Hdr)] : List Hdr)), x86⟩ _ _ ?_ (Nat.lt_succ_self _) (Sub.cons rfl (Sub.cons rfl (Sub.cons rfl (Sub.cons rfl (Sub.cons rfl (Sub.nil _)))))) (Sub.cons rfl (Sub.cons rfl (Sub.cons rfl (Sub.nil _))))
         exact ⟨h, hq80⟩
       ·
        replace h := of_f hc64 h
        refine WC.condTe rfl (bne_iff_ne.2 hc64) ?_
        refine WC.seqRegion fun K87 hK87 => ?_
        refine WL.yld (by decide) (Yld.assign rfl) ?_
        refine WL.yld (by decide) (Yld.assign rfl) ?_
        refine WL.done (hK87 _ _ ?_)
        refine WC.ret (QK.thenR (QK.blockR (QK.thenR (QK.thenR (QK.blockR (QK.thenR ?_))))))
        refine QK.nilOwn 188 22 (Lay.sz Hdr) none ?_
        injection h with h; subst h
        exact Ret.fn [188] (ResIs.two rfl rfl rfl) rfl (Ext.refl _ _) rfl (by decide) rfl rfl ⟨none, 0, 0, ([] : List Hdr), rfl, rfl, (Rels.nil (R := (RelB (α := BitVec 8)) M0))⟩
      ·
       replace h := of_f hc55 h
       refine WD.take 0 rfl (by kernel_rfl) (by kernel_rfl) (by kernel_rfl) (by decide) (Yld.move rfl) ?_
       refine WD.take 1 rfl (by kernel_rfl) (by kernel_rfl) (by kernel_rfl) (by decide) (Yld.lenD (rs := rs40) (xs := x39) (Rels.len hq41) und_35 rfl (RdH.own (k := 135) rfl)) ?_
       refine WD.take 2 rfl (by kernel_rfl) (by kernel_rfl) (by kernel_rfl) (by decide) (Yld.gtr rfl rfl) ?_
       refine WD.take 3 rfl (by kernel_rfl) (by kernel_rfl) (by kernel_rfl) (by decide) (Yld.move rfl) ?_
       refine WD.new (v' := .bool false) (congrArg Value.bool (decide_eq_false hc55)) ?_
       refine WD.takeS 4 rfl (by kernel_rfl) (by kernel_rfl) (by kernel_rfl) (by decide) rfl rfl ?_
       refine WD.takeS 5 rfl (by kernel_rfl) (by kernel_rfl) (by kernel_rfl) (by decide) rfl rfl ?_
       refine WD.takeS 6 rfl (by kernel_rfl) (by kernel_rfl) (by kernel_rfl) (by decide) rfl rfl ?_
       refine WD.takeS 7 rfl (by kernel_rfl) (by kernel_rfl) (by kernel_rfl) (by decide) rfl rfl ?_
       refine WD.takeS 8 rfl (by kernel_rfl) (by kernel_rfl) (by kernel_rfl) (by decide) rfl rfl ?_
       refine WD.takeS 9 rfl (by kernel_rfl) (by kernel_rfl) (by kernel_rfl) (by decide) rfl rfl ?_
       refine WD.takeS 10 rfl (by kernel_rfl) (by kernel_rfl) (by kernel_rfl) (by decide) rfl rfl ?_
       refine WD.takeS 11 rfl (by kernel_rfl) (by kernel_rfl) (by kernel_rfl) (by decide) rfl rfl ?_
       refine WD.takeS 12 rfl (by kernel_rfl) (by kernel_rfl) (by kernel_rfl) (by decide) rfl rfl ?_
       refine WD.takeS 13 rfl (by kernel_rfl) (by kernel_rfl) (by kernel_rfl) (by decide) rfl rfl ?_
       refine WD.take 14 rfl (by kernel_rfl) (by kernel_rfl) (by kernel_rfl) (by decide) (Yld.pickF rfl rfl) ?_
       refine WD.done (by kernel_rfl) (hK54 _ _ ?_)
       refine WC.condF rfl ?_
       refine WC.skip ?_
       refine QK.thenN (hK53 _ _ ?_)
       refine WC.regionD (n := 13) [(0, _)] rfl mixed (Sub.cons rfl (Sub.nil _)) fun K89 hK89 => ?_
       obtain ⟨x91, hx91, h⟩ := bnd h
       obtain ⟨x94, hx94, h⟩ := bnd h
       obtain ⟨x100, hx100, h⟩ := bnd h
       refine WD.take 0 rfl (by kernel_rfl) (by kernel_rfl) (by kernel_rfl) (by decide) (Yld.move rfl) ?_
       refine WD.take 1 rfl (by kernel_rfl) (by kernel_rfl) (by kernel_rfl) (by decide) (Yld.move rfl) ?_
       refine WD.take 4 rfl (by kernel_rfl) (by kernel_rfl) (by kernel_rfl) (by decide) (Yld.move rfl) ?_
       refine WD.take 5 rfl (by kernel_rfl) (by kernel_rfl) (by kernel_rfl) (by decide) (Yld.move rfl) ?_
       refine WD.take 6 rfl (by kernel_rfl) (by kernel_rfl) (by kernel_rfl) (by decide) (Yld.move rfl) ?_
       obtain ⟨r_95, hr96, hq97⟩ := Rels.idx hq00 hx94
       refine WD.take 7 rfl (by kernel_rfl) (by kernel_rfl) (by kernel_rfl) (by decide) (Yld.idxC (xs := rs00) sty_35 rfl rfl (RdH.memM (k := 0) rfl hf00) hr96) ?_
       refine WD.take 8 rfl (by kernel_rfl) (by kernel_rfl) (by kernel_rfl) (by decide) (Yld.loadC0 (xs := rs00) scal_22 rfl (RdH.memM (k := 0) rfl hf00) hr96 rfl) ?_
       refine WD.two 2 9 (by kernel_rfl) ?_ ?_
       ·
        skip
        refine WS.eff rfl (by decide) (Eff.buildC 190 ([x42] : List (Int)) sty_28 rfl rfl rfl rfl rfl (by decide)) ?_
        rintro _ _ ⟨g90, rfl, rfl⟩
        refine ⟨(Sub.cons rfl (Sub.nil _)), ?_⟩
        refine WD.two 3 9 (by kernel_rfl) ?_ ?_
        ·
         skip
         refine WS.eff rfl (by decide) (Eff.appendC 129 (xs := x33) (ys := ([x42] : List (Int))) sty_28 rfl rfl rfl (RdH.own (k := 190) rfl) hx91) ?_
         rintro _ _ ⟨A92, c93, rfl, rfl⟩
         refine ⟨(Sub.cons rfl (Sub.nil _)), ?_⟩
         refine WD.one 9 (by kernel_rfl) ?_
         have hq99 : Rels ((RelB (α := BitVec 8)) M0) ([(⟨r_95.A, r_95.n, r_95.c⟩ : Hdr)] : List Hdr) ([x94] : List (List (BitVec 8))) := (Rels.cons hq97 Rels.nil)
         refine WS.eff rfl (by decide) (Eff.buildC 198 ([(⟨r_95.A, r_95.n, r_95.c⟩ : Hdr)] : List Hdr) sty_35 rfl rfl rfl rfl rfl (by decide)) ?_
         rintro _ _ ⟨g98, rfl, rfl⟩
         refine ⟨(Sub.cons rfl (Sub.nil _)), ?_⟩
         refine WD.one 10 (by kernel_rfl) ?_
         obtain ⟨hu103, hq104⟩ := Rels.apd hq41 hq99 hx100
         refine WS.eff rfl (by decide) (Eff.appendC 135 (xs := rs40) (ys := ([(⟨r_95.A, r_95.n, r_95.c⟩ : Hdr)] : List Hdr)) sty_35 rfl rfl rfl (RdH.own (k := 198) rfl) hu103) ?_
         rintro _ _ ⟨A101, c102, rfl, rfl⟩
         refine ⟨(Sub.cons rfl (Sub.nil _)), ?_⟩
         refine WD.take 11 rfl (by kernel_rfl) (by kernel_rfl) (by kernel_rfl) (by decide) (Yld.assign rfl) ?_
         refine WD.take 12 rfl (by kernel_rfl) (by kernel_rfl) (by kernel_rfl) (by decide) (Yld.assign rfl) ?_
         refine WD.done (by kernel_rfl) (hK89 _ _ ?_)
         refine QK.blockN ?_
         refine QK.thenN (hK48 _ _ ?_)
         refine WC.region fun K105 hK105 => ?_
         obtain ⟨x106, hx106, h⟩ := bnd h
         refine WL.yld (by decide) (Yld.move rfl) ?_
         refine WL.yld (by decide) (Yld.addC rfl rfl hx106) ?_
         refine WL.yld (by decide) (Yld.assign rfl) ?_
         refine WL.done (hK105 _ _ ?_)
         refine QK.thenN ?_
         refine hK44 ⟨q43, A92, x91.length, c93, x91, A101, (rs40 ++ ([(⟨r_95.A, r_95.n, r_95.c⟩ : Hdr)] : List Hdr)).length, c102, x100, (rs40 ++ ([(⟨r_95.A, r_95.n, r_95.c⟩ : Hdr)] : List Hdr)), x106⟩ _ _ ?_ (Nat.lt_succ_self _) (Sub.cons rfl (Sub.cons rfl (Sub.cons rfl (Sub.cons rfl (Sub.cons rfl (Sub.nil _)))))) (Sub.cons rfl (Sub.cons rfl (Sub.cons rfl (Sub.nil _))))
         exact ⟨h, hq104⟩
        ·
         skip
         have hq99 : Rels ((RelB (α := BitVec 8)) M0) ([(⟨r_95.A, r_95.n, r_95.c⟩ : Hdr)] : List Hdr) ([x94] : List (List (BitVec 8))) := (Rels.cons hq97 Rels.nil)
         refine WS.eff rfl (by decide) (Eff.buildC 198 ([(⟨r_95.A, r_95.n, r_95.c⟩ : Hdr)] : List Hdr) sty_35 rfl rfl rfl rfl rfl (by decide)) ?_
         rintro _ _ ⟨g98, rfl, rfl⟩
         refine ⟨(Sub.cons rfl (Sub.nil _)), ?_⟩
         refine WD.one 3 (by kernel_rfl) ?_
         refine WS.eff rfl (by decide) (Eff.appendC 129 (xs := x33) (ys := ([x42] : List (Int))) sty_28 rfl rfl rfl (RdH.own (k := 190) rfl) hx91) ?_
         rintro _ _ ⟨A92, c93, rfl, rfl⟩
         refine ⟨(Sub.cons rfl (Sub.nil _)), ?_⟩
         refine WD.one 10 (by kernel_rfl) ?_
         obtain ⟨hu103, hq104⟩ := Rels.apd hq41 hq99 hx100
         refine WS.eff rfl (by decide) (Eff.appendC 135 (xs := rs40) (ys := ([(⟨r_95.A, r_95.n, r_95.c⟩ : Hdr)] : List Hdr)) sty_35 rfl rfl rfl (RdH.own (k := 198) rfl) hu103) ?_
         rintro _ _ ⟨A101, c102, rfl, rfl⟩
         refine ⟨(Sub.cons rfl (Sub.nil _)), ?_⟩
         refine WD.take 11 rfl (by kernel_rfl) (by kernel_rfl) (by kernel_rfl) (by decide) (Yld.assign rfl) ?_
         refine WD.take 12 rfl (by kernel_rfl) (by kernel_rfl) (by kernel_rfl) (by decide) (Yld.assign rfl) ?_
         refine WD.done (by kernel_rfl) (hK89 _ _ ?_)
         refine QK.blockN ?_
         refine QK.thenN (hK48 _ _ ?_)
         refine WC.region fun K107 hK107 => ?_
         obtain ⟨x108, hx108, h⟩ := bnd h
         refine WL.yld (by decide) (Yld.move rfl) ?_
         refine WL.yld (by decide) (Yld.addC rfl rfl hx108) ?_
         refine WL.yld (by decide) (Yld.assign rfl) ?_
         refine WL.done (hK107 _ _ ?_)
         refine QK.thenN ?_
         refine hK44 ⟨q43, A92, x91.length, c93, x91, A101, (rs40 ++ ([(⟨r_95.A, r_95.n, r_95.c⟩ : Hdr)] : List Hdr)).length, c102, x100, (rs40 ++ ([(⟨r_95.A, r_95.n, r_95.c⟩ : Hdr)] : List Hdr)), x108⟩ _ _ ?_ (Nat.lt_succ_self _) (Sub.cons rfl (Sub.cons rfl (Sub.cons rfl (Sub.cons rfl (Sub.cons rfl (Sub.nil _)))))) (Sub.cons rfl (Sub.cons rfl (Sub.cons rfl (Sub.nil _))))
         exact ⟨h, hq104⟩
       ·
        skip
        have hq99 : Rels ((RelB (α := BitVec 8)) M0) ([(⟨r_95.A, r_95.n, r_95.c⟩ : Hdr)] : List Hdr) ([x94] : List (List (BitVec 8))) := (Rels.cons hq97 Rels.nil)
        refine WS.eff rfl (by decide) (Eff.buildC 198 ([(⟨r_95.A, r_95.n, r_95.c⟩ : Hdr)] : List Hdr) sty_35 rfl rfl rfl rfl rfl (by decide)) ?_
        rintro _ _ ⟨g98, rfl, rfl⟩
        refine ⟨(Sub.cons rfl (Sub.nil _)), ?_⟩
        refine WD.one 2 (by kernel_rfl) ?_
        refine WS.eff rfl (by decide) (Eff.buildC 190 ([x42] : List (Int)) sty_28 rfl rfl rfl rfl rfl (by decide)) ?_
        rintro _ _ ⟨g90, rfl, rfl⟩
        refine ⟨(Sub.cons rfl (Sub.nil _)), ?_⟩
        refine WD.one 3 (by kernel_rfl) ?_
        refine WS.eff rfl (by decide) (Eff.appendC 129 (xs := x33) (ys := ([x42] : List (Int))) sty_28 rfl rfl rfl (RdH.own (k := 190) rfl) hx91) ?_
        rintro _ _ ⟨A92, c93, rfl, rfl⟩
        refine ⟨(Sub.cons rfl (Sub.nil _)), ?_⟩
        refine WD.one 10 (by kernel_rfl) ?_
        obtain ⟨hu103, hq104⟩ := Rels.apd hq41 hq99 hx100
        refine WS.eff rfl (by decide) (Eff.appendC 135 (xs := rs40) (ys := ([(⟨r_95.A, r_95.n, r_95.c⟩ : Hdr)] : List Hdr)) sty_35 rfl rfl rfl (RdH.own (k := 198) rfl) hu103) ?_
        rintro _ _ ⟨A101, c102, rfl, rfl⟩
        refine ⟨(Sub.cons rfl (Sub.nil _)), ?_⟩
        refine WD.take 11 rfl (by kernel_rfl) (by kernel_rfl) (by kernel_rfl) (by decide) (Yld.assign rfl) ?_
        refine WD.take 12 rfl (by kernel_rfl) (by kernel_rfl) (by kernel_rfl) (by decide) (Yld.assign rfl) ?_
        refine WD.done (by kernel_rfl) (hK89 _ _ ?_)
        refine QK.blockN ?_
        refine QK.thenN (hK48 _ _ ?_)
        refine WC.region fun K109 hK109 => ?_
        obtain ⟨x110, hx110, h⟩ := bnd h
        refine WL.yld (by decide) (Yld.move rfl) ?_
        refine WL.yld (by decide) (Yld.addC rfl rfl hx110) ?_
        refine WL.yld (by decide) (Yld.assign rfl) ?_
        refine WL.done (hK109 _ _ ?_)
        refine QK.thenN ?_
        refine hK44 ⟨q43, A92, x91.length, c93, x91, A101, (rs40 ++ ([(⟨r_95.A, r_95.n, r_95.c⟩ : Hdr)] : List Hdr)).length, c102, x100, (rs40 ++ ([(⟨r_95.A, r_95.n, r_95.c⟩ : Hdr)] : List Hdr)), x110⟩ _ _ ?_ (Nat.lt_succ_self _) (Sub.cons rfl (Sub.cons rfl (Sub.cons rfl (Sub.cons rfl (Sub.cons rfl (Sub.nil _)))))) (Sub.cons rfl (Sub.cons rfl (Sub.cons rfl (Sub.nil _))))
        exact ⟨h, hq104⟩
     ·
      replace h := of_f hc52 h
      refine WC.condTe rfl (not_t (Bool.eq_false_iff.2 hc52)) ?_
      refine WC.exit (QK.thenE (QK.blockX ?_))
      refine QK.thenN (hK48 _ _ ?_)
      refine WC.region fun K111 hK111 => ?_
      obtain ⟨x112, hx112, h⟩ := bnd h
      refine WL.yld (by decide) (Yld.move rfl) ?_
      refine WL.yld (by decide) (Yld.addC rfl rfl hx112) ?_
      refine WL.yld (by decide) (Yld.assign rfl) ?_
      refine WL.done (hK111 _ _ ?_)
      refine QK.thenN ?_
      refine hK44 ⟨q43, A30, n31, c32, x33, A36, n37, c38, x39, rs40, x112⟩ _ _ ?_ (Nat.lt_succ_self _) (Sub.cons rfl (Sub.cons rfl (Sub.cons rfl (Sub.cons rfl (Sub.cons rfl (Sub.nil _)))))) (Sub.cons rfl (Sub.cons rfl (Sub.cons rfl (Sub.nil _))))
      exact ⟨h, hq41⟩
    ·
     replace h := of_f hc47 h
     refine WC.condFe rfl (decide_eq_false hc47) ?_
     refine WC.exit (QK.thenE (QK.thenE (QK.blockX ?_)))
     refine QK.thenN ?_
     refine KK.move 129 113 rfl rfl ?_
     refine KK.move 135 119 rfl rfl ?_
     refine hK26 ⟨A30, n31, c32, x33, A36, n37, c38, x39, rs40⟩ _ _ ?_ (Sub.cons rfl (Sub.cons rfl (Sub.nil _))) (Sub.cons rfl (Sub.cons rfl (Sub.cons rfl (Sub.nil _))))
     exact ⟨h, hq41⟩
  ·
   rintro ⟨A14, n15, c16, x17, A20, n21, c22, x23, rs24⟩ ⟨h, hq25⟩
   unfold m_r04_Restore_j1 at h
   refine WC.seq fun K113 hK113 => ?_
   refine WC.seqRegion fun K114 hK114 => ?_
   refine WL.yld (by decide) (Yld.move rfl) ?_
   refine WL.yld (by decide) (Yld.lenC (xs := x17) und_28 rfl (RdH.own (k := 113) rfl)) ?_
   refine WL.yld (by decide) (Yld.lss rfl rfl) ?_
   refine WL.done (hK114 _ _ ?_)
   by_cases hc115 : (x17.length : Int) < (4 : Int)
   ·
    replace h := of_t hc115 h
    refine WC.condTe rfl (decide_eq_true hc115) ?_
    refine WC.seqRegion fun K116 hK116 => ?_
    refine WL.yld (by decide) (Yld.assign rfl) ?_
    refine WL.yld (by decide) (Yld.assign rfl) ?_
    refine WL.done (hK116 _ _ ?_)
    refine WC.ret (QK.thenR ?_)
    refine QK.nilOwn 217 22 (Lay.sz Hdr) none ?_
    injection h with h; subst h
    exact Ret.fn [217] (ResIs.two rfl rfl rfl) rfl (Ext.refl _ _) rfl (by decide) rfl rfl ⟨none, 0, 0, ([] : List Hdr), rfl, rfl, (Rels.nil (R := (RelB (α := BitVec 8)) M0))⟩
   ·
    replace h := of_f hc115 h
    refine WC.condFe rfl (decide_eq_false hc115) ?_
    refine WC.skip ?_
    refine QK.thenN (hK113 _ _ ?_)
    refine WC.seqRegionD (n := 10) [(0, _), (113, _), (119, _)] rfl mixed (Sub.cons rfl (Sub.cons rfl (Sub.cons rfl (Sub.nil _)))) fun K118 hK118 => ?_
    obtain ⟨x119, hx119, h⟩ := bnd h
    obtain ⟨x127, hx127, h⟩ := bnd h
    obtain ⟨x128, hx128, h⟩ := bnd h
    refine WD.take 1 rfl (by kernel_rfl) (by kernel_rfl) (by kernel_rfl) (by decide) (Yld.move rfl) ?_
    refine WD.take 2 rfl (by kernel_rfl) (by kernel_rfl) (by kernel_rfl) (by decide) (Yld.sliceHC (xs := x17) sty_28 rfl rfl (RdH.own (k := 113) rfl) hx127) ?_
    refine WD.two 0 7 (by kernel_rfl) ?_ ?_
    ·
     skip
     refine WS.eff rfl (by decide) (Eff.callS 223 rfl Try.func12 nm_12 rfl rfl (fun w hb hh => w_r04_Code (Mem.snap w) hx119)) ?_
     rintro _ _ ⟨_, ⟨A124, n125, c126, rfl, rfl⟩, rfl⟩
     refine ⟨(Sub.cons rfl (Sub.cons rfl (Sub.cons rfl (Sub.nil _)))), ?_⟩
     refine WD.two 3 7 (by kernel_rfl) ?_ ?_
     ·
      skip
      refine WS.eff rfl (by decide) (Eff.callS 232 rfl Try.func31 nm_31 rfl rfl (fun w hb hh => w_r03_Pick (Mem.snap w) x119.1 x119.2.1 A124 n125 c126 _ (RdH.sn (RdH.own (k := 223) rfl) w hb hh) A14 x127.length c16 _ (RdH.sn (RdT.slc0 (RdH.own (k := 113) rfl) hx127) w hb hh) hx128)) ?_
      rintro _ _ ⟨_, ⟨A133, n134, c135, rfl, rfl⟩, rfl⟩
      refine ⟨(Sub.cons rfl (Sub.cons rfl (Sub.cons rfl (Sub.nil _)))), ?_⟩
      refine WD.take 4 rfl (by kernel_rfl) (by kernel_rfl) (by kernel_rfl) (by decide) (Yld.move rfl) ?_
      refine WD.take 5 rfl (by kernel_rfl) (by kernel_rfl) (by kernel_rfl) (by decide) (Yld.extract rfl rfl) ?_
      refine WD.take 6 rfl (by kernel_rfl) (by kernel_rfl) (by kernel_rfl) (by decide) (Yld.extract rfl rfl) ?_
      refine WD.one 7 (by kernel_rfl) ?_
      refine WS.eff rfl (by decide) (Eff.alloc 236 rfl zr_26) ?_
      rintro _ _ ⟨g136, rfl, rfl⟩
      refine ⟨(Sub.cons rfl (Sub.cons rfl (Sub.cons rfl (Sub.nil _)))), ?_⟩
      refine WD.one 8 (by kernel_rfl) ?_
      refine WS.eff0 rfl (Eff0.storeBAM 236 agg_26 rfl rfl rfl ⟨rfl, rfl⟩ rfl) (Sub.cons rfl (Sub.cons rfl (Sub.cons rfl (Sub.nil _)))) ?_
      refine WD.take 9 rfl (by kernel_rfl) (by kernel_rfl) (by kernel_rfl) (by decide) (Yld.assign rfl) ?_
      refine WD.done (by kernel_rfl) (hK118 _ _ ?_)
      refine WC.seqRegion fun K137 hK137 => ?_
      obtain ⟨x138, hx138, h⟩ := bnd h
      refine WL.yld (by decide) (Yld.loadBM (k := 236) agg_26 rfl rfl rfl) ?_
      refine WL.eff (by decide) (Eff.callS 242 rfl Try.func32 nm_32 rfl rfl (fun w hb hh => w_r03_Invert (Mem.snap w) x128.1 x128.2.1 A133 n134 c135 _ (RdH.sn (RdH.own (k := 232) rfl) w hb hh) hx138)) ?_
      rintro _ _ ⟨_, ⟨A143, n144, c145, rfl, rfl⟩, rfl⟩
      refine WL.yld (by decide) (Yld.move rfl) ?_
      refine WL.yld (by decide) (Yld.extract rfl rfl) ?_
      refine WL.yld (by decide) (Yld.extract rfl rfl) ?_
      refine WL.eff (by decide) (Eff.alloc 246 rfl zr_26) ?_
      rintro _ _ ⟨g146, rfl, rfl⟩
      refine WL.eff0 (Eff0.storeBAM 246 agg_26 rfl rfl rfl ⟨rfl, rfl⟩ rfl) ?_
      refine WL.yld (by decide) (Yld.assign rfl) ?_
      refine WL.done (hK137 _ _ ?_)
      refine WC.seqRegionD (n := 9) [(113, _), (223, _), (232, _), (236, _), (246, _)] rfl mixed (Sub.cons rfl (Sub.cons rfl (Sub.cons rfl (Sub.cons rfl (Sub.cons rfl (Sub.nil _)))))) fun K147 hK147 => ?_
      obtain ⟨x148, hx148, h⟩ := bnd h
      obtain ⟨x152, hx152, h⟩ := bnd h
      refine WD.take 0 rfl (by kernel_rfl) (by kernel_rfl) (by kernel_rfl) (by decide) (Yld.loadBM (k := 246) agg_26 rfl rfl rfl) ?_
      refine WD.take 1 rfl (by kernel_rfl) (by kernel_rfl) (by kernel_rfl) (by decide) (Yld.move rfl) ?_
      refine WD.one 2 (by kernel_rfl) ?_
      obtain ⟨rs149, hs150, hq151⟩ := Rels.slc hq25 hx148
      refine WS.yld rfl (by decide) (Yld.sliceHC (xs := rs24) sty_35 rfl rfl (RdH.own (k := 119) rfl) hs150) ?_
      refine WD.one 3 (by kernel_rfl) ?_
      refine WS.freeze 242 rfl rfl rfl rfl rfl fun M164 hm_M164 hf165 => ?_
      refine WS.freeze 119 rfl rfl rfl rfl rfl fun M166 hm_M166 hf167 => ?_
      refine WS.eff rfl (by decide) (Eff.callM 258 rfl Try.func47 nm_47 rfl rfl rfl (w_r03_Apply _ x138.1 x138.2.1 A143 n144 c145 _ (SlRc.lift hf165 hm_M166) A20 rs149.length c22 rs149 _ (SlT.slc0 hf167 hs150) (Rels.lift (Rels.lift hq151 hm_M164) hm_M166) hx152)) ?_
      rintro _ _ ⟨M168, _, ⟨A169, n170, c171, rs172, rfl, rfl, hq173⟩, hm_M168, rfl⟩
      refine ⟨(Sub.cons rfl (Sub.cons rfl (Sub.cons rfl (Sub.cons rfl (Sub.cons rfl (Sub.nil _)))))), ?_⟩
      refine WD.take 4 rfl (by kernel_rfl) (by kernel_rfl) (by kernel_rfl) (by decide) (Yld.move rfl) ?_
      refine WD.take 5 rfl (by kernel_rfl) (by kernel_rfl) (by kernel_rfl) (by decide) (Yld.extract rfl rfl) ?_
      refine WD.take 6 rfl (by kernel_rfl) (by kernel_rfl) (by kernel_rfl) (by decide) (Yld.extract rfl rfl) ?_
      refine WD.take 7 rfl (by kernel_rfl) (by kernel_rfl) (by kernel_rfl) (by decide) (Yld.assign rfl) ?_
      refine WD.take 8 rfl (by kernel_rfl) (by kernel_rfl) (by kernel_rfl) (by decide) (Yld.assign rfl) ?_
      refine WD.done (by kernel_rfl) (hK147 _ _ ?_)
      refine WC.seqRegion fun K174 hK174 => ?_
      obtain ⟨x175, hx175, h⟩ := bnd h
      refine WL.yld (by decide) (Yld.move rfl) ?_
      refine WL.freeze 258 rfl rfl rfl fun M187 hm_M187 hf188 => ?_
      refine WL.eff (by decide) (Eff.callM 281 rfl Try.func45 nm_45 rfl rfl rfl (w_r04_all _ A169 n170 c171 rs172 _ hf188 (Rels.lift hq173 hm_M187) hx175)) ?_
      rintro _ _ ⟨M189, _, ⟨A190, n191, c192, rs193, rfl, rfl, hq194⟩, hm_M189, rfl⟩
      refine WL.yld (by decide) (Yld.assign rfl) ?_
      refine WL.yld (by decide) (Yld.assign rfl) ?_
      refine WL.done (hK174 _ _ ?_)
      refine WC.ret ?_
      injection h with h; subst h
      exact Ret.fn [281] (ResIs.two rfl rfl rfl) rfl (Ext.trans (Ext.trans (Ext.trans (Ext.trans hm_M164 hm_M166) hm_M168) hm_M187) hm_M189) rfl (by decide) rfl rfl ⟨A190, n191, c192, rs193, rfl, rfl, hq194⟩
     ·
      skip
      refine WS.eff rfl (by decide) (Eff.alloc 236 rfl zr_26) ?_
      rintro _ _ ⟨g136, rfl, rfl⟩
      refine ⟨(Sub.cons rfl (Sub.cons rfl (Sub.cons rfl (Sub.nil _)))), ?_⟩
      refine WD.one 3 (by kernel_rfl) ?_
      refine WS.eff rfl (by decide) (Eff.callS 232 rfl Try.func31 nm_31 rfl rfl (fun w hb hh => w_r03_Pick (Mem.snap w) x119.1 x119.2.1 A124 n125 c126 _ (RdH.sn (RdH.own (k := 223) rfl) w hb hh) A14 x127.length c16 _ (RdH.sn (RdT.slc0 (RdH.own (k := 113) rfl) hx127) w hb hh) hx128)) ?_
      rintro _ _ ⟨_, ⟨A133, n134, c135, rfl, rfl⟩, rfl⟩
      refine ⟨(Sub.cons rfl (Sub.cons rfl (Sub.cons rfl (Sub.nil _)))), ?_⟩
      refine WD.take 4 rfl (by kernel_rfl) (by kernel_rfl) (by kernel_rfl) (by decide) (Yld.move rfl) ?_
      refine WD.take 5 rfl (by kernel_rfl) (by kernel_rfl) (by kernel_rfl) (by decide) (Yld.extract rfl rfl) ?_
      refine WD.take 6 rfl (by kernel_rfl) (by kernel_rfl) (by kernel_rfl) (by decide) (Yld.extract rfl rfl) ?_
      refine WD.one 8 (by kernel_rfl) ?_
      refine WS.eff0 rfl (Eff0.storeBAM 236 agg_26 rfl rfl rfl ⟨rfl, rfl⟩ rfl) (Sub.cons rfl (Sub.cons rfl (Sub.cons rfl (Sub.nil _)))) ?_
      refine WD.take 9 rfl (by kernel_rfl) (by kernel_rfl) (by kernel_rfl) (by decide) (Yld.assign rfl) ?_
      refine WD.done (by kernel_rfl) (hK118 _ _ ?_)
      refine WC.seqRegion fun K195 hK195 => ?_
      obtain ⟨x196, hx196, h⟩ := bnd h
      refine WL.yld (by decide) (Yld.loadBM (k := 236) agg_26 rfl rfl rfl) ?_
      refine WL.eff (by decide) (Eff.callS 300 rfl Try.func32 nm_32 rfl rfl (fun w hb hh => w_r03_Invert (Mem.snap w) x128.1 x128.2.1 A133 n134 c135 _ (RdH.sn (RdH.own (k := 232) rfl) w hb hh) hx196)) ?_
      rintro _ _ ⟨_, ⟨A201, n202, c203, rfl, rfl⟩, rfl⟩
      refine WL.yld (by decide) (Yld.move rfl) ?_
      refine WL.yld (by decide) (Yld.extract rfl rfl) ?_
      refine WL.yld (by decide) (Yld.extract rfl rfl) ?_
      refine WL.eff (by decide) (Eff.alloc 304 rfl zr_26) ?_
      rintro _ _ ⟨g204, rfl, rfl⟩
      refine WL.eff0 (Eff0.storeBAM 304 agg_26 rfl rfl rfl ⟨rfl, rfl⟩ rfl) ?_
      refine WL.yld (by decide) (Yld.assign rfl) ?_
      refine WL.done (hK195 _ _ ?_)
      refine WC.seqRegionD (n := 9) [(113, _), (223, _), (232, _), (236, _), (304, _)] rfl mixed (Sub.cons rfl (Sub.cons rfl (Sub.cons rfl (Sub.cons rfl (Sub.cons rfl (Sub.nil _)))))) fun K205 hK205 => ?_
      obtain ⟨x206, hx206, h⟩ := bnd h
      obtain ⟨x210, hx210, h⟩ := bnd h
      refine WD.take 0 rfl (by kernel_rfl) (by kernel_rfl) (by kernel_rfl) (by decide) (Yld.loadBM (k := 304) agg_26 rfl rfl rfl) ?_
      refine WD.take 1 rfl (by kernel_rfl) (by kernel_rfl) (by kernel_rfl) (by decide) (Yld.move rfl) ?_
      refine WD.one 2 (by kernel_rfl) ?_
      obtain ⟨rs207, hs208, hq209⟩ := Rels.slc hq25 hx206
      refine WS.yld rfl (by decide) (Yld.sliceHC (xs := rs24) sty_35 rfl rfl (RdH.own (k := 119) rfl) hs208) ?_
      refine WD.one 3 (by kernel_rfl) ?_
      refine WS.freeze 300 rfl rfl rfl rfl rfl fun M222 hm_M222 hf223 => ?_
      refine WS.freeze 119 rfl rfl rfl rfl rfl fun M224 hm_M224 hf225 => ?_
      refine WS.eff rfl (by decide) (Eff.callM 316 rfl Try.func47 nm_47 rfl rfl rfl (w_r03_Apply _ x196.1 x196.2.1 A201 n202 c203 _ (SlRc.lift hf223 hm_M224) A20 rs207.length c22 rs207 _ (SlT.slc0 hf225 hs208) (Rels.lift (Rels.lift hq209 hm_M222) hm_M224) hx210)) ?_
      rintro _ _ ⟨M226, _, ⟨A227, n228, c229, rs230, rfl, rfl, hq231⟩, hm_M226, rfl⟩
      refine ⟨(Sub.cons rfl (Sub.cons rfl (Sub.cons rfl (Sub.cons rfl (Sub.cons rfl (Sub.nil _)))))), ?_⟩
      refine WD.take 4 rfl (by kernel_rfl) (by kernel_rfl) (by kernel_rfl) (by decide) (Yld.move rfl) ?_
      refine WD.take 5 rfl (by kernel_rfl) (by kernel_rfl) (by kernel_rfl) (by decide) (Yld.extract rfl rfl) ?_
      refine WD.take 6 rfl (by kernel_rfl) (by kernel_rfl) (by kernel_rfl) (by decide) (Yld.extract rfl rfl) ?_
      refine WD.take 7 rfl (by kernel_rfl) (by kernel_rfl) (by kernel_rfl) (by decide) (Yld.assign rfl) ?_
      refine WD.take 8 rfl (by kernel_rfl) (by kernel_rfl) (by kernel_rfl) (by decide) (Yld.assign rfl) ?_
      refine WD.done (by kernel_rfl) (hK205 _ _ ?_)
      refine WC.seqRegion fun K232 hK232 => ?_
      obtain ⟨x233, hx233, h⟩ := bnd h
      refine WL.yld (by decide) (Yld.move rfl) ?_
      refine WL.freeze 316 rfl rfl rfl fun M245 hm_M245 hf246 => ?_
      refine WL.eff (by decide) (Eff.callM 339 rfl Try.func45 nm_45 rfl rfl rfl (w_r04_all _ A227 n228 c229 rs230 _ hf246 (Rels.lift hq231 hm_M245) hx233)) ?_
      rintro _ _ ⟨M247, _, ⟨A248, n249, c250, rs251, rfl, rfl, hq252⟩, hm_M247, rfl⟩
      refine WL.yld (by decide) (Yld.assign rfl) ?_
      refine WL.yld (by decide) (Yld.assign rfl) ?_
      refine WL.done (hK232 _ _ ?_)
      refine WC.ret ?_
      injection h with h; subst h
      exact Ret.fn [339] (ResIs.two rfl rfl rfl) rfl (Ext.trans (Ext.trans (Ext.trans (Ext.trans hm_M222 hm_M224) hm_M226) hm_M245) hm_M247) rfl (by decide) rfl rfl ⟨A248, n249, c250, rs251, rfl, rfl, hq252⟩
    ·
     skip
     refine WS.eff rfl (by decide) (Eff.alloc 236 rfl zr_26) ?_
     rintro _ _ ⟨g136, rfl, rfl⟩
     refine ⟨(Sub.cons rfl (Sub.cons rfl (Sub.cons rfl (Sub.nil _)))), ?_⟩
     refine WD.one 0 (by kernel_rfl) ?_
     refine WS.eff rfl (by decide) (Eff.callS 223 rfl Try.func12 nm_12 rfl rfl (fun w hb hh => w_r04_Code (Mem.snap w) hx119)) ?_
     rintro _ _ ⟨_, ⟨A124, n125, c126, rfl, rfl⟩, rfl⟩
     refine ⟨(Sub.cons rfl (Sub.cons rfl (Sub.cons rfl (Sub.nil _)))), ?_⟩
     refine WD.one 3 (by kernel_rfl) ?_
     refine WS.eff rfl (by decide) (Eff.callS 232 rfl Try.func31 nm_31 rfl rfl (fun w hb hh => w_r03_Pick (Mem.snap w) x119.1 x119.2.1 A124 n125 c126 _ (RdH.sn (RdH.own (k := 223) rfl) w hb hh) A14 x127.length c16 _ (RdH.sn (RdT.slc0 (RdH.own (k := 113) rfl) hx127) w hb hh) hx128)) ?_
     rintro _ _ ⟨_, ⟨A133, n134, c135, rfl, rfl⟩, rfl⟩
     refine ⟨(Sub.cons rfl (Sub.cons rfl (Sub.cons rfl (Sub.nil _)))), ?_⟩
     refine WD.take 4 rfl (by kernel_rfl) (by kernel_rfl) (by kernel_rfl) (by decide) (Yld.move rfl) ?_
     refine WD.take 5 rfl (by kernel_rfl) (by kernel_rfl) (by kernel_rfl) (by decide) (Yld.extract rfl rfl) ?_
     refine WD.take 6 rfl (by kernel_rfl) (by kernel_rfl) (by kernel_rfl) (by decide) (Yld.extract rfl rfl) ?_
     refine WD.one 8 (by kernel_rfl) ?_
     refine WS.eff0 rfl (Eff0.storeBAM 236 agg_26 rfl rfl rfl ⟨rfl, rfl⟩ rfl) (Sub.cons rfl (Sub.cons rfl (Sub.cons rfl (Sub.nil _)))) ?_
     refine WD.take 9 rfl (by kernel_rfl) (by kernel_rfl) (by kernel_rfl) (by decide) (Yld.assign rfl) ?_
     refine WD.done (by kernel_rfl) (hK118 _ _ ?_)
     refine WC.seqRegion fun K253 hK253 => ?_
     obtain ⟨x254, hx254, h⟩ := bnd h
     refine WL.yld (by decide) (Yld.loadBM (k := 236) agg_26 rfl rfl rfl) ?_
     refine WL.eff (by decide) (Eff.callS 358 rfl Try.func32 nm_32 rfl rfl (fun w hb hh => w_r03_Invert (Mem.snap w) x128.1 x128.2.1 A133 n134 c135 _ (RdH.sn (RdH.own (k := 232) rfl) w hb hh) hx254)) ?_
     rintro _ _ ⟨_, ⟨A259, n260, c261, rfl, rfl⟩, rfl⟩
     refine WL.yld (by decide) (Yld.move rfl) ?_
     refine WL.yld (by decide) (Yld.extract rfl rfl) ?_
     refine WL.yld (by decide) (Yld.extract rfl rfl) ?_
     refine WL.eff (by decide) (Eff.alloc 362 rfl zr_26) ?_
     rintro _ _ ⟨g262, rfl, rfl⟩
     refine WL.eff0 (Eff0.storeBAM 362 agg_26 rfl rfl rfl ⟨rfl, rfl⟩ rfl) ?_
     refine WL.yld (by decide) (Yld.assign rfl) ?_
     refine WL.done (hK253 _ _ ?_)
     refine WC.seqRegionD (n := 9) [(113, _), (223, _), (232, _), (236, _), (362, _)] rfl mixed (Sub.cons rfl (Sub.cons rfl (Sub.cons rfl (Sub.cons rfl (Sub.cons rfl (Sub.nil _)))))) fun K263 hK263 => ?_
     obtain ⟨x264, hx264, h⟩ := bnd h
     obtain ⟨x268, hx268, h⟩ := bnd h
     refine WD.take 0 rfl (by kernel_rfl) (by kernel_rfl) (by kernel_rfl) (by decide) (Yld.loadBM (k := 362) agg_26 rfl rfl rfl) ?_
     refine WD.take 1 rfl (by kernel_rfl) (by kernel_rfl) (by kernel_rfl) (by decide) (Yld.move rfl) ?_
     refine WD.one 2 (by kernel_rfl) ?_
     obtain ⟨rs265, hs266, hq267⟩ := Rels.slc hq25 hx264
     refine WS.yld rfl (by decide) (Yld.sliceHC (xs := rs24) sty_35 rfl rfl (RdH.own (k := 119) rfl) hs266) ?_
     refine WD.one 3 (by kernel_rfl) ?_
     refine WS.freeze 358 rfl rfl rfl rfl rfl fun M280 hm_M280 hf281 => ?_
     refine WS.freeze 119 rfl rfl rfl rfl rfl fun M282 hm_M282 hf283 => ?_
     refine WS.eff rfl (by decide) (Eff.callM 374 rfl Try.func47 nm_47 rfl rfl rfl (w_r03_Apply _ x254.1 x254.2.1 A259 n260 c261 _ (SlRc.lift hf281 hm_M282) A20 rs265.length c22 rs265 _ (SlT.slc0 hf283 hs266) (Rels.lift (Rels.lift hq267 hm_M280) hm_M282) hx268)) ?_
     rintro _ _ ⟨M284, _, ⟨A285, n286, c287, rs288, rfl, rfl, hq289⟩, hm_M284, rfl⟩
     refine ⟨(Sub.cons rfl (Sub.cons rfl (Sub.cons rfl (Sub.cons rfl (Sub.cons rfl (Sub.nil _)))))), ?_⟩
     refine WD.take 4 rfl (by kernel_rfl) (by kernel_rfl) (by kernel_rfl) (by decide) (Yld.move rfl) ?_
     refine WD.take 5 rfl (by kernel_rfl) (by kernel_rfl) (by kernel_rfl) (by decide) (Yld.extract rfl rfl) ?_
     refine WD.take 6 rfl (by kernel_rfl) (by kernel_rfl) (by kernel_rfl) (by decide) (Yld.extract rfl rfl) ?_
     refine WD.take 7 rfl (by kernel_rfl) (by kernel_rfl) (by kernel_rfl) (by decide) (Yld.assign rfl) ?_
     refine WD.take 8 rfl (by kernel_rfl) (by kernel_rfl) (by kernel_rfl) (by decide) (Yld.assign rfl) ?_
     refine WD.done (by kernel_rfl) (hK263 _ _ ?_)
     refine WC.seqRegion fun K290 hK290 => ?_
     obtain ⟨x291, hx291, h⟩ := bnd h
     refine WL.yld (by decide) (Yld.move rfl) ?_
     refine WL.freeze 374 rfl rfl rfl fun M303 hm_M303 hf304 => ?_
     refine WL.eff (by decide) (Eff.callM 397 rfl Try.func45 nm_45 rfl rfl rfl (w_r04_all _ A285 n286 c287 rs288 _ hf304 (Rels.lift hq289 hm_M303) hx291)) ?_
     rintro _ _ ⟨M305, _, ⟨A306, n307, c308, rs309, rfl, rfl, hq310⟩, hm_M305, rfl⟩
     refine WL.yld (by decide) (Yld.assign rfl) ?_
     refine WL.yld (by decide) (Yld.assign rfl) ?_
     refine WL.done (hK290 _ _ ?_)
     refine WC.ret ?_
     injection h with h; subst h
     exact Ret.fn [397] (ResIs.two rfl rfl rfl) rfl (Ext.trans (Ext.trans (Ext.trans (Ext.trans hm_M280 hm_M282) hm_M284) hm_M303) hm_M305) rfl (by decide) rfl rfl ⟨A306, n307, c308, rs309, rfl, rfl, hq310⟩

set_option maxRecDepth 10000 in
theorem w_r04_Locate (M0 : Mem) (A00 : Option Addr) (n00 c00 : Nat) (rs00 : List Hdr) (x00 : List (List (BitVec 8))) (hf00 : SlT M0 A00 n00 c00 rs00) (hq00 : Rels ((RelB (α := BitVec 8)) M0) rs00 x00) {res : Int × Int} (h : m_r04_Locate x00 = some res) :
  Fn Try.prog 27 #[.slice A00 n00 c00] M0 fun r M' es => r = .tuple #[I64 res.1, I64 res.2] ∧ es = [] := by
 refine Fn.intro (N := 54) Try.func27 rfl rfl (Nat.le_of_ble_eq_true rfl) fun w0 => ?_
 unfold m_r04_Locate at h
 refine WC.seqRegion fun K1 hK1 => ?_
 refine WL.yld (by decide) (Yld.assign rfl) ?_
 refine WL.yld (by decide) (Yld.assign rfl) ?_
 refine WL.done (hK1 _ _ ?_)
 refine WC.seq fun K2 hK2 => ?_
 refine WC.seqRegion fun K3 hK3 => ?_
 obtain ⟨x4, hx4, h⟩ := bnd h
 refine WL.yld (by decide) (Yld.move rfl) ?_
 refine WL.eff (by decide) (Eff.callS 105 rfl Try.func44 nm_44 rfl rfl (fun w hb hh => w_r04_Level (Mem.snap w) A00 n00 c00 rs00 _ (RdH.sn (RdH.memM (k := 0) rfl hf00) w hb hh) (Rels.sn hq00 (hh.sat 0 _ rfl)) (6 : Int) hx4)) ?_
 rintro _ _ ⟨_, ⟨rfl, rfl⟩, rfl⟩
 refine WL.yld (by decide) (Yld.notB rfl) ?_
 refine WL.done (hK3 _ _ ?_)
 by_cases hc6 : x4 = true
 ·
  replace h := of_t hc6 h
  refine WC.condFe rfl (not_f hc6) ?_
  refine WC.skip ?_
  refine QK.thenN (hK2 _ _ ?_)
  refine WC.seq fun K7 hK7 => ?_
  refine WC.seqRegion fun K8 hK8 => ?_
  obtain ⟨x9, hx9, h⟩ := bnd h
  refine WL.yld (by decide) (Yld.move rfl) ?_
  refine WL.eff (by decide) (Eff.callS 110 rfl Try.func25 nm_25 rfl rfl (fun w hb hh => w_r04_Verify (Mem.snap w) A00 n00 c00 rs00 _ (RdH.sn (RdH.memM (k := 0) rfl hf00) w hb hh) (Rels.sn hq00 (hh.sat 0 _ rfl)) hx9)) ?_
  rintro _ _ ⟨_, ⟨rfl, rfl⟩, rfl⟩
  refine WL.done (hK8 _ _ ?_)
  by_cases hc11 : x9 = true
  ·
   replace h := of_t hc11 h
   refine WC.condTe rfl hc11 ?_
   refine WC.seqRegion fun K12 hK12 => ?_
   refine WL.yld (by decide) (Yld.assign rfl) ?_
   refine WL.yld (by decide) (Yld.assign rfl) ?_
   refine WL.done (hK12 _ _ ?_)
   refine WC.ret (QK.thenR ?_)
   injection h with h; subst h
   exact Ret.fn [] (ResIs.two rfl rfl rfl) rfl (Ext.refl _ _) rfl (by decide) rfl rfl ⟨rfl, rfl⟩
  ·
   replace h := of_f hc11 h
   refine WC.condFe rfl (Bool.eq_false_iff.2 hc11) ?_
   refine WC.skip ?_
   refine QK.thenN (hK7 _ _ ?_)
   refine WC.seqCut (σ := Mem) (fun M13 => []) (fun M13 => [(0, .mem M13)]) (fun M13 => m_r04_Locate_j0 = some res ∧ Ext w0.heap.size M0 M13) (fun K14 hK14 => ?_) ?_
   ·
    skip
    refine WC.seqRegion fun K15 hK15 => ?_
    refine WL.yld (by decide) (Yld.assign rfl) ?_
    refine WL.done (hK15 _ _ ?_)
    refine WC.block ?_
    refine WC.loop (σ := Nat × Mem × Int) (fun ⟨q18, M16, x17⟩ => [(0, .slice A00 n00 c00), (4, I64 x17)]) (fun ⟨q18, M16, x17⟩ => [(0, .mem M16)]) (fun ⟨q18, M16, x17⟩ => m_r04_Locate_l1 x00 q18 x17 = some res ∧ Ext w0.heap.size M0 M16) (fun ⟨q18, M16, x17⟩ => q18) ⟨forever, M0, (0 : Int)⟩ ?_ (Sub.cons rfl (Sub.cons rfl (Sub.nil _))) (Sub.cons rfl (Sub.nil _)) ?_
    ·
     exact ⟨h, (Ext.refl _ _)⟩
    rintro ⟨q18, M16, x17⟩ ⟨h, hm_M16⟩ K19 hK19
    cases q18 with
    | zero => exact absurd h (by simp [m_r04_Locate_l1])
    | succ q18 =>
     unfold m_r04_Locate_l1 at h
     refine WC.seq fun K20 hK20 => ?_
     refine WC.seqRegion fun K21 hK21 => ?_
     refine WL.yld (by decide) (Yld.move rfl) ?_
     refine WL.yld (by decide) (Yld.lss rfl rfl) ?_
     refine WL.done (hK21 _ _ ?_)
     by_cases hc22 : x17 < (6 : Int)
     ·
      replace h := of_t hc22 h
      refine WC.condTe rfl (decide_eq_true hc22) ?_
      refine WC.skip ?_
      refine QK.thenN (hK20 _ _ ?_)
      refine WC.seqCut (σ := Mem) (fun M23 => [(0, .slice A00 n00 c00), (4, I64 x17)]) (fun M23 => [(0, .mem M23)]) (fun M23 => m_r04_Locate_j2 x17 (m_r04_Locate_l1 x00 q18) = some res ∧ Ext w0.heap.size M16 M23) (fun K24 hK24 => ?_) ?_
      ·
       skip
       refine WC.block ?_
       refine WC.seqRegion fun K25 hK25 => ?_
       refine WL.eff (by decide) (Eff.buildC 126 ([true, true, true, true, true, true] : List (Bool)) sty_36 rfl rfl rfl rfl rfl (by decide)) ?_
       rintro _ _ ⟨g26, rfl, rfl⟩
       refine WL.yld (by decide) (Yld.assign rfl) ?_
       refine WL.done (hK25 _ _ ?_)
       refine WC.seqRegion fun K27 hK27 => ?_
       obtain ⟨x28, hx28, h⟩ := bnd h
       obtain ⟨x29, hx29, h⟩ := bnd h
       refine WL.yld (by decide) (Yld.move rfl) ?_
       refine WL.yld (by decide) (Yld.move rfl) ?_
       refine WL.yld (by decide) (Yld.idxC (xs := ([true, true, true, true, true, true] : List (Bool))) sty_36 rfl rfl (RdH.own (k := 126) rfl) hx28) ?_
       refine WL.eff0 (Eff0.storeC1 126 (xs := ([true, true, true, true, true, true] : List (Bool))) (a' := false) siz_4 rfl rfl rfl rfl rfl rfl hx29) ?_
       refine WL.done (hK27 _ _ ?_)
       refine WC.seqRegion fun K30 hK30 => ?_
       obtain ⟨x31, hx31, h⟩ := bnd h
       refine WL.yld (by decide) (Yld.move rfl) ?_
       refine WL.yld (by decide) (Yld.move rfl) ?_
       refine WL.freeze 126 rfl rfl rfl fun M43 hm_M43 hf44 => ?_
       refine WL.eff (by decide) (Eff.callM 137 rfl Try.func20 nm_20 rfl rfl rfl (w_r04_Restore _ A00 n00 c00 rs00 _ (SlRc.lift (SlRc.lift hf00 hm_M16) hm_M43) (Rels.lift (Rels.lift hq00 hm_M16) hm_M43) (some ⟨g26, 0, none⟩) (([true, true, true, true, true, true] : List (Bool)).length) (([true, true, true, true, true, true] : List (Bool)).length) _ hf44 hx31)) ?_
       rintro _ _ ⟨M45, _, ⟨A46, n47, c48, rs49, rfl, rfl, hq50⟩, hm_M45, rfl⟩
       refine WL.yld (by decide) (Yld.move rfl) ?_
       refine WL.yld (by decide) (Yld.extract rfl rfl) ?_
       refine WL.yld (by decide) (Yld.extract rfl rfl) ?_
       refine WL.yld (by decide) (Yld.assign rfl) ?_
       refine WL.yld (by decide) (Yld.assign rfl) ?_
       refine WL.done (hK30 _ _ ?_)
       refine WC.seqRegion fun K51 hK51 => ?_
       refine WL.yld (by decide) (Yld.assign rfl) ?_
       refine WL.done (hK51 _ _ ?_)
       refine WC.seqCut (σ := Bool) (fun x52 => [(0, .slice A00 n00 c00), (4, I64 x17), (8, .bool x52)]) (fun x52 => [(0, .mem M45)]) (fun x52 => m_r04_Locate_j3 x17 (m_r04_Locate_l1 x00 q18) x52 = some res) (fun K53 hK53 => ?_) ?_
       ·
        skip
        refine WC.seqRegion fun K54 hK54 => ?_
        refine WL.yld (by decide) (Yld.assign rfl) ?_
        refine WL.done (hK54 _ _ ?_)
        refine WC.block ?_
        refine WC.loop (σ := Nat × Bool × Int) (fun ⟨q57, x55, x56⟩ => [(0, .slice A00 n00 c00), (4, I64 x17), (6, .slice A46 n47 c48), (8, .bool x55), (9, I64 x56)]) (fun ⟨q57, x55, x56⟩ => [(0, .mem M45), (137, .own 22 (Lay.sz Hdr) A46 n47 c48 (cel rs49))]) (fun ⟨q57, x55, x56⟩ => m_r04_Locate_l4 x00 x17 x31 (m_r04_Locate_l1 x00 q18) q57 x55 x56 = some res) (fun ⟨q57, x55, x56⟩ => q57) ⟨forever, true, (0 : Int)⟩ ?_ (Sub.cons rfl (Sub.cons rfl (Sub.cons rfl (Sub.cons rfl (Sub.cons rfl (Sub.nil _)))))) (Sub.cons rfl (Sub.cons rfl (Sub.nil _))) ?_
        ·
         exact h
        rintro ⟨q57, x55, x56⟩ h K58 hK58
        cases q57 with
        | zero => exact absurd h (by simp [m_r04_Locate_l4])
        | succ q57 =>
         unfold m_r04_Locate_l4 at h
         refine WC.seq fun K59 hK59 => ?_
         refine WC.seqRegion fun K60 hK60 => ?_
         refine WL.yld (by decide) (Yld.move rfl) ?_
         refine WL.yld (by decide) (Yld.lss rfl rfl) ?_
         refine WL.done (hK60 _ _ ?_)
         by_cases hc61 : x56 < (6 : Int)
         ·
          replace h := of_t hc61 h
          refine WC.condTe rfl (decide_eq_true hc61) ?_
          refine WC.skip ?_
          refine QK.thenN (hK59 _ _ ?_)
          refine WC.seq fun K62 hK62 => ?_
          refine WC.block ?_
          refine WC.regionD (n := 20) [(0, _), (137, _)] rfl mixed (Sub.cons rfl (Sub.cons rfl (Sub.nil _))) fun K63 hK63 => ?_
          by_cases hc64 : x55 = true
          ·
           replace h := of_t hc64 h
           by_cases hc65 : x56 = x17
           ·
            replace h := of_t hc65 h
            refine WD.take 0 rfl (by kernel_rfl) (by kernel_rfl) (by kernel_rfl) (by decide) (Yld.move rfl) ?_
            refine WD.take 1 rfl (by kernel_rfl) (by kernel_rfl) (by kernel_rfl) (by decide) (Yld.move rfl) ?_
            refine WD.new (v' := .bool true) (congrArg Value.bool hc64) ?_
            refine WD.takeG 2 rfl (by kernel_rfl) (by kernel_rfl) (by kernel_rfl) (by decide) rfl (Yld.move rfl) ?_
            refine WD.takeG 3 rfl (by kernel_rfl) (by kernel_rfl) (by kernel_rfl) (by decide) rfl (Yld.move rfl) ?_
            refine WD.takeG 4 rfl (by kernel_rfl) (by kernel_rfl) (by kernel_rfl) (by decide) rfl (Yld.eqlI rfl rfl) ?_
            refine WD.takeG 5 rfl (by kernel_rfl) (by kernel_rfl) (by kernel_rfl) (by decide) rfl (Yld.move rfl) ?_
            refine WD.new (v' := .bool true) (congrArg Value.bool (beq_iff_eq.2 hc65)) ?_
            refine WD.takeS 6 rfl (by kernel_rfl) (by kernel_rfl) (by kernel_rfl) (by decide) rfl rfl ?_
            refine WD.takeS 7 rfl (by kernel_rfl) (by kernel_rfl) (by kernel_rfl) (by decide) rfl rfl ?_
            refine WD.takeS 8 rfl (by kernel_rfl) (by kernel_rfl) (by kernel_rfl) (by decide) rfl rfl ?_
            refine WD.takeS 9 rfl (by kernel_rfl) (by kernel_rfl) (by kernel_rfl) (by decide) rfl rfl ?_
            refine WD.takeS 10 rfl (by kernel_rfl) (by kernel_rfl) (by kernel_rfl) (by decide) rfl rfl ?_
            refine WD.takeS 11 rfl (by kernel_rfl) (by kernel_rfl) (by kernel_rfl) (by decide) rfl rfl ?_
            refine WD.takeS 12 rfl (by kernel_rfl) (by kernel_rfl) (by kernel_rfl) (by decide) rfl rfl ?_
            refine WD.takeS 13 rfl (by kernel_rfl) (by kernel_rfl) (by kernel_rfl) (by decide) rfl rfl ?_
            refine WD.takeS 14 rfl (by kernel_rfl) (by kernel_rfl) (by kernel_rfl) (by decide) rfl rfl ?_
            refine WD.takeS 15 rfl (by kernel_rfl) (by kernel_rfl) (by kernel_rfl) (by decide) rfl rfl ?_
            refine WD.takeS 16 rfl (by kernel_rfl) (by kernel_rfl) (by kernel_rfl) (by decide) rfl rfl ?_
            refine WD.takeG 17 rfl (by kernel_rfl) (by kernel_rfl) (by kernel_rfl) (by decide) rfl (Yld.pickT rfl rfl) ?_
            refine WD.take 18 rfl (by kernel_rfl) (by kernel_rfl) (by kernel_rfl) (by decide) (Yld.pickT rfl rfl) ?_
            refine WD.take 19 rfl (by kernel_rfl) (by kernel_rfl) (by kernel_rfl) (by decide) (Yld.assign rfl) ?_
            refine WD.done (by kernel_rfl) (hK63 _ _ ?_)
            refine QK.blockN ?_
            refine QK.thenN (hK62 _ _ ?_)
            refine WC.region fun K66 hK66 => ?_
            obtain ⟨x67, hx67, h⟩ := bnd h
            refine WL.yld (by decide) (Yld.move rfl) ?_
            refine WL.yld (by decide) (Yld.addC rfl rfl hx67) ?_
            refine WL.yld (by decide) (Yld.assign rfl) ?_
            refine WL.done (hK66 _ _ ?_)
            refine QK.thenN ?_
            refine hK58 ⟨q57, true, x67⟩ _ _ ?_ (Nat.lt_succ_self _) (Sub.cons rfl (Sub.cons rfl (Sub.cons rfl (Sub.cons rfl (Sub.cons rfl (Sub.nil _)))))) (Sub.cons rfl (Sub.cons rfl (Sub.nil _)))
            exact h
           ·
            replace h := of_f hc65 h
            obtain ⟨x68, hx68, h⟩ := bnd h
            obtain ⟨x72, hx72, h⟩ := bnd h
            refine WD.take 0 rfl (by kernel_rfl) (by kernel_rfl) (by kernel_rfl) (by decide) (Yld.move rfl) ?_
            refine WD.take 1 rfl (by kernel_rfl) (by kernel_rfl) (by kernel_rfl) (by decide) (Yld.move rfl) ?_
            refine WD.new (v' := .bool true) (congrArg Value.bool hc64) ?_
            refine WD.takeG 2 rfl (by kernel_rfl) (by kernel_rfl) (by kernel_rfl) (by decide) rfl (Yld.move rfl) ?_
            refine WD.takeG 3 rfl (by kernel_rfl) (by kernel_rfl) (by kernel_rfl) (by decide) rfl (Yld.move rfl) ?_
            refine WD.takeG 4 rfl (by kernel_rfl) (by kernel_rfl) (by kernel_rfl) (by decide) rfl (Yld.eqlI rfl rfl) ?_
            refine WD.takeG 5 rfl (by kernel_rfl) (by kernel_rfl) (by kernel_rfl) (by decide) rfl (Yld.move rfl) ?_
            refine WD.new (v' := .bool false) (congrArg Value.bool (beq_eq_false_iff_ne.2 hc65)) ?_
            refine WD.takeG 6 rfl (by kernel_rfl) (by kernel_rfl) (by kernel_rfl) (by decide) rfl (Yld.move rfl) ?_
            refine WD.takeG 7 rfl (by kernel_rfl) (by kernel_rfl) (by kernel_rfl) (by decide) rfl (Yld.move rfl) ?_
            obtain ⟨r_69, hr70, hq71⟩ := Rels.idx hq50 hx68
            refine WD.takeG 8 rfl (by kernel_rfl) (by kernel_rfl) (by kernel_rfl) (by decide) rfl (Yld.idxC (xs := rs49) sty_35 rfl rfl (RdH.own (k := 137) rfl) hr70) ?_
            refine WD.takeG 9 rfl (by kernel_rfl) (by kernel_rfl) (by kernel_rfl) (by decide) rfl (Yld.loadC0 (xs := rs49) scal_22 rfl (RdH.own (k := 137) rfl) hr70 rfl) ?_
            refine WD.takeG 10 rfl (by kernel_rfl) (by kernel_rfl) (by kernel_rfl) (by decide) rfl (Yld.b2sC (xs := x68) und_22 und_5 und_9 rfl (RdH.memM (k := 0) rfl hq71)) ?_
            refine WD.takeG 11 rfl (by kernel_rfl) (by kernel_rfl) (by kernel_rfl) (by decide) rfl (Yld.move rfl) ?_
            refine WD.takeG 12 rfl (by kernel_rfl) (by kernel_rfl) (by kernel_rfl) (by decide) rfl (Yld.move rfl) ?_
            obtain ⟨r_73, hr74, hq75⟩ := Rels.idx (Rels.lift (Rels.lift (Rels.lift hq00 hm_M16) hm_M43) hm_M45) hx72
            refine WD.takeG 13 rfl (by kernel_rfl) (by kernel_rfl) (by kernel_rfl) (by decide) rfl (Yld.idxC (xs := rs00) sty_35 rfl rfl (RdH.memM (k := 0) rfl (SlRc.lift (SlRc.lift (SlRc.lift hf00 hm_M16) hm_M43) hm_M45)) hr74) ?_
            refine WD.takeG 14 rfl (by kernel_rfl) (by kernel_rfl) (by kernel_rfl) (by decide) rfl (Yld.loadC0 (xs := rs00) scal_22 rfl (RdH.memM (k := 0) rfl (SlRc.lift (SlRc.lift (SlRc.lift hf00 hm_M16) hm_M43) hm_M45)) hr74 rfl) ?_
            refine WD.takeG 15 rfl (by kernel_rfl) (by kernel_rfl) (by kernel_rfl) (by decide) rfl (Yld.b2sC (xs := x72) und_22 und_5 und_9 rfl (RdH.memM (k := 0) rfl hq75)) ?_
            refine WD.takeG 16 rfl (by kernel_rfl) (by kernel_rfl) (by kernel_rfl) (by decide) rfl (Yld.eqlStr (a := x68) (b := x72) rfl rfl) ?_
            refine WD.takeG 17 rfl (by kernel_rfl) (by kernel_rfl) (by kernel_rfl) (by decide) rfl (Yld.pickF rfl rfl) ?_
            refine WD.take 18 rfl (by kernel_rfl) (by kernel_rfl) (by kernel_rfl) (by decide) (Yld.pickT rfl rfl) ?_
            refine WD.take 19 rfl (by kernel_rfl) (by kernel_rfl) (by kernel_rfl) (by decide) (Yld.assign rfl) ?_
            refine WD.done (by kernel_rfl) (hK63 _ _ ?_)
            refine QK.blockN ?_
            refine QK.thenN (hK62 _ _ ?_)
            refine WC.region fun K76 hK76 => ?_
            obtain ⟨x77, hx77, h⟩ := bnd h
            refine WL.yld (by decide) (Yld.move rfl) ?_
            refine WL.yld (by decide) (Yld.addC rfl rfl hx77) ?_
            refine WL.yld (by decide) (Yld.assign rfl) ?_
            refine WL.done (hK76 _ _ ?_)
            refine QK.thenN ?_
            refine hK58 ⟨q57, (x68 == x72), x77⟩ _ _ ?_ (Nat.lt_succ_self _) (Sub.cons rfl (Sub.cons rfl (Sub.cons rfl (Sub.cons rfl (Sub.cons rfl (Sub.nil _)))))) (Sub.cons rfl (Sub.cons rfl (Sub.nil _)))
            exact h
          ·
           replace h := of_f hc64 h
           refine WD.take 0 rfl (by kernel_rfl) (by kernel_rfl) (by kernel_rfl) (by decide) (Yld.move rfl) ?_
           refine WD.take 1 rfl (by kernel_rfl) (by kernel_rfl) (by kernel_rfl) (by decide) (Yld.move rfl) ?_
           refine WD.new (v' := .bool false) (congrArg Value.bool (Bool.eq_false_iff.2 hc64)) ?_
           refine WD.takeS 2 rfl (by kernel_rfl) (by kernel_rfl) (by kernel_rfl) (by decide) rfl rfl ?_
           refine WD.takeS 3 rfl (by kernel_rfl) (by kernel_rfl) (by kernel_rfl) (by decide) rfl rfl ?_
           refine WD.takeS 4 rfl (by kernel_rfl) (by kernel_rfl) (by kernel_rfl) (by decide) rfl rfl ?_
           refine WD.takeS 5 rfl (by kernel_rfl) (by kernel_rfl) (by kernel_rfl) (by decide) rfl rfl ?_
           refine WD.takeU 6 rfl (by kernel_rfl) (by kernel_rfl) (by kernel_rfl) (by decide) rfl ?_
           refine WD.takeU 7 rfl (by kernel_rfl) (by kernel_rfl) (by kernel_rfl) (by decide) rfl ?_
           refine WD.takeU 8 rfl (by kernel_rfl) (by kernel_rfl) (by kernel_rfl) (by decide) rfl ?_
           refine WD.takeU 9 rfl (by kernel_rfl) (by kernel_rfl) (by kernel_rfl) (by decide) rfl ?_
           refine WD.takeU 10 rfl (by kernel_rfl) (by kernel_rfl) (by kernel_rfl) (by decide) rfl ?_
           refine WD.takeU 11 rfl (by kernel_rfl) (by kernel_rfl) (by kernel_rfl) (by decide) rfl ?_
           refine WD.takeU 12 rfl (by kernel_rfl) (by kernel_rfl) (by kernel_rfl) (by decide) rfl ?_
           refine WD.takeU 13 rfl (by kernel_rfl) (by kernel_rfl) (by kernel_rfl) (by decide) rfl ?_
           refine WD.takeU 14 rfl (by kernel_rfl) (by kernel_rfl) (by kernel_rfl) (by decide) rfl ?_
           refine WD.takeU 15 rfl (by kernel_rfl) (by kernel_rfl) (by kernel_rfl) (by decide) rfl ?_
           refine WD.takeU 16 rfl (by kernel_rfl) (by kernel_rfl) (by kernel_rfl) (by decide) rfl ?_
           refine WD.takeS 17 rfl (by kernel_rfl) (by kernel_rfl) (by kernel_rfl) (by decide) rfl rfl ?_
           refine WD.take 18 rfl (by kernel_rfl) (by kernel_rfl) (by kernel_rfl) (by decide) (Yld.pickF rfl rfl) ?_
           refine WD.take 19 rfl (by kernel_rfl) (by kernel_rfl) (by kernel_rfl) (by decide) (Yld.assign rfl) ?_
           refine WD.done (by kernel_rfl) (hK63 _ _ ?_)
           refine QK.blockN ?_
           refine QK.thenN (hK62 _ _ ?_)
           refine WC.region fun K78 hK78 => ?_
           obtain ⟨x79, hx79, h⟩ := bnd h
           refine WL.yld (by decide) (Yld.move rfl) ?_
           refine WL.yld (by decide) (Yld.addC rfl rfl hx79) ?_
           refine WL.yld (by decide) (Yld.assign rfl) ?_
           refine WL.done (hK78 _ _ ?_)
           refine QK.thenN ?_
           refine hK58 ⟨q57, false, x79⟩ _ _ ?_ (Nat.lt_succ_self _) (Sub.cons rfl (Sub.cons rfl (Sub.cons rfl (Sub.cons rfl (Sub.cons rfl (Sub.nil _)))))) (Sub.cons rfl (Sub.cons rfl (Sub.nil _)))
           exact h
         ·
          replace h := of_f hc61 h
          refine WC.condFe rfl (decide_eq_false hc61) ?_
          refine WC.exit (QK.thenE (QK.thenE (QK.blockX ?_)))
          refine QK.thenN ?_
          refine hK53 x55 _ _ ?_ (Sub.cons rfl (Sub.cons rfl (Sub.cons rfl (Sub.nil _)))) (Sub.cons rfl (Sub.nil _))
          exact h
       ·
        rintro x52 h
        unfold m_r04_Locate_j3 at h
        refine WC.seqRegion fun K80 hK80 => ?_
        refine WL.yld (by decide) (Yld.move rfl) ?_
        refine WL.done (hK80 _ _ ?_)
        by_cases hc81 : x52 = true
        ·
         replace h := of_t hc81 h
         refine WC.condTe rfl hc81 ?_
         refine WC.seqRegion fun K82 hK82 => ?_
         refine WL.yld (by decide) (Yld.move rfl) ?_
         refine WL.yld (by decide) (Yld.assign rfl) ?_
         refine WL.yld (by decide) (Yld.assign rfl) ?_
         refine WL.done (hK82 _ _ ?_)
         refine WC.ret (QK.blockR (QK.thenR (QK.thenR (QK.blockR (QK.thenR ?_)))))
         injection h with h; subst h
         exact Ret.fn [] (ResIs.two rfl rfl rfl) rfl (Ext.trans (Ext.trans hm_M16 hm_M43) hm_M45) rfl (by decide) rfl rfl ⟨rfl, rfl⟩
        ·
         replace h := of_f hc81 h
         refine WC.condFe rfl (Bool.eq_false_iff.2 hc81) ?_
         refine WC.skip ?_
         refine QK.blockN ?_
         refine QK.thenN ?_
         refine hK24 M45 _ _ ?_ (Sub.cons rfl (Sub.cons rfl (Sub.nil _))) (Sub.cons rfl (Sub.nil _))
         exact ⟨h, (Ext.trans hm_M43 hm_M45)⟩
      ·
       rintro M23 ⟨h, hm_M23⟩
       unfold m_r04_Locate_j2 at h
       refine WC.region fun K83 hK83 => ?_
       obtain ⟨x84, hx84, h⟩ := bnd h
       refine WL.yld (by decide) (Yld.move rfl) ?_
       refine WL.yld (by decide) (Yld.addC rfl rfl hx84) ?_
       refine WL.yld (by decide) (Yld.assign rfl) ?_
       refine WL.done (hK83 _ _ ?_)
       refine QK.thenN ?_
       refine hK19 ⟨q18, M23, x84⟩ _ _ ?_ (Nat.lt_succ_self _) (Sub.cons rfl (Sub.cons rfl (Sub.nil _))) (Sub.cons rfl (Sub.nil _))
       exact ⟨h, (Ext.trans hm_M16 hm_M23)⟩
     ·
      replace h := of_f hc22 h
      refine WC.condFe rfl (decide_eq_false hc22) ?_
      refine WC.exit (QK.thenE (QK.thenE (QK.blockX ?_)))
      refine QK.thenN ?_
      refine hK14 M16 _ _ ?_ (Sub.nil _) (Sub.cons rfl (Sub.nil _))
      exact ⟨h, hm_M16⟩
   ·
    rintro M13 ⟨h, hm_M13⟩
    unfold m_r04_Locate_j0 at h
    refine WC.seqRegion fun K85 hK85 => ?_
    refine WL.yld (by decide) (Yld.assign rfl) ?_
    refine WL.yld (by decide) (Yld.assign rfl) ?_
    refine WL.done (hK85 _ _ ?_)
    refine WC.ret ?_
    injection h with h; subst h
    exact Ret.fn [] (ResIs.two rfl rfl rfl) rfl hm_M13 rfl (by decide) rfl rfl ⟨rfl, rfl⟩
 ·
  replace h := of_f hc6 h
  refine WC.condTe rfl (not_t (Bool.eq_false_iff.2 hc6)) ?_
  refine WC.seqRegion fun K86 hK86 => ?_
  refine WL.yld (by decide) (Yld.assign rfl) ?_
  refine WL.yld (by decide) (Yld.assign rfl) ?_
  refine WL.done (hK86 _ _ ?_)
  refine WC.ret (QK.thenR ?_)
  injection h with h; subst h
  exact Ret.fn [] (ResIs.two rfl rfl rfl) rfl (Ext.refl _ _) rfl (by decide) rfl rfl ⟨rfl, rfl⟩

end Go.Proofs.Ytnbcphofimicdaa
