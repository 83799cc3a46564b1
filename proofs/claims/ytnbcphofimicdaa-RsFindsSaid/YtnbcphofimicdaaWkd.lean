/-
 Walks (d): what a function's model gives, the function returns. Printed by a program of ours (vcm.py) from the function's operations. Conditions: as each theorem says.
-/
import Derived.Test.YtnbcphofimicdaaWkc
import Derived.Test.YtnbcphofimicdaaMdd
namespace Go.Proofs.Ytnbcphofimicdaa
open Go Go.RowKit
set_option linter.unusedVariables false

theorem und_36 : Try.prog.underlying 36 = some (.slice 4) := by kernel_rfl
theorem und_4 : Try.prog.underlying 4 = some .bool := by kernel_rfl
theorem und_77 : Try.prog.underlying 77 = some (.array 6 4) := by kernel_rfl
theorem agg_77 : Agg Try.prog 77 6 := ⟨⟨_, Try.underlying77, rfl⟩, by kernel_rfl⟩
theorem eqg_77 : Try.prog.eqGuardType Try.prog.depth 77 = false := by kernel_rfl
theorem nm_11 : (Try.f11.name == "runtime.NumGoroutine") = false := by kernel_rfl
theorem nm_13 : (Try.f13.name == "runtime.NumGoroutine") = false := by kernel_rfl
theorem nm_14 : (Try.f14.name == "runtime.NumGoroutine") = false := by kernel_rfl
theorem nm_23 : (Try.f23.name == "runtime.NumGoroutine") = false := by kernel_rfl
theorem nm_24 : (Try.f24.name == "runtime.NumGoroutine") = false := by kernel_rfl
theorem nm_28 : (Try.f28.name == "runtime.NumGoroutine") = false := by kernel_rfl
theorem nm_29 : (Try.f29.name == "runtime.NumGoroutine") = false := by kernel_rfl
theorem nm_46 : (Try.f46.name == "runtime.NumGoroutine") = false := by kernel_rfl
theorem nm_48 : (Try.f48.name == "runtime.NumGoroutine") = false := by kernel_rfl
theorem nm_49 : (Try.f49.name == "runtime.NumGoroutine") = false := by kernel_rfl
theorem nm_50 : (Try.f50.name == "runtime.NumGoroutine") = false := by kernel_rfl
theorem nm_51 : (Try.f51.name == "runtime.NumGoroutine") = false := by kernel_rfl
theorem scal_4 : scal Try.prog 4 = true := by kernel_rfl
theorem siz_4 : (Try.prog.info? 4).map (·.size) = some 1 := by kernel_rfl
theorem zr_77 : (Try.prog.info? 77).map (fun i => i.zero.map (·.cells)) = some (some (cel (List.replicate 6 (false))).toArray) := by kernel_rfl

set_option maxRecDepth 10000 in
theorem w_rs_Code (M0 : Mem)  {res : Int × Int × (List (BitVec 8))} (h : m_rs_Code = some res) :
  Fn Try.prog 11 #[] M0 fun r M' es => ∃ (A1 : Option Addr) (n1 c1 : Nat), r = .agg ([I64 res.1, I64 res.2.1, .slice A1 n1 c1] : List Value).toArray ∧ es = [.own 5 (Lay.sz (BitVec 8)) A1 n1 c1 (cel res.2.2)] := by
 refine Fn.intro (N := 31) Try.func11 rfl rfl (Nat.le_of_ble_eq_true rfl) fun w0 => ?_
 unfold m_rs_Code at h
 refine WC.seqRegion fun K1 hK1 => ?_
 refine WL.eff (by decide) (Eff.alloc 102 rfl zr_24) ?_
 rintro _ _ ⟨g2, rfl, rfl⟩
 refine WL.done (hK1 _ _ ?_)
 refine WC.seqRegion fun K3 hK3 => ?_
 obtain ⟨x4, hx4, h⟩ := bnd h
 refine WL.eff (by decide) (Eff.callS 108 rfl Try.func28 nm_28 rfl rfl (fun w hb hh => w_gfmatrix_Vandermonde (Mem.snap w) (6 : Int) (4 : Int) hx4)) ?_
 rintro _ _ ⟨_, ⟨A9, n10, c11, rfl, rfl⟩, rfl⟩
 refine WL.yld (by decide) (Yld.move rfl) ?_
 refine WL.yld (by decide) (Yld.extract rfl rfl) ?_
 refine WL.yld (by decide) (Yld.extract rfl rfl) ?_
 refine WL.eff (by decide) (Eff.alloc 112 rfl zr_24) ?_
 rintro _ _ ⟨g12, rfl, rfl⟩
 refine WL.eff0 (Eff0.storeBAM 112 agg_24 rfl rfl rfl ⟨rfl, rfl⟩ rfl) ?_
 refine WL.yld (by decide) (Yld.assign rfl) ?_
 refine WL.done (hK3 _ _ ?_)
 refine WC.seqRegion fun K13 hK13 => ?_
 obtain ⟨x15, hx15, h⟩ := bnd h
 refine WL.yld (by decide) (Yld.loadBM (k := 112) agg_24 rfl rfl rfl) ?_
 refine WL.eff (by decide) (Eff.buildC 114 ([(0 : Int), (1 : Int), (2 : Int), (3 : Int)] : List (Int)) sty_28 rfl rfl rfl rfl rfl (by decide)) ?_
 rintro _ _ ⟨g14, rfl, rfl⟩
 refine WL.eff (by decide) (Eff.callS 119 rfl Try.func13 nm_13 rfl rfl (fun w hb hh => w_gfmatrix_Pick (Mem.snap w) x4.1 x4.2.1 A9 n10 c11 _ (RdH.sn (RdH.own (k := 108) rfl) w hb hh) (some ⟨g14, 0, none⟩) (([(0 : Int), (1 : Int), (2 : Int), (3 : Int)] : List (Int)).length) (([(0 : Int), (1 : Int), (2 : Int), (3 : Int)] : List (Int)).length) _ (RdH.sn (RdH.own (k := 114) rfl) w hb hh) hx15)) ?_
 rintro _ _ ⟨_, ⟨A20, n21, c22, rfl, rfl⟩, rfl⟩
 refine WL.yld (by decide) (Yld.move rfl) ?_
 refine WL.yld (by decide) (Yld.extract rfl rfl) ?_
 refine WL.yld (by decide) (Yld.extract rfl rfl) ?_
 refine WL.eff (by decide) (Eff.alloc 123 rfl zr_24) ?_
 rintro _ _ ⟨g23, rfl, rfl⟩
 refine WL.eff0 (Eff0.storeBAM 123 agg_24 rfl rfl rfl ⟨rfl, rfl⟩ rfl) ?_
 refine WL.yld (by decide) (Yld.assign rfl) ?_
 refine WL.done (hK13 _ _ ?_)
 refine WC.seqRegion fun K24 hK24 => ?_
 obtain ⟨x25, hx25, h⟩ := bnd h
 refine WL.yld (by decide) (Yld.loadBM (k := 123) agg_24 rfl rfl rfl) ?_
 refine WL.eff (by decide) (Eff.callS 129 rfl Try.func14 nm_14 rfl rfl (fun w hb hh => w_gfmatrix_Invert (Mem.snap w) x15.1 x15.2.1 A20 n21 c22 _ (RdH.sn (RdH.own (k := 119) rfl) w hb hh) hx25)) ?_
 rintro _ _ ⟨_, ⟨A30, n31, c32, rfl, rfl⟩, rfl⟩
 refine WL.yld (by decide) (Yld.move rfl) ?_
 refine WL.yld (by decide) (Yld.extract rfl rfl) ?_
 refine WL.yld (by decide) (Yld.extract rfl rfl) ?_
 refine WL.eff (by decide) (Eff.alloc 133 rfl zr_24) ?_
 rintro _ _ ⟨g33, rfl, rfl⟩
 refine WL.eff0 (Eff0.storeBAM 133 agg_24 rfl rfl rfl ⟨rfl, rfl⟩ rfl) ?_
 refine WL.yld (by decide) (Yld.assign rfl) ?_
 refine WL.done (hK24 _ _ ?_)
 refine WC.seqRegion fun K34 hK34 => ?_
 obtain ⟨x35, hx35, h⟩ := bnd h
 refine WL.yld (by decide) (Yld.loadBM (k := 112) agg_24 rfl rfl rfl) ?_
 refine WL.yld (by decide) (Yld.loadBM (k := 133) agg_24 rfl rfl rfl) ?_
 refine WL.eff (by decide) (Eff.callS 139 rfl Try.func29 nm_29 rfl rfl (fun w hb hh => w_gfmatrix_Mul (Mem.snap w) x4.1 x4.2.1 A9 n10 c11 _ (RdH.sn (RdH.own (k := 108) rfl) w hb hh) x25.1 x25.2.1 A30 n31 c32 _ (RdH.sn (RdH.own (k := 129) rfl) w hb hh) hx35)) ?_
 rintro _ _ ⟨_, ⟨A40, n41, c42, rfl, rfl⟩, rfl⟩
 refine WL.yld (by decide) (Yld.move rfl) ?_
 refine WL.yld (by decide) (Yld.extract rfl rfl) ?_
 refine WL.yld (by decide) (Yld.extract rfl rfl) ?_
 refine WL.eff (by decide) (Eff.alloc 143 rfl zr_24) ?_
 rintro _ _ ⟨g43, rfl, rfl⟩
 refine WL.eff0 (Eff0.storeBAM 143 agg_24 rfl rfl rfl ⟨rfl, rfl⟩ rfl) ?_
 refine WL.yld (by decide) (Yld.assign rfl) ?_
 refine WL.done (hK34 _ _ ?_)
 refine WC.seqRegion fun K44 hK44 => ?_
 refine WL.yld (by decide) (Yld.loadBM (k := 143) agg_24 rfl rfl rfl) ?_
 refine WL.eff0 (Eff0.storeBAM 102 agg_24 rfl rfl rfl ⟨rfl, rfl⟩ rfl) ?_
 refine WL.done (hK44 _ _ ?_)
 refine WC.ret ?_
 injection h with h; subst h
 exact Ret.fn [139] (ResIs.cellM (k := 102) rfl agg_24 rfl rfl (rfl)) rfl (Ext.refl _ _) rfl (by decide) rfl rfl ⟨A40, n41, c42, rfl, rfl⟩

set_option maxRecDepth 10000 in
theorem w_rs_Encode (M0 : Mem) (A00 : Option Addr) (n00 c00 : Nat) (rs00 : List Hdr) (x00 : List (List (BitVec 8))) (hf00 : SlT M0 A00 n00 c00 rs00) (hq00 : Rels ((RelB (α := BitVec 8)) M0) rs00 x00) {res : (List (List (BitVec 8))) × Int} (h : m_rs_Encode x00 = some res) :
  Fn Try.prog 23 #[.slice A00 n00 c00] M0 fun r M' es => ∃ (A1 : Option Addr) (n1 c1 : Nat), ∃ rs1 : List Hdr, r = .tuple #[.slice A1 n1 c1, I64 res.2] ∧ es = [.own 22 (Lay.sz Hdr) A1 n1 c1 (cel rs1)] ∧ Rels ((RelB (α := BitVec 8)) M') rs1 res.1 := by
 refine Fn.intro (N := 20) Try.func23 rfl rfl (Nat.le_of_ble_eq_true rfl) fun w0 => ?_
 unfold m_rs_Encode at h
 refine WC.seqRegion fun K1 hK1 => ?_
 refine WL.yld (by decide) (Yld.assign rfl) ?_
 refine WL.yld (by decide) (Yld.assign rfl) ?_
 refine WL.done (hK1 _ _ ?_)
 refine WC.seq fun K2 hK2 => ?_
 refine WC.seqRegion fun K3 hK3 => ?_
 refine WL.yld (by decide) (Yld.move rfl) ?_
 refine WL.yld (by decide) (Yld.lenD (rs := rs00) (xs := x00) (Rels.len hq00) und_35 rfl (RdH.memM (k := 0) rfl hf00)) ?_
 refine WL.yld (by decide) (Yld.neqI rfl rfl) ?_
 refine WL.done (hK3 _ _ ?_)
 by_cases hc4 : (x00.length : Int) = (4 : Int)
 ·
  replace h := of_t hc4 h
  refine WC.condFe rfl (bne_eq_false_iff_eq.2 hc4) ?_
  refine WC.skip ?_
  refine QK.thenN (hK2 _ _ ?_)
  refine WC.seqRegion fun K5 hK5 => ?_
  obtain ⟨x6, hx6, h⟩ := bnd h
  obtain ⟨x15, hx15, h⟩ := bnd h
  refine WL.eff (by decide) (Eff.callS 110 rfl Try.func11 nm_11 rfl rfl (fun w hb hh => w_rs_Code (Mem.snap w) hx6)) ?_
  rintro _ _ ⟨_, ⟨A11, n12, c13, rfl, rfl⟩, rfl⟩
  refine WL.eff (by decide) (Eff.buildC 114 ([(4 : Int), (5 : Int)] : List (Int)) sty_28 rfl rfl rfl rfl rfl (by decide)) ?_
  rintro _ _ ⟨g14, rfl, rfl⟩
  refine WL.eff (by decide) (Eff.callS 119 rfl Try.func13 nm_13 rfl rfl (fun w hb hh => w_gfmatrix_Pick (Mem.snap w) x6.1 x6.2.1 A11 n12 c13 _ (RdH.sn (RdH.own (k := 110) rfl) w hb hh) (some ⟨g14, 0, none⟩) (([(4 : Int), (5 : Int)] : List (Int)).length) (([(4 : Int), (5 : Int)] : List (Int)).length) _ (RdH.sn (RdH.own (k := 114) rfl) w hb hh) hx15)) ?_
  rintro _ _ ⟨_, ⟨A20, n21, c22, rfl, rfl⟩, rfl⟩
  refine WL.yld (by decide) (Yld.move rfl) ?_
  refine WL.yld (by decide) (Yld.extract rfl rfl) ?_
  refine WL.yld (by decide) (Yld.extract rfl rfl) ?_
  refine WL.eff (by decide) (Eff.alloc 123 rfl zr_24) ?_
  rintro _ _ ⟨g23, rfl, rfl⟩
  refine WL.eff0 (Eff0.storeBAM 123 agg_24 rfl rfl rfl ⟨rfl, rfl⟩ rfl) ?_
  refine WL.yld (by decide) (Yld.assign rfl) ?_
  refine WL.done (hK5 _ _ ?_)
  refine WC.seqRegion fun K24 hK24 => ?_
  obtain ⟨x25, hx25, h⟩ := bnd h
  refine WL.yld (by decide) (Yld.loadBM (k := 123) agg_24 rfl rfl rfl) ?_
  refine WL.yld (by decide) (Yld.move rfl) ?_
  refine WL.freeze 119 rfl rfl rfl fun M37 hm_M37 hf38 => ?_
  refine WL.eff (by decide) (Eff.callM 131 rfl Try.func48 nm_48 rfl rfl rfl (w_gfmatrix_Apply _ x15.1 x15.2.1 A20 n21 c22 _ hf38 A00 n00 c00 rs00 _ (SlRc.lift hf00 hm_M37) (Rels.lift hq00 hm_M37) hx25)) ?_
  rintro _ _ ⟨M39, _, ⟨A40, n41, c42, rs43, rfl, rfl, hq44⟩, hm_M39, rfl⟩
  refine WL.yld (by decide) (Yld.extract rfl rfl) ?_
  refine WL.yld (by decide) (Yld.extract rfl rfl) ?_
  refine WL.yld (by decide) (Yld.assign rfl) ?_
  refine WL.yld (by decide) (Yld.assign rfl) ?_
  refine WL.done (hK24 _ _ ?_)
  refine WC.ret ?_
  injection h with h; subst h
  exact Ret.fn [131] (ResIs.two rfl rfl rfl) rfl (Ext.trans hm_M37 hm_M39) rfl (by decide) rfl rfl ⟨A40, n41, c42, rs43, rfl, rfl, hq44⟩
 ·
  replace h := of_f hc4 h
  refine WC.condTe rfl (bne_iff_ne.2 hc4) ?_
  refine WC.seqRegion fun K45 hK45 => ?_
  refine WL.yld (by decide) (Yld.assign rfl) ?_
  refine WL.yld (by decide) (Yld.assign rfl) ?_
  refine WL.done (hK45 _ _ ?_)
  refine WC.ret (QK.thenR ?_)
  refine QK.nilOwn 146 22 (Lay.sz Hdr) none ?_
  injection h with h; subst h
  exact Ret.fn [146] (ResIs.two rfl rfl rfl) rfl (Ext.refl _ _) rfl (by decide) rfl rfl ⟨none, 0, 0, ([] : List Hdr), rfl, rfl, (Rels.nil (R := (RelB (α := BitVec 8)) M0))⟩

set_option maxRecDepth 10000 in
theorem w_rs_equal (M0 : Mem) (A00 : Option Addr) (n00 c00 : Nat) (rs00 : List Hdr) (x00 : List (List (BitVec 8))) (hf00 : SlT M0 A00 n00 c00 rs00) (hq00 : Rels ((RelB (α := BitVec 8)) M0) rs00 x00) {res : Bool} (h : m_rs_equal x00 = some res) :
  Fn Try.prog 49 #[.slice A00 n00 c00] M0 fun r M' es => r = .bool res ∧ es = [] := by
 refine Fn.intro (N := 22) Try.func49 rfl rfl (Nat.le_of_ble_eq_true rfl) fun w0 => ?_
 unfold m_rs_equal at h
 refine WC.seqRegion fun K1 hK1 => ?_
 refine WL.yld (by decide) (Yld.assign rfl) ?_
 refine WL.done (hK1 _ _ ?_)
 refine WC.seqCut (σ := Unit) (fun _ => [(0, .slice A00 n00 c00)]) (fun _ => [(0, .mem M0)]) (fun _ => m_rs_equal_j0 x00 = some res) (fun K2 hK2 => ?_) ?_
 ·
  skip
  refine WC.seqRegion fun K3 hK3 => ?_
  refine WL.yld (by decide) (Yld.move rfl) ?_
  refine WL.yld (by decide) (Yld.lenD (rs := rs00) (xs := x00) (Rels.len hq00) und_35 rfl (RdH.memM (k := 0) rfl hf00)) ?_
  refine WL.yld (by decide) (Yld.move rfl) ?_
  refine WL.done (hK3 _ _ ?_)
  refine WC.block ?_
  refine WC.loop (σ := Nat × Int) (fun ⟨q5, x4⟩ => [(0, .slice A00 n00 c00), (5, .slice A00 n00 c00), (6, I64 (x00.length : Int)), (7, I64 x4)]) (fun ⟨q5, x4⟩ => [(0, .mem M0)]) (fun ⟨q5, x4⟩ => m_rs_equal_l1 x00 q5 x4 = some res) (fun ⟨q5, x4⟩ => q5) ⟨forever, (0 : Int)⟩ ?_ (Sub.cons rfl (Sub.cons rfl (Sub.cons rfl (Sub.cons rfl (Sub.nil _))))) (Sub.cons rfl (Sub.nil _)) ?_
  ·
   exact h
  rintro ⟨q5, x4⟩ h K6 hK6
  cases q5 with
  | zero => exact absurd h (by simp [m_rs_equal_l1])
  | succ q5 =>
   unfold m_rs_equal_l1 at h
   refine WC.seqRegion fun K7 hK7 => ?_
   refine WL.yld (by decide) (Yld.lss rfl rfl) ?_
   refine WL.done (hK7 _ _ ?_)
   refine WC.seq fun K8 hK8 => ?_
   by_cases hc9 : x4 < (x00.length : Int)
   ·
    replace h := of_t hc9 h
    refine WC.condTe rfl (decide_eq_true hc9) ?_
    refine WC.skip ?_
    refine QK.thenN (hK8 _ _ ?_)
    refine WC.seq fun K10 hK10 => ?_
    refine WC.block ?_
    refine WC.seqRegion fun K11 hK11 => ?_
    obtain ⟨x12, hx12, h⟩ := bnd h
    obtain ⟨r_13, hr14, hq15⟩ := Rels.idx hq00 hx12
    refine WL.yld (by decide) (Yld.idxC (xs := rs00) sty_35 rfl rfl (RdH.memM (k := 0) rfl hf00) hr14) ?_
    refine WL.yld (by decide) (Yld.loadC0 (xs := rs00) scal_22 rfl (RdH.memM (k := 0) rfl hf00) hr14 rfl) ?_
    refine WL.yld (by decide) (Yld.assign rfl) ?_
    refine WL.done (hK11 _ _ ?_)
    refine WC.seqRegion fun K16 hK16 => ?_
    obtain ⟨x17, hx17, h⟩ := bnd h
    refine WL.yld (by decide) (Yld.move rfl) ?_
    refine WL.yld (by decide) (Yld.lenC (xs := x12) und_22 rfl (RdH.memM (k := 0) rfl hq15)) ?_
    refine WL.yld (by decide) (Yld.move rfl) ?_
    obtain ⟨r_18, hr19, hq20⟩ := Rels.idx hq00 hx17
    refine WL.yld (by decide) (Yld.idxC (xs := rs00) sty_35 rfl rfl (RdH.memM (k := 0) rfl hf00) hr19) ?_
    refine WL.yld (by decide) (Yld.loadC0 (xs := rs00) scal_22 rfl (RdH.memM (k := 0) rfl hf00) hr19 rfl) ?_
    refine WL.yld (by decide) (Yld.lenC (xs := x17) und_22 rfl (RdH.memM (k := 0) rfl hq20)) ?_
    refine WL.yld (by decide) (Yld.neqI rfl rfl) ?_
    refine WL.done (hK16 _ _ ?_)
    by_cases hc21 : (x12.length : Int) = (x17.length : Int)
    ·
     replace h := of_t hc21 h
     refine WC.condFe rfl (bne_eq_false_iff_eq.2 hc21) ?_
     refine WC.skip ?_
     refine QK.blockN ?_
     refine QK.thenN (hK10 _ _ ?_)
     refine WC.region fun K22 hK22 => ?_
     obtain ⟨x23, hx23, h⟩ := bnd h
     refine WL.yld (by decide) (Yld.addC rfl rfl hx23) ?_
     refine WL.yld (by decide) (Yld.move rfl) ?_
     refine WL.done (hK22 _ _ ?_)
     refine QK.thenN ?_
     refine hK6 ⟨q5, x23⟩ _ _ ?_ (Nat.lt_succ_self _) (Sub.cons rfl (Sub.cons rfl (Sub.cons rfl (Sub.cons rfl (Sub.nil _))))) (Sub.cons rfl (Sub.nil _))
     exact h
    ·
     replace h := of_f hc21 h
     refine WC.condTe rfl (bne_iff_ne.2 hc21) ?_
     refine WC.seqRegion fun K24 hK24 => ?_
     refine WL.yld (by decide) (Yld.assign rfl) ?_
     refine WL.done (hK24 _ _ ?_)
     refine WC.ret (QK.blockR (QK.thenR (QK.thenR (QK.blockR (QK.thenR ?_)))))
     injection h with h; subst h
     exact Ret.fn [] (ResIs.one rfl rfl) rfl (Ext.refl _ _) rfl (by decide) rfl rfl ⟨rfl, rfl⟩
   ·
    replace h := of_f hc9 h
    refine WC.condFe rfl (decide_eq_false hc9) ?_
    refine WC.exit (QK.thenE (QK.thenE (QK.blockX ?_)))
    refine QK.thenN ?_
    refine hK2 () _ _ ?_ (Sub.cons rfl (Sub.nil _)) (Sub.cons rfl (Sub.nil _))
    exact h
 ·
  rintro _ h
  unfold m_rs_equal_j0 at h
  refine WC.seqRegion fun K25 hK25 => ?_
  refine WL.yld (by decide) (Yld.move rfl) ?_
  refine WL.yld (by decide) (Yld.lenD (rs := rs00) (xs := x00) (Rels.len hq00) und_35 rfl (RdH.memM (k := 0) rfl hf00)) ?_
  refine WL.yld (by decide) (Yld.eqlI rfl rfl) ?_
  refine WL.yld (by decide) (Yld.assign rfl) ?_
  refine WL.done (hK25 _ _ ?_)
  refine WC.ret ?_
  injection h with h; subst h
  exact Ret.fn [] (ResIs.one rfl rfl) rfl (Ext.refl _ _) rfl (by decide) rfl rfl ⟨rfl, rfl⟩

set_option maxRecDepth 10000 in
theorem w_bytes_Equal (M0 : Mem) (A00 : Option Addr) (n00 c00 : Nat) (x00 : List (BitVec 8)) (hf00 : SlT M0 A00 n00 c00 x00) (A01 : Option Addr) (n01 c01 : Nat) (x01 : List (BitVec 8)) (hf01 : SlT M0 A01 n01 c01 x01) {res : Bool} (h : m_bytes_Equal x00 x01 = some res) :
  Fn Try.prog 50 #[.slice A00 n00 c00, .slice A01 n01 c01] M0 fun r M' es => r = .bool res ∧ es = [] := by
 refine Fn.intro (N := 10) Try.func50 rfl rfl (Nat.le_of_ble_eq_true rfl) fun w0 => ?_
 unfold m_bytes_Equal at h
 refine WC.seqRegion fun K1 hK1 => ?_
 refine WL.yld (by decide) (Yld.assign rfl) ?_
 refine WL.done (hK1 _ _ ?_)
 refine WC.seqRegion fun K2 hK2 => ?_
 refine WL.yld (by decide) (Yld.move rfl) ?_
 refine WL.yld (by decide) (Yld.b2sC (xs := x00) und_22 und_5 und_9 rfl (RdH.memM (k := 0) rfl hf00)) ?_
 refine WL.yld (by decide) (Yld.move rfl) ?_
 refine WL.yld (by decide) (Yld.b2sC (xs := x01) und_22 und_5 und_9 rfl (RdH.memM (k := 0) rfl hf01)) ?_
 refine WL.yld (by decide) (Yld.eqlStr (a := x00) (b := x01) rfl rfl) ?_
 refine WL.yld (by decide) (Yld.assign rfl) ?_
 refine WL.done (hK2 _ _ ?_)
 refine WC.ret ?_
 injection h with h; subst h
 exact Ret.fn [] (ResIs.one rfl rfl) rfl (Ext.refl _ _) rfl (by decide) rfl rfl ⟨rfl, rfl⟩

set_option maxRecDepth 10000 in
theorem w_rs_Verify (M0 : Mem) (A00 : Option Addr) (n00 c00 : Nat) (rs00 : List Hdr) (x00 : List (List (BitVec 8))) (hf00 : SlT M0 A00 n00 c00 rs00) (hq00 : Rels ((RelB (α := BitVec 8)) M0) rs00 x00) {res : Bool} (h : m_rs_Verify x00 = some res) :
  Fn Try.prog 24 #[.slice A00 n00 c00] M0 fun r M' es => r = .bool res ∧ es = [] := by
 refine Fn.intro (N := 32) Try.func24 rfl rfl (Nat.le_of_ble_eq_true rfl) fun w0 => ?_
 unfold m_rs_Verify at h
 refine WC.seqRegion fun K1 hK1 => ?_
 refine WL.yld (by decide) (Yld.assign rfl) ?_
 refine WL.done (hK1 _ _ ?_)
 refine WC.seq fun K2 hK2 => ?_
 refine WC.seqRegion fun K3 hK3 => ?_
 obtain ⟨x4, hx4, h⟩ := bnd h
 refine WL.yld (by decide) (Yld.move rfl) ?_
 refine WL.eff (by decide) (Eff.callS 105 rfl Try.func49 nm_49 rfl rfl (fun w hb hh => w_rs_equal (Mem.snap w) A00 n00 c00 rs00 _ (RdH.sn (RdH.memM (k := 0) rfl hf00) w hb hh) (Rels.sn hq00 (hh.sat 0 _ rfl)) hx4)) ?_
 rintro _ _ ⟨_, ⟨rfl, rfl⟩, rfl⟩
 refine WL.yld (by decide) (Yld.notB rfl) ?_
 refine WL.done (hK3 _ _ ?_)
 by_cases hc6 : x4 = true
 ·
  replace h := of_t hc6 h
  refine WC.condFe rfl (not_f hc6) ?_
  refine WC.skip ?_
  refine QK.thenN (hK2 _ _ ?_)
  refine WC.seqRegion fun K7 hK7 => ?_
  obtain ⟨x8, hx8, h⟩ := bnd h
  obtain ⟨x12, hx12, h⟩ := bnd h
  refine WL.yld (by decide) (Yld.move rfl) ?_
  obtain ⟨rs9, hs10, hq11⟩ := Rels.slc hq00 hx8
  refine WL.yld (by decide) (Yld.sliceHC (xs := rs00) sty_35 rfl rfl (RdH.memM (k := 0) rfl hf00) hs10) ?_
  refine WL.eff (by decide) (Eff.callM 118 rfl Try.func23 nm_23 rfl rfl rfl (w_rs_Encode _ A00 rs9.length c00 rs9 _ (SlT.slc0 hf00 hs10) hq11 hx12)) ?_
  rintro _ _ ⟨M24, _, ⟨A25, n26, c27, rs28, rfl, rfl, hq29⟩, hm_M24, rfl⟩
  refine WL.yld (by decide) (Yld.move rfl) ?_
  refine WL.yld (by decide) (Yld.extract rfl rfl) ?_
  refine WL.yld (by decide) (Yld.extract rfl rfl) ?_
  refine WL.yld (by decide) (Yld.assign rfl) ?_
  refine WL.yld (by decide) (Yld.assign rfl) ?_
  refine WL.done (hK7 _ _ ?_)
  refine WC.seqCut (σ := Unit) (fun _ => []) (fun _ => [(0, .mem M24)]) (fun _ => m_rs_Verify_j0 = some res) (fun K30 hK30 => ?_) ?_
  ·
   skip
   refine WC.seqRegion fun K31 hK31 => ?_
   refine WL.yld (by decide) (Yld.move rfl) ?_
   refine WL.yld (by decide) (Yld.lenD (rs := rs28) (xs := x12.1) (Rels.len hq29) und_35 rfl (RdH.own (k := 118) rfl)) ?_
   refine WL.yld (by decide) (Yld.move rfl) ?_
   refine WL.done (hK31 _ _ ?_)
   refine WC.block ?_
   refine WC.loop (σ := Nat × Int) (fun ⟨q33, x32⟩ => [(0, .slice A00 n00 c00), (16, .slice A25 n26 c27), (17, I64 (x12.1.length : Int)), (18, I64 x32)]) (fun ⟨q33, x32⟩ => [(0, .mem M24), (118, .own 22 (Lay.sz Hdr) A25 n26 c27 (cel rs28))]) (fun ⟨q33, x32⟩ => m_rs_Verify_l1 x00 x12 q33 x32 = some res) (fun ⟨q33, x32⟩ => q33) ⟨forever, (0 : Int)⟩ ?_ (Sub.cons rfl (Sub.cons rfl (Sub.cons rfl (Sub.cons rfl (Sub.nil _))))) (Sub.cons rfl (Sub.cons rfl (Sub.nil _))) ?_
   ·
    exact h
   rintro ⟨q33, x32⟩ h K34 hK34
   cases q33 with
   | zero => exact absurd h (by simp [m_rs_Verify_l1])
   | succ q33 =>
    unfold m_rs_Verify_l1 at h
    refine WC.seqRegion fun K35 hK35 => ?_
    refine WL.yld (by decide) (Yld.lss rfl rfl) ?_
    refine WL.done (hK35 _ _ ?_)
    refine WC.seq fun K36 hK36 => ?_
    by_cases hc37 : x32 < (x12.1.length : Int)
    ·
     replace h := of_t hc37 h
     refine WC.condTe rfl (decide_eq_true hc37) ?_
     refine WC.skip ?_
     refine QK.thenN (hK36 _ _ ?_)
     refine WC.seq fun K38 hK38 => ?_
     refine WC.block ?_
     refine WC.seqRegion fun K39 hK39 => ?_
     obtain ⟨x40, hx40, h⟩ := bnd h
     refine WL.yld (by decide) (Yld.move rfl) ?_
     obtain ⟨r_41, hr42, hq43⟩ := Rels.idx hq29 hx40
     refine WL.yld (by decide) (Yld.idxC (xs := rs28) sty_35 rfl rfl (RdH.own (k := 118) rfl) hr42) ?_
     refine WL.yld (by decide) (Yld.loadC0 (xs := rs28) scal_22 rfl (RdH.own (k := 118) rfl) hr42 rfl) ?_
     refine WL.yld (by decide) (Yld.assign rfl) ?_
     refine WL.yld (by decide) (Yld.assign rfl) ?_
     refine WL.done (hK39 _ _ ?_)
     refine WC.seqRegion fun K44 hK44 => ?_
     obtain ⟨x45, hx45, h⟩ := bnd h
     obtain ⟨x46, hx46, h⟩ := bnd h
     obtain ⟨x50, hx50, h⟩ := bnd h
     refine WL.yld (by decide) (Yld.move rfl) ?_
     refine WL.yld (by decide) (Yld.move rfl) ?_
     refine WL.yld (by decide) (Yld.move rfl) ?_
     refine WL.yld (by decide) (Yld.addC rfl rfl hx45) ?_
     obtain ⟨r_47, hr48, hq49⟩ := Rels.idx (Rels.lift hq00 hm_M24) hx46
     refine WL.yld (by decide) (Yld.idxC (xs := rs00) sty_35 rfl rfl (RdH.memM (k := 0) rfl (SlRc.lift hf00 hm_M24)) hr48) ?_
     refine WL.yld (by decide) (Yld.loadC0 (xs := rs00) scal_22 rfl (RdH.memM (k := 0) rfl (SlRc.lift hf00 hm_M24)) hr48 rfl) ?_
     refine WL.eff (by decide) (Eff.callS 151 rfl Try.func50 nm_50 rfl rfl (fun w hb hh => w_bytes_Equal (Mem.snap w) r_41.A r_41.n r_41.c _ (RdH.sn (RdH.memM (k := 0) rfl hq43) w hb hh) r_47.A r_47.n r_47.c _ (RdH.sn (RdH.memM (k := 0) rfl hq49) w hb hh) hx50)) ?_
     rintro _ _ ⟨_, ⟨rfl, rfl⟩, rfl⟩
     refine WL.yld (by decide) (Yld.notB rfl) ?_
     refine WL.done (hK44 _ _ ?_)
     by_cases hc52 : x50 = true
     ·
      replace h := of_t hc52 h
      refine WC.condFe rfl (not_f hc52) ?_
      refine WC.skip ?_
      refine QK.blockN ?_
      refine QK.thenN (hK38 _ _ ?_)
      refine WC.region fun K53 hK53 => ?_
      obtain ⟨x54, hx54, h⟩ := bnd h
      refine WL.yld (by decide) (Yld.addC rfl rfl hx54) ?_
      refine WL.yld (by decide) (Yld.move rfl) ?_
      refine WL.done (hK53 _ _ ?_)
      refine QK.thenN ?_
      refine hK34 ⟨q33, x54⟩ _ _ ?_ (Nat.lt_succ_self _) (Sub.cons rfl (Sub.cons rfl (Sub.cons rfl (Sub.cons rfl (Sub.nil _))))) (Sub.cons rfl (Sub.cons rfl (Sub.nil _)))
      exact h
     ·
      replace h := of_f hc52 h
      refine WC.condTe rfl (not_t (Bool.eq_false_iff.2 hc52)) ?_
      refine WC.seqRegion fun K55 hK55 => ?_
      refine WL.yld (by decide) (Yld.assign rfl) ?_
      refine WL.done (hK55 _ _ ?_)
      refine WC.ret (QK.blockR (QK.thenR (QK.thenR (QK.blockR (QK.thenR ?_)))))
      injection h with h; subst h
      exact Ret.fn [] (ResIs.one rfl rfl) rfl hm_M24 rfl (by decide) rfl rfl ⟨rfl, rfl⟩
    ·
     replace h := of_f hc37 h
     refine WC.condFe rfl (decide_eq_false hc37) ?_
     refine WC.exit (QK.thenE (QK.thenE (QK.blockX ?_)))
     refine QK.thenN ?_
     refine hK30 () _ _ ?_ (Sub.nil _) (Sub.cons rfl (Sub.nil _))
     exact h
  ·
   rintro _ h
   unfold m_rs_Verify_j0 at h
   refine WC.seqRegion fun K56 hK56 => ?_
   refine WL.yld (by decide) (Yld.assign rfl) ?_
   refine WL.done (hK56 _ _ ?_)
   refine WC.ret ?_
   injection h with h; subst h
   exact Ret.fn [] (ResIs.one rfl rfl) rfl hm_M24 rfl (by decide) rfl rfl ⟨rfl, rfl⟩
 ·
  replace h := of_f hc6 h
  refine WC.condTe rfl (not_t (Bool.eq_false_iff.2 hc6)) ?_
  refine WC.seqRegion fun K57 hK57 => ?_
  refine WL.yld (by decide) (Yld.assign rfl) ?_
  refine WL.done (hK57 _ _ ?_)
  refine WC.ret (QK.thenR ?_)
  injection h with h; subst h
  exact Ret.fn [] (ResIs.one rfl rfl) rfl (Ext.refl _ _) rfl (by decide) rfl rfl ⟨rfl, rfl⟩

set_option maxRecDepth 10000 in
theorem w_rs_restore (M0 : Mem) (A00 : Option Addr) (n00 c00 : Nat) (rs00 : List Hdr) (x00 : List (List (BitVec 8))) (hf00 : SlT M0 A00 n00 c00 rs00) (hq00 : Rels ((RelB (α := BitVec 8)) M0) rs00 x00) (x01 : List (Bool)) (hl01 : x01.length = 6) {res : (List (List (BitVec 8)))} (h : m_rs_restore x00 x01 = some res) :
  Fn Try.prog 46 #[.slice A00 n00 c00, .agg (cel x01).toArray] M0 fun r M' es => ∃ (A1 : Option Addr) (n1 c1 : Nat), ∃ rs1 : List Hdr, r = .slice A1 n1 c1 ∧ es = [.own 22 (Lay.sz Hdr) A1 n1 c1 (cel rs1)] ∧ Rels ((RelB (α := BitVec 8)) M') rs1 res := by
 refine Fn.intro (N := 66) Try.func46 rfl rfl (Nat.le_of_ble_eq_true rfl) fun w0 => ?_
 unfold m_rs_restore at h
 refine WC.seqRegion fun K1 hK1 => ?_
 refine WL.eff (by decide) (Eff.box 102 (us := cel x01) rfl rfl rfl) ?_
 rintro _ _ ⟨g2, rfl, rfl⟩
 refine WL.yld (by decide) (Yld.assign rfl) ?_
 refine WL.done (hK1 _ _ ?_)
 refine WC.seqRegion fun K3 hK3 => ?_
 refine WL.yld (by decide) (Yld.assign rfl) ?_
 refine WL.done (hK3 _ _ ?_)
 refine WC.seqRegion fun K4 hK4 => ?_
 refine WL.yld (by decide) (Yld.assign rfl) ?_
 refine WL.done (hK4 _ _ ?_)
 refine WC.seqCut (σ := (Option Addr) × Nat × Nat × (List (Int)) × (Option Addr) × Nat × Nat × (List (List (BitVec 8))) × (List Hdr)) (fun ⟨A7, n8, c9, x10, A13, n14, c15, x16, rs17⟩ => [(5, .slice A7 n8 c9), (6, .slice A13 n14 c15)]) (fun ⟨A7, n8, c9, x10, A13, n14, c15, x16, rs17⟩ => [(0, .mem M0), (106, .own 3 (Lay.sz Int) A7 n8 c9 (cel x10)), (112, .own 22 (Lay.sz Hdr) A13 n14 c15 (cel rs17))]) (fun ⟨A7, n8, c9, x10, A13, n14, c15, x16, rs17⟩ => m_rs_restore_j0 x10 x16 = some res ∧ Rels ((RelB (α := BitVec 8)) M0) rs17 x16) (fun K19 hK19 => ?_) ?_
 ·
  skip
  refine WC.seqRegion fun K20 hK20 => ?_
  refine WL.yld (by decide) (Yld.loadBM (k := 102) agg_77 rfl rfl (cel_len1 rfl hl01)) ?_
  refine WL.yld (by decide) (Yld.move rfl) ?_
  refine WL.done (hK20 _ _ ?_)
  refine WC.block ?_
  refine WC.nilOwn 122 3 (Lay.sz Int) none ?_
  refine WC.nilOwn 128 22 (Lay.sz Hdr) none ?_
  refine WC.loop (σ := Nat × (Option Addr) × Nat × Nat × (List (Int)) × (Option Addr) × Nat × Nat × (List (List (BitVec 8))) × (List Hdr) × Int) (fun ⟨q36, A23, n24, c25, x26, A29, n30, c31, x32, rs33, x35⟩ => [(0, .slice A00 n00 c00), (5, .slice A23 n24 c25), (6, .slice A29 n30 c31), (18, .agg (cel x01).toArray), (19, I64 x35)]) (fun ⟨q36, A23, n24, c25, x26, A29, n30, c31, x32, rs33, x35⟩ => [(0, .mem M0), (122, .own 3 (Lay.sz Int) A23 n24 c25 (cel x26)), (128, .own 22 (Lay.sz Hdr) A29 n30 c31 (cel rs33))]) (fun ⟨q36, A23, n24, c25, x26, A29, n30, c31, x32, rs33, x35⟩ => m_rs_restore_l1 x00 x01 q36 x26 x32 x35 = some res ∧ Rels ((RelB (α := BitVec 8)) M0) rs33 x32) (fun ⟨q36, A23, n24, c25, x26, A29, n30, c31, x32, rs33, x35⟩ => q36) ⟨forever, none, 0, 0, ([] : List (Int)), none, 0, 0, ([] : List (List (BitVec 8))), ([] : List Hdr), (0 : Int)⟩ ?_ (Sub.cons rfl (Sub.cons rfl (Sub.cons rfl (Sub.cons rfl (Sub.cons rfl (Sub.nil _)))))) (Sub.cons rfl (Sub.cons rfl (Sub.cons rfl (Sub.nil _)))) ?_
  ·
   exact ⟨h, (Rels.nil (R := (RelB (α := BitVec 8)) M0))⟩
  rintro ⟨q36, A23, n24, c25, x26, A29, n30, c31, x32, rs33, x35⟩ ⟨h, hq34⟩ K37 hK37
  cases q36 with
  | zero => exact absurd h (by simp [m_rs_restore_l1])
  | succ q36 =>
   unfold m_rs_restore_l1 at h
   refine WC.seqRegion fun K38 hK38 => ?_
   refine WL.yld (by decide) (Yld.lss rfl rfl) ?_
   refine WL.done (hK38 _ _ ?_)
   refine WC.seq fun K39 hK39 => ?_
   by_cases hc40 : x35 < (6 : Int)
   ·
    replace h := of_t hc40 h
    refine WC.condTe rfl (decide_eq_true hc40) ?_
    refine WC.skip ?_
    refine QK.thenN (hK39 _ _ ?_)
    refine WC.seq fun K41 hK41 => ?_
    refine WC.block ?_
    refine WC.seqRegion fun K42 hK42 => ?_
    obtain ⟨x43, hx43, h⟩ := bnd h
    refine WL.yld (by decide) (Yld.move rfl) ?_
    refine WL.yld (by decide) (Yld.idxAggC (xs := x01) und_77 siz_4 rfl scal_4 rfl rfl hl01 hx43 rfl) ?_
    refine WL.yld (by decide) (Yld.assign rfl) ?_
    refine WL.yld (by decide) (Yld.assign rfl) ?_
    refine WL.done (hK42 _ _ ?_)
    refine WC.seqRegion fun K44 hK44 => ?_
    by_cases hc45 : x43 = true
    ·
     replace h := of_t hc45 h
     refine WL.yld (by decide) (Yld.move rfl) ?_
     refine WL.yld (by decide) (Yld.move rfl) ?_
     refine WL.new (v' := .bool true) (congrArg Value.bool hc45) ?_
     refine WL.yldG (by decide) rfl (Yld.move rfl) ?_
     refine WL.yldG (by decide) rfl (Yld.lenC (xs := x26) und_28 rfl (RdH.own (k := 122) rfl)) ?_
     refine WL.yldG (by decide) rfl (Yld.lss rfl rfl) ?_
     refine WL.yld (by decide) (Yld.pickT rfl rfl) ?_
     refine WL.done (hK44 _ _ ?_)
     by_cases hc46 : (x26.length : Int) < (4 : Int)
     ·
      replace h := of_t hc46 h
      refine WC.condTe rfl (decide_eq_true hc46) ?_
      refine WC.regionD (n := 13) [(0, _)] rfl mixed (Sub.cons rfl (Sub.nil _)) fun K47 hK47 => ?_
      obtain ⟨x49, hx49, h⟩ := bnd h
      obtain ⟨x52, hx52, h⟩ := bnd h
      obtain ⟨x58, hx58, h⟩ := bnd h
      refine WD.take 0 rfl (by kernel_rfl) (by kernel_rfl) (by kernel_rfl) (by decide) (Yld.move rfl) ?_
      refine WD.take 1 rfl (by kernel_rfl) (by kernel_rfl) (by kernel_rfl) (by decide) (Yld.move rfl) ?_
      refine WD.take 4 rfl (by kernel_rfl) (by kernel_rfl) (by kernel_rfl) (by decide) (Yld.move rfl) ?_
      refine WD.take 5 rfl (by kernel_rfl) (by kernel_rfl) (by kernel_rfl) (by decide) (Yld.move rfl) ?_
      refine WD.take 6 rfl (by kernel_rfl) (by kernel_rfl) (by kernel_rfl) (by decide) (Yld.move rfl) ?_
      obtain ⟨r_53, hr54, hq55⟩ := Rels.idx hq00 hx52
      refine WD.take 7 rfl (by kernel_rfl) (by kernel_rfl) (by kernel_rfl) (by decide) (Yld.idxC (xs := rs00) sty_35 rfl rfl (RdH.memM (k := 0) rfl hf00) hr54) ?_
      refine WD.take 8 rfl (by kernel_rfl) (by kernel_rfl) (by kernel_rfl) (by decide) (Yld.loadC0 (xs := rs00) scal_22 rfl (RdH.memM (k := 0) rfl hf00) hr54 rfl) ?_
      refine WD.two 2 9 (by kernel_rfl) ?_ ?_
      ·
       skip
       refine WS.eff rfl (by decide) (Eff.buildC 148 ([x35] : List (Int)) sty_28 rfl rfl rfl rfl rfl (by decide)) ?_
       rintro _ _ ⟨g48, rfl, rfl⟩
       refine ⟨(Sub.cons rfl (Sub.nil _)), ?_⟩
       refine WD.two 3 9 (by kernel_rfl) ?_ ?_
       ·
        skip
        refine WS.eff rfl (by decide) (Eff.appendC 122 (xs := x26) (ys := ([x35] : List (Int))) sty_28 rfl rfl rfl (RdH.own (k := 148) rfl) hx49) ?_
        rintro _ _ ⟨A50, c51, rfl, rfl⟩
        refine ⟨(Sub.cons rfl (Sub.nil _)), ?_⟩
        refine WD.one 9 (by kernel_rfl) ?_
        have hq57 : Rels ((RelB (α := BitVec 8)) M0) ([(⟨r_53.A, r_53.n, r_53.c⟩ : Hdr)] : List Hdr) ([x52] : List (List (BitVec 8))) := (Rels.cons hq55 Rels.nil)
        refine WS.eff rfl (by decide) (Eff.buildC 156 ([(⟨r_53.A, r_53.n, r_53.c⟩ : Hdr)] : List Hdr) sty_35 rfl rfl rfl rfl rfl (by decide)) ?_
        rintro _ _ ⟨g56, rfl, rfl⟩
        refine ⟨(Sub.cons rfl (Sub.nil _)), ?_⟩
        refine WD.one 10 (by kernel_rfl) ?_
        obtain ⟨hu61, hq62⟩ := Rels.apd hq34 hq57 hx58
        refine WS.eff rfl (by decide) (Eff.appendC 128 (xs := rs33) (ys := ([(⟨r_53.A, r_53.n, r_53.c⟩ : Hdr)] : List Hdr)) sty_35 rfl rfl rfl (RdH.own (k := 156) rfl) hu61) ?_
        rintro _ _ ⟨A59, c60, rfl, rfl⟩
        refine ⟨(Sub.cons rfl (Sub.nil _)), ?_⟩
        refine WD.take 11 rfl (by kernel_rfl) (by kernel_rfl) (by kernel_rfl) (by decide) (Yld.assign rfl) ?_
        refine WD.take 12 rfl (by kernel_rfl) (by kernel_rfl) (by kernel_rfl) (by decide) (Yld.assign rfl) ?_
        refine WD.done (by kernel_rfl) (hK47 _ _ ?_)
        refine QK.blockN ?_
        refine QK.thenN (hK41 _ _ ?_)
        refine WC.region fun K63 hK63 => ?_
        obtain ⟨x64, hx64, h⟩ := bnd h
        refine WL.yld (by decide) (Yld.addC rfl rfl hx64) ?_
        refine WL.yld (by decide) (Yld.move rfl) ?_
        refine WL.done (hK63 _ _ ?_)
        refine QK.thenN ?_
        refine hK37 ⟨q36, A50, x49.length, c51, x49, A59, (rs33 ++ ([(⟨r_53.A, r_53.n, r_53.c⟩ : Hdr)] : List Hdr)).length, c60, x58, (rs33 ++ ([(⟨r_53.A, r_53.n, r_53.c⟩ : Hdr)] : List Hdr)), x64⟩ _ _ ?_ (Nat.lt_succ_self _) (Sub.cons rfl (Sub.cons rfl (Sub.cons rfl (Sub.cons rfl (Sub.cons rfl (Sub.nil _)))))) (Sub.cons rfl (Sub.cons rfl (Sub.cons rfl (Sub.nil _))))
        exact ⟨h, hq62⟩
       ·
        skip
        have hq57 : Rels ((RelB (α := BitVec 8)) M0) ([(⟨r_53.A, r_53.n, r_53.c⟩ : Hdr)] : List Hdr) ([x52] : List (List (BitVec 8))) := (Rels.cons hq55 Rels.nil)
        refine WS.eff rfl (by decide) (Eff.buildC 156 ([(⟨r_53.A, r_53.n, r_53.c⟩ : Hdr)] : List Hdr) sty_35 rfl rfl rfl rfl rfl (by decide)) ?_
        rintro _ _ ⟨g56, rfl, rfl⟩
        refine ⟨(Sub.cons rfl (Sub.nil _)), ?_⟩
        refine WD.one 3 (by kernel_rfl) ?_
        refine WS.eff rfl (by decide) (Eff.appendC 122 (xs := x26) (ys := ([x35] : List (Int))) sty_28 rfl rfl rfl (RdH.own (k := 148) rfl) hx49) ?_
        rintro _ _ ⟨A50, c51, rfl, rfl⟩
        refine ⟨(Sub.cons rfl (Sub.nil _)), ?_⟩
        refine WD.one 10 (by kernel_rfl) ?_
        obtain ⟨hu61, hq62⟩ := Rels.apd hq34 hq57 hx58
        refine WS.eff rfl (by decide) (Eff.appendC 128 (xs := rs33) (ys := ([(⟨r_53.A, r_53.n, r_53.c⟩ : Hdr)] : List Hdr)) sty_35 rfl rfl rfl (RdH.own (k := 156) rfl) hu61) ?_
        rintro _ _ ⟨A59, c60, rfl, rfl⟩
        refine ⟨(Sub.cons rfl (Sub.nil _)), ?_⟩
        refine WD.take 11 rfl (by kernel_rfl) (by kernel_rfl) (by kernel_rfl) (by decide) (Yld.assign rfl) ?_
        refine WD.take 12 rfl (by kernel_rfl) (by kernel_rfl) (by kernel_rfl) (by decide) (Yld.assign rfl) ?_
        refine WD.done (by kernel_rfl) (hK47 _ _ ?_)
        refine QK.blockN ?_
        refine QK.thenN (hK41 _ _ ?_)
        refine WC.region fun K65 hK65 => ?_
        obtain ⟨x66, hx66, h⟩ := bnd h
        refine WL.yld (by decide) (Yld.addC rfl rfl hx66) ?_
        refine WL.yld (by decide) (Yld.move rfl) ?_
        refine WL.done (hK65 _ _ ?_)
        refine QK.thenN ?_
        refine hK37 ⟨q36, A50, x49.length, c51, x49, A59, (rs33 ++ ([(⟨r_53.A, r_53.n, r_53.c⟩ : Hdr)] : List Hdr)).length, c60, x58, (rs33 ++ ([(⟨r_53.A, r_53.n, r_53.c⟩ : Hdr)] : List Hdr)), x66⟩ _ _ ?_ (Nat.lt_succ_self _) (Sub.cons rfl (Sub.cons rfl (Sub.cons rfl (Sub.cons rfl (Sub.cons rfl (Sub.nil _)))))) (Sub.cons rfl (Sub.cons rfl (Sub.cons rfl (Sub.nil _))))
        exact ⟨h, hq62⟩
      ·
       skip
       have hq57 : Rels ((RelB (α := BitVec 8)) M0) ([(⟨r_53.A, r_53.n, r_53.c⟩ : Hdr)] : List Hdr) ([x52] : List (List (BitVec 8))) := (Rels.cons hq55 Rels.nil)
       refine WS.eff rfl (by decide) (Eff.buildC 156 ([(⟨r_53.A, r_53.n, r_53.c⟩ : Hdr)] : List Hdr) sty_35 rfl rfl rfl rfl rfl (by decide)) ?_
       rintro _ _ ⟨g56, rfl, rfl⟩
       refine ⟨(Sub.cons rfl (Sub.nil _)), ?_⟩
       refine WD.one 2 (by kernel_rfl) ?_
       refine WS.eff rfl (by decide) (Eff.buildC 148 ([x35] : List (Int)) sty_28 rfl rfl rfl rfl rfl (by decide)) ?_
       rintro _ _ ⟨g48, rfl, rfl⟩
       refine ⟨(Sub.cons rfl (Sub.nil _)), ?_⟩
       refine WD.one 3 (by kernel_rfl) ?_
       refine WS.eff rfl (by decide) (Eff.appendC 122 (xs := x26) (ys := ([x35] : List (Int))) sty_28 rfl rfl rfl (RdH.own (k := 148) rfl) hx49) ?_
       rintro _ _ ⟨A50, c51, rfl, rfl⟩
       refine ⟨(Sub.cons rfl (Sub.nil _)), ?_⟩
       refine WD.one 10 (by kernel_rfl) ?_
       obtain ⟨hu61, hq62⟩ := Rels.apd hq34 hq57 hx58
       refine WS.eff rfl (by decide) (Eff.appendC 128 (xs := rs33) (ys := ([(⟨r_53.A, r_53.n, r_53.c⟩ : Hdr)] : List Hdr)) sty_35 rfl rfl rfl (RdH.own (k := 156) rfl) hu61) ?_
       rintro _ _ ⟨A59, c60, rfl, rfl⟩
       refine ⟨(Sub.cons rfl (Sub.nil _)), ?_⟩
       refine WD.take 11 rfl (by kernel_rfl) (by kernel_rfl) (by kernel_rfl) (by decide) (Yld.assign rfl) ?_
       refine WD.take 12 rfl (by kernel_rfl) (by kernel_rfl) (by kernel_rfl) (by decide) (Yld.assign rfl) ?_
       refine WD.done (by kernel_rfl) (hK47 _ _ ?_)
       refine QK.blockN ?_
       refine QK.thenN (hK41 _ _ ?_)
       refine WC.region fun K67 hK67 => ?_
       obtain ⟨x68, hx68, h⟩ := bnd h
       refine WL.yld (by decide) (Yld.addC rfl rfl hx68) ?_
       refine WL.yld (by decide) (Yld.move rfl) ?_
       refine WL.done (hK67 _ _ ?_)
       refine QK.thenN ?_
       refine hK37 ⟨q36, A50, x49.length, c51, x49, A59, (rs33 ++ ([(⟨r_53.A, r_53.n, r_53.c⟩ : Hdr)] : List Hdr)).length, c60, x58, (rs33 ++ ([(⟨r_53.A, r_53.n, r_53.c⟩ : Hdr)] : List Hdr)), x68⟩ _ _ ?_ (Nat.lt_succ_self _) (Sub.cons rfl (Sub.cons rfl (Sub.cons rfl (Sub.cons rfl (Sub.cons rfl (Sub.nil _)))))) (Sub.cons rfl (Sub.cons rfl (Sub.cons rfl (Sub.nil _))))
       exact ⟨h, hq62⟩
     ·
      replace h := of_f hc46 h
      refine WC.condFe rfl (decide_eq_false hc46) ?_
      refine WC.skip ?_
      refine QK.blockN ?_
      refine QK.thenN (hK41 _ _ ?_)
      refine WC.region fun K69 hK69 => ?_
      obtain ⟨x70, hx70, h⟩ := bnd h
      refine WL.yld (by decide) (Yld.addC rfl rfl hx70) ?_
      refine WL.yld (by decide) (Yld.move rfl) ?_
      refine WL.done (hK69 _ _ ?_)
      refine QK.thenN ?_
      refine hK37 ⟨q36, A23, n24, c25, x26, A29, n30, c31, x32, rs33, x70⟩ _ _ ?_ (Nat.lt_succ_self _) (Sub.cons rfl (Sub.cons rfl (Sub.cons rfl (Sub.cons rfl (Sub.cons rfl (Sub.nil _)))))) (Sub.cons rfl (Sub.cons rfl (Sub.cons rfl (Sub.nil _))))
      exact ⟨h, hq34⟩
    ·
     replace h := of_f hc45 h
     refine WL.yld (by decide) (Yld.move rfl) ?_
     refine WL.yld (by decide) (Yld.move rfl) ?_
     refine WL.new (v' := .bool false) (congrArg Value.bool (Bool.eq_false_iff.2 hc45)) ?_
     refine WL.skip (by decide) rfl rfl ?_
     refine WL.skip (by decide) rfl rfl ?_
     refine WL.skip (by decide) rfl rfl ?_
     refine WL.yld (by decide) (Yld.pickF rfl rfl) ?_
     refine WL.done (hK44 _ _ ?_)
     refine WC.condF rfl ?_
     refine WC.skip ?_
     refine QK.blockN ?_
     refine QK.thenN (hK41 _ _ ?_)
     refine WC.region fun K71 hK71 => ?_
     obtain ⟨x72, hx72, h⟩ := bnd h
     refine WL.yld (by decide) (Yld.addC rfl rfl hx72) ?_
     refine WL.yld (by decide) (Yld.move rfl) ?_
     refine WL.done (hK71 _ _ ?_)
     refine QK.thenN ?_
     refine hK37 ⟨q36, A23, n24, c25, x26, A29, n30, c31, x32, rs33, x72⟩ _ _ ?_ (Nat.lt_succ_self _) (Sub.cons rfl (Sub.cons rfl (Sub.cons rfl (Sub.cons rfl (Sub.cons rfl (Sub.nil _)))))) (Sub.cons rfl (Sub.cons rfl (Sub.cons rfl (Sub.nil _))))
     exact ⟨h, hq34⟩
   ·
    replace h := of_f hc40 h
    refine WC.condFe rfl (decide_eq_false hc40) ?_
    refine WC.exit (QK.thenE (QK.thenE (QK.blockX ?_)))
    refine QK.thenN ?_
    refine KK.move 122 106 rfl rfl ?_
    refine KK.move 128 112 rfl rfl ?_
    refine hK19 ⟨A23, n24, c25, x26, A29, n30, c31, x32, rs33⟩ _ _ ?_ (Sub.cons rfl (Sub.cons rfl (Sub.nil _))) (Sub.cons rfl (Sub.cons rfl (Sub.cons rfl (Sub.nil _))))
    exact ⟨h, hq34⟩
 ·
  rintro ⟨A7, n8, c9, x10, A13, n14, c15, x16, rs17⟩ ⟨h, hq18⟩
  unfold m_rs_restore_j0 at h
  refine WC.seqRegion fun K73 hK73 => ?_
  obtain ⟨x74, hx74, h⟩ := bnd h
  refine WL.eff (by decide) (Eff.callS 178 rfl Try.func11 nm_11 rfl rfl (fun w hb hh => w_rs_Code (Mem.snap w) hx74)) ?_
  rintro _ _ ⟨_, ⟨A79, n80, c81, rfl, rfl⟩, rfl⟩
  refine WL.eff (by decide) (Eff.alloc 182 rfl zr_24) ?_
  rintro _ _ ⟨g82, rfl, rfl⟩
  refine WL.eff0 (Eff0.storeBAM 182 agg_24 rfl rfl rfl ⟨rfl, rfl⟩ rfl) ?_
  refine WL.done (hK73 _ _ ?_)
  refine WC.seqRegion fun K83 hK83 => ?_
  obtain ⟨x84, hx84, h⟩ := bnd h
  refine WL.yld (by decide) (Yld.loadBM (k := 182) agg_24 rfl rfl rfl) ?_
  refine WL.yld (by decide) (Yld.move rfl) ?_
  refine WL.eff (by decide) (Eff.callS 188 rfl Try.func13 nm_13 rfl rfl (fun w hb hh => w_gfmatrix_Pick (Mem.snap w) x74.1 x74.2.1 A79 n80 c81 _ (RdH.sn (RdH.own (k := 178) rfl) w hb hh) A7 n8 c9 _ (RdH.sn (RdH.own (k := 106) rfl) w hb hh) hx84)) ?_
  rintro _ _ ⟨_, ⟨A89, n90, c91, rfl, rfl⟩, rfl⟩
  refine WL.yld (by decide) (Yld.move rfl) ?_
  refine WL.yld (by decide) (Yld.extract rfl rfl) ?_
  refine WL.yld (by decide) (Yld.extract rfl rfl) ?_
  refine WL.eff (by decide) (Eff.alloc 192 rfl zr_24) ?_
  rintro _ _ ⟨g92, rfl, rfl⟩
  refine WL.eff0 (Eff0.storeBAM 192 agg_24 rfl rfl rfl ⟨rfl, rfl⟩ rfl) ?_
  refine WL.yld (by decide) (Yld.assign rfl) ?_
  refine WL.done (hK83 _ _ ?_)
  refine WC.seqRegion fun K93 hK93 => ?_
  obtain ⟨x94, hx94, h⟩ := bnd h
  refine WL.yld (by decide) (Yld.loadBM (k := 192) agg_24 rfl rfl rfl) ?_
  refine WL.eff (by decide) (Eff.callS 198 rfl Try.func14 nm_14 rfl rfl (fun w hb hh => w_gfmatrix_Invert (Mem.snap w) x84.1 x84.2.1 A89 n90 c91 _ (RdH.sn (RdH.own (k := 188) rfl) w hb hh) hx94)) ?_
  rintro _ _ ⟨_, ⟨A99, n100, c101, rfl, rfl⟩, rfl⟩
  refine WL.yld (by decide) (Yld.move rfl) ?_
  refine WL.yld (by decide) (Yld.extract rfl rfl) ?_
  refine WL.yld (by decide) (Yld.extract rfl rfl) ?_
  refine WL.eff (by decide) (Eff.alloc 202 rfl zr_24) ?_
  rintro _ _ ⟨g102, rfl, rfl⟩
  refine WL.eff0 (Eff0.storeBAM 202 agg_24 rfl rfl rfl ⟨rfl, rfl⟩ rfl) ?_
  refine WL.yld (by decide) (Yld.assign rfl) ?_
  refine WL.done (hK93 _ _ ?_)
  refine WC.seqRegion fun K103 hK103 => ?_
  obtain ⟨x104, hx104, h⟩ := bnd h
  refine WL.yld (by decide) (Yld.loadBM (k := 182) agg_24 rfl rfl rfl) ?_
  refine WL.yld (by decide) (Yld.loadBM (k := 202) agg_24 rfl rfl rfl) ?_
  refine WL.eff (by decide) (Eff.callS 208 rfl Try.func29 nm_29 rfl rfl (fun w hb hh => w_gfmatrix_Mul (Mem.snap w) x74.1 x74.2.1 A79 n80 c81 _ (RdH.sn (RdH.own (k := 178) rfl) w hb hh) x94.1 x94.2.1 A99 n100 c101 _ (RdH.sn (RdH.own (k := 198) rfl) w hb hh) hx104)) ?_
  rintro _ _ ⟨_, ⟨A109, n110, c111, rfl, rfl⟩, rfl⟩
  refine WL.yld (by decide) (Yld.move rfl) ?_
  refine WL.yld (by decide) (Yld.extract rfl rfl) ?_
  refine WL.yld (by decide) (Yld.extract rfl rfl) ?_
  refine WL.eff (by decide) (Eff.alloc 212 rfl zr_24) ?_
  rintro _ _ ⟨g112, rfl, rfl⟩
  refine WL.eff0 (Eff0.storeBAM 212 agg_24 rfl rfl rfl ⟨rfl, rfl⟩ rfl) ?_
  refine WL.yld (by decide) (Yld.assign rfl) ?_
  refine WL.done (hK103 _ _ ?_)
  refine WC.seqRegion fun K113 hK113 => ?_
  obtain ⟨x114, hx114, h⟩ := bnd h
  refine WL.yld (by decide) (Yld.loadBM (k := 212) agg_24 rfl rfl rfl) ?_
  refine WL.yld (by decide) (Yld.move rfl) ?_
  refine WL.freeze 208 rfl rfl rfl fun M126 hm_M126 hf127 => ?_
  refine WL.freeze 112 rfl rfl rfl fun M128 hm_M128 hf129 => ?_
  refine WL.eff (by decide) (Eff.callM 220 rfl Try.func48 nm_48 rfl rfl rfl (w_gfmatrix_Apply _ x104.1 x104.2.1 A109 n110 c111 _ (SlRc.lift hf127 hm_M128) A13 n14 c15 rs17 _ hf129 (Rels.lift (Rels.lift hq18 hm_M126) hm_M128) hx114)) ?_
  rintro _ _ ⟨M130, _, ⟨A131, n132, c133, rs134, rfl, rfl, hq135⟩, hm_M130, rfl⟩
  refine WL.yld (by decide) (Yld.move rfl) ?_
  refine WL.yld (by decide) (Yld.extract rfl rfl) ?_
  refine WL.yld (by decide) (Yld.extract rfl rfl) ?_
  refine WL.yld (by decide) (Yld.assign rfl) ?_
  refine WL.yld (by decide) (Yld.assign rfl) ?_
  refine WL.done (hK113 _ _ ?_)
  refine WC.seqRegion fun K136 hK136 => ?_
  refine WL.yld (by decide) (Yld.move rfl) ?_
  refine WL.yld (by decide) (Yld.assign rfl) ?_
  refine WL.done (hK136 _ _ ?_)
  refine WC.ret ?_
  injection h with h; subst h
  exact Ret.fn [220] (ResIs.one rfl rfl) rfl (Ext.trans (Ext.trans hm_M126 hm_M128) hm_M130) rfl (by decide) rfl rfl ⟨A131, n132, c133, rs134, rfl, rfl, hq135⟩

set_option maxRecDepth 10000 in
theorem w_rs_Restore (M0 : Mem) (A00 : Option Addr) (n00 c00 : Nat) (rs00 : List Hdr) (x00 : List (List (BitVec 8))) (hf00 : SlT M0 A00 n00 c00 rs00) (hq00 : Rels ((RelB (α := BitVec 8)) M0) rs00 x00) (A01 : Option Addr) (n01 c01 : Nat) (x01 : List (Bool)) (hf01 : SlT M0 A01 n01 c01 x01) {res : (List (List (BitVec 8))) × Int} (h : m_rs_Restore x00 x01 = some res) :
  Fn Try.prog 19 #[.slice A00 n00 c00, .slice A01 n01 c01] M0 fun r M' es => ∃ (A1 : Option Addr) (n1 c1 : Nat), ∃ rs1 : List Hdr, r = .tuple #[.slice A1 n1 c1, I64 res.2] ∧ es = [.own 22 (Lay.sz Hdr) A1 n1 c1 (cel rs1)] ∧ Rels ((RelB (α := BitVec 8)) M') rs1 res.1 := by
 refine Fn.intro (N := 51) Try.func19 rfl rfl (Nat.le_of_ble_eq_true rfl) fun w0 => ?_
 unfold m_rs_Restore at h
 refine WC.seqRegion fun K1 hK1 => ?_
 refine WL.yld (by decide) (Yld.assign rfl) ?_
 refine WL.yld (by decide) (Yld.assign rfl) ?_
 refine WL.done (hK1 _ _ ?_)
 refine WC.seqCut (σ := Unit) (fun _ => [(0, .slice A00 n00 c00), (1, .slice A01 n01 c01)]) (fun _ => [(0, .mem M0)]) (fun _ => m_rs_Restore_j0 x00 x01 = some res) (fun K2 hK2 => ?_) ?_
 ·
  skip
  refine WC.seqRegion fun K3 hK3 => ?_
  by_cases hc4 : (x00.length : Int) = (6 : Int)
  ·
   replace h := of_t hc4 h
   refine WL.yld (by decide) (Yld.move rfl) ?_
   refine WL.yld (by decide) (Yld.lenD (rs := rs00) (xs := x00) (Rels.len hq00) und_35 rfl (RdH.memM (k := 0) rfl hf00)) ?_
   refine WL.yld (by decide) (Yld.neqI rfl rfl) ?_
   refine WL.yld (by decide) (Yld.move rfl) ?_
   refine WL.new (v' := .bool false) (congrArg Value.bool (bne_eq_false_iff_eq.2 hc4)) ?_
   refine WL.yldG (by decide) rfl (Yld.move rfl) ?_
   refine WL.yldG (by decide) rfl (Yld.lenC (xs := x01) und_36 rfl (RdH.memM (k := 0) rfl hf01)) ?_
   refine WL.yldG (by decide) rfl (Yld.neqI rfl rfl) ?_
   refine WL.yld (by decide) (Yld.pickF rfl rfl) ?_
   refine WL.done (hK3 _ _ ?_)
   by_cases hc5 : (x01.length : Int) = (6 : Int)
   ·
    replace h := of_t hc5 h
    refine WC.condFe rfl (bne_eq_false_iff_eq.2 hc5) ?_
    refine WC.skip ?_
    refine QK.thenN ?_
    refine hK2 () _ _ ?_ (Sub.cons rfl (Sub.cons rfl (Sub.nil _))) (Sub.cons rfl (Sub.nil _))
    exact h
   ·
    replace h := of_f hc5 h
    refine WC.condTe rfl (bne_iff_ne.2 hc5) ?_
    refine WC.seqRegion fun K6 hK6 => ?_
    refine WL.yld (by decide) (Yld.assign rfl) ?_
    refine WL.yld (by decide) (Yld.assign rfl) ?_
    refine WL.done (hK6 _ _ ?_)
    refine WC.ret (QK.thenR ?_)
    refine QK.nilOwn 107 22 (Lay.sz Hdr) none ?_
    injection h with h; subst h
    exact Ret.fn [107] (ResIs.two rfl rfl rfl) rfl (Ext.refl _ _) rfl (by decide) rfl rfl ⟨none, 0, 0, ([] : List Hdr), rfl, rfl, (Rels.nil (R := (RelB (α := BitVec 8)) M0))⟩
  ·
   replace h := of_f hc4 h
   refine WL.yld (by decide) (Yld.move rfl) ?_
   refine WL.yld (by decide) (Yld.lenD (rs := rs00) (xs := x00) (Rels.len hq00) und_35 rfl (RdH.memM (k := 0) rfl hf00)) ?_
   refine WL.yld (by decide) (Yld.neqI rfl rfl) ?_
   refine WL.yld (by decide) (Yld.move rfl) ?_
   refine WL.new (v' := .bool true) (congrArg Value.bool (bne_iff_ne.2 hc4)) ?_
   refine WL.skip (by decide) rfl rfl ?_
   refine WL.skip (by decide) rfl rfl ?_
   refine WL.skip (by decide) rfl rfl ?_
   refine WL.yld (by decide) (Yld.pickT rfl rfl) ?_
   refine WL.done (hK3 _ _ ?_)
   refine WC.condT rfl ?_
   refine WC.seqRegion fun K8 hK8 => ?_
   refine WL.yld (by decide) (Yld.assign rfl) ?_
   refine WL.yld (by decide) (Yld.assign rfl) ?_
   refine WL.done (hK8 _ _ ?_)
   refine WC.ret (QK.thenR ?_)
   refine QK.nilOwn 109 22 (Lay.sz Hdr) none ?_
   injection h with h; subst h
   exact Ret.fn [109] (ResIs.two rfl rfl rfl) rfl (Ext.refl _ _) rfl (by decide) rfl rfl ⟨none, 0, 0, ([] : List Hdr), rfl, rfl, (Rels.nil (R := (RelB (α := BitVec 8)) M0))⟩
 ·
  rintro _ h
  unfold m_rs_Restore_j0 at h
  refine WC.seqRegion fun K10 hK10 => ?_
  obtain ⟨x11, hx11, h⟩ := bnd h
  refine WL.yld (by decide) (Yld.move rfl) ?_
  refine WL.yld (by decide) (Yld.arrayAtC (xs := x01) und_77 rfl (RdH.memM (k := 0) rfl hf01) hx11) ?_
  refine WL.yld (by decide) (Yld.loadTk (xs := x01) agg_77 rfl (Nat.lt_of_sub_eq_succ rfl) rfl (RdH.memM (k := 0) rfl hf01) hx11) ?_
  refine WL.eff (by decide) (Eff.alloc 112 rfl zr_77) ?_
  rintro _ _ ⟨g12, rfl, rfl⟩
  refine WL.eff0 (Eff0.storeBAM 112 agg_77 rfl rfl rfl ⟨cel_len1 rfl (tka_len hx11), cel_len1 rfl List.length_replicate⟩ (cel_all _)) ?_
  refine WL.done (hK10 _ _ ?_)
  refine WC.seqRegion fun K13 hK13 => ?_
  refine WL.yld (by decide) (Yld.assign rfl) ?_
  refine WL.yld (by decide) (Yld.assign rfl) ?_
  refine WL.done (hK13 _ _ ?_)
  refine WC.seqCut (σ := Int) (fun x14 => [(0, .slice A00 n00 c00), (6, .pointer (some ⟨g12, 0, none⟩)), (8, I64 x14)]) (fun x14 => [(0, .mem M0), (112, .blk g12 77 (cel x11))]) (fun x14 => m_rs_Restore_j1 x00 x11 x14 = some res) (fun K15 hK15 => ?_) ?_
  ·
   skip
   refine WC.seqRegion fun K16 hK16 => ?_
   refine WL.yld (by decide) (Yld.loadBM (k := 112) agg_77 rfl rfl (cel_len1 rfl (tka_len hx11))) ?_
   refine WL.yld (by decide) (Yld.move rfl) ?_
   refine WL.done (hK16 _ _ ?_)
   refine WC.block ?_
   refine WC.loop (σ := Nat × Int × Int × Int) (fun ⟨q20, x17, x18, x19⟩ => [(0, .slice A00 n00 c00), (6, .pointer (some ⟨g12, 0, none⟩)), (7, I64 x17), (8, I64 x18), (22, .agg (cel x11).toArray), (23, I64 x19)]) (fun ⟨q20, x17, x18, x19⟩ => [(0, .mem M0), (112, .blk g12 77 (cel x11))]) (fun ⟨q20, x17, x18, x19⟩ => m_rs_Restore_l2 x00 x11 q20 x17 x18 x19 = some res) (fun ⟨q20, x17, x18, x19⟩ => q20) ⟨forever, (-1 : Int), (0 : Int), (0 : Int)⟩ ?_ (Sub.cons rfl (Sub.cons rfl (Sub.cons rfl (Sub.cons rfl (Sub.cons rfl (Sub.cons rfl (Sub.nil _))))))) (Sub.cons rfl (Sub.cons rfl (Sub.nil _))) ?_
   ·
    exact h
   rintro ⟨q20, x17, x18, x19⟩ h K21 hK21
   cases q20 with
   | zero => exact absurd h (by simp [m_rs_Restore_l2])
   | succ q20 =>
    unfold m_rs_Restore_l2 at h
    refine WC.seqRegion fun K22 hK22 => ?_
    refine WL.yld (by decide) (Yld.lss rfl rfl) ?_
    refine WL.done (hK22 _ _ ?_)
    refine WC.seq fun K23 hK23 => ?_
    by_cases hc24 : x19 < (6 : Int)
    ·
     replace h := of_t hc24 h
     refine WC.condTe rfl (decide_eq_true hc24) ?_
     refine WC.skip ?_
     refine QK.thenN (hK23 _ _ ?_)
     refine WC.seq fun K25 hK25 => ?_
     refine WC.block ?_
     refine WC.seqRegion fun K26 hK26 => ?_
     obtain ⟨x27, hx27, h⟩ := bnd h
     refine WL.yld (by decide) (Yld.move rfl) ?_
     refine WL.yld (by decide) (Yld.idxAggC (xs := x11) und_77 siz_4 rfl scal_4 rfl rfl (tka_len hx11) hx27 rfl) ?_
     refine WL.yld (by decide) (Yld.assign rfl) ?_
     refine WL.yld (by decide) (Yld.assign rfl) ?_
     refine WL.done (hK26 _ _ ?_)
     refine WC.seq fun K28 hK28 => ?_
     refine WC.seqRegion fun K29 hK29 => ?_
     refine WL.yld (by decide) (Yld.move rfl) ?_
     refine WL.yld (by decide) (Yld.notB rfl) ?_
     refine WL.done (hK29 _ _ ?_)
     by_cases hc30 : x27 = true
     ·
      replace h := of_t hc30 h
      refine WC.condFe rfl (not_f hc30) ?_
      refine WC.skip ?_
      refine QK.thenN (hK28 _ _ ?_)
      refine WC.seq fun K31 hK31 => ?_
      refine WC.seqRegion fun K32 hK32 => ?_
      refine WL.yld (by decide) (Yld.move rfl) ?_
      refine WL.yld (by decide) (Yld.lss rfl rfl) ?_
      refine WL.done (hK32 _ _ ?_)
      by_cases hc33 : x17 < (0 : Int)
      ·
       replace h := of_t hc33 h
       refine WC.condTe rfl (decide_eq_true hc33) ?_
       refine WC.region fun K34 hK34 => ?_
       refine WL.yld (by decide) (Yld.move rfl) ?_
       refine WL.yld (by decide) (Yld.assign rfl) ?_
       refine WL.done (hK34 _ _ ?_)
       refine QK.thenN (hK31 _ _ ?_)
       refine WC.seq fun K35 hK35 => ?_
       refine WC.seqRegionD (n := 11) [(0, _), (112, _)] rfl mixed (Sub.cons rfl (Sub.cons rfl (Sub.nil _))) fun K36 hK36 => ?_
       obtain ⟨x37, hx37, h⟩ := bnd h
       obtain ⟨x41, hx41, h⟩ := bnd h
       refine WD.take 0 rfl (by kernel_rfl) (by kernel_rfl) (by kernel_rfl) (by decide) (Yld.move rfl) ?_
       refine WD.take 1 rfl (by kernel_rfl) (by kernel_rfl) (by kernel_rfl) (by decide) (Yld.move rfl) ?_
       obtain ⟨r_38, hr39, hq40⟩ := Rels.idx hq00 hx37
       refine WD.take 2 rfl (by kernel_rfl) (by kernel_rfl) (by kernel_rfl) (by decide) (Yld.idxC (xs := rs00) sty_35 rfl rfl (RdH.memM (k := 0) rfl hf00) hr39) ?_
       refine WD.take 3 rfl (by kernel_rfl) (by kernel_rfl) (by kernel_rfl) (by decide) (Yld.loadC0 (xs := rs00) scal_22 rfl (RdH.memM (k := 0) rfl hf00) hr39 rfl) ?_
       refine WD.take 4 rfl (by kernel_rfl) (by kernel_rfl) (by kernel_rfl) (by decide) (Yld.lenC (xs := x37) und_22 rfl (RdH.memM (k := 0) rfl hq40)) ?_
       refine WD.take 5 rfl (by kernel_rfl) (by kernel_rfl) (by kernel_rfl) (by decide) (Yld.move rfl) ?_
       refine WD.take 6 rfl (by kernel_rfl) (by kernel_rfl) (by kernel_rfl) (by decide) (Yld.move rfl) ?_
       obtain ⟨r_42, hr43, hq44⟩ := Rels.idx hq00 hx41
       refine WD.take 7 rfl (by kernel_rfl) (by kernel_rfl) (by kernel_rfl) (by decide) (Yld.idxC (xs := rs00) sty_35 rfl rfl (RdH.memM (k := 0) rfl hf00) hr43) ?_
       refine WD.take 8 rfl (by kernel_rfl) (by kernel_rfl) (by kernel_rfl) (by decide) (Yld.loadC0 (xs := rs00) scal_22 rfl (RdH.memM (k := 0) rfl hf00) hr43 rfl) ?_
       refine WD.take 9 rfl (by kernel_rfl) (by kernel_rfl) (by kernel_rfl) (by decide) (Yld.lenC (xs := x41) und_22 rfl (RdH.memM (k := 0) rfl hq44)) ?_
       refine WD.take 10 rfl (by kernel_rfl) (by kernel_rfl) (by kernel_rfl) (by decide) (Yld.neqI rfl rfl) ?_
       refine WD.done (by kernel_rfl) (hK36 _ _ ?_)
       by_cases hc45 : (x37.length : Int) = (x41.length : Int)
       ·
        replace h := of_t hc45 h
        refine WC.condFe rfl (bne_eq_false_iff_eq.2 hc45) ?_
        refine WC.skip ?_
        refine QK.thenN (hK35 _ _ ?_)
        refine WC.region fun K46 hK46 => ?_
        obtain ⟨x47, hx47, h⟩ := bnd h
        refine WL.yld (by decide) (Yld.move rfl) ?_
        refine WL.yld (by decide) (Yld.addC rfl rfl hx47) ?_
        refine WL.yld (by decide) (Yld.assign rfl) ?_
        refine WL.done (hK46 _ _ ?_)
        refine QK.blockN ?_
        refine QK.thenN (hK25 _ _ ?_)
        refine WC.region fun K48 hK48 => ?_
        obtain ⟨x49, hx49, h⟩ := bnd h
        refine WL.yld (by decide) (Yld.addC rfl rfl hx49) ?_
        refine WL.yld (by decide) (Yld.move rfl) ?_
        refine WL.done (hK48 _ _ ?_)
        refine QK.thenN ?_
        refine hK21 ⟨q20, x19, x47, x49⟩ _ _ ?_ (Nat.lt_succ_self _) (Sub.cons rfl (Sub.cons rfl (Sub.cons rfl (Sub.cons rfl (Sub.cons rfl (Sub.cons rfl (Sub.nil _))))))) (Sub.cons rfl (Sub.cons rfl (Sub.nil _)))
        exact h
       ·
        replace h := of_f hc45 h
        refine WC.condTe rfl (bne_iff_ne.2 hc45) ?_
        refine WC.seqRegion fun K50 hK50 => ?_
        refine WL.yld (by decide) (Yld.assign rfl) ?_
        refine WL.yld (by decide) (Yld.assign rfl) ?_
        refine WL.done (hK50 _ _ ?_)
        refine WC.ret (QK.thenR (QK.blockR (QK.thenR (QK.thenR (QK.blockR (QK.thenR ?_))))))
        refine QK.nilOwn 151 22 (Lay.sz Hdr) none ?_
        injection h with h; subst h
        exact Ret.fn [151] (ResIs.two rfl rfl rfl) rfl (Ext.refl _ _) rfl (by decide) rfl rfl ⟨none, 0, 0, ([] : List Hdr), rfl, rfl, (Rels.nil (R := (RelB (α := BitVec 8)) M0))⟩
      ·
       replace h := of_f hc33 h
       refine WC.condFe rfl (decide_eq_false hc33) ?_
       refine WC.skip ?_
       refine QK.thenN (hK31 _ _ ?_)
       refine WC.seq fun K52 hK52 => ?_
       refine WC.seqRegionD (n := 11) [(0, _), (112, _)] rfl mixed (Sub.cons rfl (Sub.cons rfl (Sub.nil _))) fun K53 hK53 => ?_
       obtain ⟨x54, hx54, h⟩ := bnd h
       obtain ⟨x58, hx58, h⟩ := bnd h
       refine WD.take 0 rfl (by kernel_rfl) (by kernel_rfl) (by kernel_rfl) (by decide) (Yld.move rfl) ?_
       refine WD.take 1 rfl (by kernel_rfl) (by kernel_rfl) (by kernel_rfl) (by decide) (Yld.move rfl) ?_
       obtain ⟨r_55, hr56, hq57⟩ := Rels.idx hq00 hx54
       refine WD.take 2 rfl (by kernel_rfl) (by kernel_rfl) (by kernel_rfl) (by decide) (Yld.idxC (xs := rs00) sty_35 rfl rfl (RdH.memM (k := 0) rfl hf00) hr56) ?_
       refine WD.take 3 rfl (by kernel_rfl) (by kernel_rfl) (by kernel_rfl) (by decide) (Yld.loadC0 (xs := rs00) scal_22 rfl (RdH.memM (k := 0) rfl hf00) hr56 rfl) ?_
       refine WD.take 4 rfl (by kernel_rfl) (by kernel_rfl) (by kernel_rfl) (by decide) (Yld.lenC (xs := x54) und_22 rfl (RdH.memM (k := 0) rfl hq57)) ?_
       refine WD.take 5 rfl (by kernel_rfl) (by kernel_rfl) (by kernel_rfl) (by decide) (Yld.move rfl) ?_
       refine WD.take 6 rfl (by kernel_rfl) (by kernel_rfl) (by kernel_rfl) (by decide) (Yld.move rfl) ?_
       obtain ⟨r_59, hr60, hq61⟩ := Rels.idx hq00 hx58
       refine WD.take 7 rfl (by kernel_rfl) (by kernel_rfl) (by kernel_rfl) (by decide) (Yld.idxC (xs := rs00) sty_35 rfl rfl (RdH.memM (k := 0) rfl hf00) hr60) ?_
       refine WD.take 8 rfl (by kernel_rfl) (by kernel_rfl) (by kernel_rfl) (by decide) (Yld.loadC0 (xs := rs00) scal_22 rfl (RdH.memM (k := 0) rfl hf00) hr60 rfl) ?_
       refine WD.take 9 rfl (by kernel_rfl) (by kernel_rfl) (by kernel_rfl) (by decide) (Yld.lenC (xs := x58) und_22 rfl (RdH.memM (k := 0) rfl hq61)) ?_
       refine WD.take 10 rfl (by kernel_rfl) (by kernel_rfl) (by kernel_rfl) (by decide) (Yld.neqI rfl rfl) ?_
       refine WD.done (by kernel_rfl) (hK53 _ _ ?_)
       by_cases hc62 : (x54.length : Int) = (x58.length : Int)
       ·
        replace h := of_t hc62 h
        refine WC.condFe rfl (bne_eq_false_iff_eq.2 hc62) ?_
        refine WC.skip ?_
        refine QK.thenN (hK52 _ _ ?_)
        refine WC.region fun K63 hK63 => ?_
        obtain ⟨x64, hx64, h⟩ := bnd h
        refine WL.yld (by decide) (Yld.move rfl) ?_
        refine WL.yld (by decide) (Yld.addC rfl rfl hx64) ?_
        refine WL.yld (by decide) (Yld.assign rfl) ?_
        refine WL.done (hK63 _ _ ?_)
        refine QK.blockN ?_
        refine QK.thenN (hK25 _ _ ?_)
        refine WC.region fun K65 hK65 => ?_
        obtain ⟨x66, hx66, h⟩ := bnd h
        refine WL.yld (by decide) (Yld.addC rfl rfl hx66) ?_
        refine WL.yld (by decide) (Yld.move rfl) ?_
        refine WL.done (hK65 _ _ ?_)
        refine QK.thenN ?_
        refine hK21 ⟨q20, x17, x64, x66⟩ _ _ ?_ (Nat.lt_succ_self _) (Sub.cons rfl (Sub.cons rfl (Sub.cons rfl (Sub.cons rfl (Sub.cons rfl (Sub.cons rfl (Sub.nil _))))))) (Sub.cons rfl (Sub.cons rfl (Sub.nil _)))
        exact h
       ·
        replace h := of_f hc62 h
        refine WC.condTe rfl (bne_iff_ne.2 hc62) ?_
        refine WC.seqRegion fun K67 hK67 => ?_
        refine WL.yld (by decide) (Yld.assign rfl) ?_
        refine WL.yld (by decide) (Yld.assign rfl) ?_
        refine WL.done (hK67 _ _ ?_)
        refine WC.ret (QK.thenR (QK.blockR (QK.thenR (QK.thenR (QK.blockR (QK.thenR ?_))))))
        refine QK.nilOwn 168 22 (Lay.sz Hdr) none ?_
        injection h with h; subst h
        exact Ret.fn [168] (ResIs.two rfl rfl rfl) rfl (Ext.refl _ _) rfl (by decide) rfl rfl ⟨none, 0, 0, ([] : List Hdr), rfl, rfl, (Rels.nil (R := (RelB (α := BitVec 8)) M0))⟩
     ·
      replace h := of_f hc30 h
      refine WC.condTe rfl (not_t (Bool.eq_false_iff.2 hc30)) ?_
      refine WC.exit (QK.thenE (QK.blockX ?_))
      refine QK.thenN (hK25 _ _ ?_)
      refine WC.region fun K69 hK69 => ?_
      obtain ⟨x70, hx70, h⟩ := bnd h
      refine WL.yld (by decide) (Yld.addC rfl rfl hx70) ?_
      refine WL.yld (by decide) (Yld.move rfl) ?_
      refine WL.done (hK69 _ _ ?_)
      refine QK.thenN ?_
      refine hK21 ⟨q20, x17, x18, x70⟩ _ _ ?_ (Nat.lt_succ_self _) (Sub.cons rfl (Sub.cons rfl (Sub.cons rfl (Sub.cons rfl (Sub.cons rfl (Sub.cons rfl (Sub.nil _))))))) (Sub.cons rfl (Sub.cons rfl (Sub.nil _)))
      exact h
    ·
     replace h := of_f hc24 h
     refine WC.condFe rfl (decide_eq_false hc24) ?_
     refine WC.exit (QK.thenE (QK.thenE (QK.blockX ?_)))
     refine QK.thenN ?_
     refine hK15 x18 _ _ ?_ (Sub.cons rfl (Sub.cons rfl (Sub.cons rfl (Sub.nil _)))) (Sub.cons rfl (Sub.cons rfl (Sub.nil _)))
     exact h
  ·
   rintro x14 h
   unfold m_rs_Restore_j1 at h
   refine WC.seq fun K71 hK71 => ?_
   refine WC.seqRegion fun K72 hK72 => ?_
   refine WL.yld (by decide) (Yld.move rfl) ?_
   refine WL.yld (by decide) (Yld.lss rfl rfl) ?_
   refine WL.done (hK72 _ _ ?_)
   by_cases hc73 : x14 < (4 : Int)
   ·
    replace h := of_t hc73 h
    refine WC.condTe rfl (decide_eq_true hc73) ?_
    refine WC.seqRegion fun K74 hK74 => ?_
    refine WL.yld (by decide) (Yld.assign rfl) ?_
    refine WL.yld (by decide) (Yld.assign rfl) ?_
    refine WL.done (hK74 _ _ ?_)
    refine WC.ret (QK.thenR ?_)
    refine QK.nilOwn 175 22 (Lay.sz Hdr) none ?_
    injection h with h; subst h
    exact Ret.fn [175] (ResIs.two rfl rfl rfl) rfl (Ext.refl _ _) rfl (by decide) rfl rfl ⟨none, 0, 0, ([] : List Hdr), rfl, rfl, (Rels.nil (R := (RelB (α := BitVec 8)) M0))⟩
   ·
    replace h := of_f hc73 h
    refine WC.condFe rfl (decide_eq_false hc73) ?_
    refine WC.skip ?_
    refine QK.thenN (hK71 _ _ ?_)
    refine WC.seqRegion fun K76 hK76 => ?_
    obtain ⟨x77, hx77, h⟩ := bnd h
    refine WL.yld (by decide) (Yld.move rfl) ?_
    refine WL.yld (by decide) (Yld.loadBM (k := 112) agg_77 rfl rfl (cel_len1 rfl (tka_len hx11))) ?_
    refine WL.eff (by decide) (Eff.callM 183 rfl Try.func46 nm_46 rfl rfl rfl (w_rs_restore _ A00 n00 c00 rs00 _ hf00 hq00 x11 (tka_len hx11) hx77)) ?_
    rintro _ _ ⟨M89, _, ⟨A90, n91, c92, rs93, rfl, rfl, hq94⟩, hm_M89, rfl⟩
    refine WL.yld (by decide) (Yld.assign rfl) ?_
    refine WL.yld (by decide) (Yld.assign rfl) ?_
    refine WL.done (hK76 _ _ ?_)
    refine WC.ret ?_
    injection h with h; subst h
    exact Ret.fn [183] (ResIs.two rfl rfl rfl) rfl hm_M89 rfl (by decide) rfl rfl ⟨A90, n91, c92, rs93, rfl, rfl, hq94⟩

set_option maxRecDepth 10000 in
theorem w_rs_differing (M0 : Mem) (A00 : Option Addr) (n00 c00 : Nat) (rs00 : List Hdr) (x00 : List (List (BitVec 8))) (hf00 : SlT M0 A00 n00 c00 rs00) (hq00 : Rels ((RelB (α := BitVec 8)) M0) rs00 x00) (A01 : Option Addr) (n01 c01 : Nat) (rs01 : List Hdr) (x01 : List (List (BitVec 8))) (hf01 : SlT M0 A01 n01 c01 rs01) (hq01 : Rels ((RelB (α := BitVec 8)) M0) rs01 x01) {res : (List (Bool))} (h : m_rs_differing x00 x01 = some res) :
  Fn Try.prog 51 #[.slice A00 n00 c00, .slice A01 n01 c01] M0 fun r M' es => r = .agg (cel res).toArray ∧ es = [] ∧ (res).length = 6 := by
 refine Fn.intro (N := 24) Try.func51 rfl rfl (Nat.le_of_ble_eq_true rfl) fun w0 => ?_
 unfold m_rs_differing at h
 refine WC.seqRegion fun K1 hK1 => ?_
 refine WL.eff (by decide) (Eff.alloc 102 rfl zr_77) ?_
 rintro _ _ ⟨g2, rfl, rfl⟩
 refine WL.done (hK1 _ _ ?_)
 refine WC.seqRegion fun K3 hK3 => ?_
 refine WL.eff (by decide) (Eff.alloc 104 rfl zr_77) ?_
 rintro _ _ ⟨g4, rfl, rfl⟩
 refine WL.done (hK3 _ _ ?_)
 refine WC.seqCut (σ := (List (Bool))) (fun x5 => [(4, .pointer (some ⟨g2, 0, none⟩)), (5, .pointer (some ⟨g4, 0, none⟩))]) (fun x5 => [(0, .mem M0), (102, .blk g2 77 (cel (List.replicate 6 (false)))), (104, .blk g4 77 (cel x5))]) (fun x5 => m_rs_differing_j0 x5 = some res ∧ x5.length = 6) (fun K7 hK7 => ?_) ?_
 ·
  skip
  refine WC.seqRegion fun K8 hK8 => ?_
  refine WL.yld (by decide) (Yld.move rfl) ?_
  refine WL.done (hK8 _ _ ?_)
  refine WC.block ?_
  refine WC.loop (σ := Nat × (List (Bool)) × Int) (fun ⟨q12, x9, x11⟩ => [(0, .slice A00 n00 c00), (1, .slice A01 n01 c01), (4, .pointer (some ⟨g2, 0, none⟩)), (5, .pointer (some ⟨g4, 0, none⟩)), (7, I64 x11)]) (fun ⟨q12, x9, x11⟩ => [(0, .mem M0), (102, .blk g2 77 (cel (List.replicate 6 (false)))), (104, .blk g4 77 (cel x9))]) (fun ⟨q12, x9, x11⟩ => m_rs_differing_l1 x00 x01 q12 x9 x11 = some res ∧ x9.length = 6) (fun ⟨q12, x9, x11⟩ => q12) ⟨forever, (List.replicate 6 (false)), (0 : Int)⟩ ?_ (Sub.cons rfl (Sub.cons rfl (Sub.cons rfl (Sub.cons rfl (Sub.cons rfl (Sub.nil _)))))) (Sub.cons rfl (Sub.cons rfl (Sub.cons rfl (Sub.nil _)))) ?_
  ·
   exact ⟨h, List.length_replicate⟩
  rintro ⟨q12, x9, x11⟩ ⟨h, hl10⟩ K13 hK13
  cases q12 with
  | zero => exact absurd h (by simp [m_rs_differing_l1])
  | succ q12 =>
   unfold m_rs_differing_l1 at h
   refine WC.seqRegion fun K14 hK14 => ?_
   refine WL.yld (by decide) (Yld.lss rfl rfl) ?_
   refine WL.done (hK14 _ _ ?_)
   refine WC.seq fun K15 hK15 => ?_
   by_cases hc16 : x11 < (6 : Int)
   ·
    replace h := of_t hc16 h
    refine WC.condTe rfl (decide_eq_true hc16) ?_
    refine WC.skip ?_
    refine QK.thenN (hK15 _ _ ?_)
    refine WC.seq fun K17 hK17 => ?_
    refine WC.block ?_
    refine WC.seqRegion fun K18 hK18 => ?_
    refine WL.yld (by decide) (Yld.move rfl) ?_
    refine WL.yld (by decide) (Yld.assign rfl) ?_
    refine WL.done (hK18 _ _ ?_)
    refine WC.regionD (n := 13) [(0, _), (102, _)] rfl mixed (Sub.cons rfl (Sub.cons rfl (Sub.nil _))) fun K19 hK19 => ?_
    obtain ⟨x20, hx20, h⟩ := bnd h
    obtain ⟨x24, hx24, h⟩ := bnd h
    obtain ⟨x28, hx28, h⟩ := bnd h
    obtain ⟨x30, hx30, h⟩ := bnd h
    obtain ⟨x31, hx31, h⟩ := bnd h
    refine WD.take 0 rfl (by kernel_rfl) (by kernel_rfl) (by kernel_rfl) (by decide) (Yld.move rfl) ?_
    refine WD.take 1 rfl (by kernel_rfl) (by kernel_rfl) (by kernel_rfl) (by decide) (Yld.move rfl) ?_
    refine WD.take 2 rfl (by kernel_rfl) (by kernel_rfl) (by kernel_rfl) (by decide) (Yld.move rfl) ?_
    obtain ⟨r_21, hr22, hq23⟩ := Rels.idx hq00 hx20
    refine WD.take 3 rfl (by kernel_rfl) (by kernel_rfl) (by kernel_rfl) (by decide) (Yld.idxC (xs := rs00) sty_35 rfl rfl (RdH.memM (k := 0) rfl hf00) hr22) ?_
    refine WD.take 4 rfl (by kernel_rfl) (by kernel_rfl) (by kernel_rfl) (by decide) (Yld.loadC0 (xs := rs00) scal_22 rfl (RdH.memM (k := 0) rfl hf00) hr22 rfl) ?_
    refine WD.take 5 rfl (by kernel_rfl) (by kernel_rfl) (by kernel_rfl) (by decide) (Yld.move rfl) ?_
    refine WD.take 6 rfl (by kernel_rfl) (by kernel_rfl) (by kernel_rfl) (by decide) (Yld.move rfl) ?_
    obtain ⟨r_25, hr26, hq27⟩ := Rels.idx hq01 hx24
    refine WD.take 7 rfl (by kernel_rfl) (by kernel_rfl) (by kernel_rfl) (by decide) (Yld.idxC (xs := rs01) sty_35 rfl rfl (RdH.memM (k := 0) rfl hf01) hr26) ?_
    refine WD.take 8 rfl (by kernel_rfl) (by kernel_rfl) (by kernel_rfl) (by decide) (Yld.loadC0 (xs := rs01) scal_22 rfl (RdH.memM (k := 0) rfl hf01) hr26 rfl) ?_
    refine WD.one 9 (by kernel_rfl) ?_
    refine WS.eff rfl (by decide) (Eff.callS 129 rfl Try.func50 nm_50 rfl rfl (fun w hb hh => w_bytes_Equal (Mem.snap w) r_21.A r_21.n r_21.c _ (RdH.sn (RdH.memM (k := 0) rfl hq23) w hb hh) r_25.A r_25.n r_25.c _ (RdH.sn (RdH.memM (k := 0) rfl hq27) w hb hh) hx28)) ?_
    rintro _ _ ⟨_, ⟨rfl, rfl⟩, rfl⟩
    refine ⟨(Sub.cons rfl (Sub.cons rfl (Sub.nil _))), ?_⟩
    refine WD.take 10 rfl (by kernel_rfl) (by kernel_rfl) (by kernel_rfl) (by decide) (Yld.notB rfl) ?_
    refine WD.take 11 rfl (by kernel_rfl) (by kernel_rfl) (by kernel_rfl) (by decide) (Yld.idxArrC (xs := x9) und_77 rfl rfl rfl hl10 hx30) ?_
    refine WD.one 12 (by kernel_rfl) ?_
    refine WS.eff0 rfl (Eff0.storeArrC 104 (xs := x9) (a' := (!x28)) siz_4 rfl rfl rfl rfl rfl rfl hx31) (Sub.cons rfl (Sub.cons rfl (Sub.nil _))) ?_
    refine WD.done (by kernel_rfl) (hK19 _ _ ?_)
    refine QK.blockN ?_
    refine QK.thenN (hK17 _ _ ?_)
    refine WC.region fun K32 hK32 => ?_
    obtain ⟨x33, hx33, h⟩ := bnd h
    refine WL.yld (by decide) (Yld.addC rfl rfl hx33) ?_
    refine WL.yld (by decide) (Yld.move rfl) ?_
    refine WL.done (hK32 _ _ ?_)
    refine QK.thenN ?_
    refine hK13 ⟨q12, x31, x33⟩ _ _ ?_ (Nat.lt_succ_self _) (Sub.cons rfl (Sub.cons rfl (Sub.cons rfl (Sub.cons rfl (Sub.cons rfl (Sub.nil _)))))) (Sub.cons rfl (Sub.cons rfl (Sub.cons rfl (Sub.nil _))))
    exact ⟨h, (upd_len hx31 hl10)⟩
   ·
    replace h := of_f hc16 h
    refine WC.condFe rfl (decide_eq_false hc16) ?_
    refine WC.exit (QK.thenE (QK.thenE (QK.blockX ?_)))
    refine QK.thenN ?_
    refine hK7 x9 _ _ ?_ (Sub.cons rfl (Sub.cons rfl (Sub.nil _))) (Sub.cons rfl (Sub.cons rfl (Sub.cons rfl (Sub.nil _))))
    exact ⟨h, hl10⟩
 ·
  rintro x5 ⟨h, hl6⟩
  unfold m_rs_differing_j0 at h
  refine WC.seqRegion fun K34 hK34 => ?_
  refine WL.yld (by decide) (Yld.loadBM (k := 104) agg_77 rfl rfl (cel_len1 rfl hl6)) ?_
  refine WL.eff0 (Eff0.storeBAM 102 agg_77 rfl rfl rfl ⟨cel_len1 rfl hl6, cel_len1 rfl List.length_replicate⟩ (cel_all _)) ?_
  refine WL.done (hK34 _ _ ?_)
  refine WC.ret ?_
  injection h with h; subst h
  exact Ret.fn [] (ResIs.cellM (k := 102) rfl agg_77 rfl rfl (cel_len1 rfl hl6)) rfl (Ext.refl _ _) rfl (by decide) rfl rfl ⟨rfl, rfl, hl6⟩

set_option maxRecDepth 10000 in
theorem w_rs_Locate (M0 : Mem) (A00 : Option Addr) (n00 c00 : Nat) (rs00 : List Hdr) (x00 : List (List (BitVec 8))) (hf00 : SlT M0 A00 n00 c00 rs00) (hq00 : Rels ((RelB (α := BitVec 8)) M0) rs00 x00) {res : Int × Int} (h : m_rs_Locate x00 = some res) :
  Fn Try.prog 26 #[.slice A00 n00 c00] M0 fun r M' es => r = .tuple #[I64 res.1, I64 res.2] ∧ es = [] := by
 refine Fn.intro (N := 38) Try.func26 rfl rfl (Nat.le_of_ble_eq_true rfl) fun w0 => ?_
 unfold m_rs_Locate at h
 refine WC.seqRegion fun K1 hK1 => ?_
 refine WL.yld (by decide) (Yld.assign rfl) ?_
 refine WL.yld (by decide) (Yld.assign rfl) ?_
 refine WL.done (hK1 _ _ ?_)
 refine WC.seq fun K2 hK2 => ?_
 refine WC.seqRegion fun K3 hK3 => ?_
 obtain ⟨x4, hx4, h⟩ := bnd h
 refine WL.yld (by decide) (Yld.move rfl) ?_
 refine WL.eff (by decide) (Eff.callS 105 rfl Try.func49 nm_49 rfl rfl (fun w hb hh => w_rs_equal (Mem.snap w) A00 n00 c00 rs00 _ (RdH.sn (RdH.memM (k := 0) rfl hf00) w hb hh) (Rels.sn hq00 (hh.sat 0 _ rfl)) hx4)) ?_
 rintro _ _ ⟨_, ⟨rfl, rfl⟩, rfl⟩
 refine WL.yld (by decide) (Yld.notB rfl) ?_
 refine WL.done (hK3 _ _ ?_)
 by_cases hc6 : x4 = true
 ·
  replace h := of_t hc6 h
  refine WC.condFe rfl (not_f hc6) ?_
  refine WC.skip ?_
  refine QK.thenN (hK2 _ _ ?_)
  refine WC.seq fun K7 hK7 => ?_
  refine WC.seqRegion fun K8 hK8 => ?_
  obtain ⟨x9, hx9, h⟩ := bnd h
  refine WL.yld (by decide) (Yld.move rfl) ?_
  refine WL.eff (by decide) (Eff.callS 110 rfl Try.func24 nm_24 rfl rfl (fun w hb hh => w_rs_Verify (Mem.snap w) A00 n00 c00 rs00 _ (RdH.sn (RdH.memM (k := 0) rfl hf00) w hb hh) (Rels.sn hq00 (hh.sat 0 _ rfl)) hx9)) ?_
  rintro _ _ ⟨_, ⟨rfl, rfl⟩, rfl⟩
  refine WL.done (hK8 _ _ ?_)
  by_cases hc11 : x9 = true
  ·
   replace h := of_t hc11 h
   refine WC.condTe rfl hc11 ?_
   refine WC.seqRegion fun K12 hK12 => ?_
   refine WL.yld (by decide) (Yld.assign rfl) ?_
   refine WL.yld (by decide) (Yld.assign rfl) ?_
   refine WL.done (hK12 _ _ ?_)
   refine WC.ret (QK.thenR ?_)
   injection h with h; subst h
   exact Ret.fn [] (ResIs.two rfl rfl rfl) rfl (Ext.refl _ _) rfl (by decide) rfl rfl ⟨rfl, rfl⟩
  ·
   replace h := of_f hc11 h
   refine WC.condFe rfl (Bool.eq_false_iff.2 hc11) ?_
   refine WC.skip ?_
   refine QK.thenN (hK7 _ _ ?_)
   refine WC.seqCut (σ := Mem) (fun M13 => []) (fun M13 => [(0, .mem M13)]) (fun M13 => m_rs_Locate_j0 = some res ∧ Ext w0.heap.size M0 M13) (fun K14 hK14 => ?_) ?_
   ·
    skip
    refine WC.seqRegion fun K15 hK15 => ?_
    refine WL.yld (by decide) (Yld.move rfl) ?_
    refine WL.yld (by decide) (Yld.lenD (rs := rs00) (xs := x00) (Rels.len hq00) und_35 rfl (RdH.memM (k := 0) rfl hf00)) ?_
    refine WL.yld (by decide) (Yld.move rfl) ?_
    refine WL.done (hK15 _ _ ?_)
    refine WC.block ?_
    refine WC.loop (σ := Nat × Mem × Int) (fun ⟨q18, M16, x17⟩ => [(0, .slice A00 n00 c00), (14, I64 (x00.length : Int)), (15, I64 x17)]) (fun ⟨q18, M16, x17⟩ => [(0, .mem M16)]) (fun ⟨q18, M16, x17⟩ => m_rs_Locate_l1 x00 q18 x17 = some res ∧ Ext w0.heap.size M0 M16) (fun ⟨q18, M16, x17⟩ => q18) ⟨forever, M0, (0 : Int)⟩ ?_ (Sub.cons rfl (Sub.cons rfl (Sub.cons rfl (Sub.nil _)))) (Sub.cons rfl (Sub.nil _)) ?_
    ·
     exact ⟨h, (Ext.refl _ _)⟩
    rintro ⟨q18, M16, x17⟩ ⟨h, hm_M16⟩ K19 hK19
    cases q18 with
    | zero => exact absurd h (by simp [m_rs_Locate_l1])
    | succ q18 =>
     unfold m_rs_Locate_l1 at h
     refine WC.seqRegion fun K20 hK20 => ?_
     refine WL.yld (by decide) (Yld.lss rfl rfl) ?_
     refine WL.done (hK20 _ _ ?_)
     refine WC.seq fun K21 hK21 => ?_
     by_cases hc22 : x17 < (x00.length : Int)
     ·
      replace h := of_t hc22 h
      refine WC.condTe rfl (decide_eq_true hc22) ?_
      refine WC.skip ?_
      refine QK.thenN (hK21 _ _ ?_)
      refine WC.seqCut (σ := Mem) (fun M23 => [(0, .slice A00 n00 c00), (14, I64 (x00.length : Int)), (15, I64 x17)]) (fun M23 => [(0, .mem M23)]) (fun M23 => m_rs_Locate_j2 x17 (m_rs_Locate_l1 x00 q18) = some res ∧ Ext w0.heap.size M16 M23) (fun K24 hK24 => ?_) ?_
      ·
       skip
       refine WC.block ?_
       refine WC.seqRegion fun K25 hK25 => ?_
       refine WL.yld (by decide) (Yld.move rfl) ?_
       refine WL.yld (by decide) (Yld.assign rfl) ?_
       refine WL.done (hK25 _ _ ?_)
       refine WC.seqRegion fun K26 hK26 => ?_
       refine WL.eff (by decide) (Eff.alloc 127 rfl zr_77) ?_
       rintro _ _ ⟨g27, rfl, rfl⟩
       refine WL.eff (by decide) (Eff.alloc 128 rfl zr_77) ?_
       rintro _ _ ⟨g28, rfl, rfl⟩
       refine WL.done (hK26 _ _ ?_)
       refine WC.seqCut (σ := (List (Bool))) (fun x29 => [(0, .slice A00 n00 c00), (4, I64 x17), (5, .pointer (some ⟨g27, 0, none⟩)), (6, .pointer (some ⟨g28, 0, none⟩)), (14, I64 (x00.length : Int)), (15, I64 x17)]) (fun x29 => [(0, .mem M16), (127, .blk g27 77 (cel (List.replicate 6 (false)))), (128, .blk g28 77 (cel x29))]) (fun x29 => m_rs_Locate_j3 x00 x17 (m_rs_Locate_l1 x00 q18) x29 = some res ∧ x29.length = 6) (fun K31 hK31 => ?_) ?_
       ·
        skip
        refine WC.seqRegion fun K32 hK32 => ?_
        refine WL.yld (by decide) (Yld.move rfl) ?_
        refine WL.done (hK32 _ _ ?_)
        refine WC.block ?_
        refine WC.loop (σ := Nat × (List (Bool)) × Int) (fun ⟨q36, x33, x35⟩ => [(0, .slice A00 n00 c00), (4, I64 x17), (5, .pointer (some ⟨g27, 0, none⟩)), (6, .pointer (some ⟨g28, 0, none⟩)), (14, I64 (x00.length : Int)), (15, I64 x17), (18, I64 x35)]) (fun ⟨q36, x33, x35⟩ => [(0, .mem M16), (127, .blk g27 77 (cel (List.replicate 6 (false)))), (128, .blk g28 77 (cel x33))]) (fun ⟨q36, x33, x35⟩ => m_rs_Locate_l4 x00 x17 (m_rs_Locate_l1 x00 q18) q36 x33 x35 = some res ∧ x33.length = 6) (fun ⟨q36, x33, x35⟩ => q36) ⟨forever, (List.replicate 6 (false)), (0 : Int)⟩ ?_ (Sub.cons rfl (Sub.cons rfl (Sub.cons rfl (Sub.cons rfl (Sub.cons rfl (Sub.cons rfl (Sub.cons rfl (Sub.nil _)))))))) (Sub.cons rfl (Sub.cons rfl (Sub.cons rfl (Sub.nil _)))) ?_
        ·
         exact ⟨h, List.length_replicate⟩
        rintro ⟨q36, x33, x35⟩ ⟨h, hl34⟩ K37 hK37
        cases q36 with
        | zero => exact absurd h (by simp [m_rs_Locate_l4])
        | succ q36 =>
         unfold m_rs_Locate_l4 at h
         refine WC.seqRegion fun K38 hK38 => ?_
         refine WL.yld (by decide) (Yld.lss rfl rfl) ?_
         refine WL.done (hK38 _ _ ?_)
         refine WC.seq fun K39 hK39 => ?_
         by_cases hc40 : x35 < (6 : Int)
         ·
          replace h := of_t hc40 h
          refine WC.condTe rfl (decide_eq_true hc40) ?_
          refine WC.skip ?_
          refine QK.thenN (hK39 _ _ ?_)
          refine WC.seq fun K41 hK41 => ?_
          refine WC.block ?_
          refine WC.seqRegion fun K42 hK42 => ?_
          refine WL.yld (by decide) (Yld.move rfl) ?_
          refine WL.yld (by decide) (Yld.assign rfl) ?_
          refine WL.done (hK42 _ _ ?_)
          refine WC.region fun K43 hK43 => ?_
          obtain ⟨x44, hx44, h⟩ := bnd h
          obtain ⟨x45, hx45, h⟩ := bnd h
          refine WL.yld (by decide) (Yld.move rfl) ?_
          refine WL.yld (by decide) (Yld.move rfl) ?_
          refine WL.yld (by decide) (Yld.move rfl) ?_
          refine WL.yld (by decide) (Yld.neqI rfl rfl) ?_
          refine WL.yld (by decide) (Yld.idxArrC (xs := x33) und_77 rfl rfl rfl hl34 hx44) ?_
          refine WL.eff0 (Eff0.storeArrC 128 (xs := x33) (a' := (x35 != x17)) siz_4 rfl rfl rfl rfl rfl rfl hx45) ?_
          refine WL.done (hK43 _ _ ?_)
          refine QK.blockN ?_
          refine QK.thenN (hK41 _ _ ?_)
          refine WC.region fun K46 hK46 => ?_
          obtain ⟨x47, hx47, h⟩ := bnd h
          refine WL.yld (by decide) (Yld.addC rfl rfl hx47) ?_
          refine WL.yld (by decide) (Yld.move rfl) ?_
          refine WL.done (hK46 _ _ ?_)
          refine QK.thenN ?_
          refine hK37 ⟨q36, x45, x47⟩ _ _ ?_ (Nat.lt_succ_self _) (Sub.cons rfl (Sub.cons rfl (Sub.cons rfl (Sub.cons rfl (Sub.cons rfl (Sub.cons rfl (Sub.cons rfl (Sub.nil _)))))))) (Sub.cons rfl (Sub.cons rfl (Sub.cons rfl (Sub.nil _))))
          exact ⟨h, (upd_len hx45 hl34)⟩
         ·
          replace h := of_f hc40 h
          refine WC.condFe rfl (decide_eq_false hc40) ?_
          refine WC.exit (QK.thenE (QK.thenE (QK.blockX ?_)))
          refine QK.thenN ?_
          refine hK31 x33 _ _ ?_ (Sub.cons rfl (Sub.cons rfl (Sub.cons rfl (Sub.cons rfl (Sub.cons rfl (Sub.cons rfl (Sub.nil _))))))) (Sub.cons rfl (Sub.cons rfl (Sub.cons rfl (Sub.nil _))))
          exact ⟨h, hl34⟩
       ·
        rintro x29 ⟨h, hl30⟩
        unfold m_rs_Locate_j3 at h
        refine WC.seqRegion fun K48 hK48 => ?_
        obtain ⟨x49, hx49, h⟩ := bnd h
        obtain ⟨x50, hx50, h⟩ := bnd h
        refine WL.yld (by decide) (Yld.move rfl) ?_
        refine WL.yld (by decide) (Yld.idxArrC (xs := (List.replicate 6 (false))) und_77 rfl rfl rfl List.length_replicate hx49) ?_
        refine WL.eff0 (Eff0.storeArrC 127 (xs := (List.replicate 6 (false))) (a' := true) siz_4 rfl rfl rfl rfl rfl rfl hx50) ?_
        refine WL.done (hK48 _ _ ?_)
        refine WC.seqRegionD (n := 7) [(127, _), (128, _)] rfl mixed (Sub.cons rfl (Sub.cons rfl (Sub.nil _))) fun K51 hK51 => ?_
        obtain ⟨x52, hx52, h⟩ := bnd h
        obtain ⟨x70, hx70, h⟩ := bnd h
        refine WD.take 0 rfl (by kernel_rfl) (by kernel_rfl) (by kernel_rfl) (by decide) (Yld.move rfl) ?_
        refine WD.take 1 rfl (by kernel_rfl) (by kernel_rfl) (by kernel_rfl) (by decide) (Yld.loadBM (k := 128) agg_77 rfl rfl (cel_len1 rfl hl30)) ?_
        refine WD.take 3 rfl (by kernel_rfl) (by kernel_rfl) (by kernel_rfl) (by decide) (Yld.move rfl) ?_
        refine WD.take 5 rfl (by kernel_rfl) (by kernel_rfl) (by kernel_rfl) (by decide) (Yld.loadBM (k := 127) agg_77 rfl rfl (cel_len1 rfl (upd_len hx50 List.length_replicate))) ?_
        refine WD.one 2 (by kernel_rfl) ?_
        refine WS.eff rfl (by decide) (Eff.callM 158 rfl Try.func46 nm_46 rfl rfl rfl (w_rs_restore _ A00 n00 c00 rs00 _ (SlRc.lift hf00 hm_M16) (Rels.lift hq00 hm_M16) x29 hl30 hx52)) ?_
        rintro _ _ ⟨M64, _, ⟨A65, n66, c67, rs68, rfl, rfl, hq69⟩, hm_M64, rfl⟩
        refine ⟨(Sub.cons rfl (Sub.cons rfl (Sub.nil _))), ?_⟩
        refine WD.one 4 (by kernel_rfl) ?_
        refine WS.eff rfl (by decide) (Eff.callS 172 rfl Try.func51 nm_51 rfl rfl (fun w hb hh => w_rs_differing (Mem.snap w) A65 n66 c67 rs68 _ (RdH.sn (RdH.own (k := 158) rfl) w hb hh) (Rels.sn hq69 (hh.sat 0 _ rfl)) A00 n00 c00 rs00 _ (RdH.sn (RdH.memM (k := 0) rfl (SlRc.lift (SlRc.lift hf00 hm_M16) hm_M64)) w hb hh) (Rels.sn (Rels.lift (Rels.lift hq00 hm_M16) hm_M64) (hh.sat 0 _ rfl)) hx70)) ?_
        rintro _ _ ⟨_, ⟨rfl, rfl, hl73⟩, rfl⟩
        refine ⟨(Sub.cons rfl (Sub.cons rfl (Sub.nil _))), ?_⟩
        refine WD.take 6 rfl (by kernel_rfl) (by kernel_rfl) (by kernel_rfl) (by decide) (Yld.eqlArrB (us := x70) (vs := x50) eqg_77 und_77 und_4 siz_4 rfl rfl hl73 (upd_len hx50 List.length_replicate)) ?_
        refine WD.done (by kernel_rfl) (hK51 _ _ ?_)
        by_cases hc74 : x70 = x50
        ·
         replace h := of_t hc74 h
         refine WC.condTe rfl (beq_iff_eq.2 hc74) ?_
         refine WC.seqRegion fun K75 hK75 => ?_
         refine WL.yld (by decide) (Yld.move rfl) ?_
         refine WL.yld (by decide) (Yld.assign rfl) ?_
         refine WL.yld (by decide) (Yld.assign rfl) ?_
         refine WL.done (hK75 _ _ ?_)
         refine WC.ret (QK.blockR (QK.thenR (QK.thenR (QK.blockR (QK.thenR ?_)))))
         injection h with h; subst h
         exact Ret.fn [] (ResIs.two rfl rfl rfl) rfl (Ext.trans hm_M16 hm_M64) rfl (by decide) rfl rfl ⟨rfl, rfl⟩
        ·
         replace h := of_f hc74 h
         refine WC.condFe rfl (beq_eq_false_iff_ne.2 hc74) ?_
         refine WC.skip ?_
         refine QK.blockN ?_
         refine QK.thenN ?_
         refine hK24 M64 _ _ ?_ (Sub.cons rfl (Sub.cons rfl (Sub.cons rfl (Sub.nil _)))) (Sub.cons rfl (Sub.nil _))
         exact ⟨h, hm_M64⟩
      ·
       rintro M23 ⟨h, hm_M23⟩
       unfold m_rs_Locate_j2 at h
       refine WC.region fun K76 hK76 => ?_
       obtain ⟨x77, hx77, h⟩ := bnd h
       refine WL.yld (by decide) (Yld.addC rfl rfl hx77) ?_
       refine WL.yld (by decide) (Yld.move rfl) ?_
       refine WL.done (hK76 _ _ ?_)
       refine QK.thenN ?_
       refine hK19 ⟨q18, M23, x77⟩ _ _ ?_ (Nat.lt_succ_self _) (Sub.cons rfl (Sub.cons rfl (Sub.cons rfl (Sub.nil _)))) (Sub.cons rfl (Sub.nil _))
       exact ⟨h, (Ext.trans hm_M16 hm_M23)⟩
     ·
      replace h := of_f hc22 h
      refine WC.condFe rfl (decide_eq_false hc22) ?_
      refine WC.exit (QK.thenE (QK.thenE (QK.blockX ?_)))
      refine QK.thenN ?_
      refine hK14 M16 _ _ ?_ (Sub.nil _) (Sub.cons rfl (Sub.nil _))
      exact ⟨h, hm_M16⟩
   ·
    rintro M13 ⟨h, hm_M13⟩
    unfold m_rs_Locate_j0 at h
    refine WC.seqRegion fun K78 hK78 => ?_
    refine WL.yld (by decide) (Yld.assign rfl) ?_
    refine WL.yld (by decide) (Yld.assign rfl) ?_
    refine WL.done (hK78 _ _ ?_)
    refine WC.ret ?_
    injection h with h; subst h
    exact Ret.fn [] (ResIs.two rfl rfl rfl) rfl hm_M13 rfl (by decide) rfl rfl ⟨rfl, rfl⟩
 ·
  replace h := of_f hc6 h
  refine WC.condTe rfl (not_t (Bool.eq_false_iff.2 hc6)) ?_
  refine WC.seqRegion fun K79 hK79 => ?_
  refine WL.yld (by decide) (Yld.assign rfl) ?_
  refine WL.yld (by decide) (Yld.assign rfl) ?_
  refine WL.done (hK79 _ _ ?_)
  refine WC.ret (QK.thenR ?_)
  injection h with h; subst h
  exact Ret.fn [] (ResIs.two rfl rfl rfl) rfl (Ext.refl _ _) rfl (by decide) rfl rfl ⟨rfl, rfl⟩

end Go.Proofs.Ytnbcphofimicdaa
