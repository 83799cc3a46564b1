/-
 Walks (e): what a function's model gives, the function returns. Printed by a program of ours (vcm.py) from the function's operations. Conditions: as each theorem says.
-/
import Derived.Test.YtcncappgheopgaaGreatWkd
import Derived.Test.YtcncappgheopgaaGreatMde
namespace Go.Proofs.YtcncappgheopgaaGreat
open Go Go.RowKit
set_option linter.unusedVariables false
theorem nm_65 : (Tryz.f65.name == "runtime.NumGoroutine") = false := by kernel_rfl
theorem nm_66 : (Tryz.f66.name == "runtime.NumGoroutine") = false := by kernel_rfl
theorem sty_30 : STy Tryz.prog 30 4 (.bool false) 1 1 := STy.of und_30 (by kernel_rfl) rfl
set_option maxRecDepth 10000 in
theorem w_r04_Code (M0 : Mem)  {res : Int × Int × (List (BitVec 8))} (h : m_r04_Code = some res) :
  Fn Tryz.prog 63 #[] M0 fun r M' es => ∃ (A1 : Option Addr) (n1 c1 : Nat), r = .agg ([I64 res.1, I64 res.2.1, .slice A1 n1 c1] : List Value).toArray ∧ es = [.own 5 (Lay.sz (BitVec 8)) A1 n1 c1 (cel res.2.2)] := by
 refine Fn.intro (N := 31) Tryz.func63 rfl rfl (Nat.le_of_ble_eq_true rfl) fun w0 => ?_
 unfold m_r04_Code at h
 refine sr fun _ k1 => al 102 zr_129 fun g2 => dn <| k1 _ _ <| sr fun _ k3 => ?_
 obtain ⟨x4, hx4, h⟩ := bnd h
 refine c1 108 Tryz.func85 rfl (fun w hb hh => w_r03_Vandermonde (Mem.snap w) (6 : Int) (4 : Int) hx4) fun A9 n10 c11 => mv rfl <| ya (Yld.extract rfl rfl) <| ya (Yld.extract rfl rfl) <| al 112 zr_129 fun g12 => sb 112 agg_129 rfl rfl rfl <| asn rfl <| dn <| k3 _ _ <| sr fun _ k13 => ?_
 obtain ⟨x15, hx15, h⟩ := bnd h
 refine ya (Yld.loadBM (k := 112) agg_129 rfl rfl rfl) <| WL.eff (by decide) (Eff.buildC 114 ([(0 : Int), (1 : Int), (2 : Int), (3 : Int)] : List (Int)) sty_32 rfl rfl rfl rfl rfl (by decide)) ?_
 rintro _ _ ⟨g14, rfl, rfl⟩
 refine c1 119 Tryz.func62 rfl (fun w hb hh => w_r03_Pick (Mem.snap w) x4.1 x4.2.1 A9 n10 c11 _ (RdH.sn (RdH.own (k := 108) rfl) w hb hh) (some ⟨g14, 0, none⟩) (([(0 : Int), (1 : Int), (2 : Int), (3 : Int)] : List (Int)).length) (([(0 : Int), (1 : Int), (2 : Int), (3 : Int)] : List (Int)).length) _ (RdH.sn (RdH.own (k := 114) rfl) w hb hh) hx15) fun A20 n21 c22 => mv rfl <| ya (Yld.extract rfl rfl) <| ya (Yld.extract rfl rfl) <| al 123 zr_129 fun g23 => sb 123 agg_129 rfl rfl rfl <| asn rfl <| dn <| k13 _ _ <| sr fun _ k24 => ?_
 obtain ⟨x25, hx25, h⟩ := bnd h
 refine ya (Yld.loadBM (k := 123) agg_129 rfl rfl rfl) <| c1 129 Tryz.func64 rfl (fun w hb hh => w_r03_Invert (Mem.snap w) x15.1 x15.2.1 A20 n21 c22 _ (RdH.sn (RdH.own (k := 119) rfl) w hb hh) hx25) fun A30 n31 c32 => mv rfl <| ya (Yld.extract rfl rfl) <| ya (Yld.extract rfl rfl) <| al 133 zr_129 fun g33 => sb 133 agg_129 rfl rfl rfl <| asn rfl <| dn <| k24 _ _ <| sr fun _ k34 => ?_
 obtain ⟨x35, hx35, h⟩ := bnd h
 refine ya (Yld.loadBM (k := 112) agg_129 rfl rfl rfl) <| ya (Yld.loadBM (k := 133) agg_129 rfl rfl rfl) <| c1 139 Tryz.func86 rfl (fun w hb hh => w_r03_Mul (Mem.snap w) x4.1 x4.2.1 A9 n10 c11 _ (RdH.sn (RdH.own (k := 108) rfl) w hb hh) x25.1 x25.2.1 A30 n31 c32 _ (RdH.sn (RdH.own (k := 129) rfl) w hb hh) hx35) fun A40 n41 c42 => mv rfl <| ya (Yld.extract rfl rfl) <| ya (Yld.extract rfl rfl) <| al 143 zr_129 fun g43 => sb 143 agg_129 rfl rfl rfl <| asn rfl <| dn <| k34 _ _ <| sr fun _ k44 => ya (Yld.loadBM (k := 143) agg_129 rfl rfl rfl) <| sb 102 agg_129 rfl rfl rfl <| dn <| k44 _ _ <| re ?_
 injection h with h; subst h
 exact rt [139] (ResIs.cellM (k := 102) rfl agg_129 rfl rfl (rfl)) (Ext.refl _ _) ⟨A40, n41, c42, rfl, rfl⟩
set_option maxRecDepth 10000 in
theorem w_r04_Level (M0 : Mem) (A00 : Option Addr) (n00 c00 : Nat) (rs00 : List Hdr) (x00 : List (List (BitVec 8))) (hf00 : SlT M0 A00 n00 c00 rs00) (hq00 : Rels ((RelB (α := BitVec 8)) M0) rs00 x00) (x01 : Int) {res : Bool} (h : m_r04_Level x00 x01 = some res) :
  Fn Tryz.prog 73 #[.slice A00 n00 c00, I64 x01] M0 fun r M' es => r = .bool res ∧ es = [] := by
 refine Fn.intro (N := 25) Tryz.func73 rfl rfl (Nat.le_of_ble_eq_true rfl) fun w0 => ?_
 unfold m_r04_Level at h
 refine sr fun _ k1 => asn rfl <| dn <| k1 _ _ <| sq fun _ k2 => sr fun _ k3 => mv rfl <| ya (Yld.lenD (rs := rs00) (xs := x00) (Rels.len hq00) und_29 rfl (RdH.memM (k := 0) rfl hf00)) <| mv rfl <| ya (Yld.neqI rfl rfl) <| dn <| k3 _ _ <| cnn h rfl bne_eq_false_iff_eq.2 bne_iff_ne.2 (fun hc4 h => ?_) fun hc4 h => ?_
 ·
  refine ss <| k2 _ _ <| ct (σ := Unit) (fun _ => []) (fun _ => [(0, .mem M0)]) (fun _ => m_r04_Level_j0 = some res) (fun _ k5 => ?_) ?_
  ·
   refine sr fun _ k6 => asn rfl <| dn <| k6 _ _ <| bl <| lp (τ := Int) (fun x7 => [(0, .slice A00 n00 c00), (1, I64 x01), (5, I64 x7)]) (fun x7 => [(0, .mem M0)]) (fun q8 x7 => m_r04_Level_l1 x00 x01 q8 x7 = some res) ((0 : Int)) ?_ (by simp [m_r04_Level_l1]) ?_
   ·
    exact h
   rintro q8 x7 h _ k9
   unfold m_r04_Level_l1 at h
   refine sq fun _ k10 => sr fun _ k11 => mv rfl <| mv rfl <| ya (Yld.lss rfl rfl) <| dn <| k11 _ _ <| cnd h rfl decide_eq_true decide_eq_false (fun hc12 h => ?_) fun hc12 h => ?_
   ·
    refine ss <| k10 _ _ <| sq fun _ k13 => bl <| sd [(0, _)] mixed fun _ k14 => ?_
    obtain ⟨x15, hx15, h⟩ := bnd h
    obtain ⟨x19, hx19, h⟩ := bnd h
    refine dm 0 rfl rfl <| dm 1 rfl rfl ?_
    obtain ⟨r_16, hr17, hq18⟩ := Rels.idx hq00 hx15
    refine du 2 rfl (Yld.idxC (xs := rs00) sty_29 rfl rfl (RdH.memM (k := 0) rfl hf00) hr17) <| du 3 rfl (Yld.loadC0 (xs := rs00) scal_35 rfl (RdH.memM (k := 0) rfl hf00) hr17 rfl) <| du 4 rfl (Yld.lenC (xs := x15) und_35 rfl (RdH.memM (k := 0) rfl hq18)) <| dm 5 rfl rfl ?_
    obtain ⟨r_20, hr21, hq22⟩ := Rels.idx hq00 hx19
    refine du 6 rfl (Yld.idxC (xs := rs00) sty_29 rfl rfl (RdH.memM (k := 0) rfl hf00) hr21) <| du 7 rfl (Yld.loadC0 (xs := rs00) scal_35 rfl (RdH.memM (k := 0) rfl hf00) hr21 rfl) <| du 8 rfl (Yld.lenC (xs := x19) und_35 rfl (RdH.memM (k := 0) rfl hq22)) <| du 9 rfl (Yld.neqI rfl rfl) <| dd <| k14 _ _ <| cnn h rfl bne_eq_false_iff_eq.2 bne_iff_ne.2 (fun hc23 h => ?_) fun hc23 h => ?_
    ·
     refine WC.skip <| bn <| tn <| k13 _ _ <| rg fun _ k24 => ?_
     obtain ⟨x25, hx25, h⟩ := bnd h
     exact mv rfl <| ya (Yld.addC rfl rfl hx25) <| asn rfl <| dn <| k24 _ _ <| tn <| kw (k9 (x25) h)
    refine sr fun _ k26 => asn rfl <| dn <| k26 _ _ <| re <| br <| tr <| tr <| br <| tr ?_
    injection h with h; subst h
    exact rt0 (ResIs.one rfl rfl)
   exact xi <| te <| te <| bx <| tn <| kw (k5 () h)
  rintro _ h
  unfold m_r04_Level_j0 at h
  refine sr fun _ k27 => asn rfl <| dn <| k27 _ _ <| re ?_
  injection h with h; subst h
  exact rt0 (ResIs.one rfl rfl)
 refine sr fun _ k28 => asn rfl <| dn <| k28 _ _ <| re <| tr ?_
 injection h with h; subst h
 exact rt0 (ResIs.one rfl rfl)
end Go.Proofs.YtcncappgheopgaaGreat
