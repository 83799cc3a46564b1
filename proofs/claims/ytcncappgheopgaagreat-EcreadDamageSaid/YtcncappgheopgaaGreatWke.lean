/- A part of the proof. Conditions: as each theorem says. -/
import Derived.Test.YtcncappgheopgaaGreatWkd
import Derived.Test.YtcncappgheopgaaGreatMde
namespace Go.Proofs.YtcncappgheopgaaGreat
set_option maxRecDepth 10000
open Go Go.RowKit Yld
set_option linter.unusedVariables false
theorem nm_62 : (Tryz.f62.name == "runtime.NumGoroutine") = false := by kernel_rfl
theorem nm_63 : (Tryz.f63.name == "runtime.NumGoroutine") = false := by kernel_rfl
theorem nm_65 : (Tryz.f65.name == "runtime.NumGoroutine") = false := by kernel_rfl
theorem nm_66 : (Tryz.f66.name == "runtime.NumGoroutine") = false := by kernel_rfl
theorem sty_30 : STy Tryz.prog 30 4 (.bool false) 1 1 := STy.of und_30 (by kernel_rfl) rfl
theorem w_r04_Code (M0 : Mem)  {res : Int × Int × By} (h : m_r04_Code = some res) :
  Fn Tryz.prog 63 #[] M0 fun r M' es => ∃ (A1 : Option Addr) (n1 c1 : Nat), r = .agg ([I64 res.1, I64 res.2.1, .slice A1 n1 c1] : List Value).toArray /\ es = [.own 5 (Lay.sz (BitVec 8)) A1 n1 c1 (cel res.2.2)] := by
 refine Fn.intro (N := 31) Tryz.func63 rfl rfl (nle rfl) fun w0 => ?_
 unfold m_r04_Code at h
 refine sr fun _ k1 => al 102 zr_129 fun g2 => dz k1 <| sr fun _ k3 => bd h fun x4 hx4 h => c1 108 Tryz.func85 rfl (fun w hb hh => w_r03_Vandermonde (Mem.snap w) (6 : Int) (4 : Int) hx4) fun A9 n10 c11 => mv rfl <| ya (extract rfl rfl) <| ya (extract rfl rfl) <| al 112 zr_129 fun g12 => sb 112 agg_129 rfl rfl rfl <| ak rfl k3 <| sr fun _ k13 => bd h fun x15 hx15 h => ya (loadBM (k := 112) agg_129 rfl rfl rfl) <| WL.eff (by decide) (Eff.buildC 114 ([(0 : Int), (1 : Int), (2 : Int), (3 : Int)] : List Int) sty_32 rfl rfl rfl rfl rfl (by decide)) ?_
 rintro _ _ ⟨g14, rfl, rfl⟩
 refine c1 119 Tryz.func62 rfl (fun w hb hh => w_r03_Pick (Mem.snap w) x4.1 x4.2.1 A9 n10 c11 _ (RdH.sn (rO 108 rfl) w hb hh) (some ⟨g14, 0, none⟩) (([(0 : Int), (1 : Int), (2 : Int), (3 : Int)] : List Int).length) (([(0 : Int), (1 : Int), (2 : Int), (3 : Int)] : List Int).length) _ (RdH.sn (rO 114 rfl) w hb hh) hx15) fun A20 n21 c22 => mv rfl <| ya (extract rfl rfl) <| ya (extract rfl rfl) <| al 123 zr_129 fun g23 => sb 123 agg_129 rfl rfl rfl <| ak rfl k13 <| sr fun _ k24 => bd h fun x25 hx25 h => ya (loadBM (k := 123) agg_129 rfl rfl rfl) <| c1 129 Tryz.func64 rfl (fun w hb hh => w_r03_Invert (Mem.snap w) x15.1 x15.2.1 A20 n21 c22 _ (RdH.sn (rO 119 rfl) w hb hh) hx25) fun A30 n31 c32 => mv rfl <| ya (extract rfl rfl) <| ya (extract rfl rfl) <| al 133 zr_129 fun g33 => sb 133 agg_129 rfl rfl rfl <| ak rfl k24 <| sr fun _ k34 => bd h fun x35 hx35 h => ya (loadBM (k := 112) agg_129 rfl rfl rfl) <| ya (loadBM (k := 133) agg_129 rfl rfl rfl) <| c1 139 Tryz.func86 rfl (fun w hb hh => w_r03_Mul (Mem.snap w) x4.1 x4.2.1 A9 n10 c11 _ (RdH.sn (rO 108 rfl) w hb hh) x25.1 x25.2.1 A30 n31 c32 _ (RdH.sn (rO 129 rfl) w hb hh) hx35) fun A40 n41 c42 => mv rfl <| ya (extract rfl rfl) <| ya (extract rfl rfl) <| al 143 zr_129 fun g43 => sb 143 agg_129 rfl rfl rfl <| ak rfl k34 <| sr fun _ k44 => ya (loadBM (k := 143) agg_129 rfl rfl rfl) <| sb 102 agg_129 rfl rfl rfl <| dz k44 <| re ?_
 obtain rfl := si h
 exact rt [139] (ResIs.cellM (k := 102) rfl agg_129 rfl rfl (rfl)) (Ext.refl _ _) ⟨A40, n41, c42, rfl, rfl⟩
theorem w_r04_Level (M0 : Mem) (A00 : Option Addr) (n00 c00 : Nat) (rs00 : List Hdr) (x00 : List By) (hf00 : SlT M0 A00 n00 c00 rs00) (hq00 : Rels ((RelB (α := BitVec 8)) M0) rs00 x00) (x01 : Int) {res : Bool} (h : m_r04_Level x00 x01 = some res) :
  Fn Tryz.prog 73 #[.slice A00 n00 c00, I64 x01] M0 fun r M' es => r = .bool res /\ es = [] := by
 refine Fn.intro (N := 25) Tryz.func73 rfl rfl (nle rfl) fun w0 => ?_
 unfold m_r04_Level at h
 refine sr fun _ k1 => ak rfl k1 <| sq fun _ k2 => sr fun _ k3 => mv rfl <| ya (lenD (rs := rs00) (xs := x00) (Rels.len hq00) und_29 rfl (mM rfl hf00)) <| mv rfl <| ya (neqI rfl rfl) <| dz k3 <| cnn h rfl bne_eq_false_iff_eq.2 bne_iff_ne.2 (fun hc4 h => ?_) fun hc4 h => ?_
 ·refine ss <| k2 _ _ <| ct (σ := Unit) (fun _ => []) (fun _ => [(0, .mem M0)]) (fun _ => m_r04_Level_j0 = some res) (fun _ k5 => ?_) ?_
  ·refine sr fun _ k6 => ak rfl k6 <| bl <| lp (τ := Int) (fun x7 => [(0, .slice A00 n00 c00), (1, I64 x01), (5, I64 x7)]) (fun x7 => [(0, .mem M0)]) (fun q8 x7 => m_r04_Level_l1 x00 x01 q8 x7 = some res) ((0 : Int)) ?_ (by simp [m_r04_Level_l1]) ?_
   ·exact h
   rintro q8 x7 h _ k9
   unfold m_r04_Level_l1 at h
   refine sq fun _ k10 => sr fun _ k11 => mv rfl <| mv rfl <| ya (lss rfl rfl) <| dz k11 <| cI h rfl (fun hc12 h => ?_) fun hc12 h => ?_
   ·refine ss <| k10 _ _ <| sq fun _ k13 => bl <| sd [(0, _)] mixed fun _ k14 => ?_
    obtain ⟨x15, hx15, h⟩ := bnd h
    obtain ⟨x19, hx19, h⟩ := bnd h
    refine dm 0 rfl rfl <| dm 1 rfl rfl ?_
    obtain ⟨r_16, hr17, hq18⟩ := Rels.idx hq00 hx15
    refine du 2 rfl (idxC (xs := rs00) sty_29 rfl rfl (mM rfl hf00) hr17) <| du 3 rfl (loadC0 (xs := rs00) scal_35 rfl (mM rfl hf00) hr17 rfl) <| du 4 rfl (lenC (xs := x15) und_35 rfl (mM rfl hq18)) <| dm 5 rfl rfl ?_
    obtain ⟨r_20, hr21, hq22⟩ := Rels.idx hq00 hx19
    refine du 6 rfl (idxC (xs := rs00) sty_29 rfl rfl (mM rfl hf00) hr21) <| du 7 rfl (loadC0 (xs := rs00) scal_35 rfl (mM rfl hf00) hr21 rfl) <| du 8 rfl (lenC (xs := x19) und_35 rfl (mM rfl hq22)) <| du 9 rfl (neqI rfl rfl) <| dd <| k14 _ _ <| cnn h rfl bne_eq_false_iff_eq.2 bne_iff_ne.2 (fun hc23 h => ?_) fun hc23 h => ?_
    ·refine WC.skip <| bn <| tn <| k13 _ _ <| rg fun _ k24 => bd h fun x25 hx25 h => mv rfl <| ya (addC rfl rfl hx25) <| ak rfl k24 <| tn <| kw (k9 (x25) h)
    refine sr fun _ k26 => ak rfl k26 <| re <| br <| tr <| tr <| br <| tr ?_
    obtain rfl := si h
    exact rt0 (ResIs.one rfl rfl)
   exact xi <| te <| te <| bx <| tn <| kw (k5 () h)
  rintro _ h
  unfold m_r04_Level_j0 at h
  refine sr fun _ k27 => ak rfl k27 <| re ?_
  obtain rfl := si h
  exact rt0 (ResIs.one rfl rfl)
 refine sr fun _ k28 => ak rfl k28 <| re <| tr ?_
 obtain rfl := si h
 exact rt0 (ResIs.one rfl rfl)
theorem w_r04_all (M0 : Mem) (A00 : Option Addr) (n00 c00 : Nat) (rs00 : List Hdr) (x00 : List By) (hf00 : SlT M0 A00 n00 c00 rs00) (hq00 : Rels ((RelB (α := BitVec 8)) M0) rs00 x00) {res : (List By)} (h : m_r04_all x00 = some res) :
  Fn Tryz.prog 66 #[.slice A00 n00 c00] M0 fun r M' es => ∃ (A1 : Option Addr) (n1 c1 : Nat), ∃ rs1 : List Hdr, r = .slice A1 n1 c1 /\ es = [.own 35 (Lay.sz Hdr) A1 n1 c1 (cel rs1)] /\ Rels ((RelB (α := BitVec 8)) M') rs1 res := by
 refine Fn.intro (N := 12) Tryz.func66 rfl rfl (nle rfl) fun w0 => ?_
 unfold m_r04_all at h
 refine sr fun _ k1 => ak rfl k1 <| sr fun _ k2 => ?_
 obtain ⟨x3, hx3, h⟩ := bnd h
 obtain ⟨x11, hx11, h⟩ := bnd h
 refine c1 107 Tryz.func63 rfl (fun w hb hh => w_r04_Code (Mem.snap w) hx3) fun A8 n9 c10 => mv rfl <| WL.freeze 107 rfl rfl rfl fun M23 hm_M23 hf24 => WL.eff (by decide) (Eff.callM 117 rfl Tryz.func65 nm_65 rfl rfl rfl (w_r03_Apply _ x3.1 x3.2.1 A8 n9 c10 _ hf24 A00 n00 c00 rs00 _ (SlRc.lift hf00 hm_M23) (Rels.lift hq00 hm_M23) hx11)) ?_
 rintro _ _ ⟨M25, _, ⟨A26, n27, c28, rs29, rfl, rfl, hq30⟩, hm_M25, rfl⟩
 refine mv rfl <| ya (extract rfl rfl) <| ya (extract rfl rfl) <| asn rfl <| ak rfl k2 <| sr fun _ k31 => mv rfl <| ak rfl k31 <| re ?_
 obtain rfl := si h
 exact rt [117] (ResIs.one rfl rfl) (Ext.trans hm_M23 hm_M25) ⟨A26, n27, c28, rs29, rfl, rfl, hq30⟩
theorem w_r04_Restore (M0 : Mem) (A00 : Option Addr) (n00 c00 : Nat) (rs00 : List Hdr) (x00 : List By) (hf00 : SlT M0 A00 n00 c00 rs00) (hq00 : Rels ((RelB (α := BitVec 8)) M0) rs00 x00) (A01 : Option Addr) (n01 c01 : Nat) (x01 : List Bool) (hf01 : SlT M0 A01 n01 c01 x01) {res : (List By) × Int} (h : m_r04_Restore x00 x01 = some res) :
  Fn Tryz.prog 36 #[.slice A00 n00 c00, .slice A01 n01 c01] M0 fun r M' es => ∃ (A1 : Option Addr) (n1 c1 : Nat), ∃ rs1 : List Hdr, r = .tuple #[.slice A1 n1 c1, I64 res.2] /\ es = [.own 35 (Lay.sz Hdr) A1 n1 c1 (cel rs1)] /\ Rels ((RelB (α := BitVec 8)) M') rs1 res.1 := by
 refine Fn.intro (N := 82) Tryz.func36 rfl rfl (nle rfl) fun w0 => ?_
 unfold m_r04_Restore at h
 refine sr fun _ k1 => asn rfl <| ak rfl k1 <| ct (σ := Unit) (fun _ => [(0, .slice A00 n00 c00), (1, .slice A01 n01 c01)]) (fun _ => [(0, .mem M0)]) (fun _ => m_r04_Restore_j0 x00 x01 = some res) (fun _ k2 => ?_) ?_
 ·refine sr fun _ k3 => mv rfl <| ya (lenD (rs := rs00) (xs := x00) (Rels.len hq00) und_29 rfl (mM rfl hf00)) <| ya (neqI rfl rfl) <| mv rfl <| spn h bne_eq_false_iff_eq.2 bne_iff_ne.2 (fun hc4 h => ?_) fun hc4 h => ?_
  ·refine mvg rfl <| yg (lenC (xs := x01) und_30 rfl (mM rfl hf01)) <| yg (neqI rfl rfl) <| pf rfl rfl <| dz k3 <| cnn h rfl bne_eq_false_iff_eq.2 bne_iff_ne.2 (fun hc5 h => ?_) fun hc5 h => ?_
   ·exact WC.skip <| tn <| kw (k2 () h)
   refine sr fun _ k6 => asn rfl <| ak rfl k6 <| re <| tr <| QK.nilOwn 107 35 (Lay.sz Hdr) none ?_
   obtain rfl := si h
   exact rt [107] (ResIs.two rfl rfl rfl) (Ext.refl _ _) ⟨none, 0, 0, ([] : List Hdr), rfl, rfl, (Rels.nil (R := (RelB (α := BitVec 8)) M0))⟩
  refine sk <| sk <| sk <| pt rfl rfl <| dz k3 <| cdT rfl <| sr fun _ k8 => asn rfl <| ak rfl k8 <| re <| tr <| QK.nilOwn 109 35 (Lay.sz Hdr) none ?_
  obtain rfl := si h
  exact rt [109] (ResIs.two rfl rfl rfl) (Ext.refl _ _) ⟨none, 0, 0, ([] : List Hdr), rfl, rfl, (Rels.nil (R := (RelB (α := BitVec 8)) M0))⟩
 rintro _ h
 unfold m_r04_Restore_j0 at h
 refine sr fun _ k10 => ak rfl k10 <| sr fun _ k11 => ak rfl k11 <| ct (σ := (Option Addr) × Nat × Nat × (List Int) × (Option Addr) × Nat × Nat × (List By) × (List Hdr)) (fun ⟨A14, n15, c16, x17, A20, n21, c22, x23, rs24⟩ => [(6, .slice A14 n15 c16), (7, .slice A20 n21 c22)]) (fun ⟨A14, n15, c16, x17, A20, n21, c22, x23, rs24⟩ => [(0, .mem M0), (113, .own 3 (Lay.sz Int) A14 n15 c16 (cel x17)), (119, .own 35 (Lay.sz Hdr) A20 n21 c22 (cel rs24))]) (fun ⟨A14, n15, c16, x17, A20, n21, c22, x23, rs24⟩ => m_r04_Restore_j1 x17 x23 = some res /\ Rels ((RelB (α := BitVec 8)) M0) rs24 x23) (fun _ k26 => ?_) ?_
 ·refine sr fun _ k27 => ak rfl k27 <| bl <| WC.nilOwn 129 3 (Lay.sz Int) none <| WC.nilOwn 135 35 (Lay.sz Hdr) none <| lp (τ := (Option Addr) × Nat × Nat × (List Int) × (Option Addr) × Nat × Nat × (List By) × (List Hdr) × Int) (fun ⟨A30, n31, c32, x33, A36, n37, c38, x39, rs40, x42⟩ => [(0, .slice A00 n00 c00), (1, .slice A01 n01 c01), (6, .slice A30 n31 c32), (7, .slice A36 n37 c38), (8, I64 x42)]) (fun ⟨A30, n31, c32, x33, A36, n37, c38, x39, rs40, x42⟩ => [(0, .mem M0), (129, .own 3 (Lay.sz Int) A30 n31 c32 (cel x33)), (135, .own 35 (Lay.sz Hdr) A36 n37 c38 (cel rs40))]) (fun q43 ⟨A30, n31, c32, x33, A36, n37, c38, x39, rs40, x42⟩ => m_r04_Restore_l2 x00 x01 q43 x33 x39 x42 = some res /\ Rels ((RelB (α := BitVec 8)) M0) rs40 x39) ⟨none, 0, 0, ([] : List Int), none, 0, 0, ([] : List By), ([] : List Hdr), (0 : Int)⟩ ?_ (by simp [m_r04_Restore_l2]) ?_
  ·exact ⟨h, (Rels.nil (R := (RelB (α := BitVec 8)) M0))⟩
  rintro q43 ⟨A30, n31, c32, x33, A36, n37, c38, x39, rs40, x42⟩ ⟨h, hq41⟩ _ k44
  unfold m_r04_Restore_l2 at h
  refine sq fun _ k45 => sr fun _ k46 => mv rfl <| ya (lss rfl rfl) <| dz k46 <| cI h rfl (fun hc47 h => ?_) fun hc47 h => ?_
  ·refine ss <| k45 _ _ <| sq fun _ k48 => bl <| sq fun _ k49 => sr fun _ k50 => bd h fun x51 hx51 h => mv rfl <| mv rfl <| ya (idxC (xs := x01) sty_30 rfl rfl (mM rfl hf01) hx51) <| ya (loadC0 (xs := x01) scal_4 rfl (mM rfl hf01) hx51 rfl) <| ya (notB rfl) <| dz k50 <| cnn h rfl not_f (fun q => not_t (Bool.eq_false_iff.2 q)) (fun hc52 h => ?_) fun hc52 h => ?_
   ·refine ss <| k49 _ _ <| sq fun _ k53 => sd [(0, _), (129, _), (135, _)] mixed fun _ k54 => ?_
    by_cases hc55 : (0 : Int) < (x39.length : Int)
    ·replace h := of_t hc55 h
     obtain ⟨x56, hx56, h⟩ := bnd h
     obtain ⟨x60, hx60, h⟩ := bnd h
     refine dm 0 rfl rfl <| du 1 rfl (lenD (rs := rs40) (xs := x39) (Rels.len hq41) und_29 rfl (rO 135 rfl)) <| du 2 rfl (gtr rfl rfl) <| dm 3 rfl rfl <| WD.new (v' := .bool true) (congrArg Value.bool (decide_eq_true hc55)) <| dv 4 rfl (Yld.move rfl) <| dv 5 rfl (Yld.move rfl) ?_
     obtain ⟨r_57, hr58, hq59⟩ := Rels.idx hq00 hx56
     refine dv 6 rfl (idxC (xs := rs00) sty_29 rfl rfl (mM rfl hf00) hr58) <| dv 7 rfl (loadC0 (xs := rs00) scal_35 rfl (mM rfl hf00) hr58 rfl) <| dv 8 rfl (lenC (xs := x56) und_35 rfl (mM rfl hq59)) <| dv 9 rfl (Yld.move rfl) ?_
     obtain ⟨r_61, hr62, hq63⟩ := Rels.idx hq41 hx60
     refine dv 10 rfl (idxC (xs := rs40) sty_29 rfl rfl (rO 135 rfl) hr62) <| dv 11 rfl (loadC0 (xs := rs40) scal_35 rfl (rO 135 rfl) hr62 rfl) <| dv 12 rfl (lenC (xs := x60) und_35 rfl (mM rfl hq63)) <| dv 13 rfl (neqI rfl rfl) <| du 14 rfl (pickT rfl rfl) <| dd <| k54 _ _ <| cnn h rfl bne_eq_false_iff_eq.2 bne_iff_ne.2 (fun hc64 h => ?_) fun hc64 h => ?_
     ·refine ss <| k53 _ _ <| rd [(0, _)] mixed fun _ k65 => ?_
      obtain ⟨x67, hx67, h⟩ := bnd h
      obtain ⟨x70, hx70, h⟩ := bnd h
      obtain ⟨x76, hx76, h⟩ := bnd h
      refine dm 0 rfl rfl <| dm 1 rfl rfl <| dm 4 rfl rfl <| dm 5 rfl rfl <| dm 6 rfl rfl ?_
      obtain ⟨r_71, hr72, hq73⟩ := Rels.idx hq00 hx70
      refine du 7 rfl (idxC (xs := rs00) sty_29 rfl rfl (mM rfl hf00) hr72) <| du 8 rfl (loadC0 (xs := rs00) scal_35 rfl (mM rfl hf00) hr72 rfl) <| WD.two 2 9 (by kernel_rfl) ?_ ?_
      ·refine WS.eff rfl (by decide) (Eff.buildC 166 ([x42] : List Int) sty_32 rfl rfl rfl rfl rfl (by decide)) ?_
       rintro _ _ ⟨g66, rfl, rfl⟩
       refine aq ?_
       refine WD.two 3 9 (by kernel_rfl) ?_ ?_
       ·refine WS.eff rfl (by decide) (Eff.appendC 129 (xs := x33) (ys := ([x42] : List Int)) sty_32 rfl rfl rfl (rO 166 rfl) hx67) ?_
        rintro _ _ ⟨A68, c69, rfl, rfl⟩
        refine aq ?_
        refine on 9 ?_
        have hq75 : Rels ((RelB (α := BitVec 8)) M0) ([(⟨r_71.A, r_71.n, r_71.c⟩ : Hdr)] : List Hdr) ([x70] : List By) := (Rels.cons hq73 Rels.nil)
        refine WS.eff rfl (by decide) (Eff.buildC 174 ([(⟨r_71.A, r_71.n, r_71.c⟩ : Hdr)] : List Hdr) sty_29 rfl rfl rfl rfl rfl (by decide)) ?_
        rintro _ _ ⟨g74, rfl, rfl⟩
        refine aq ?_
        refine on 10 ?_
        obtain ⟨hu79, hq80⟩ := Rels.apd hq41 hq75 hx76
        refine WS.eff rfl (by decide) (Eff.appendC 135 (xs := rs40) (ys := ([(⟨r_71.A, r_71.n, r_71.c⟩ : Hdr)] : List Hdr)) sty_29 rfl rfl rfl (rO 174 rfl) hu79) ?_
        rintro _ _ ⟨A77, c78, rfl, rfl⟩
        refine aq ?_
        refine du 11 rfl (Yld.assign rfl) <| du 12 rfl (Yld.assign rfl) <| dd <| k65 _ _ <| bn <| tn <| k48 _ _ <| rg fun _ k81 => bd h fun x82 hx82 h => mv rfl <| ya (addC rfl rfl hx82) <| ak rfl k81 <| tn <| kw (k44 ⟨A68, x67.length, c69, x67, A77, (rs40 ++ ([(⟨r_71.A, r_71.n, r_71.c⟩ : Hdr)] : List Hdr)).length, c78, x76, (rs40 ++ ([(⟨r_71.A, r_71.n, r_71.c⟩ : Hdr)] : List Hdr)), x82⟩ ⟨h, hq80⟩)
       skip
       have hq75 : Rels ((RelB (α := BitVec 8)) M0) ([(⟨r_71.A, r_71.n, r_71.c⟩ : Hdr)] : List Hdr) ([x70] : List By) := (Rels.cons hq73 Rels.nil)
       refine WS.eff rfl (by decide) (Eff.buildC 174 ([(⟨r_71.A, r_71.n, r_71.c⟩ : Hdr)] : List Hdr) sty_29 rfl rfl rfl rfl rfl (by decide)) ?_
       rintro _ _ ⟨g74, rfl, rfl⟩
       refine aq ?_
       refine on 3 <| WS.eff rfl (by decide) (Eff.appendC 129 (xs := x33) (ys := ([x42] : List Int)) sty_32 rfl rfl rfl (rO 166 rfl) hx67) ?_
       rintro _ _ ⟨A68, c69, rfl, rfl⟩
       refine aq ?_
       refine on 10 ?_
       obtain ⟨hu79, hq80⟩ := Rels.apd hq41 hq75 hx76
       refine WS.eff rfl (by decide) (Eff.appendC 135 (xs := rs40) (ys := ([(⟨r_71.A, r_71.n, r_71.c⟩ : Hdr)] : List Hdr)) sty_29 rfl rfl rfl (rO 174 rfl) hu79) ?_
       rintro _ _ ⟨A77, c78, rfl, rfl⟩
       refine aq ?_
       refine du 11 rfl (Yld.assign rfl) <| du 12 rfl (Yld.assign rfl) <| dd <| k65 _ _ <| bn <| tn <| k48 _ _ <| rg fun _ k83 => bd h fun x84 hx84 h => mv rfl <| ya (addC rfl rfl hx84) <| ak rfl k83 <| tn <| kw (k44 ⟨A68, x67.length, c69, x67, A77, (rs40 ++ ([(⟨r_71.A, r_71.n, r_71.c⟩ : Hdr)] : List Hdr)).length, c78, x76, (rs40 ++ ([(⟨r_71.A, r_71.n, r_71.c⟩ : Hdr)] : List Hdr)), x84⟩ ⟨h, hq80⟩)
      skip
      have hq75 : Rels ((RelB (α := BitVec 8)) M0) ([(⟨r_71.A, r_71.n, r_71.c⟩ : Hdr)] : List Hdr) ([x70] : List By) := (Rels.cons hq73 Rels.nil)
      refine WS.eff rfl (by decide) (Eff.buildC 174 ([(⟨r_71.A, r_71.n, r_71.c⟩ : Hdr)] : List Hdr) sty_29 rfl rfl rfl rfl rfl (by decide)) ?_
      rintro _ _ ⟨g74, rfl, rfl⟩
      refine aq ?_
      refine on 2 <| WS.eff rfl (by decide) (Eff.buildC 166 ([x42] : List Int) sty_32 rfl rfl rfl rfl rfl (by decide)) ?_
      rintro _ _ ⟨g66, rfl, rfl⟩
      refine aq ?_
      refine on 3 <| WS.eff rfl (by decide) (Eff.appendC 129 (xs := x33) (ys := ([x42] : List Int)) sty_32 rfl rfl rfl (rO 166 rfl) hx67) ?_
      rintro _ _ ⟨A68, c69, rfl, rfl⟩
      refine aq ?_
      refine on 10 ?_
      obtain ⟨hu79, hq80⟩ := Rels.apd hq41 hq75 hx76
      refine WS.eff rfl (by decide) (Eff.appendC 135 (xs := rs40) (ys := ([(⟨r_71.A, r_71.n, r_71.c⟩ : Hdr)] : List Hdr)) sty_29 rfl rfl rfl (rO 174 rfl) hu79) ?_
      rintro _ _ ⟨A77, c78, rfl, rfl⟩
      refine aq ?_
      refine du 11 rfl (Yld.assign rfl) <| du 12 rfl (Yld.assign rfl) <| dd <| k65 _ _ <| bn <| tn <| k48 _ _ <| rg fun _ k85 => bd h fun x86 hx86 h => mv rfl <| ya (addC rfl rfl hx86) <| ak rfl k85 <| tn <| kw (k44 ⟨A68, x67.length, c69, x67, A77, (rs40 ++ ([(⟨r_71.A, r_71.n, r_71.c⟩ : Hdr)] : List Hdr)).length, c78, x76, (rs40 ++ ([(⟨r_71.A, r_71.n, r_71.c⟩ : Hdr)] : List Hdr)), x86⟩ ⟨h, hq80⟩)
     refine sr fun _ k87 => asn rfl <| ak rfl k87 <| re <| tr <| br <| tr <| tr <| br <| tr <| QK.nilOwn 188 35 (Lay.sz Hdr) none ?_
     obtain rfl := si h
     exact rt [188] (ResIs.two rfl rfl rfl) (Ext.refl _ _) ⟨none, 0, 0, ([] : List Hdr), rfl, rfl, (Rels.nil (R := (RelB (α := BitVec 8)) M0))⟩
    replace h := of_f hc55 h
    refine dm 0 rfl rfl <| du 1 rfl (lenD (rs := rs40) (xs := x39) (Rels.len hq41) und_29 rfl (rO 135 rfl)) <| du 2 rfl (gtr rfl rfl) <| dm 3 rfl rfl <| WD.new (v' := .bool false) (congrArg Value.bool (decide_eq_false hc55)) <| dw 4 rfl <| dw 5 rfl <| dw 6 rfl <| dw 7 rfl <| dw 8 rfl <| dw 9 rfl <| dw 10 rfl <| dw 11 rfl <| dw 12 rfl <| dw 13 rfl <| du 14 rfl (pickF rfl rfl) <| dd <| k54 _ _ <| cdF rfl <| ss <| k53 _ _ <| rd [(0, _)] mixed fun _ k89 => ?_
    obtain ⟨x91, hx91, h⟩ := bnd h
    obtain ⟨x94, hx94, h⟩ := bnd h
    obtain ⟨x100, hx100, h⟩ := bnd h
    refine dm 0 rfl rfl <| dm 1 rfl rfl <| dm 4 rfl rfl <| dm 5 rfl rfl <| dm 6 rfl rfl ?_
    obtain ⟨r_95, hr96, hq97⟩ := Rels.idx hq00 hx94
    refine du 7 rfl (idxC (xs := rs00) sty_29 rfl rfl (mM rfl hf00) hr96) <| du 8 rfl (loadC0 (xs := rs00) scal_35 rfl (mM rfl hf00) hr96 rfl) <| WD.two 2 9 (by kernel_rfl) ?_ ?_
    ·refine WS.eff rfl (by decide) (Eff.buildC 190 ([x42] : List Int) sty_32 rfl rfl rfl rfl rfl (by decide)) ?_
     rintro _ _ ⟨g90, rfl, rfl⟩
     refine aq ?_
     refine WD.two 3 9 (by kernel_rfl) ?_ ?_
     ·refine WS.eff rfl (by decide) (Eff.appendC 129 (xs := x33) (ys := ([x42] : List Int)) sty_32 rfl rfl rfl (rO 190 rfl) hx91) ?_
      rintro _ _ ⟨A92, c93, rfl, rfl⟩
      refine aq ?_
      refine on 9 ?_
      have hq99 : Rels ((RelB (α := BitVec 8)) M0) ([(⟨r_95.A, r_95.n, r_95.c⟩ : Hdr)] : List Hdr) ([x94] : List By) := (Rels.cons hq97 Rels.nil)
      refine WS.eff rfl (by decide) (Eff.buildC 198 ([(⟨r_95.A, r_95.n, r_95.c⟩ : Hdr)] : List Hdr) sty_29 rfl rfl rfl rfl rfl (by decide)) ?_
      rintro _ _ ⟨g98, rfl, rfl⟩
      refine aq ?_
      refine on 10 ?_
      obtain ⟨hu103, hq104⟩ := Rels.apd hq41 hq99 hx100
      refine WS.eff rfl (by decide) (Eff.appendC 135 (xs := rs40) (ys := ([(⟨r_95.A, r_95.n, r_95.c⟩ : Hdr)] : List Hdr)) sty_29 rfl rfl rfl (rO 198 rfl) hu103) ?_
      rintro _ _ ⟨A101, c102, rfl, rfl⟩
      refine aq ?_
      refine du 11 rfl (Yld.assign rfl) <| du 12 rfl (Yld.assign rfl) <| dd <| k89 _ _ <| bn <| tn <| k48 _ _ <| rg fun _ k105 => bd h fun x106 hx106 h => mv rfl <| ya (addC rfl rfl hx106) <| ak rfl k105 <| tn <| kw (k44 ⟨A92, x91.length, c93, x91, A101, (rs40 ++ ([(⟨r_95.A, r_95.n, r_95.c⟩ : Hdr)] : List Hdr)).length, c102, x100, (rs40 ++ ([(⟨r_95.A, r_95.n, r_95.c⟩ : Hdr)] : List Hdr)), x106⟩ ⟨h, hq104⟩)
     skip
     have hq99 : Rels ((RelB (α := BitVec 8)) M0) ([(⟨r_95.A, r_95.n, r_95.c⟩ : Hdr)] : List Hdr) ([x94] : List By) := (Rels.cons hq97 Rels.nil)
     refine WS.eff rfl (by decide) (Eff.buildC 198 ([(⟨r_95.A, r_95.n, r_95.c⟩ : Hdr)] : List Hdr) sty_29 rfl rfl rfl rfl rfl (by decide)) ?_
     rintro _ _ ⟨g98, rfl, rfl⟩
     refine aq ?_
     refine on 3 <| WS.eff rfl (by decide) (Eff.appendC 129 (xs := x33) (ys := ([x42] : List Int)) sty_32 rfl rfl rfl (rO 190 rfl) hx91) ?_
     rintro _ _ ⟨A92, c93, rfl, rfl⟩
     refine aq ?_
     refine on 10 ?_
     obtain ⟨hu103, hq104⟩ := Rels.apd hq41 hq99 hx100
     refine WS.eff rfl (by decide) (Eff.appendC 135 (xs := rs40) (ys := ([(⟨r_95.A, r_95.n, r_95.c⟩ : Hdr)] : List Hdr)) sty_29 rfl rfl rfl (rO 198 rfl) hu103) ?_
     rintro _ _ ⟨A101, c102, rfl, rfl⟩
     refine aq ?_
     refine du 11 rfl (Yld.assign rfl) <| du 12 rfl (Yld.assign rfl) <| dd <| k89 _ _ <| bn <| tn <| k48 _ _ <| rg fun _ k107 => bd h fun x108 hx108 h => mv rfl <| ya (addC rfl rfl hx108) <| ak rfl k107 <| tn <| kw (k44 ⟨A92, x91.length, c93, x91, A101, (rs40 ++ ([(⟨r_95.A, r_95.n, r_95.c⟩ : Hdr)] : List Hdr)).length, c102, x100, (rs40 ++ ([(⟨r_95.A, r_95.n, r_95.c⟩ : Hdr)] : List Hdr)), x108⟩ ⟨h, hq104⟩)
    skip
    have hq99 : Rels ((RelB (α := BitVec 8)) M0) ([(⟨r_95.A, r_95.n, r_95.c⟩ : Hdr)] : List Hdr) ([x94] : List By) := (Rels.cons hq97 Rels.nil)
    refine WS.eff rfl (by decide) (Eff.buildC 198 ([(⟨r_95.A, r_95.n, r_95.c⟩ : Hdr)] : List Hdr) sty_29 rfl rfl rfl rfl rfl (by decide)) ?_
    rintro _ _ ⟨g98, rfl, rfl⟩
    refine aq ?_
    refine on 2 <| WS.eff rfl (by decide) (Eff.buildC 190 ([x42] : List Int) sty_32 rfl rfl rfl rfl rfl (by decide)) ?_
    rintro _ _ ⟨g90, rfl, rfl⟩
    refine aq ?_
    refine on 3 <| WS.eff rfl (by decide) (Eff.appendC 129 (xs := x33) (ys := ([x42] : List Int)) sty_32 rfl rfl rfl (rO 190 rfl) hx91) ?_
    rintro _ _ ⟨A92, c93, rfl, rfl⟩
    refine aq ?_
    refine on 10 ?_
    obtain ⟨hu103, hq104⟩ := Rels.apd hq41 hq99 hx100
    refine WS.eff rfl (by decide) (Eff.appendC 135 (xs := rs40) (ys := ([(⟨r_95.A, r_95.n, r_95.c⟩ : Hdr)] : List Hdr)) sty_29 rfl rfl rfl (rO 198 rfl) hu103) ?_
    rintro _ _ ⟨A101, c102, rfl, rfl⟩
    refine aq ?_
    refine du 11 rfl (Yld.assign rfl) <| du 12 rfl (Yld.assign rfl) <| dd <| k89 _ _ <| bn <| tn <| k48 _ _ <| rg fun _ k109 => bd h fun x110 hx110 h => mv rfl <| ya (addC rfl rfl hx110) <| ak rfl k109 <| tn <| kw (k44 ⟨A92, x91.length, c93, x91, A101, (rs40 ++ ([(⟨r_95.A, r_95.n, r_95.c⟩ : Hdr)] : List Hdr)).length, c102, x100, (rs40 ++ ([(⟨r_95.A, r_95.n, r_95.c⟩ : Hdr)] : List Hdr)), x110⟩ ⟨h, hq104⟩)
   refine xi <| te <| bx <| tn <| k48 _ _ <| rg fun _ k111 => bd h fun x112 hx112 h => mv rfl <| ya (addC rfl rfl hx112) <| ak rfl k111 <| tn <| kw (k44 ⟨A30, n31, c32, x33, A36, n37, c38, x39, rs40, x112⟩ ⟨h, hq41⟩)
  exact xi <| te <| te <| bx <| tn <| KK.move 129 113 rfl rfl <| KK.move 135 119 rfl rfl <| kw (k26 ⟨A30, n31, c32, x33, A36, n37, c38, x39, rs40⟩ ⟨h, hq41⟩)
 rintro ⟨A14, n15, c16, x17, A20, n21, c22, x23, rs24⟩ ⟨h, hq25⟩
 unfold m_r04_Restore_j1 at h
 refine sq fun _ k113 => sr fun _ k114 => mv rfl <| ya (lenC (xs := x17) und_32 rfl (rO 113 rfl)) <| ya (lss rfl rfl) <| dz k114 <| cI h rfl (fun hc115 h => ?_) fun hc115 h => ?_
 ·refine sr fun _ k116 => asn rfl <| ak rfl k116 <| re <| tr <| QK.nilOwn 217 35 (Lay.sz Hdr) none ?_
  obtain rfl := si h
  exact rt [217] (ResIs.two rfl rfl rfl) (Ext.refl _ _) ⟨none, 0, 0, ([] : List Hdr), rfl, rfl, (Rels.nil (R := (RelB (α := BitVec 8)) M0))⟩
 refine ss <| k113 _ _ <| ctd [(0, _), (113, _), (119, _)] (σ := Nat × Int × Int × (Option Addr) × Nat × Nat × By) (fun ⟨g118, x119, x120, A123, n124, c125, x126⟩ => [(7, .slice A20 n21 c22), (9, pv g118)]) (fun ⟨g118, x119, x120, A123, n124, c125, x126⟩ => [(0, .mem M0), (119, .own 35 (Lay.sz Hdr) A20 n21 c22 (cel rs24)), (218, .blk g118 129 [I64 x119, I64 x120, .slice A123 n124 c125]), (222, .own 5 (Lay.sz (BitVec 8)) A123 n124 c125 (cel x126))]) (fun ⟨g118, x119, x120, A123, n124, c125, x126⟩ => m_r04_Restore_j3 x23 x119 x120 x126 = some res) mixed (fun _ k127 => ?_) ?_
 ·obtain ⟨x129, hx129, h⟩ := bnd h
  obtain ⟨x137, hx137, h⟩ := bnd h
  obtain ⟨x138, hx138, h⟩ := bnd h
  refine dm 1 rfl rfl <| du 2 rfl (sliceHC (xs := x17) sty_32 rfl rfl (rO 113 rfl) hx137) <| WD.two 0 7 (by kernel_rfl) ?_ ?_
  ·refine WS.eff rfl (by decide) (Eff.callS 233 rfl Tryz.func63 nm_63 rfl rfl (fun w hb hh => w_r04_Code (Mem.snap w) hx129)) ?_
   rintro _ _ ⟨_, ⟨A134, n135, c136, rfl, rfl⟩, rfl⟩
   refine aq ?_
   refine WD.two 3 7 (by kernel_rfl) ?_ ?_
   ·refine WS.eff rfl (by decide) (Eff.callS 242 rfl Tryz.func62 nm_62 rfl rfl (fun w hb hh => w_r03_Pick (Mem.snap w) x129.1 x129.2.1 A134 n135 c136 _ (RdH.sn (rO 233 rfl) w hb hh) A14 x137.length c16 _ (RdH.sn (RdT.slc0 (rO 113 rfl) hx137) w hb hh) hx138)) ?_
    rintro _ _ ⟨_, ⟨A143, n144, c145, rfl, rfl⟩, rfl⟩
    refine aq ?_
    refine dm 4 rfl rfl <| du 5 rfl (extract rfl rfl) <| du 6 rfl (extract rfl rfl) <| on 7 <| WS.eff rfl (by decide) (Eff.alloc 246 rfl zr_129) ?_
    rintro _ _ ⟨g146, rfl, rfl⟩
    refine aq ?_
    exact on 8 <| ds 246 rfl agg_129 rfl rfl rfl <| du 9 rfl (Yld.assign rfl) <| WD.done (by kernel_rfl) <| KK.move 246 218 rfl rfl <| KK.move 242 222 rfl rfl <| kw (k127 ⟨g146, x138.1, x138.2.1, A143, n144, c145, x138.2.2.1⟩ h)
   skip
   refine WS.eff rfl (by decide) (Eff.alloc 246 rfl zr_129) ?_
   rintro _ _ ⟨g146, rfl, rfl⟩
   refine aq ?_
   refine on 3 <| WS.eff rfl (by decide) (Eff.callS 242 rfl Tryz.func62 nm_62 rfl rfl (fun w hb hh => w_r03_Pick (Mem.snap w) x129.1 x129.2.1 A134 n135 c136 _ (RdH.sn (rO 233 rfl) w hb hh) A14 x137.length c16 _ (RdH.sn (RdT.slc0 (rO 113 rfl) hx137) w hb hh) hx138)) ?_
   rintro _ _ ⟨_, ⟨A143, n144, c145, rfl, rfl⟩, rfl⟩
   refine aq ?_
   exact dm 4 rfl rfl <| du 5 rfl (extract rfl rfl) <| du 6 rfl (extract rfl rfl) <| on 8 <| ds 246 rfl agg_129 rfl rfl rfl <| du 9 rfl (Yld.assign rfl) <| WD.done (by kernel_rfl) <| KK.move 246 218 rfl rfl <| KK.move 242 222 rfl rfl <| kw (k127 ⟨g146, x138.1, x138.2.1, A143, n144, c145, x138.2.2.1⟩ h)
  skip
  refine WS.eff rfl (by decide) (Eff.alloc 246 rfl zr_129) ?_
  rintro _ _ ⟨g146, rfl, rfl⟩
  refine aq ?_
  refine on 0 <| WS.eff rfl (by decide) (Eff.callS 233 rfl Tryz.func63 nm_63 rfl rfl (fun w hb hh => w_r04_Code (Mem.snap w) hx129)) ?_
  rintro _ _ ⟨_, ⟨A134, n135, c136, rfl, rfl⟩, rfl⟩
  refine aq ?_
  refine on 3 <| WS.eff rfl (by decide) (Eff.callS 242 rfl Tryz.func62 nm_62 rfl rfl (fun w hb hh => w_r03_Pick (Mem.snap w) x129.1 x129.2.1 A134 n135 c136 _ (RdH.sn (rO 233 rfl) w hb hh) A14 x137.length c16 _ (RdH.sn (RdT.slc0 (rO 113 rfl) hx137) w hb hh) hx138)) ?_
  rintro _ _ ⟨_, ⟨A143, n144, c145, rfl, rfl⟩, rfl⟩
  refine aq ?_
  exact dm 4 rfl rfl <| du 5 rfl (extract rfl rfl) <| du 6 rfl (extract rfl rfl) <| on 8 <| ds 246 rfl agg_129 rfl rfl rfl <| du 9 rfl (Yld.assign rfl) <| WD.done (by kernel_rfl) <| KK.move 246 218 rfl rfl <| KK.move 242 222 rfl rfl <| kw (k127 ⟨g146, x138.1, x138.2.1, A143, n144, c145, x138.2.2.1⟩ h)
 rintro ⟨g118, x119, x120, A123, n124, c125, x126⟩ h
 unfold m_r04_Restore_j3 at h
 refine sr fun _ k147 => bd h fun x148 hx148 h => ya (loadBM (k := 218) agg_129 rfl rfl rfl) <| c1 252 Tryz.func64 rfl (fun w hb hh => w_r03_Invert (Mem.snap w) x119 x120 A123 n124 c125 _ (RdH.sn (rO 222 rfl) w hb hh) hx148) fun A153 n154 c155 => mv rfl <| ya (extract rfl rfl) <| ya (extract rfl rfl) <| al 256 zr_129 fun g156 => sb 256 agg_129 rfl rfl rfl <| ak rfl k147 <| sd [(218, _), (222, _), (256, _)] mixed fun _ k157 => ?_
 obtain ⟨x158, hx158, h⟩ := bnd h
 obtain ⟨x162, hx162, h⟩ := bnd h
 refine du 0 rfl (loadBM (k := 256) agg_129 rfl rfl rfl) <| dm 1 rfl rfl <| on 2 ?_
 obtain ⟨rs159, hs160, hq161⟩ := Rels.slc hq25 hx158
 refine dy rfl (sliceHC (xs := rs24) sty_29 rfl rfl (rO 119 rfl) hs160) <| on 3 <| WS.freeze 252 rfl rfl rfl rfl rfl fun M174 hm_M174 hf175 => WS.freeze 119 rfl rfl rfl rfl rfl fun M176 hm_M176 hf177 => WS.eff rfl (by decide) (Eff.callM 268 rfl Tryz.func65 nm_65 rfl rfl rfl (w_r03_Apply _ x148.1 x148.2.1 A153 n154 c155 _ (SlRc.lift hf175 hm_M176) A20 rs159.length c22 rs159 _ (SlT.slc0 hf177 hs160) (Rels.lift (Rels.lift hq161 hm_M174) hm_M176) hx162)) ?_
 rintro _ _ ⟨M178, _, ⟨A179, n180, c181, rs182, rfl, rfl, hq183⟩, hm_M178, rfl⟩
 refine aq ?_
 refine dm 4 rfl rfl <| du 5 rfl (extract rfl rfl) <| du 6 rfl (extract rfl rfl) <| du 7 rfl (Yld.assign rfl) <| du 8 rfl (Yld.assign rfl) <| dd <| k157 _ _ <| sr fun _ k184 => bd h fun x185 hx185 h => mv rfl <| WL.freeze 268 rfl rfl rfl fun M197 hm_M197 hf198 => WL.eff (by decide) (Eff.callM 291 rfl Tryz.func66 nm_66 rfl rfl rfl (w_r04_all _ A179 n180 c181 rs182 _ hf198 (Rels.lift hq183 hm_M197) hx185)) ?_
 rintro _ _ ⟨M199, _, ⟨A200, n201, c202, rs203, rfl, rfl, hq204⟩, hm_M199, rfl⟩
 refine asn rfl <| ak rfl k184 <| re ?_
 obtain rfl := si h
 exact rt [291] (ResIs.two rfl rfl rfl) (Ext.trans (Ext.trans (Ext.trans (Ext.trans hm_M174 hm_M176) hm_M178) hm_M197) hm_M199) ⟨A200, n201, c202, rs203, rfl, rfl, hq204⟩
end Go.Proofs.YtcncappgheopgaaGreat
