/- A part of the proof. Conditions: as each theorem says. -/
import Derived.Test.YthjnhlmfcejhkaaGreatWkd
import Derived.Test.YthjnhlmfcejhkaaGreatMdr
namespace Go.Proofs.YthjnhlmfcejhkaaGreat
set_option maxRecDepth 10000
open Go Go.RowKit Yld
set_option linter.unusedVariables false
theorem nm_84 : (Tryz.f84.name == "runtime.NumGoroutine") = false := by kernel_rfl
theorem nm_91 : (Tryz.f91.name == "runtime.NumGoroutine") = false := by kernel_rfl
theorem sty_91 : STy Tryz.prog 91 4 (.bool false) 1 1 := STy.of und_91 (by kernel_rfl) rfl
theorem w_r04_Code (M0 : Mem)  {res : Int × Int × By} (h : m_r04_Code = some res) :
  Fn Tryz.prog 89 #[] M0 fun r M' es => ∃ (A1 : Option Addr) (n1 c1 : Nat), r = .agg ([I64 res.1, I64 res.2.1, .slice A1 n1 c1] : List Value).toArray /\ es = [.own 5 (Lay.sz (BitVec 8)) A1 n1 c1 (cel res.2.2)] := by
 refine Fn.intro (N := 31) Tryz.func89 rfl rfl (nle rfl) fun w0 => ?_
 unfold m_r04_Code at h
 refine sr fun _ k1 => al 102 zr_140 fun g2 => dz k1 <| sr fun _ k3 => bd h fun x4 hx4 h => c1 108 Tryz.func117 rfl (fun w hb hh => w_r03_Vandermonde (Mem.snap w) (6 : Int) (4 : Int) hx4) fun A9 n10 c11 => mv rfl <| ya (extract rfl rfl) <| ya (extract rfl rfl) <| al 112 zr_140 fun g12 => sb 112 agg_140 rfl rfl rfl <| ak rfl k3 <| sr fun _ k13 => bd h fun x15 hx15 h => ya (loadBM (k := 112) agg_140 rfl rfl rfl) <| WL.eff (by decide) (Eff.buildC 114 ([(0 : Int), (1 : Int), (2 : Int), (3 : Int)] : List Int) sty_45 rfl rfl rfl rfl rfl (by decide)) ?_
 rintro _ _ ⟨g14, rfl, rfl⟩
 refine c1 119 Tryz.func88 rfl (fun w hb hh => w_r03_Pick (Mem.snap w) x4.1 x4.2.1 A9 n10 c11 _ (RdH.sn (rO 108 rfl) w hb hh) (some ⟨g14, 0, none⟩) (([(0 : Int), (1 : Int), (2 : Int), (3 : Int)] : List Int).length) (([(0 : Int), (1 : Int), (2 : Int), (3 : Int)] : List Int).length) _ (RdH.sn (rO 114 rfl) w hb hh) hx15) fun A20 n21 c22 => mv rfl <| ya (extract rfl rfl) <| ya (extract rfl rfl) <| al 123 zr_140 fun g23 => sb 123 agg_140 rfl rfl rfl <| ak rfl k13 <| sr fun _ k24 => bd h fun x25 hx25 h => ya (loadBM (k := 123) agg_140 rfl rfl rfl) <| c1 129 Tryz.func90 rfl (fun w hb hh => w_r03_Invert (Mem.snap w) x15.1 x15.2.1 A20 n21 c22 _ (RdH.sn (rO 119 rfl) w hb hh) hx25) fun A30 n31 c32 => mv rfl <| ya (extract rfl rfl) <| ya (extract rfl rfl) <| al 133 zr_140 fun g33 => sb 133 agg_140 rfl rfl rfl <| ak rfl k24 <| sr fun _ k34 => bd h fun x35 hx35 h => ya (loadBM (k := 112) agg_140 rfl rfl rfl) <| ya (loadBM (k := 133) agg_140 rfl rfl rfl) <| c1 139 Tryz.func118 rfl (fun w hb hh => w_r03_Mul (Mem.snap w) x4.1 x4.2.1 A9 n10 c11 _ (RdH.sn (rO 108 rfl) w hb hh) x25.1 x25.2.1 A30 n31 c32 _ (RdH.sn (rO 129 rfl) w hb hh) hx35) fun A40 n41 c42 => mv rfl <| ya (extract rfl rfl) <| ya (extract rfl rfl) <| al 143 zr_140 fun g43 => sb 143 agg_140 rfl rfl rfl <| ak rfl k34 <| sr fun _ k44 => ya (loadBM (k := 143) agg_140 rfl rfl rfl) <| sb 102 agg_140 rfl rfl rfl <| dz k44 <| re ?_
 obtain rfl := si h
 exact rt [139] (ResIs.cellM (k := 102) rfl agg_140 rfl rfl (rfl)) (Ext.refl _ _) ⟨A40, n41, c42, rfl, rfl⟩
theorem w_r04_Level (M0 : Mem) (A00 : Option Addr) (n00 c00 : Nat) (rs00 : List Hdr) (x00 : List By) (hf00 : SlT M0 A00 n00 c00 rs00) (hq00 : Rels ((RelB (α := BitVec 8)) M0) rs00 x00) (x01 : Int) {res : Bool} (h : m_r04_Level x00 x01 = some res) :
  Fn Tryz.prog 83 #[.slice A00 n00 c00, I64 x01] M0 fun r M' es => r = .bool res /\ es = [] := by
 refine Fn.intro (N := 25) Tryz.func83 rfl rfl (nle rfl) fun w0 => ?_
 unfold m_r04_Level at h
 refine sr fun _ k1 => ak rfl k1 <| sq fun _ k2 => sr fun _ k3 => mv rfl <| ya (lenD (rs := rs00) (xs := x00) (Rels.len hq00) und_30 rfl (mM rfl hf00)) <| mv rfl <| ya (neqI rfl rfl) <| dz k3 <| cnn h rfl bne_eq_false_iff_eq.2 bne_iff_ne.2 (fun hc4 h => ?_) fun hc4 h => ?_
 ·refine ss <| k2 _ _ <| ct (σ := Unit) (fun _ => []) (fun _ => [(0, .mem M0)]) (fun _ => m_r04_Level_j0 = some res) (fun _ k5 => ?_) ?_
  ·refine sr fun _ k6 => ak rfl k6 <| bl <| lp (τ := Int) (fun x7 => [(0, .slice A00 n00 c00), (1, I64 x01), (5, I64 x7)]) (fun x7 => [(0, .mem M0)]) (fun q8 x7 => m_r04_Level_l1 x00 x01 q8 x7 = some res) ((0 : Int)) ?_ (by simp [m_r04_Level_l1]) ?_
   ·exact h
   rintro q8 x7 h _ k9
   unfold m_r04_Level_l1 at h
   refine sq fun _ k10 => sr fun _ k11 => mv rfl <| mv rfl <| ya (lss rfl rfl) <| dz k11 <| cI h rfl (fun hc12 h => ?_) fun hc12 h => ?_
   ·refine ss <| k10 _ _ <| sq fun _ k13 => bl <| sd [(0, _)] mixed fun _ k14 => ?_
    obtain ⟨x15, hx15, h⟩ := bnd h
    obtain ⟨x19, hx19, h⟩ := bnd h
    refine dm 0 rfl rfl <| dm 1 rfl rfl ?_
    obtain ⟨r_16, hr17, hq18⟩ := Rels.idx hq00 hx15
    refine du 2 rfl (idxC (xs := rs00) sty_30 rfl rfl (mM rfl hf00) hr17) <| du 3 rfl (loadC0 (xs := rs00) scal_22 rfl (mM rfl hf00) hr17 rfl) <| du 4 rfl (lenC (xs := x15) und_22 rfl (mM rfl hq18)) <| dm 5 rfl rfl ?_
    obtain ⟨r_20, hr21, hq22⟩ := Rels.idx hq00 hx19
    refine du 6 rfl (idxC (xs := rs00) sty_30 rfl rfl (mM rfl hf00) hr21) <| du 7 rfl (loadC0 (xs := rs00) scal_22 rfl (mM rfl hf00) hr21 rfl) <| du 8 rfl (lenC (xs := x19) und_22 rfl (mM rfl hq22)) <| du 9 rfl (neqI rfl rfl) <| dd <| k14 _ _ <| cnn h rfl bne_eq_false_iff_eq.2 bne_iff_ne.2 (fun hc23 h => ?_) fun hc23 h => ?_
    ·refine WC.skip <| bn <| tn <| k13 _ _ <| rg fun _ k24 => bd h fun x25 hx25 h => mv rfl <| ya (addC rfl rfl hx25) <| ak rfl k24 <| tn <| kw (k9 (x25) h)
    refine sr fun _ k26 => ak rfl k26 <| re <| br <| tr <| tr <| br <| tr ?_
    obtain rfl := si h
    exact rt0 (ResIs.one rfl rfl)
   exact xi <| te <| te <| bx <| tn <| kw (k5 () h)
  rintro _ h
  unfold m_r04_Level_j0 at h
  refine sr fun _ k27 => ak rfl k27 <| re ?_
  obtain rfl := si h
  exact rt0 (ResIs.one rfl rfl)
 refine sr fun _ k28 => ak rfl k28 <| re <| tr ?_
 obtain rfl := si h
 exact rt0 (ResIs.one rfl rfl)
end Go.Proofs.YthjnhlmfcejhkaaGreat
