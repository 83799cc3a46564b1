/- A part of the proof. Conditions: as each theorem says. -/
import Derived.Test.YthjnhlmfcejhkaaGreatWkb
import Derived.Test.YthjnhlmfcejhkaaGreatMdr
namespace Go.Proofs.YthjnhlmfcejhkaaGreat
set_option maxRecDepth 10000
open Go Go.RowKit Yld
set_option linter.unusedVariables false
theorem agg_140 : Agg Tryz.prog 140 3 := ⟨⟨_, Tryz.underlying140, rfl⟩, by kernel_rfl⟩
theorem bu_140_ : Tryz.prog.built 140 [] = some ([I64 (0 : Int), I64 (0 : Int), .slice none 0 0] : List Value).toArray := by kernel_rfl
theorem bu_140_0_1 : ∀ (a0 : Int) (a1 : Int), Tryz.prog.built 140 [(0, I64 a0), (1, I64 a1)] = some ([I64 a0, I64 a1, .slice none 0 0] : List Value).toArray := fun a0 a1 => by kernel_rfl
theorem bu_140_0_1_2 : ∀ (a0 : Int) (a1 : Int) (a2 : Option Addr) (n2 c2 : Nat), Tryz.prog.built 140 [(0, I64 a0), (1, I64 a1), (2, .slice a2 n2 c2)] = some ([I64 a0, I64 a1, .slice a2 n2 c2] : List Value).toArray := fun a0 a1 a2 n2 c2 => by kernel_rfl
theorem nm_120 : (Tryz.f120.name == "runtime.NumGoroutine") = false := by kernel_rfl
theorem nm_122 : (Tryz.f122.name == "runtime.NumGoroutine") = false := by kernel_rfl
theorem zr_140 : (Tryz.prog.info? 140).map (fun i => i.zero.map (·.cells)) = some (some ([I64 (0 : Int), I64 (0 : Int), .slice none 0 0] : List Value).toArray) := by kernel_rfl
theorem w_r03_size (M0 : Mem) (x00 x01 : Int) {res : Bool} (h : m_r03_size x00 x01 = some res) :
  Fn Tryz.prog 116 #[I64 x00, I64 x01] M0 fun r M' es => r = .bool res /\ es = [] := by
 refine Fn.intro (N := 19) Tryz.func116 rfl rfl (nle rfl) fun w0 => ?_
 unfold m_r03_size at h
 refine sr fun _ k1 => ak rfl k1 <| sr fun _ k2 => mv rfl <| ya (geq rfl rfl) <| mv rfl <| spl h decide_eq_true decide_eq_false (fun hc3 h => ?_) fun hc3 h => ?_
 ·refine mvg rfl <| yg (leq rfl rfl) <| pt rfl rfl <| mv rfl <| spl h decide_eq_true decide_eq_false (fun hc4 h => ?_) fun hc4 h => ?_
  ·refine mvg rfl <| yg (geq rfl rfl) <| pt rfl rfl <| mv rfl <| spl h decide_eq_true decide_eq_false (fun hc5 h => ?_) fun hc5 h => ?_
   ·refine mvg rfl <| yg (leq rfl rfl) <| pt rfl rfl <| ak rfl k2 <| re ?_
    obtain rfl := si h
    exact rt0 (ResIs.one rfl rfl)
   refine sk <| sk <| pf rfl rfl <| ak rfl k2 <| re ?_
   obtain rfl := si h
   exact rt0 (ResIs.one rfl rfl)
  refine sk <| sk <| pf rfl rfl <| mv rfl <| sk <| sk <| pf rfl rfl <| ak rfl k2 <| re ?_
  obtain rfl := si h
  exact rt0 (ResIs.one rfl rfl)
 refine sk <| sk <| pf rfl rfl <| mv rfl <| sk <| sk <| pf rfl rfl <| mv rfl <| sk <| sk <| pf rfl rfl <| ak rfl k2 <| re ?_
 obtain rfl := si h
 exact rt0 (ResIs.one rfl rfl)
theorem w_r03_Valid (M0 : Mem) (u0 u1 : Int) (A00_2 : Option Addr) (n00_2 c00_2 : Nat) (u2 : By) (hf00_2 : SlT M0 A00_2 n00_2 c00_2 u2) {res : Bool} (h : m_r03_Valid u0 u1 u2 = some res) :
  Fn Tryz.prog 115 #[.agg ([I64 u0, I64 u1, .slice A00_2 n00_2 c00_2] : List Value).toArray] M0 fun r M' es => r = .bool res /\ es = [] := by
 refine Fn.intro (N := 19) Tryz.func115 rfl rfl (nle rfl) fun w0 => ?_
 unfold m_r03_Valid at h
 refine sr fun _ k1 => bb 102 [I64 u0, I64 u1, .slice A00_2 n00_2 c00_2] rfl fun g2 => ak rfl k1 <| sr fun _ k3 => bd h fun x4 hx4 h => ya (fieldAddr Tryz.underlying140 rfl nz_3 rfl rfl) <| ya (loadB (k := 102) scal_3 rfl rfl rfl) <| ya (fieldAddr Tryz.underlying140 rfl nz_3 rfl rfl) <| ya (loadB (k := 102) scal_3 rfl rfl rfl) <| c0 Tryz.func116 rfl (fun w hb hh => w_r03_size (Mem.snap w) u0 u1 hx4) <| mv rfl <| spl h id Bool.eq_false_iff.2 (fun hc6 h => ?_) fun hc6 h => ?_
 ·obtain ⟨x7, hx7, h⟩ := bnd h
  refine yg (fieldAddr Tryz.underlying140 rfl nz_22 rfl rfl) <| yg (loadB (k := 102) scal_22 rfl rfl rfl) <| yg (lenC (xs := u2) und_22 rfl (mM rfl hf00_2)) <| yg (fieldAddr Tryz.underlying140 rfl nz_3 rfl rfl) <| yg (loadB (k := 102) scal_3 rfl rfl rfl) <| yg (fieldAddr Tryz.underlying140 rfl nz_3 rfl rfl) <| yg (loadB (k := 102) scal_3 rfl rfl rfl) <| yg (mulC rfl rfl hx7) <| yg (eqlI rfl rfl) <| pt rfl rfl <| ak rfl k3 <| re ?_
  obtain rfl := si h
  exact rt0 (ResIs.one rfl rfl)
 refine sk <| sk <| sk <| sk <| sk <| sk <| sk <| sk <| sk <| pf rfl rfl <| ak rfl k3 <| re ?_
 obtain rfl := si h
 exact rt0 (ResIs.one rfl rfl)
theorem w_r03_Identity (M0 : Mem) (x00 : Int) {res : Int × Int × By × Int} (h : m_r03_Identity x00 = some res) :
  Fn Tryz.prog 119 #[I64 x00] M0 fun r M' es => ∃ (A1 : Option Addr) (n1 c1 : Nat), r = .tuple #[.agg ([I64 res.1, I64 res.2.1, .slice A1 n1 c1] : List Value).toArray, I64 res.2.2.2] /\ es = [.own 5 (Lay.sz (BitVec 8)) A1 n1 c1 (cel res.2.2.1)] := by
 refine Fn.intro (N := 32) Tryz.func119 rfl rfl (nle rfl) fun w0 => ?_
 unfold m_r03_Identity at h
 refine sr fun _ k1 => al 102 zr_140 fun g2 => ak rfl k1 <| sq fun _ k3 => sr fun _ k4 => bd h fun x5 hx5 h => mv rfl <| mv rfl <| c0 Tryz.func116 rfl (fun w hb hh => w_r03_size (Mem.snap w) x00 x00 hx5) <| ya (notB rfl) <| dz k4 <| cnn h rfl not_f (fun q => not_t (Bool.eq_false_iff.2 q)) (fun hc7 h => ?_) fun hc7 h => ?_
 ·refine ss <| k3 _ _ <| sr fun _ k8 => ?_
  obtain ⟨x9, hx9, h⟩ := bnd h
  obtain ⟨x11, hx11, h⟩ := bnd h
  refine mv rfl <| mv rfl <| mv rfl <| mv rfl <| ya (mulC rfl rfl hx9) <| WL.eff (by decide) (Eff.makeC 110 0#8 sty_22 rfl rfl rfl rfl rfl rfl hx11) ?_
  rintro _ _ ⟨g10, rfl, rfl⟩
  refine ya (build rfl (bu_140_0_1_2 x00 x00 (some ⟨g10, 0, none⟩) x11.length x11.length)) <| al 112 zr_140 fun g12 => sb 112 agg_140 rfl rfl rfl <| dz k8 <| ct (σ := By) (fun x13 => [(2, pv g2), (4, pv g12)]) (fun x13 => [(0, .mem M0), (102, .blk g2 140 [I64 (0 : Int), I64 (0 : Int), .slice none 0 0]), (110, .own 5 (Lay.sz (BitVec 8)) (some ⟨g10, 0, none⟩) x11.length x11.length (cel x13)), (112, .blk g12 140 [I64 x00, I64 x00, .slice (some ⟨g10, 0, none⟩) x11.length x11.length])]) (fun x13 => m_r03_Identity_j0 x00 x13 = some res) (fun _ k14 => ?_) ?_
  ·refine sr fun _ k15 => ak rfl k15 <| bl <| lp (τ := By × Int) (fun ⟨x16, x17⟩ => [(0, I64 x00), (2, pv g2), (4, pv g12), (5, I64 x17)]) (fun ⟨x16, x17⟩ => [(0, .mem M0), (102, .blk g2 140 [I64 (0 : Int), I64 (0 : Int), .slice none 0 0]), (110, .own 5 (Lay.sz (BitVec 8)) (some ⟨g10, 0, none⟩) x11.length x11.length (cel x16)), (112, .blk g12 140 [I64 x00, I64 x00, .slice (some ⟨g10, 0, none⟩) x11.length x11.length])]) (fun q18 ⟨x16, x17⟩ => m_r03_Identity_l1 x00 q18 x16 x17 = some res) ⟨x11, (0 : Int)⟩ ?_ (by simp [m_r03_Identity_l1]) ?_
   ·exact h
   rintro q18 ⟨x16, x17⟩ h _ k19
   unfold m_r03_Identity_l1 at h
   refine sq fun _ k20 => sr fun _ k21 => mv rfl <| mv rfl <| ya (lss rfl rfl) <| dz k21 <| cI h rfl (fun hc22 h => ?_) fun hc22 h => ?_
   ·refine ss <| k20 _ _ <| sq fun _ k23 => bl <| rg fun _ k24 => ?_
    obtain ⟨x25, hx25, h⟩ := bnd h
    obtain ⟨x26, hx26, h⟩ := bnd h
    obtain ⟨x27, hx27, h⟩ := bnd h
    obtain ⟨x28, hx28, h⟩ := bnd h
    refine ya (fieldAddr Tryz.underlying140 rfl nz_22 rfl rfl) <| ya (loadB (k := 112) scal_22 rfl rfl rfl) <| mv rfl <| mv rfl <| ya (mulC rfl rfl hx25) <| mv rfl <| ya (addC rfl rfl hx26) <| ya (idxC (xs := x16) sty_22 rfl rfl (rO 110 rfl) hx27) <| WL.eff0 (Eff0.storeC1 110 (xs := x16) (a' := 1#8) siz_5 rfl rfl rfl rfl rfl rfl hx28) <| dz k24 <| bn <| tn <| k23 _ _ <| rg fun _ k29 => bd h fun x30 hx30 h => mv rfl <| ya (addC rfl rfl hx30) <| ak rfl k29 <| tn <| kw (k19 ⟨x28, x30⟩ h)
   exact xi <| te <| te <| bx <| tn <| kw (k14 x16 h)
  rintro x13 h
  unfold m_r03_Identity_j0 at h
  refine sr fun _ k31 => ya (loadBM (k := 112) agg_140 rfl rfl rfl) <| sb 102 agg_140 rfl rfl rfl <| ak rfl k31 <| re ?_
  obtain rfl := si h
  exact rt [110] (ResIs.cellTmpM (k := 102) rfl agg_140 rfl rfl rfl rfl) (Ext.refl _ _) ⟨(some ⟨g10, 0, none⟩), x11.length, x11.length, rfl, rfl⟩
 refine sr fun _ k32 => ya (build rfl (bu_140_)) <| sb 102 agg_140 rfl rfl rfl <| ak rfl k32 <| re <| tr <| QK.nilOwn 133 5 (Lay.sz (BitVec 8)) none ?_
 obtain rfl := si h
 exact rt [133] (ResIs.cellTmpM (k := 102) rfl agg_140 rfl rfl rfl rfl) (Ext.refl _ _) ⟨none, 0, 0, rfl, rfl⟩
theorem w_r03_Vandermonde (M0 : Mem) (x00 x01 : Int) {res : Int × Int × By × Int} (h : m_r03_Vandermonde x00 x01 = some res) :
  Fn Tryz.prog 117 #[I64 x00, I64 x01] M0 fun r M' es => ∃ (A1 : Option Addr) (n1 c1 : Nat), r = .tuple #[.agg ([I64 res.1, I64 res.2.1, .slice A1 n1 c1] : List Value).toArray, I64 res.2.2.2] /\ es = [.own 5 (Lay.sz (BitVec 8)) A1 n1 c1 (cel res.2.2.1)] := by
 refine Fn.intro (N := 39) Tryz.func117 rfl rfl (nle rfl) fun w0 => ?_
 unfold m_r03_Vandermonde at h
 refine sr fun _ k1 => al 102 zr_140 fun g2 => ak rfl k1 <| sq fun _ k3 => sr fun _ k4 => bd h fun x5 hx5 h => mv rfl <| mv rfl <| c0 Tryz.func116 rfl (fun w hb hh => w_r03_size (Mem.snap w) x00 x01 hx5) <| ya (notB rfl) <| dz k4 <| cnn h rfl not_f (fun q => not_t (Bool.eq_false_iff.2 q)) (fun hc7 h => ?_) fun hc7 h => ?_
 ·refine ss <| k3 _ _ <| sr fun _ k8 => mv rfl <| mv rfl <| ya (build rfl (bu_140_0_1 x00 x01)) <| al 109 zr_140 fun g9 => sb 109 agg_140 rfl rfl rfl <| dz k8 <| ct (σ := (Option Addr) × Nat × Nat × By) (fun ⟨A12, n13, c14, x15⟩ => [(4, pv g2), (6, pv g9)]) (fun ⟨A12, n13, c14, x15⟩ => [(0, .mem M0), (102, .blk g2 140 [I64 (0 : Int), I64 (0 : Int), .slice none 0 0]), (109, .blk g9 140 [I64 x00, I64 x01, .slice A12 n13 c14]), (111, .own 5 (Lay.sz (BitVec 8)) A12 n13 c14 (cel x15))]) (fun ⟨A12, n13, c14, x15⟩ => m_r03_Vandermonde_j0 x00 x01 x15 = some res) (fun _ k16 => ?_) ?_
  ·refine sr fun _ k17 => ak rfl k17 <| bl <| WC.nilOwn 119 5 (Lay.sz (BitVec 8)) none <| lp (τ := (Option Addr) × Nat × Nat × By × Int) (fun ⟨A20, n21, c22, x23, x24⟩ => [(0, I64 x00), (1, I64 x01), (4, pv g2), (6, pv g9), (7, I64 x24)]) (fun ⟨A20, n21, c22, x23, x24⟩ => [(0, .mem M0), (102, .blk g2 140 [I64 (0 : Int), I64 (0 : Int), .slice none 0 0]), (109, .blk g9 140 [I64 x00, I64 x01, .slice A20 n21 c22]), (119, .own 5 (Lay.sz (BitVec 8)) A20 n21 c22 (cel x23))]) (fun q25 ⟨A20, n21, c22, x23, x24⟩ => m_r03_Vandermonde_l1 x00 x01 q25 x23 x24 = some res) ⟨none, 0, 0, ([] : By), (0 : Int)⟩ ?_ (by simp [m_r03_Vandermonde_l1]) ?_
   ·exact h
   rintro q25 ⟨A20, n21, c22, x23, x24⟩ h _ k26
   unfold m_r03_Vandermonde_l1 at h
   refine sq fun _ k27 => sr fun _ k28 => mv rfl <| mv rfl <| ya (lss rfl rfl) <| dz k28 <| cI h rfl (fun hc29 h => ?_) fun hc29 h => ?_
   ·refine ss <| k27 _ _ <| ct (σ := (Option Addr) × Nat × Nat × By) (fun ⟨A30, n31, c32, x33⟩ => [(0, I64 x00), (1, I64 x01), (4, pv g2), (6, pv g9), (7, I64 x24)]) (fun ⟨A30, n31, c32, x33⟩ => [(0, .mem M0), (102, .blk g2 140 [I64 (0 : Int), I64 (0 : Int), .slice none 0 0]), (109, .blk g9 140 [I64 x00, I64 x01, .slice A30 n31 c32]), (119, .own 5 (Lay.sz (BitVec 8)) A30 n31 c32 (cel x33))]) (fun ⟨A30, n31, c32, x33⟩ => m_r03_Vandermonde_j2 x24 (m_r03_Vandermonde_l1 x00 x01 q25) x33 = some res) (fun _ k34 => ?_) ?_
    ·refine bl <| sr fun _ k35 => ya (Yld.assign (v := U8 1#8) rfl) <| dz k35 <| sr fun _ k36 => ak rfl k36 <| bl <| lp (τ := (Option Addr) × Nat × Nat × By × (BitVec 8) × Int) (fun ⟨A37, n38, c39, x40, x41, x42⟩ => [(0, I64 x00), (1, I64 x01), (4, pv g2), (6, pv g9), (7, I64 x24), (8, U8 x41), (9, I64 x42)]) (fun ⟨A37, n38, c39, x40, x41, x42⟩ => [(0, .mem M0), (102, .blk g2 140 [I64 (0 : Int), I64 (0 : Int), .slice none 0 0]), (109, .blk g9 140 [I64 x00, I64 x01, .slice A37 n38 c39]), (119, .own 5 (Lay.sz (BitVec 8)) A37 n38 c39 (cel x40))]) (fun q43 ⟨A37, n38, c39, x40, x41, x42⟩ => m_r03_Vandermonde_l3 x01 x24 (m_r03_Vandermonde_l1 x00 x01 q25) q43 x40 x41 x42 = some res) ⟨A20, n21, c22, x23, 1#8, (0 : Int)⟩ ?_ (by simp [m_r03_Vandermonde_l3]) ?_
     ·exact h
     rintro q43 ⟨A37, n38, c39, x40, x41, x42⟩ h _ k44
     unfold m_r03_Vandermonde_l3 at h
     refine sq fun _ k45 => sr fun _ k46 => mv rfl <| mv rfl <| ya (lss rfl rfl) <| dz k46 <| cI h rfl (fun hc47 h => ?_) fun hc47 h => ?_
     ·refine ss <| k45 _ _ <| sq fun _ k48 => bl <| sr fun _ k49 => bd h fun x51 hx51 h => ya (fieldAddr Tryz.underlying140 rfl nz_22 rfl rfl) <| ya (loadB (k := 109) scal_22 rfl rfl rfl) <| mv rfl <| WL.eff (by decide) (Eff.buildC 150 ([x41] : By) sty_22 rfl rfl rfl rfl rfl (by decide)) ?_
      rintro _ _ ⟨g50, rfl, rfl⟩
      refine ap 119 (xs := x40) (ys := ([x41] : By)) sty_22 rfl rfl rfl (rO 150 rfl) hx51 fun A52 c53 => ya (fieldAddr Tryz.underlying140 rfl nz_22 rfl rfl) <| WL.eff0 (Eff0.storeB 109 siz_22 rfl rfl rfl rfl (nle rfl)) <| dz k49 <| rg fun _ k54 => bd h fun x55 hx55 h => mv rfl <| mv rfl <| ya (conv_i64_u8 some_3 und_5 rfl) <| c0 Tryz.func144 rfl (fun w hb hh => w_r02_Mul (Mem.snap w) x41 (BitVec.ofInt 8 x24) hx55) <| ak rfl k54 <| bn <| tn <| k48 _ _ <| rg fun _ k57 => bd h fun x58 hx58 h => mv rfl <| ya (addC rfl rfl hx58) <| ak rfl k57 <| tn <| kw (k44 ⟨A52, x51.length, c53, x51, x55, x58⟩ h)
     exact xi <| te <| te <| bx <| bn <| tn <| kw (k34 ⟨A37, n38, c39, x40⟩ h)
    rintro ⟨A30, n31, c32, x33⟩ h
    unfold m_r03_Vandermonde_j2 at h
    refine rg fun _ k59 => bd h fun x60 hx60 h => mv rfl <| ya (addC rfl rfl hx60) <| ak rfl k59 <| tn <| kw (k26 ⟨A30, n31, c32, x33, x60⟩ h)
   exact xi <| te <| te <| bx <| tn <| KK.move 119 111 rfl rfl <| kw (k16 ⟨A20, n21, c22, x23⟩ h)
  rintro ⟨A12, n13, c14, x15⟩ h
  unfold m_r03_Vandermonde_j0 at h
  refine sr fun _ k61 => ya (loadBM (k := 109) agg_140 rfl rfl rfl) <| sb 102 agg_140 rfl rfl rfl <| ak rfl k61 <| re ?_
  obtain rfl := si h
  exact rt [111] (ResIs.cellTmpM (k := 102) rfl agg_140 rfl rfl rfl rfl) (Ext.refl _ _) ⟨A12, n13, c14, rfl, rfl⟩
 refine sr fun _ k62 => ya (build rfl (bu_140_)) <| sb 102 agg_140 rfl rfl rfl <| ak rfl k62 <| re <| tr <| QK.nilOwn 163 5 (Lay.sz (BitVec 8)) none ?_
 obtain rfl := si h
 exact rt [163] (ResIs.cellTmpM (k := 102) rfl agg_140 rfl rfl rfl rfl) (Ext.refl _ _) ⟨none, 0, 0, rfl, rfl⟩
theorem w_r03_Mul (M0 : Mem) (u0 u1 : Int) (A00_2 : Option Addr) (n00_2 c00_2 : Nat) (u2 : By) (hf00_2 : SlT M0 A00_2 n00_2 c00_2 u2) (v0 v1 : Int) (A01_2 : Option Addr) (n01_2 c01_2 : Nat) (v2 : By) (hf01_2 : SlT M0 A01_2 n01_2 c01_2 v2) {res : Int × Int × By × Int} (h : m_r03_Mul u0 u1 u2 v0 v1 v2 = some res) :
  Fn Tryz.prog 118 #[.agg ([I64 u0, I64 u1, .slice A00_2 n00_2 c00_2] : List Value).toArray, .agg ([I64 v0, I64 v1, .slice A01_2 n01_2 c01_2] : List Value).toArray] M0 fun r M' es => ∃ (A1 : Option Addr) (n1 c1 : Nat), r = .tuple #[.agg ([I64 res.1, I64 res.2.1, .slice A1 n1 c1] : List Value).toArray, I64 res.2.2.2] /\ es = [.own 5 (Lay.sz (BitVec 8)) A1 n1 c1 (cel res.2.2.1)] := by
 refine Fn.intro (N := 80) Tryz.func118 rfl rfl (nle rfl) fun w0 => ?_
 unfold m_r03_Mul at h
 refine sr fun _ k1 => bb 102 [I64 u0, I64 u1, .slice A00_2 n00_2 c00_2] rfl fun g2 => bb 103 [I64 v0, I64 v1, .slice A01_2 n01_2 c01_2] rfl fun g3 => al 104 zr_140 fun g4 => ak rfl k1 <| ct (σ := Unit) (fun _ => [(2, pv g2), (3, pv g3), (4, pv g4)]) (fun _ => [(0, .mem M0), (102, .blk g2 140 [I64 u0, I64 u1, .slice A00_2 n00_2 c00_2]), (103, .blk g3 140 [I64 v0, I64 v1, .slice A01_2 n01_2 c01_2]), (104, .blk g4 140 [I64 (0 : Int), I64 (0 : Int), .slice none 0 0])]) (fun _ => m_r03_Mul_j0 u0 u1 u2 v1 v2 = some res) (fun _ k5 => ?_) ?_
 ·refine sr fun _ k6 => bd h fun x7 hx7 h => ya (loadBM (k := 102) agg_140 rfl rfl rfl) <| c0 Tryz.func115 rfl (fun w hb hh => w_r03_Valid (Mem.snap w) u0 u1 A00_2 n00_2 c00_2 _ (sM rfl hf00_2 w hb hh) hx7) <| ya (notB rfl) <| mv rfl <| spn h not_f (fun q => not_t (Bool.eq_false_iff.2 q)) (fun hc9 h => ?_) fun hc9 h => ?_
  ·obtain ⟨x10, hx10, h⟩ := bnd h
   refine yg (loadBM (k := 103) agg_140 rfl rfl rfl) <| c0g Tryz.func115 rfl (fun w hb hh => w_r03_Valid (Mem.snap w) v0 v1 A01_2 n01_2 c01_2 _ (sM rfl hf01_2 w hb hh) hx10) <| yg (notB rfl) <| pf rfl rfl <| mv rfl <| spn h not_f (fun q => not_t (Bool.eq_false_iff.2 q)) (fun hc12 h => ?_) fun hc12 h => ?_
   ·refine yg (fieldAddr Tryz.underlying140 rfl nz_3 rfl rfl) <| yg (loadB (k := 102) scal_3 rfl rfl rfl) <| yg (fieldAddr Tryz.underlying140 rfl nz_3 rfl rfl) <| yg (loadB (k := 103) scal_3 rfl rfl rfl) <| yg (neqI rfl rfl) <| pf rfl rfl <| dz k6 <| cnn h rfl bne_eq_false_iff_eq.2 bne_iff_ne.2 (fun hc13 h => ?_) fun hc13 h => ?_
    ·exact WC.skip <| tn <| kw (k5 () h)
    refine sr fun _ k14 => ya (build rfl (bu_140_)) <| sb 104 agg_140 rfl rfl rfl <| ak rfl k14 <| re <| tr <| QK.nilOwn 115 5 (Lay.sz (BitVec 8)) none ?_
    obtain rfl := si h
    exact rt [115] (ResIs.cellTmpM (k := 104) rfl agg_140 rfl rfl rfl rfl) (Ext.refl _ _) ⟨none, 0, 0, rfl, rfl⟩
   refine sk <| sk <| sk <| sk <| sk <| pt rfl rfl <| dz k6 <| cdT rfl <| sr fun _ k16 => ya (build rfl (bu_140_)) <| sb 104 agg_140 rfl rfl rfl <| ak rfl k16 <| re <| tr <| QK.nilOwn 117 5 (Lay.sz (BitVec 8)) none ?_
   obtain rfl := si h
   exact rt [117] (ResIs.cellTmpM (k := 104) rfl agg_140 rfl rfl rfl rfl) (Ext.refl _ _) ⟨none, 0, 0, rfl, rfl⟩
  refine sk <| sk <| sk <| pt rfl rfl <| mv rfl <| sk <| sk <| sk <| sk <| sk <| pt rfl rfl <| dz k6 <| cdT rfl <| sr fun _ k18 => ya (build rfl (bu_140_)) <| sb 104 agg_140 rfl rfl rfl <| ak rfl k18 <| re <| tr <| QK.nilOwn 119 5 (Lay.sz (BitVec 8)) none ?_
  obtain rfl := si h
  exact rt [119] (ResIs.cellTmpM (k := 104) rfl agg_140 rfl rfl rfl rfl) (Ext.refl _ _) ⟨none, 0, 0, rfl, rfl⟩
 rintro _ h
 unfold m_r03_Mul_j0 at h
 refine sr fun _ k20 => ya (fieldAddr Tryz.underlying140 rfl nz_3 rfl rfl) <| ya (loadB (k := 102) scal_3 rfl rfl rfl) <| ya (fieldAddr Tryz.underlying140 rfl nz_3 rfl rfl) <| ya (loadB (k := 103) scal_3 rfl rfl rfl) <| ya (build rfl (bu_140_0_1 u0 v1)) <| al 121 zr_140 fun g21 => sb 121 agg_140 rfl rfl rfl <| dz k20 <| ct (σ := (Option Addr) × Nat × Nat × By) (fun ⟨A24, n25, c26, x27⟩ => [(4, pv g4), (6, pv g21)]) (fun ⟨A24, n25, c26, x27⟩ => [(0, .mem M0), (104, .blk g4 140 [I64 (0 : Int), I64 (0 : Int), .slice none 0 0]), (121, .blk g21 140 [I64 u0, I64 v1, .slice A24 n25 c26]), (123, .own 5 (Lay.sz (BitVec 8)) A24 n25 c26 (cel x27))]) (fun ⟨A24, n25, c26, x27⟩ => m_r03_Mul_j1 u0 v1 x27 = some res) (fun _ k28 => ?_) ?_
 ·refine sr fun _ k29 => ak rfl k29 <| bl <| WC.nilOwn 131 5 (Lay.sz (BitVec 8)) none <| lp (τ := (Option Addr) × Nat × Nat × By × Int) (fun ⟨A32, n33, c34, x35, x36⟩ => [(2, pv g2), (3, pv g3), (4, pv g4), (6, pv g21), (7, I64 x36)]) (fun ⟨A32, n33, c34, x35, x36⟩ => [(0, .mem M0), (102, .blk g2 140 [I64 u0, I64 u1, .slice A00_2 n00_2 c00_2]), (103, .blk g3 140 [I64 v0, I64 v1, .slice A01_2 n01_2 c01_2]), (104, .blk g4 140 [I64 (0 : Int), I64 (0 : Int), .slice none 0 0]), (121, .blk g21 140 [I64 u0, I64 v1, .slice A32 n33 c34]), (131, .own 5 (Lay.sz (BitVec 8)) A32 n33 c34 (cel x35))]) (fun q37 ⟨A32, n33, c34, x35, x36⟩ => m_r03_Mul_l2 u0 u1 u2 v1 v2 q37 x35 x36 = some res) ⟨none, 0, 0, ([] : By), (0 : Int)⟩ ?_ (by simp [m_r03_Mul_l2]) ?_
  ·exact h
  rintro q37 ⟨A32, n33, c34, x35, x36⟩ h _ k38
  unfold m_r03_Mul_l2 at h
  refine sq fun _ k39 => sr fun _ k40 => mv rfl <| ya (fieldAddr Tryz.underlying140 rfl nz_3 rfl rfl) <| ya (loadB (k := 102) scal_3 rfl rfl rfl) <| ya (lss rfl rfl) <| dz k40 <| cI h rfl (fun hc41 h => ?_) fun hc41 h => ?_
  ·refine ss <| k39 _ _ <| ct (σ := (Option Addr) × Nat × Nat × By) (fun ⟨A42, n43, c44, x45⟩ => [(2, pv g2), (3, pv g3), (4, pv g4), (6, pv g21), (7, I64 x36)]) (fun ⟨A42, n43, c44, x45⟩ => [(0, .mem M0), (102, .blk g2 140 [I64 u0, I64 u1, .slice A00_2 n00_2 c00_2]), (103, .blk g3 140 [I64 v0, I64 v1, .slice A01_2 n01_2 c01_2]), (104, .blk g4 140 [I64 (0 : Int), I64 (0 : Int), .slice none 0 0]), (121, .blk g21 140 [I64 u0, I64 v1, .slice A42 n43 c44]), (131, .own 5 (Lay.sz (BitVec 8)) A42 n43 c44 (cel x45))]) (fun ⟨A42, n43, c44, x45⟩ => m_r03_Mul_j3 x36 (m_r03_Mul_l2 u0 u1 u2 v1 v2 q37) x45 = some res) (fun _ k46 => ?_) ?_
   ·refine bl <| sr fun _ k47 => ak rfl k47 <| bl <| lp (τ := (Option Addr) × Nat × Nat × By × Int) (fun ⟨A48, n49, c50, x51, x52⟩ => [(2, pv g2), (3, pv g3), (4, pv g4), (6, pv g21), (7, I64 x36), (8, I64 x52)]) (fun ⟨A48, n49, c50, x51, x52⟩ => [(0, .mem M0), (102, .blk g2 140 [I64 u0, I64 u1, .slice A00_2 n00_2 c00_2]), (103, .blk g3 140 [I64 v0, I64 v1, .slice A01_2 n01_2 c01_2]), (104, .blk g4 140 [I64 (0 : Int), I64 (0 : Int), .slice none 0 0]), (121, .blk g21 140 [I64 u0, I64 v1, .slice A48 n49 c50]), (131, .own 5 (Lay.sz (BitVec 8)) A48 n49 c50 (cel x51))]) (fun q53 ⟨A48, n49, c50, x51, x52⟩ => m_r03_Mul_l4 u1 u2 v1 v2 x36 (m_r03_Mul_l2 u0 u1 u2 v1 v2 q37) q53 x51 x52 = some res) ⟨A32, n33, c34, x35, (0 : Int)⟩ ?_ (by simp [m_r03_Mul_l4]) ?_
    ·exact h
    rintro q53 ⟨A48, n49, c50, x51, x52⟩ h _ k54
    unfold m_r03_Mul_l4 at h
    refine sq fun _ k55 => sr fun _ k56 => mv rfl <| ya (fieldAddr Tryz.underlying140 rfl nz_3 rfl rfl) <| ya (loadB (k := 103) scal_3 rfl rfl rfl) <| ya (lss rfl rfl) <| dz k56 <| cI h rfl (fun hc57 h => ?_) fun hc57 h => ?_
    ·refine ss <| k55 _ _ <| ct (σ := (Option Addr) × Nat × Nat × By) (fun ⟨A58, n59, c60, x61⟩ => [(2, pv g2), (3, pv g3), (4, pv g4), (6, pv g21), (7, I64 x36), (8, I64 x52)]) (fun ⟨A58, n59, c60, x61⟩ => [(0, .mem M0), (102, .blk g2 140 [I64 u0, I64 u1, .slice A00_2 n00_2 c00_2]), (103, .blk g3 140 [I64 v0, I64 v1, .slice A01_2 n01_2 c01_2]), (104, .blk g4 140 [I64 (0 : Int), I64 (0 : Int), .slice none 0 0]), (121, .blk g21 140 [I64 u0, I64 v1, .slice A58 n59 c60]), (131, .own 5 (Lay.sz (BitVec 8)) A58 n59 c60 (cel x61))]) (fun ⟨A58, n59, c60, x61⟩ => m_r03_Mul_j5 x52 (m_r03_Mul_l4 u1 u2 v1 v2 x36 (m_r03_Mul_l2 u0 u1 u2 v1 v2 q37) q53) x61 = some res) (fun _ k62 => ?_) ?_
     ·refine bl <| sr fun _ k63 => ya (Yld.assign (v := U8 0#8) rfl) <| dz k63 <| ct (σ := (BitVec 8)) (fun x64 => [(2, pv g2), (3, pv g3), (4, pv g4), (6, pv g21), (7, I64 x36), (8, I64 x52), (9, U8 x64)]) (fun x64 => [(0, .mem M0), (102, .blk g2 140 [I64 u0, I64 u1, .slice A00_2 n00_2 c00_2]), (103, .blk g3 140 [I64 v0, I64 v1, .slice A01_2 n01_2 c01_2]), (104, .blk g4 140 [I64 (0 : Int), I64 (0 : Int), .slice none 0 0]), (121, .blk g21 140 [I64 u0, I64 v1, .slice A48 n49 c50]), (131, .own 5 (Lay.sz (BitVec 8)) A48 n49 c50 (cel x51))]) (fun x64 => m_r03_Mul_j6 x51 x52 (m_r03_Mul_l4 u1 u2 v1 v2 x36 (m_r03_Mul_l2 u0 u1 u2 v1 v2 q37) q53) x64 = some res) (fun _ k65 => ?_) ?_
      ·refine sr fun _ k66 => ak rfl k66 <| bl <| lp (τ := (BitVec 8) × Int) (fun ⟨x67, x68⟩ => [(2, pv g2), (3, pv g3), (4, pv g4), (6, pv g21), (7, I64 x36), (8, I64 x52), (9, U8 x67), (10, I64 x68)]) (fun ⟨x67, x68⟩ => [(0, .mem M0), (102, .blk g2 140 [I64 u0, I64 u1, .slice A00_2 n00_2 c00_2]), (103, .blk g3 140 [I64 v0, I64 v1, .slice A01_2 n01_2 c01_2]), (104, .blk g4 140 [I64 (0 : Int), I64 (0 : Int), .slice none 0 0]), (121, .blk g21 140 [I64 u0, I64 v1, .slice A48 n49 c50]), (131, .own 5 (Lay.sz (BitVec 8)) A48 n49 c50 (cel x51))]) (fun q69 ⟨x67, x68⟩ => m_r03_Mul_l7 u1 u2 v1 v2 x36 x51 x52 (m_r03_Mul_l4 u1 u2 v1 v2 x36 (m_r03_Mul_l2 u0 u1 u2 v1 v2 q37) q53) q69 x67 x68 = some res) ⟨0#8, (0 : Int)⟩ ?_ (by simp [m_r03_Mul_l7]) ?_
       ·exact h
       rintro q69 ⟨x67, x68⟩ h _ k70
       unfold m_r03_Mul_l7 at h
       refine sq fun _ k71 => sr fun _ k72 => mv rfl <| ya (fieldAddr Tryz.underlying140 rfl nz_3 rfl rfl) <| ya (loadB (k := 102) scal_3 rfl rfl rfl) <| ya (lss rfl rfl) <| dz k72 <| cI h rfl (fun hc73 h => ?_) fun hc73 h => ?_
       ·refine ss <| k71 _ _ <| sq fun _ k74 => bl <| rd [(0, _), (102, _), (103, _), (104, _), (121, _), (131, _)] mixed fun _ k75 => ?_
        obtain ⟨x76, hx76, h⟩ := bnd h
        obtain ⟨x77, hx77, h⟩ := bnd h
        obtain ⟨x78, hx78, h⟩ := bnd h
        obtain ⟨x79, hx79, h⟩ := bnd h
        obtain ⟨x80, hx80, h⟩ := bnd h
        obtain ⟨x81, hx81, h⟩ := bnd h
        obtain ⟨x82, hx82, h⟩ := bnd h
        refine dm 0 rfl rfl <| du 1 rfl (fieldAddr Tryz.underlying140 rfl nz_22 rfl rfl) <| du 2 rfl (loadB (k := 102) scal_22 rfl rfl rfl) <| dm 3 rfl rfl <| du 4 rfl (fieldAddr Tryz.underlying140 rfl nz_3 rfl rfl) <| du 5 rfl (loadB (k := 102) scal_3 rfl rfl rfl) <| du 6 rfl (mulC rfl rfl hx76) <| dm 7 rfl rfl <| du 8 rfl (addC rfl rfl hx77) <| du 9 rfl (idxC (xs := u2) sty_22 rfl rfl (mM rfl hf00_2) hx78) <| du 10 rfl (loadC0 (xs := u2) scal_5 rfl (mM rfl hf00_2) hx78 rfl) <| du 11 rfl (fieldAddr Tryz.underlying140 rfl nz_22 rfl rfl) <| du 12 rfl (loadB (k := 103) scal_22 rfl rfl rfl) <| dm 13 rfl rfl <| du 14 rfl (fieldAddr Tryz.underlying140 rfl nz_3 rfl rfl) <| du 15 rfl (loadB (k := 103) scal_3 rfl rfl rfl) <| du 16 rfl (mulC rfl rfl hx79) <| dm 17 rfl rfl <| du 18 rfl (addC rfl rfl hx80) <| du 19 rfl (idxC (xs := v2) sty_22 rfl rfl (mM rfl hf01_2) hx81) <| du 20 rfl (loadC0 (xs := v2) scal_5 rfl (mM rfl hf01_2) hx81 rfl) <| on 21 <| d0 rfl Tryz.func144 rfl (fun w hb hh => w_r02_Mul (Mem.snap w) x78 x81 hx82) <| du 22 rfl (xor_u8 (a := x67) (b := x82) rfl rfl) <| du 23 rfl (Yld.assign rfl) <| dd <| k75 _ _ <| bn <| tn <| k74 _ _ <| rg fun _ k84 => bd h fun x85 hx85 h => mv rfl <| ya (addC rfl rfl hx85) <| ak rfl k84 <| tn <| kw (k70 ⟨x67 ^^^ x82, x85⟩ h)
       exact xi <| te <| te <| bx <| tn <| kw (k65 x67 h)
      rintro x64 h
      unfold m_r03_Mul_j6 at h
      refine rg fun _ k86 => bd h fun x88 hx88 h => ya (fieldAddr Tryz.underlying140 rfl nz_22 rfl rfl) <| ya (loadB (k := 121) scal_22 rfl rfl rfl) <| mv rfl <| WL.eff (by decide) (Eff.buildC 187 ([x64] : By) sty_22 rfl rfl rfl rfl rfl (by decide)) ?_
      rintro _ _ ⟨g87, rfl, rfl⟩
      exact ap 131 (xs := x51) (ys := ([x64] : By)) sty_22 rfl rfl rfl (rO 187 rfl) hx88 fun A89 c90 => ya (fieldAddr Tryz.underlying140 rfl nz_22 rfl rfl) <| WL.eff0 (Eff0.storeB 121 siz_22 rfl rfl rfl rfl (nle rfl)) <| dz k86 <| bn <| tn <| kw (k62 ⟨A89, x88.length, c90, x88⟩ h)
     rintro ⟨A58, n59, c60, x61⟩ h
     unfold m_r03_Mul_j5 at h
     refine rg fun _ k91 => bd h fun x92 hx92 h => mv rfl <| ya (addC rfl rfl hx92) <| ak rfl k91 <| tn <| kw (k54 ⟨A58, n59, c60, x61, x92⟩ h)
    exact xi <| te <| te <| bx <| bn <| tn <| kw (k46 ⟨A48, n49, c50, x51⟩ h)
   rintro ⟨A42, n43, c44, x45⟩ h
   unfold m_r03_Mul_j3 at h
   refine rg fun _ k93 => bd h fun x94 hx94 h => mv rfl <| ya (addC rfl rfl hx94) <| ak rfl k93 <| tn <| kw (k38 ⟨A42, n43, c44, x45, x94⟩ h)
  exact xi <| te <| te <| bx <| tn <| KK.move 131 123 rfl rfl <| kw (k28 ⟨A32, n33, c34, x35⟩ h)
 rintro ⟨A24, n25, c26, x27⟩ h
 unfold m_r03_Mul_j1 at h
 refine sr fun _ k95 => ya (loadBM (k := 121) agg_140 rfl rfl rfl) <| sb 104 agg_140 rfl rfl rfl <| ak rfl k95 <| re ?_
 obtain rfl := si h
 exact rt [123] (ResIs.cellTmpM (k := 104) rfl agg_140 rfl rfl rfl rfl) (Ext.refl _ _) ⟨A24, n25, c26, rfl, rfl⟩
theorem w_r03_Pick (M0 : Mem) (u0 u1 : Int) (A00_2 : Option Addr) (n00_2 c00_2 : Nat) (u2 : By) (hf00_2 : SlT M0 A00_2 n00_2 c00_2 u2) (A01 : Option Addr) (n01 c01 : Nat) (x01 : List Int) (hf01 : SlT M0 A01 n01 c01 x01) {res : Int × Int × By × Int} (h : m_r03_Pick u0 u1 u2 x01 = some res) :
  Fn Tryz.prog 88 #[.agg ([I64 u0, I64 u1, .slice A00_2 n00_2 c00_2] : List Value).toArray, .slice A01 n01 c01] M0 fun r M' es => ∃ (A1 : Option Addr) (n1 c1 : Nat), r = .tuple #[.agg ([I64 res.1, I64 res.2.1, .slice A1 n1 c1] : List Value).toArray, I64 res.2.2.2] /\ es = [.own 5 (Lay.sz (BitVec 8)) A1 n1 c1 (cel res.2.2.1)] := by
 refine Fn.intro (N := 69) Tryz.func88 rfl rfl (nle rfl) fun w0 => ?_
 unfold m_r03_Pick at h
 refine sr fun _ k1 => bb 102 [I64 u0, I64 u1, .slice A00_2 n00_2 c00_2] rfl fun g2 => al 103 zr_140 fun g3 => ak rfl k1 <| ct (σ := Unit) (fun _ => [(1, .slice A01 n01 c01), (2, pv g2), (4, pv g3)]) (fun _ => [(0, .mem M0), (102, .blk g2 140 [I64 u0, I64 u1, .slice A00_2 n00_2 c00_2]), (103, .blk g3 140 [I64 (0 : Int), I64 (0 : Int), .slice none 0 0])]) (fun _ => m_r03_Pick_j0 u0 u1 u2 x01 = some res) (fun _ k4 => ?_) ?_
 ·refine sr fun _ k5 => bd h fun x6 hx6 h => ya (loadBM (k := 102) agg_140 rfl rfl rfl) <| c0 Tryz.func115 rfl (fun w hb hh => w_r03_Valid (Mem.snap w) u0 u1 A00_2 n00_2 c00_2 _ (sM rfl hf00_2 w hb hh) hx6) <| ya (notB rfl) <| mv rfl <| spn h not_f (fun q => not_t (Bool.eq_false_iff.2 q)) (fun hc8 h => ?_) fun hc8 h => ?_
  ·obtain ⟨x9, hx9, h⟩ := bnd h
   refine mvg rfl <| yg (lenC (xs := x01) und_45 rfl (mM rfl hf01)) <| yg (fieldAddr Tryz.underlying140 rfl nz_3 rfl rfl) <| yg (loadB (k := 102) scal_3 rfl rfl rfl) <| c0g Tryz.func116 rfl (fun w hb hh => w_r03_size (Mem.snap w) (x01.length : Int) u1 hx9) <| yg (notB rfl) <| pf rfl rfl <| dz k5 <| cnn h rfl not_f (fun q => not_t (Bool.eq_false_iff.2 q)) (fun hc11 h => ?_) fun hc11 h => ?_
   ·exact WC.skip <| tn <| kw (k4 () h)
   refine sr fun _ k12 => ya (build rfl (bu_140_)) <| sb 103 agg_140 rfl rfl rfl <| ak rfl k12 <| re <| tr <| QK.nilOwn 113 5 (Lay.sz (BitVec 8)) none ?_
   obtain rfl := si h
   exact rt [113] (ResIs.cellTmpM (k := 103) rfl agg_140 rfl rfl rfl rfl) (Ext.refl _ _) ⟨none, 0, 0, rfl, rfl⟩
  refine sk <| sk <| sk <| sk <| sk <| sk <| pt rfl rfl <| dz k5 <| cdT rfl <| sr fun _ k14 => ya (build rfl (bu_140_)) <| sb 103 agg_140 rfl rfl rfl <| ak rfl k14 <| re <| tr <| QK.nilOwn 115 5 (Lay.sz (BitVec 8)) none ?_
  obtain rfl := si h
  exact rt [115] (ResIs.cellTmpM (k := 103) rfl agg_140 rfl rfl rfl rfl) (Ext.refl _ _) ⟨none, 0, 0, rfl, rfl⟩
 rintro _ h
 unfold m_r03_Pick_j0 at h
 refine sr fun _ k16 => mv rfl <| ya (lenC (xs := x01) und_45 rfl (mM rfl hf01)) <| ya (fieldAddr Tryz.underlying140 rfl nz_3 rfl rfl) <| ya (loadB (k := 102) scal_3 rfl rfl rfl) <| ya (build rfl (bu_140_0_1 (x01.length : Int) u1)) <| al 117 zr_140 fun g17 => sb 117 agg_140 rfl rfl rfl <| dz k16 <| ct (σ := (Option Addr) × Nat × Nat × By) (fun ⟨A20, n21, c22, x23⟩ => [(4, pv g3), (6, pv g17)]) (fun ⟨A20, n21, c22, x23⟩ => [(0, .mem M0), (103, .blk g3 140 [I64 (0 : Int), I64 (0 : Int), .slice none 0 0]), (117, .blk g17 140 [I64 (x01.length : Int), I64 u1, .slice A20 n21 c22]), (119, .own 5 (Lay.sz (BitVec 8)) A20 n21 c22 (cel x23))]) (fun ⟨A20, n21, c22, x23⟩ => m_r03_Pick_j1 u1 x01 x23 = some res) (fun _ k24 => ?_) ?_
 ·refine sr fun _ k25 => ak rfl k25 <| bl <| WC.nilOwn 127 5 (Lay.sz (BitVec 8)) none <| lp (τ := (Option Addr) × Nat × Nat × By × Int) (fun ⟨A28, n29, c30, x31, x32⟩ => [(1, .slice A01 n01 c01), (2, pv g2), (4, pv g3), (6, pv g17), (7, I64 x32)]) (fun ⟨A28, n29, c30, x31, x32⟩ => [(0, .mem M0), (102, .blk g2 140 [I64 u0, I64 u1, .slice A00_2 n00_2 c00_2]), (103, .blk g3 140 [I64 (0 : Int), I64 (0 : Int), .slice none 0 0]), (117, .blk g17 140 [I64 (x01.length : Int), I64 u1, .slice A28 n29 c30]), (127, .own 5 (Lay.sz (BitVec 8)) A28 n29 c30 (cel x31))]) (fun q33 ⟨A28, n29, c30, x31, x32⟩ => m_r03_Pick_l2 u0 u1 u2 x01 q33 x31 x32 = some res) ⟨none, 0, 0, ([] : By), (0 : Int)⟩ ?_ (by simp [m_r03_Pick_l2]) ?_
  ·exact h
  rintro q33 ⟨A28, n29, c30, x31, x32⟩ h _ k34
  unfold m_r03_Pick_l2 at h
  refine sq fun _ k35 => sr fun _ k36 => mv rfl <| mv rfl <| ya (lenC (xs := x01) und_45 rfl (mM rfl hf01)) <| ya (lss rfl rfl) <| dz k36 <| cI h rfl (fun hc37 h => ?_) fun hc37 h => ?_
  ·refine ss <| k35 _ _ <| sq fun _ k38 => bl <| ct (σ := Unit) (fun _ => [(1, .slice A01 n01 c01), (2, pv g2), (4, pv g3), (6, pv g17), (7, I64 x32)]) (fun _ => [(0, .mem M0), (102, .blk g2 140 [I64 u0, I64 u1, .slice A00_2 n00_2 c00_2]), (103, .blk g3 140 [I64 (0 : Int), I64 (0 : Int), .slice none 0 0]), (117, .blk g17 140 [I64 (x01.length : Int), I64 u1, .slice A28 n29 c30]), (127, .own 5 (Lay.sz (BitVec 8)) A28 n29 c30 (cel x31))]) (fun _ => m_r03_Pick_j3 u1 u2 x01 x31 x32 (m_r03_Pick_l2 u0 u1 u2 x01 q33) = some res) (fun _ k39 => ?_) ?_
   ·refine sd [(0, _), (102, _), (103, _), (117, _), (127, _)] mixed fun _ k40 => ?_
    obtain ⟨x41, hx41, h⟩ := bnd h
    by_cases hc42 : x41 < (0 : Int)
    ·replace h := of_t hc42 h
     refine dm 0 rfl rfl <| dm 1 rfl rfl <| du 2 rfl (idxC (xs := x01) sty_45 rfl rfl (mM rfl hf01) hx41) <| du 3 rfl (loadC0 (xs := x01) scal_3 rfl (mM rfl hf01) hx41 rfl) <| du 4 rfl (lss rfl rfl) <| dm 5 rfl rfl <| WD.new (v' := .bool true) (congrArg Value.bool (decide_eq_true hc42)) <| dw 6 rfl <| dw 7 rfl <| dw 8 rfl <| dw 9 rfl <| dw 10 rfl <| dw 11 rfl <| dw 12 rfl <| du 13 rfl (pickT rfl rfl) <| dd <| k40 _ _ <| cdT rfl <| sr fun _ k43 => ya (build rfl (bu_140_)) <| sb 103 agg_140 rfl rfl rfl <| ak rfl k43 <| re <| tr <| br <| tr <| tr <| br <| tr <| QK.nilOwn 144 5 (Lay.sz (BitVec 8)) none ?_
     obtain rfl := si h
     exact rt [144] (ResIs.cellTmpM (k := 103) rfl agg_140 rfl rfl rfl rfl) (Ext.refl _ _) ⟨none, 0, 0, rfl, rfl⟩
    replace h := of_f hc42 h
    obtain ⟨x45, hx45, h⟩ := bnd h
    refine dm 0 rfl rfl <| dm 1 rfl rfl <| du 2 rfl (idxC (xs := x01) sty_45 rfl rfl (mM rfl hf01) hx41) <| du 3 rfl (loadC0 (xs := x01) scal_3 rfl (mM rfl hf01) hx41 rfl) <| du 4 rfl (lss rfl rfl) <| dm 5 rfl rfl <| WD.new (v' := .bool false) (congrArg Value.bool (decide_eq_false hc42)) <| dv 6 rfl (Yld.move rfl) <| dv 7 rfl (Yld.move rfl) <| dv 8 rfl (idxC (xs := x01) sty_45 rfl rfl (mM rfl hf01) hx45) <| dv 9 rfl (loadC0 (xs := x01) scal_3 rfl (mM rfl hf01) hx45 rfl) <| dv 10 rfl (fieldAddr Tryz.underlying140 rfl nz_3 rfl rfl) <| dv 11 rfl (loadB (k := 102) scal_3 rfl rfl rfl) <| dv 12 rfl (geq rfl rfl) <| du 13 rfl (pickF rfl rfl) <| dd <| k40 _ _ <| cI h rfl (fun hc46 h => ?_) fun hc46 h => ?_
    ·refine sr fun _ k47 => ya (build rfl (bu_140_)) <| sb 103 agg_140 rfl rfl rfl <| ak rfl k47 <| re <| tr <| br <| tr <| tr <| br <| tr <| QK.nilOwn 148 5 (Lay.sz (BitVec 8)) none ?_
     obtain rfl := si h
     exact rt [148] (ResIs.cellTmpM (k := 103) rfl agg_140 rfl rfl rfl rfl) (Ext.refl _ _) ⟨none, 0, 0, rfl, rfl⟩
    exact WC.skip <| tn <| kw (k39 () h)
   rintro _ h
   unfold m_r03_Pick_j3 at h
   refine rd [(0, _), (102, _), (103, _)] mixed fun _ k49 => ?_
   obtain ⟨x50, hx50, h⟩ := bnd h
   obtain ⟨x51, hx51, h⟩ := bnd h
   obtain ⟨x52, hx52, h⟩ := bnd h
   obtain ⟨x53, hx53, h⟩ := bnd h
   obtain ⟨x54, hx54, h⟩ := bnd h
   obtain ⟨x55, hx55, h⟩ := bnd h
   obtain ⟨x56, hx56, h⟩ := bnd h
   refine du 0 rfl (fieldAddr Tryz.underlying140 rfl nz_22 rfl rfl) <| du 2 rfl (fieldAddr Tryz.underlying140 rfl nz_22 rfl rfl) <| du 3 rfl (loadB (k := 102) scal_22 rfl rfl rfl) <| dm 4 rfl rfl <| dm 5 rfl rfl <| du 6 rfl (idxC (xs := x01) sty_45 rfl rfl (mM rfl hf01) hx50) <| du 7 rfl (loadC0 (xs := x01) scal_3 rfl (mM rfl hf01) hx50 rfl) <| du 8 rfl (fieldAddr Tryz.underlying140 rfl nz_3 rfl rfl) <| du 9 rfl (loadB (k := 102) scal_3 rfl rfl rfl) <| du 10 rfl (mulC rfl rfl hx51) <| dm 11 rfl rfl <| dm 12 rfl rfl <| du 13 rfl (idxC (xs := x01) sty_45 rfl rfl (mM rfl hf01) hx52) <| du 14 rfl (loadC0 (xs := x01) scal_3 rfl (mM rfl hf01) hx52 rfl) <| du 15 rfl (addC rfl rfl hx53) <| du 16 rfl (fieldAddr Tryz.underlying140 rfl nz_3 rfl rfl) <| du 17 rfl (loadB (k := 102) scal_3 rfl rfl rfl) <| du 18 rfl (mulC rfl rfl hx54) <| du 19 rfl (sliceLHC (xs := u2) sty_22 rfl rfl rfl (mM rfl hf00_2) hx55) <| on 1 <| dy rfl (loadB (k := 117) scal_22 rfl rfl rfl) <| on 20 <| WS.eff rfl (by decide) (Eff.appendC 127 (xs := x31) (ys := x55) sty_22 rfl rfl rfl (RdT.slc (mM rfl hf00_2) hx55) hx56) ?_
   rintro _ _ ⟨A57, c58, rfl, rfl⟩
   refine aq ?_
   refine du 21 rfl (fieldAddr Tryz.underlying140 rfl nz_22 rfl rfl) <| on 22 <| WS.eff0 rfl (Eff0.storeB 117 siz_22 rfl rfl rfl rfl (nle rfl)) (sc (sc (sc sn))) <| dd <| k49 _ _ <| bn <| tn <| k38 _ _ <| rg fun _ k59 => bd h fun x60 hx60 h => mv rfl <| ya (addC rfl rfl hx60) <| ak rfl k59 <| tn <| kw (k34 ⟨A57, x56.length, c58, x56, x60⟩ h)
  exact xi <| te <| te <| bx <| tn <| KK.move 127 119 rfl rfl <| kw (k24 ⟨A28, n29, c30, x31⟩ h)
 rintro ⟨A20, n21, c22, x23⟩ h
 unfold m_r03_Pick_j1 at h
 refine sr fun _ k61 => ya (loadBM (k := 117) agg_140 rfl rfl rfl) <| sb 103 agg_140 rfl rfl rfl <| ak rfl k61 <| re ?_
 obtain rfl := si h
 exact rt [119] (ResIs.cellTmpM (k := 103) rfl agg_140 rfl rfl rfl rfl) (Ext.refl _ _) ⟨A20, n21, c22, rfl, rfl⟩
theorem w_r03_add (A : Option Addr) (n c : Nat) (x0c : By) (x01 x02 x03 : Int) (x04 : BitVec 8) {res : By} (h : m_r03_add x0c x01 x02 x03 x04 = some res) :
  Mut Tryz.prog 120 #[.slice A n c, I64 x01, I64 x02, I64 x03, U8 x04] 5 (Lay.sz (BitVec 8)) A n c (cel x0c) fun r ds => r = .tuple #[] /\ ds = cel res := by
 refine Mut.intro (N := 36) Tryz.func120 rfl rfl (nle rfl) fun w0 e0 => ?_
 unfold m_r03_add at h
 refine sr fun _ k1 => ak rfl k1 <| bl <| lp (τ := By × Int × Int × (BitVec 8) × Int) (fun ⟨x2, x3, x4, x5, x6⟩ => [(0, .slice A n c), (1, I64 x01), (2, I64 x3), (3, I64 x4), (4, U8 x5), (10, I64 x6)]) (fun ⟨x2, x3, x4, x5, x6⟩ => [(1, e0), (2, .own 5 (Lay.sz (BitVec 8)) A n c (cel x2))]) (fun q7 ⟨x2, x3, x4, x5, x6⟩ => m_r03_add_l0 x01 q7 x2 x3 x4 x5 x6 = some res) ⟨x0c, x02, x03, x04, (0 : Int)⟩ ?_ (by simp [m_r03_add_l0]) ?_
 ·exact h
 rintro q7 ⟨x2, x3, x4, x5, x6⟩ h _ k8
 unfold m_r03_add_l0 at h
 refine sq fun _ k9 => sr fun _ k10 => mv rfl <| mv rfl <| ya (lss rfl rfl) <| dz k10 <| cI h rfl (fun hc11 h => ?_) fun hc11 h => ?_
 ·refine ss <| k9 _ _ <| sq fun _ k12 => bl <| rd [(1, _)] mixed fun _ k13 => ?_
  obtain ⟨x14, hx14, h⟩ := bnd h
  obtain ⟨x15, hx15, h⟩ := bnd h
  obtain ⟨x16, hx16, h⟩ := bnd h
  obtain ⟨x17, hx17, h⟩ := bnd h
  obtain ⟨x18, hx18, h⟩ := bnd h
  obtain ⟨x19, hx19, h⟩ := bnd h
  obtain ⟨x20, hx20, h⟩ := bnd h
  obtain ⟨x22, hx22, h⟩ := bnd h
  obtain ⟨x23, hx23, h⟩ := bnd h
  refine dm 0 rfl rfl <| dm 1 rfl rfl <| dm 2 rfl rfl <| du 3 rfl (mulC rfl rfl hx14) <| dm 4 rfl rfl <| du 5 rfl (addC rfl rfl hx15) <| dm 8 rfl rfl <| dm 9 rfl rfl <| dm 10 rfl rfl <| dm 11 rfl rfl <| du 12 rfl (mulC rfl rfl hx17) <| dm 13 rfl rfl <| du 14 rfl (addC rfl rfl hx18) <| WD.two 6 15 (by kernel_rfl) ?_ ?_
  ·refine dy rfl (idxC (xs := x2) sty_22 rfl rfl (rO 2 rfl) hx16) <| WD.two 7 15 (by kernel_rfl) ?_ ?_
   ·refine dy rfl (loadC0 (xs := x2) scal_5 rfl (rO 2 rfl) hx16 rfl) <| on 15 <| dy rfl (idxC (xs := x2) sty_22 rfl rfl (rO 2 rfl) hx19) <| on 16 <| dy rfl (loadC0 (xs := x2) scal_5 rfl (rO 2 rfl) hx19 rfl) <| on 17 <| d0 rfl Tryz.func144 rfl (fun w hb hh => w_r02_Mul (Mem.snap w) x5 x19 hx20) <| du 18 rfl (xor_u8 (a := x16) (b := x20) rfl rfl) <| on 19 <| dy rfl (idxC (xs := x2) sty_22 rfl rfl (rO 2 rfl) hx22) <| on 20 <| WS.eff0 rfl (Eff0.storeC1 2 (xs := x2) (a' := x16 ^^^ x20) siz_5 rfl rfl rfl rfl rfl rfl hx23) (sc sn) <| dd <| k13 _ _ <| bn <| tn <| k12 _ _ <| rg fun _ k24 => bd h fun x25 hx25 h => mv rfl <| ya (addC rfl rfl hx25) <| ak rfl k24 <| tn <| kw (k8 ⟨x23, x3, x4, x5, x25⟩ h)
   skip
   refine dy rfl (idxC (xs := x2) sty_22 rfl rfl (rO 2 rfl) hx19) <| WD.two 7 16 (by kernel_rfl) ?_ ?_
   ·refine dy rfl (loadC0 (xs := x2) scal_5 rfl (rO 2 rfl) hx16 rfl) <| on 16 <| dy rfl (loadC0 (xs := x2) scal_5 rfl (rO 2 rfl) hx19 rfl) <| on 17 <| d0 rfl Tryz.func144 rfl (fun w hb hh => w_r02_Mul (Mem.snap w) x5 x19 hx20) <| du 18 rfl (xor_u8 (a := x16) (b := x20) rfl rfl) <| on 19 <| dy rfl (idxC (xs := x2) sty_22 rfl rfl (rO 2 rfl) hx22) <| on 20 <| WS.eff0 rfl (Eff0.storeC1 2 (xs := x2) (a' := x16 ^^^ x20) siz_5 rfl rfl rfl rfl rfl rfl hx23) (sc sn) <| dd <| k13 _ _ <| bn <| tn <| k12 _ _ <| rg fun _ k26 => bd h fun x27 hx27 h => mv rfl <| ya (addC rfl rfl hx27) <| ak rfl k26 <| tn <| kw (k8 ⟨x23, x3, x4, x5, x27⟩ h)
   skip
   refine dy rfl (loadC0 (xs := x2) scal_5 rfl (rO 2 rfl) hx19 rfl) <| WD.two 7 17 (by kernel_rfl) ?_ ?_
   ·refine dy rfl (loadC0 (xs := x2) scal_5 rfl (rO 2 rfl) hx16 rfl) <| on 17 <| d0 rfl Tryz.func144 rfl (fun w hb hh => w_r02_Mul (Mem.snap w) x5 x19 hx20) <| du 18 rfl (xor_u8 (a := x16) (b := x20) rfl rfl) <| on 19 <| dy rfl (idxC (xs := x2) sty_22 rfl rfl (rO 2 rfl) hx22) <| on 20 <| WS.eff0 rfl (Eff0.storeC1 2 (xs := x2) (a' := x16 ^^^ x20) siz_5 rfl rfl rfl rfl rfl rfl hx23) (sc sn) <| dd <| k13 _ _ <| bn <| tn <| k12 _ _ <| rg fun _ k28 => bd h fun x29 hx29 h => mv rfl <| ya (addC rfl rfl hx29) <| ak rfl k28 <| tn <| kw (k8 ⟨x23, x3, x4, x5, x29⟩ h)
   skip
   refine d0 rfl Tryz.func144 rfl (fun w hb hh => w_r02_Mul (Mem.snap w) x5 x19 hx20) <| on 7 <| dy rfl (loadC0 (xs := x2) scal_5 rfl (rO 2 rfl) hx16 rfl) <| du 18 rfl (xor_u8 (a := x16) (b := x20) rfl rfl) <| on 19 <| dy rfl (idxC (xs := x2) sty_22 rfl rfl (rO 2 rfl) hx22) <| on 20 <| WS.eff0 rfl (Eff0.storeC1 2 (xs := x2) (a' := x16 ^^^ x20) siz_5 rfl rfl rfl rfl rfl rfl hx23) (sc sn) <| dd <| k13 _ _ <| bn <| tn <| k12 _ _ <| rg fun _ k30 => bd h fun x31 hx31 h => mv rfl <| ya (addC rfl rfl hx31) <| ak rfl k30 <| tn <| kw (k8 ⟨x23, x3, x4, x5, x31⟩ h)
  skip
  refine dy rfl (idxC (xs := x2) sty_22 rfl rfl (rO 2 rfl) hx19) <| WD.two 6 16 (by kernel_rfl) ?_ ?_
  ·refine dy rfl (idxC (xs := x2) sty_22 rfl rfl (rO 2 rfl) hx16) <| WD.two 7 16 (by kernel_rfl) ?_ ?_
   ·refine dy rfl (loadC0 (xs := x2) scal_5 rfl (rO 2 rfl) hx16 rfl) <| on 16 <| dy rfl (loadC0 (xs := x2) scal_5 rfl (rO 2 rfl) hx19 rfl) <| on 17 <| d0 rfl Tryz.func144 rfl (fun w hb hh => w_r02_Mul (Mem.snap w) x5 x19 hx20) <| du 18 rfl (xor_u8 (a := x16) (b := x20) rfl rfl) <| on 19 <| dy rfl (idxC (xs := x2) sty_22 rfl rfl (rO 2 rfl) hx22) <| on 20 <| WS.eff0 rfl (Eff0.storeC1 2 (xs := x2) (a' := x16 ^^^ x20) siz_5 rfl rfl rfl rfl rfl rfl hx23) (sc sn) <| dd <| k13 _ _ <| bn <| tn <| k12 _ _ <| rg fun _ k32 => bd h fun x33 hx33 h => mv rfl <| ya (addC rfl rfl hx33) <| ak rfl k32 <| tn <| kw (k8 ⟨x23, x3, x4, x5, x33⟩ h)
   skip
   refine dy rfl (loadC0 (xs := x2) scal_5 rfl (rO 2 rfl) hx19 rfl) <| WD.two 7 17 (by kernel_rfl) ?_ ?_
   ·refine dy rfl (loadC0 (xs := x2) scal_5 rfl (rO 2 rfl) hx16 rfl) <| on 17 <| d0 rfl Tryz.func144 rfl (fun w hb hh => w_r02_Mul (Mem.snap w) x5 x19 hx20) <| du 18 rfl (xor_u8 (a := x16) (b := x20) rfl rfl) <| on 19 <| dy rfl (idxC (xs := x2) sty_22 rfl rfl (rO 2 rfl) hx22) <| on 20 <| WS.eff0 rfl (Eff0.storeC1 2 (xs := x2) (a' := x16 ^^^ x20) siz_5 rfl rfl rfl rfl rfl rfl hx23) (sc sn) <| dd <| k13 _ _ <| bn <| tn <| k12 _ _ <| rg fun _ k34 => bd h fun x35 hx35 h => mv rfl <| ya (addC rfl rfl hx35) <| ak rfl k34 <| tn <| kw (k8 ⟨x23, x3, x4, x5, x35⟩ h)
   skip
   refine d0 rfl Tryz.func144 rfl (fun w hb hh => w_r02_Mul (Mem.snap w) x5 x19 hx20) <| on 7 <| dy rfl (loadC0 (xs := x2) scal_5 rfl (rO 2 rfl) hx16 rfl) <| du 18 rfl (xor_u8 (a := x16) (b := x20) rfl rfl) <| on 19 <| dy rfl (idxC (xs := x2) sty_22 rfl rfl (rO 2 rfl) hx22) <| on 20 <| WS.eff0 rfl (Eff0.storeC1 2 (xs := x2) (a' := x16 ^^^ x20) siz_5 rfl rfl rfl rfl rfl rfl hx23) (sc sn) <| dd <| k13 _ _ <| bn <| tn <| k12 _ _ <| rg fun _ k36 => bd h fun x37 hx37 h => mv rfl <| ya (addC rfl rfl hx37) <| ak rfl k36 <| tn <| kw (k8 ⟨x23, x3, x4, x5, x37⟩ h)
  skip
  refine dy rfl (loadC0 (xs := x2) scal_5 rfl (rO 2 rfl) hx19 rfl) <| WD.two 6 17 (by kernel_rfl) ?_ ?_
  ·refine dy rfl (idxC (xs := x2) sty_22 rfl rfl (rO 2 rfl) hx16) <| WD.two 7 17 (by kernel_rfl) ?_ ?_
   ·refine dy rfl (loadC0 (xs := x2) scal_5 rfl (rO 2 rfl) hx16 rfl) <| on 17 <| d0 rfl Tryz.func144 rfl (fun w hb hh => w_r02_Mul (Mem.snap w) x5 x19 hx20) <| du 18 rfl (xor_u8 (a := x16) (b := x20) rfl rfl) <| on 19 <| dy rfl (idxC (xs := x2) sty_22 rfl rfl (rO 2 rfl) hx22) <| on 20 <| WS.eff0 rfl (Eff0.storeC1 2 (xs := x2) (a' := x16 ^^^ x20) siz_5 rfl rfl rfl rfl rfl rfl hx23) (sc sn) <| dd <| k13 _ _ <| bn <| tn <| k12 _ _ <| rg fun _ k38 => bd h fun x39 hx39 h => mv rfl <| ya (addC rfl rfl hx39) <| ak rfl k38 <| tn <| kw (k8 ⟨x23, x3, x4, x5, x39⟩ h)
   skip
   refine d0 rfl Tryz.func144 rfl (fun w hb hh => w_r02_Mul (Mem.snap w) x5 x19 hx20) <| on 7 <| dy rfl (loadC0 (xs := x2) scal_5 rfl (rO 2 rfl) hx16 rfl) <| du 18 rfl (xor_u8 (a := x16) (b := x20) rfl rfl) <| on 19 <| dy rfl (idxC (xs := x2) sty_22 rfl rfl (rO 2 rfl) hx22) <| on 20 <| WS.eff0 rfl (Eff0.storeC1 2 (xs := x2) (a' := x16 ^^^ x20) siz_5 rfl rfl rfl rfl rfl rfl hx23) (sc sn) <| dd <| k13 _ _ <| bn <| tn <| k12 _ _ <| rg fun _ k40 => bd h fun x41 hx41 h => mv rfl <| ya (addC rfl rfl hx41) <| ak rfl k40 <| tn <| kw (k8 ⟨x23, x3, x4, x5, x41⟩ h)
  skip
  refine d0 rfl Tryz.func144 rfl (fun w hb hh => w_r02_Mul (Mem.snap w) x5 x19 hx20) <| on 6 <| dy rfl (idxC (xs := x2) sty_22 rfl rfl (rO 2 rfl) hx16) <| on 7 <| dy rfl (loadC0 (xs := x2) scal_5 rfl (rO 2 rfl) hx16 rfl) <| du 18 rfl (xor_u8 (a := x16) (b := x20) rfl rfl) <| on 19 <| dy rfl (idxC (xs := x2) sty_22 rfl rfl (rO 2 rfl) hx22) <| on 20 <| WS.eff0 rfl (Eff0.storeC1 2 (xs := x2) (a' := x16 ^^^ x20) siz_5 rfl rfl rfl rfl rfl rfl hx23) (sc sn) <| dd <| k13 _ _ <| bn <| tn <| k12 _ _ <| rg fun _ k42 => bd h fun x43 hx43 h => mv rfl <| ya (addC rfl rfl hx43) <| ak rfl k42 <| tn <| kw (k8 ⟨x23, x3, x4, x5, x43⟩ h)
 refine xi <| te <| te <| bx ?_
 obtain rfl := si h
 exact Ret.mut (ResIs.zero rfl) (sc (sc sn)) ⟨rfl, rfl⟩
theorem w_r03_Invert (M0 : Mem) (u0 u1 : Int) (A00_2 : Option Addr) (n00_2 c00_2 : Nat) (u2 : By) (hf00_2 : SlT M0 A00_2 n00_2 c00_2 u2) {res : Int × Int × By × Int} (h : m_r03_Invert u0 u1 u2 = some res) :
  Fn Tryz.prog 90 #[.agg ([I64 u0, I64 u1, .slice A00_2 n00_2 c00_2] : List Value).toArray] M0 fun r M' es => ∃ (A1 : Option Addr) (n1 c1 : Nat), r = .tuple #[.agg ([I64 res.1, I64 res.2.1, .slice A1 n1 c1] : List Value).toArray, I64 res.2.2.2] /\ es = [.own 5 (Lay.sz (BitVec 8)) A1 n1 c1 (cel res.2.2.1)] := by
 refine Fn.intro (N := 144) Tryz.func90 rfl rfl (nle rfl) fun w0 => ?_
 unfold m_r03_Invert at h
 refine sr fun _ k1 => bb 102 [I64 u0, I64 u1, .slice A00_2 n00_2 c00_2] rfl fun g2 => al 103 zr_140 fun g3 => ak rfl k1 <| ct (σ := Unit) (fun _ => [(1, pv g2), (2, pv g3)]) (fun _ => [(0, .mem M0), (102, .blk g2 140 [I64 u0, I64 u1, .slice A00_2 n00_2 c00_2]), (103, .blk g3 140 [I64 (0 : Int), I64 (0 : Int), .slice none 0 0])]) (fun _ => m_r03_Invert_j0 u0 u2 = some res) (fun _ k4 => ?_) ?_
 ·refine sr fun _ k5 => bd h fun x6 hx6 h => ya (loadBM (k := 102) agg_140 rfl rfl rfl) <| c0 Tryz.func115 rfl (fun w hb hh => w_r03_Valid (Mem.snap w) u0 u1 A00_2 n00_2 c00_2 _ (sM rfl hf00_2 w hb hh) hx6) <| ya (notB rfl) <| mv rfl <| spn h not_f (fun q => not_t (Bool.eq_false_iff.2 q)) (fun hc8 h => ?_) fun hc8 h => ?_
  ·refine yg (fieldAddr Tryz.underlying140 rfl nz_3 rfl rfl) <| yg (loadB (k := 102) scal_3 rfl rfl rfl) <| yg (fieldAddr Tryz.underlying140 rfl nz_3 rfl rfl) <| yg (loadB (k := 102) scal_3 rfl rfl rfl) <| yg (neqI rfl rfl) <| pf rfl rfl <| dz k5 <| cnn h rfl bne_eq_false_iff_eq.2 bne_iff_ne.2 (fun hc9 h => ?_) fun hc9 h => ?_
   ·exact WC.skip <| tn <| kw (k4 () h)
   refine sr fun _ k10 => ya (build rfl (bu_140_)) <| sb 103 agg_140 rfl rfl rfl <| ak rfl k10 <| re <| tr <| QK.nilOwn 111 5 (Lay.sz (BitVec 8)) none ?_
   obtain rfl := si h
   exact rt [111] (ResIs.cellTmpM (k := 103) rfl agg_140 rfl rfl rfl rfl) (Ext.refl _ _) ⟨none, 0, 0, rfl, rfl⟩
  refine sk <| sk <| sk <| sk <| sk <| pt rfl rfl <| dz k5 <| cdT rfl <| sr fun _ k12 => ya (build rfl (bu_140_)) <| sb 103 agg_140 rfl rfl rfl <| ak rfl k12 <| re <| tr <| QK.nilOwn 113 5 (Lay.sz (BitVec 8)) none ?_
  obtain rfl := si h
  exact rt [113] (ResIs.cellTmpM (k := 103) rfl agg_140 rfl rfl rfl rfl) (Ext.refl _ _) ⟨none, 0, 0, rfl, rfl⟩
 rintro _ h
 unfold m_r03_Invert_j0 at h
 refine sr fun _ k14 => ya (fieldAddr Tryz.underlying140 rfl nz_3 rfl rfl) <| ya (loadB (k := 102) scal_3 rfl rfl rfl) <| ak rfl k14 <| sr fun _ k15 => bd h fun x17 hx17 h => WL.eff (by decide) (Eff.buildC 116 ([] : By) sty_22 rfl rfl rfl rfl rfl (by decide)) ?_
 rintro _ _ ⟨g16, rfl, rfl⟩
 refine ya (fieldAddr Tryz.underlying140 rfl nz_22 rfl rfl) <| ya (loadB (k := 102) scal_22 rfl rfl rfl) <| ap 116 (xs := ([] : By)) (ys := u2) sty_22 rfl rfl rfl (mM rfl hf00_2) hx17 fun A18 c19 => ak rfl k15 <| sr fun _ k20 => bd h fun x21 hx21 h => mv rfl <| c1 125 Tryz.func119 rfl (fun w hb hh => w_r03_Identity (Mem.snap w) u0 hx21) fun A26 n27 c28 => mv rfl <| ya (extract rfl rfl) <| ya (extract rfl rfl) <| al 129 zr_140 fun g29 => sb 129 agg_140 rfl rfl rfl <| ak rfl k20 <| ct (σ := By) (fun x30 => [(2, pv g3), (6, pv g29)]) (fun x30 => [(0, .mem M0), (103, .blk g3 140 [I64 (0 : Int), I64 (0 : Int), .slice none 0 0]), (125, .own 5 (Lay.sz (BitVec 8)) A26 n27 c28 (cel x30)), (129, .blk g29 140 [I64 x21.1, I64 x21.2.1, .slice A26 n27 c28])]) (fun x30 => m_r03_Invert_j1 x21 x30 = some res) (fun _ k31 => ?_) ?_
 ·refine sr fun _ k32 => ak rfl k32 <| bl <| lp (τ := By × By × Int) (fun ⟨x33, x34, x35⟩ => [(2, pv g3), (4, I64 u0), (5, .slice A18 x17.length c19), (6, pv g29), (8, I64 x35)]) (fun ⟨x33, x34, x35⟩ => [(0, .mem M0), (103, .blk g3 140 [I64 (0 : Int), I64 (0 : Int), .slice none 0 0]), (116, .own 5 (Lay.sz (BitVec 8)) A18 x17.length c19 (cel x33)), (125, .own 5 (Lay.sz (BitVec 8)) A26 n27 c28 (cel x34)), (129, .blk g29 140 [I64 x21.1, I64 x21.2.1, .slice A26 n27 c28])]) (fun q36 ⟨x33, x34, x35⟩ => m_r03_Invert_l2 u0 x21 q36 x33 x34 x35 = some res) ⟨x17, x21.2.2.1, (0 : Int)⟩ ?_ (by simp [m_r03_Invert_l2]) ?_
  ·exact h
  rintro q36 ⟨x33, x34, x35⟩ h _ k37
  unfold m_r03_Invert_l2 at h
  refine sq fun _ k38 => sr fun _ k39 => mv rfl <| mv rfl <| ya (lss rfl rfl) <| dz k39 <| cI h rfl (fun hc40 h => ?_) fun hc40 h => ?_
  ·refine ss <| k38 _ _ <| ct (σ := By × By) (fun ⟨x41, x42⟩ => [(2, pv g3), (4, I64 u0), (5, .slice A18 x17.length c19), (6, pv g29), (8, I64 x35)]) (fun ⟨x41, x42⟩ => [(0, .mem M0), (103, .blk g3 140 [I64 (0 : Int), I64 (0 : Int), .slice none 0 0]), (116, .own 5 (Lay.sz (BitVec 8)) A18 x17.length c19 (cel x41)), (125, .own 5 (Lay.sz (BitVec 8)) A26 n27 c28 (cel x42)), (129, .blk g29 140 [I64 x21.1, I64 x21.2.1, .slice A26 n27 c28])]) (fun ⟨x41, x42⟩ => m_r03_Invert_j3 x35 (m_r03_Invert_l2 u0 x21 q36) x41 x42 = some res) (fun _ k43 => ?_) ?_
   ·refine bl <| ct (σ := By × By) (fun ⟨x44, x45⟩ => [(2, pv g3), (4, I64 u0), (5, .slice A18 x17.length c19), (6, pv g29), (8, I64 x35)]) (fun ⟨x44, x45⟩ => [(0, .mem M0), (103, .blk g3 140 [I64 (0 : Int), I64 (0 : Int), .slice none 0 0]), (116, .own 5 (Lay.sz (BitVec 8)) A18 x17.length c19 (cel x44)), (125, .own 5 (Lay.sz (BitVec 8)) A26 n27 c28 (cel x45)), (129, .blk g29 140 [I64 x21.1, I64 x21.2.1, .slice A26 n27 c28])]) (fun ⟨x44, x45⟩ => m_r03_Invert_j4 u0 x35 (m_r03_Invert_l2 u0 x21 q36) x44 x45 = some res) (fun _ k46 => ?_) ?_
    ·refine sr fun _ k47 => ?_
     obtain ⟨x48, hx48, h⟩ := bnd h
     obtain ⟨x49, hx49, h⟩ := bnd h
     obtain ⟨x50, hx50, h⟩ := bnd h
     refine mv rfl <| mv rfl <| mv rfl <| ya (mulC rfl rfl hx48) <| mv rfl <| ya (addC rfl rfl hx49) <| ya (idxC (xs := x33) sty_22 rfl rfl (rO 116 rfl) hx50) <| ya (loadC0 (xs := x33) scal_5 rfl (rO 116 rfl) hx50 rfl) <| ya (eql_u8 (a := x50) (b := 0#8) rfl rfl) <| dz k47 <| cnd h rfl beq_iff_eq.2 beq_eq_false_iff_ne.2 (fun hc51 h => ?_) fun hc51 h => ?_
     ·refine sr fun _ k52 => bd h fun x53 hx53 h => mv rfl <| ya (addC rfl rfl hx53) <| ak rfl k52 <| ct (σ := Int) (fun x54 => [(2, pv g3), (4, I64 u0), (5, .slice A18 x17.length c19), (6, pv g29), (8, I64 x35), (9, I64 x54)]) (fun x54 => [(0, .mem M0), (103, .blk g3 140 [I64 (0 : Int), I64 (0 : Int), .slice none 0 0]), (116, .own 5 (Lay.sz (BitVec 8)) A18 x17.length c19 (cel x33)), (125, .own 5 (Lay.sz (BitVec 8)) A26 n27 c28 (cel x34)), (129, .blk g29 140 [I64 x21.1, I64 x21.2.1, .slice A26 n27 c28])]) (fun x54 => m_r03_Invert_j5 u0 x33 x34 x35 (m_r03_Invert_l2 u0 x21 q36) x54 = some res) (fun _ k55 => ?_) ?_
      ·refine bl <| lp (τ := Int) (fun x56 => [(2, pv g3), (4, I64 u0), (5, .slice A18 x17.length c19), (6, pv g29), (8, I64 x35), (9, I64 x56)]) (fun x56 => [(0, .mem M0), (103, .blk g3 140 [I64 (0 : Int), I64 (0 : Int), .slice none 0 0]), (116, .own 5 (Lay.sz (BitVec 8)) A18 x17.length c19 (cel x33)), (125, .own 5 (Lay.sz (BitVec 8)) A26 n27 c28 (cel x34)), (129, .blk g29 140 [I64 x21.1, I64 x21.2.1, .slice A26 n27 c28])]) (fun q57 x56 => m_r03_Invert_l6 u0 x33 x34 x35 (m_r03_Invert_l2 u0 x21 q36) q57 x56 = some res) (x53) ?_ (by simp [m_r03_Invert_l6]) ?_
       ·exact h
       rintro q57 x56 h _ k58
       unfold m_r03_Invert_l6 at h
       refine sq fun _ k59 => sr fun _ k60 => mv rfl <| mv rfl <| ya (lss rfl rfl) <| mv rfl <| spl h decide_eq_true decide_eq_false (fun hc61 h => ?_) fun hc61 h => ?_
       ·obtain ⟨x62, hx62, h⟩ := bnd h
        obtain ⟨x63, hx63, h⟩ := bnd h
        obtain ⟨x64, hx64, h⟩ := bnd h
        refine mvg rfl <| mvg rfl <| mvg rfl <| yg (mulC rfl rfl hx62) <| mvg rfl <| yg (addC rfl rfl hx63) <| yg (idxC (xs := x33) sty_22 rfl rfl (rO 116 rfl) hx64) <| yg (loadC0 (xs := x33) scal_5 rfl (rO 116 rfl) hx64 rfl) <| yg (eql_u8 (a := x64) (b := 0#8) rfl rfl) <| pt rfl rfl <| dz k60 <| cnd h rfl beq_iff_eq.2 beq_eq_false_iff_ne.2 (fun hc65 h => ?_) fun hc65 h => ?_
        ·refine ss <| k59 _ _ <| bl <| rg fun _ k66 => bd h fun x67 hx67 h => mv rfl <| ya (addC rfl rfl hx67) <| ak rfl k66 <| bn <| tn <| kw (k58 (x67) h)
        exact xi <| te <| te <| bx <| tn <| kw (k55 x56 h)
       exact sk <| sk <| sk <| sk <| sk <| sk <| sk <| sk <| sk <| pf rfl rfl <| dz k60 <| cdF rfl <| xi <| te <| te <| bx <| tn <| kw (k55 x56 h)
      rintro x54 h
      unfold m_r03_Invert_j5 at h
      refine sq fun _ k68 => sr fun _ k69 => mv rfl <| mv rfl <| ya (eqlI rfl rfl) <| dz k69 <| cnd h rfl beq_iff_eq.2 beq_eq_false_iff_ne.2 (fun hc70 h => ?_) fun hc70 h => ?_
      ·refine sr fun _ k71 => ya (build rfl (bu_140_)) <| sb 103 agg_140 rfl rfl rfl <| ak rfl k71 <| re <| tr <| tr <| br <| tr <| tr <| br <| tr <| QK.nilOwn 172 5 (Lay.sz (BitVec 8)) none ?_
       obtain rfl := si h
       exact rt [172] (ResIs.cellTmpM (k := 103) rfl agg_140 rfl rfl rfl rfl) (Ext.refl _ _) ⟨none, 0, 0, rfl, rfl⟩
      refine ss <| k68 _ _ <| sr fun _ k73 => bd h fun x74 hx74 h => mv rfl <| mv rfl <| mv rfl <| mv rfl <| WL.eff (by decide) (Eff.callMut 116 rfl Tryz.func120 nm_120 rfl rfl rfl (w_r03_add A18 x17.length c19 x33 u0 x35 x54 1#8 hx74)) ?_
      rintro _ _ ⟨_, ⟨rfl, rfl⟩, rfl⟩
      refine dz k73 <| rg fun _ k75 => bd h fun x76 hx76 h => ya (fieldAddr Tryz.underlying140 rfl nz_22 rfl rfl) <| ya (loadB (k := 129) scal_22 rfl rfl rfl) <| mv rfl <| mv rfl <| mv rfl <| WL.eff (by decide) (Eff.callMut 125 rfl Tryz.func120 nm_120 rfl rfl rfl (w_r03_add A26 n27 c28 x34 u0 x35 x54 1#8 hx76)) ?_
      rintro _ _ ⟨_, ⟨rfl, rfl⟩, rfl⟩
      exact dz k75 <| tn <| kw (k46 ⟨x74, x76⟩ h)
     exact WC.skip <| tn <| kw (k46 ⟨x33, x34⟩ h)
    rintro ⟨x44, x45⟩ h
    unfold m_r03_Invert_j4 at h
    refine sr fun _ k77 => ?_
    obtain ⟨x78, hx78, h⟩ := bnd h
    obtain ⟨x79, hx79, h⟩ := bnd h
    obtain ⟨x80, hx80, h⟩ := bnd h
    obtain ⟨x81, hx81, h⟩ := bnd h
    refine mv rfl <| mv rfl <| mv rfl <| ya (mulC rfl rfl hx78) <| mv rfl <| ya (addC rfl rfl hx79) <| ya (idxC (xs := x44) sty_22 rfl rfl (rO 116 rfl) hx80) <| ya (loadC0 (xs := x44) scal_5 rfl (rO 116 rfl) hx80 rfl) <| c0 Tryz.func121 rfl (fun w hb hh => w_r02_Inv (Mem.snap w) x80 hx81) <| mv rfl <| ya (extract rfl rfl) <| ya (extract rfl rfl) <| asn rfl <| ak rfl k77 <| sr fun _ k83 => bd h fun x84 hx84 h => ya (fieldAddr Tryz.underlying140 rfl nz_22 rfl rfl) <| ya (loadB (k := 129) scal_22 rfl rfl rfl) <| mv rfl <| mv rfl <| mv rfl <| mv rfl <| ya (xor_u8 (a := x81.1) (b := 1#8) rfl rfl) <| WL.eff (by decide) (Eff.callMut 125 rfl Tryz.func120 nm_120 rfl rfl rfl (w_r03_add A26 n27 c28 x45 u0 x35 x35 (x81.1 ^^^ 1#8) hx84)) ?_
    rintro _ _ ⟨_, ⟨rfl, rfl⟩, rfl⟩
    refine dz k83 <| sr fun _ k85 => bd h fun x86 hx86 h => mv rfl <| mv rfl <| mv rfl <| mv rfl <| mv rfl <| ya (xor_u8 (a := x81.1) (b := 1#8) rfl rfl) <| WL.eff (by decide) (Eff.callMut 116 rfl Tryz.func120 nm_120 rfl rfl rfl (w_r03_add A18 x17.length c19 x44 u0 x35 x35 (x81.1 ^^^ 1#8) hx86)) ?_
    rintro _ _ ⟨_, ⟨rfl, rfl⟩, rfl⟩
    refine dz k85 <| sr fun _ k87 => ak rfl k87 <| bl <| lp (τ := By × By × Int) (fun ⟨x88, x89, x90⟩ => [(2, pv g3), (4, I64 u0), (5, .slice A18 x17.length c19), (6, pv g29), (8, I64 x35), (12, I64 x90)]) (fun ⟨x88, x89, x90⟩ => [(0, .mem M0), (103, .blk g3 140 [I64 (0 : Int), I64 (0 : Int), .slice none 0 0]), (116, .own 5 (Lay.sz (BitVec 8)) A18 x17.length c19 (cel x88)), (125, .own 5 (Lay.sz (BitVec 8)) A26 n27 c28 (cel x89)), (129, .blk g29 140 [I64 x21.1, I64 x21.2.1, .slice A26 n27 c28])]) (fun q91 ⟨x88, x89, x90⟩ => m_r03_Invert_l7 u0 x35 (m_r03_Invert_l2 u0 x21 q36) q91 x88 x89 x90 = some res) ⟨x86, x84, (0 : Int)⟩ ?_ (by simp [m_r03_Invert_l7]) ?_
    ·exact h
    rintro q91 ⟨x88, x89, x90⟩ h _ k92
    unfold m_r03_Invert_l7 at h
    refine sq fun _ k93 => sr fun _ k94 => mv rfl <| mv rfl <| ya (lss rfl rfl) <| dz k94 <| cI h rfl (fun hc95 h => ?_) fun hc95 h => ?_
    ·refine ss <| k93 _ _ <| sq fun _ k96 => bl <| sr fun _ k97 => ?_
     obtain ⟨x98, hx98, h⟩ := bnd h
     obtain ⟨x99, hx99, h⟩ := bnd h
     obtain ⟨x100, hx100, h⟩ := bnd h
     refine mv rfl <| mv rfl <| mv rfl <| ya (mulC rfl rfl hx98) <| mv rfl <| ya (addC rfl rfl hx99) <| ya (idxC (xs := x88) sty_22 rfl rfl (rO 116 rfl) hx100) <| ya (loadC0 (xs := x88) scal_5 rfl (rO 116 rfl) hx100 rfl) <| ak rfl k97 <| sr fun _ k101 => mv rfl <| mv rfl <| ya (neqI rfl rfl) <| mv rfl <| spn h bne_eq_false_iff_eq.2 bne_iff_ne.2 (fun hc102 h => ?_) fun hc102 h => ?_
     ·refine sk <| sk <| pf rfl rfl <| dz k101 <| cdF rfl <| WC.skip <| bn <| tn <| k96 _ _ <| rg fun _ k103 => bd h fun x104 hx104 h => mv rfl <| ya (addC rfl rfl hx104) <| ak rfl k103 <| tn <| kw (k92 ⟨x88, x89, x104⟩ h)
     refine mvg rfl <| yg (neq_u8 (a := x100) (b := 0#8) rfl rfl) <| pt rfl rfl <| dz k101 <| cnn h rfl bne_eq_false_iff_eq.2 bne_iff_ne.2 (fun hc105 h => ?_) fun hc105 h => ?_
     ·refine WC.skip <| bn <| tn <| k96 _ _ <| rg fun _ k106 => bd h fun x107 hx107 h => mv rfl <| ya (addC rfl rfl hx107) <| ak rfl k106 <| tn <| kw (k92 ⟨x88, x89, x107⟩ h)
     refine sr fun _ k108 => bd h fun x109 hx109 h => ya (fieldAddr Tryz.underlying140 rfl nz_22 rfl rfl) <| ya (loadB (k := 129) scal_22 rfl rfl rfl) <| mv rfl <| mv rfl <| mv rfl <| mv rfl <| WL.eff (by decide) (Eff.callMut 125 rfl Tryz.func120 nm_120 rfl rfl rfl (w_r03_add A26 n27 c28 x89 u0 x90 x35 x100 hx109)) ?_
     rintro _ _ ⟨_, ⟨rfl, rfl⟩, rfl⟩
     refine dz k108 <| rg fun _ k110 => bd h fun x111 hx111 h => mv rfl <| mv rfl <| mv rfl <| mv rfl <| mv rfl <| WL.eff (by decide) (Eff.callMut 116 rfl Tryz.func120 nm_120 rfl rfl rfl (w_r03_add A18 x17.length c19 x88 u0 x90 x35 x100 hx111)) ?_
     rintro _ _ ⟨_, ⟨rfl, rfl⟩, rfl⟩
     refine dz k110 <| bn <| tn <| k96 _ _ <| rg fun _ k112 => bd h fun x113 hx113 h => mv rfl <| ya (addC rfl rfl hx113) <| ak rfl k112 <| tn <| kw (k92 ⟨x111, x109, x113⟩ h)
    exact xi <| te <| te <| bx <| bn <| tn <| kw (k43 ⟨x88, x89⟩ h)
   rintro ⟨x41, x42⟩ h
   unfold m_r03_Invert_j3 at h
   refine rg fun _ k114 => bd h fun x115 hx115 h => mv rfl <| ya (addC rfl rfl hx115) <| ak rfl k114 <| tn <| kw (k37 ⟨x41, x42, x115⟩ h)
  exact xi <| te <| te <| bx <| tn <| kw (k31 x34 h)
 rintro x30 h
 unfold m_r03_Invert_j1 at h
 refine sr fun _ k116 => ya (loadBM (k := 129) agg_140 rfl rfl rfl) <| sb 103 agg_140 rfl rfl rfl <| ak rfl k116 <| re ?_
 obtain rfl := si h
 exact rt [125] (ResIs.cellTmpM (k := 103) rfl agg_140 rfl rfl rfl rfl) (Ext.refl _ _) ⟨A26, n27, c28, rfl, rfl⟩
end Go.Proofs.YthjnhlmfcejhkaaGreat
