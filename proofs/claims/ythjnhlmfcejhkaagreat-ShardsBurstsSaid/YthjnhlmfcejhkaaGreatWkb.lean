/- A part of the proof. Conditions: as each theorem says. -/
import Derived.Test.YthjnhlmfcejhkaaGreatWka
import Derived.Test.YthjnhlmfcejhkaaGreatMdr
namespace Go.Proofs.YthjnhlmfcejhkaaGreat
set_option maxRecDepth 10000
open Go Go.RowKit Yld
set_option linter.unusedVariables false
theorem und_30 : Tryz.prog.underlying 30 = some (.slice 22) := by kernel_rfl
theorem und_45 : Tryz.prog.underlying 45 = some (.slice 3) := by kernel_rfl
theorem agg_124 : Agg Tryz.prog 124 3 := ⟨⟨_, Tryz.underlying124, rfl⟩, by kernel_rfl⟩
theorem bu_124_ : Tryz.prog.built 124 [] = some ([I64 (0 : Int), I64 (0 : Int), .slice none 0 0] : List Value).toArray := by kernel_rfl
theorem bu_124_0_1 : ∀ (a0 : Int) (a1 : Int), Tryz.prog.built 124 [(0, I64 a0), (1, I64 a1)] = some ([I64 a0, I64 a1, .slice none 0 0] : List Value).toArray := fun a0 a1 => by kernel_rfl
theorem bu_124_0_1_2 : ∀ (a0 : Int) (a1 : Int) (a2 : Option Addr) (n2 c2 : Nat), Tryz.prog.built 124 [(0, I64 a0), (1, I64 a1), (2, .slice a2 n2 c2)] = some ([I64 a0, I64 a1, .slice a2 n2 c2] : List Value).toArray := fun a0 a1 a2 n2 c2 => by kernel_rfl
theorem nm_110 : (Tryz.f110.name == "runtime.NumGoroutine") = false := by kernel_rfl
theorem nm_128 : (Tryz.f128.name == "runtime.NumGoroutine") = false := by kernel_rfl
theorem nm_129 : (Tryz.f129.name == "runtime.NumGoroutine") = false := by kernel_rfl
theorem nm_130 : (Tryz.f130.name == "runtime.NumGoroutine") = false := by kernel_rfl
theorem nz_22 : (Tryz.prog.info? 22).map (fun i => decide (i.size = 0)) = some false := by kernel_rfl
theorem nz_3 : (Tryz.prog.info? 3).map (fun i => decide (i.size = 0)) = some false := by kernel_rfl
theorem scal_22 : scal Tryz.prog 22 = true := by kernel_rfl
theorem siz_22 : (Tryz.prog.info? 22).map (·.size) = some 1 := by kernel_rfl
theorem sty_30 : STy Tryz.prog 30 22 (.slice none 0 0) 1 24 := STy.of und_30 (by kernel_rfl) rfl
theorem sty_45 : STy Tryz.prog 45 3 (I64 0) 1 8 := STy.of und_45 (by kernel_rfl) rfl
theorem zr_124 : (Tryz.prog.info? 124).map (fun i => i.zero.map (·.cells)) = some (some ([I64 (0 : Int), I64 (0 : Int), .slice none 0 0] : List Value).toArray) := by kernel_rfl
theorem w_gfmatrix_mayHave (M0 : Mem) (x00 : Int) {res : Bool} (h : m_gfmatrix_mayHave x00 = some res) :
  Fn Tryz.prog 105 #[I64 x00] M0 fun r M' es => r = .bool res /\ es = [] := by
 refine Fn.intro (N := 9) Tryz.func105 rfl rfl (nle rfl) fun w0 => ?_
 unfold m_gfmatrix_mayHave at h
 refine sr fun _ k1 => ak rfl k1 <| sr fun _ k2 => mv rfl <| ya (geq rfl rfl) <| mv rfl <| spl h decide_eq_true decide_eq_false (fun hc3 h => ?_) fun hc3 h => ?_
 ·refine mvg rfl <| yg (leq rfl rfl) <| pt rfl rfl <| ak rfl k2 <| re ?_
  obtain rfl := si h
  exact rt0 (ResIs.one rfl rfl)
 refine sk <| sk <| pf rfl rfl <| ak rfl k2 <| re ?_
 obtain rfl := si h
 exact rt0 (ResIs.one rfl rfl)
theorem w_gfmatrix_Valid (M0 : Mem) (u0 u1 : Int) (A00_2 : Option Addr) (n00_2 c00_2 : Nat) (u2 : By) (hf00_2 : SlT M0 A00_2 n00_2 c00_2 u2) {res : Bool} (h : m_gfmatrix_Valid u0 u1 u2 = some res) :
  Fn Tryz.prog 104 #[.agg ([I64 u0, I64 u1, .slice A00_2 n00_2 c00_2] : List Value).toArray] M0 fun r M' es => r = .bool res /\ es = [] := by
 refine Fn.intro (N := 22) Tryz.func104 rfl rfl (nle rfl) fun w0 => ?_
 unfold m_gfmatrix_Valid at h
 refine sr fun _ k1 => bb 102 [I64 u0, I64 u1, .slice A00_2 n00_2 c00_2] rfl fun g2 => ak rfl k1 <| sr fun _ k3 => bd h fun x4 hx4 h => ya (fieldAddr Tryz.underlying124 rfl nz_3 rfl rfl) <| ya (loadB (k := 102) scal_3 rfl rfl rfl) <| c0 Tryz.func105 rfl (fun w hb hh => w_gfmatrix_mayHave (Mem.snap w) u0 hx4) <| mv rfl <| spl h id Bool.eq_false_iff.2 (fun hc6 h => ?_) fun hc6 h => ?_
 ·obtain ⟨x7, hx7, h⟩ := bnd h
  refine yg (fieldAddr Tryz.underlying124 rfl nz_3 rfl rfl) <| yg (loadB (k := 102) scal_3 rfl rfl rfl) <| c0g Tryz.func105 rfl (fun w hb hh => w_gfmatrix_mayHave (Mem.snap w) u1 hx7) <| pt rfl rfl <| mv rfl <| spl h id Bool.eq_false_iff.2 (fun hc9 h => ?_) fun hc9 h => ?_
  ·obtain ⟨x10, hx10, h⟩ := bnd h
   refine yg (fieldAddr Tryz.underlying124 rfl nz_22 rfl rfl) <| yg (loadB (k := 102) scal_22 rfl rfl rfl) <| yg (lenC (xs := u2) und_22 rfl (mM rfl hf00_2)) <| yg (fieldAddr Tryz.underlying124 rfl nz_3 rfl rfl) <| yg (loadB (k := 102) scal_3 rfl rfl rfl) <| yg (fieldAddr Tryz.underlying124 rfl nz_3 rfl rfl) <| yg (loadB (k := 102) scal_3 rfl rfl rfl) <| yg (mulC rfl rfl hx10) <| yg (eqlI rfl rfl) <| pt rfl rfl <| ak rfl k3 <| re ?_
   obtain rfl := si h
   exact rt0 (ResIs.one rfl rfl)
  refine sk <| sk <| sk <| sk <| sk <| sk <| sk <| sk <| sk <| pf rfl rfl <| ak rfl k3 <| re ?_
  obtain rfl := si h
  exact rt0 (ResIs.one rfl rfl)
 refine sk <| sk <| sk <| pf rfl rfl <| mv rfl <| sk <| sk <| sk <| sk <| sk <| sk <| sk <| sk <| sk <| pf rfl rfl <| ak rfl k3 <| re ?_
 obtain rfl := si h
 exact rt0 (ResIs.one rfl rfl)
theorem w_gfmatrix_empty (M0 : Mem) (x00 x01 : Int) {res : Int × Int × By} (h : m_gfmatrix_empty x00 x01 = some res) :
  Fn Tryz.prog 123 #[I64 x00, I64 x01] M0 fun r M' es => ∃ (A1 : Option Addr) (n1 c1 : Nat), r = .agg ([I64 res.1, I64 res.2.1, .slice A1 n1 c1] : List Value).toArray /\ es = [.own 5 (Lay.sz (BitVec 8)) A1 n1 c1 (cel res.2.2)] := by
 refine Fn.intro (N := 12) Tryz.func123 rfl rfl (nle rfl) fun w0 => ?_
 unfold m_gfmatrix_empty at h
 refine sr fun _ k1 => al 102 zr_124 fun g2 => dz k1 <| sr fun _ k3 => ?_
 obtain ⟨x4, hx4, h⟩ := bnd h
 obtain ⟨x6, hx6, h⟩ := bnd h
 refine mv rfl <| mv rfl <| mv rfl <| mv rfl <| ya (mulC rfl rfl hx4) <| WL.eff (by decide) (Eff.makeC 105 0#8 sty_22 rfl rfl rfl rfl rfl rfl hx6) ?_
 rintro _ _ ⟨g5, rfl, rfl⟩
 refine ya (build rfl (bu_124_0_1_2 x00 x01 (some ⟨g5, 0, none⟩) x6.length x6.length)) <| sb 102 agg_124 rfl rfl rfl <| dz k3 <| re ?_
 obtain rfl := si h
 exact rt [105] (ResIs.cellM (k := 102) rfl agg_124 rfl rfl (rfl)) (Ext.refl _ _) ⟨(some ⟨g5, 0, none⟩), x6.length, x6.length, rfl, rfl⟩
theorem w_gfmatrix_Matrix_row (M0 : Mem) (u0 u1 : Int) (A00_2 : Option Addr) (n00_2 c00_2 : Nat) (x01 : Int) {res : Int × Int} (hb : 0 <= res.1 /\ res.1 <= res.2 /\ res.2 <= c00_2) (h : m_gfmatrix_Matrix_row u0 u1 x01 = some res) :
  Fn Tryz.prog 106 #[.agg ([I64 u0, I64 u1, .slice A00_2 n00_2 c00_2] : List Value).toArray, I64 x01] M0 fun r M' es => r = .slice (subA A00_2 c00_2 (res.1).toNat 1) ((res.2).toNat - (res.1).toNat) (c00_2 - (res.1).toNat) /\ es = [] := by
 refine Fn.intro (N := 17) Tryz.func106 rfl rfl (nle rfl) fun w0 => ?_
 unfold m_gfmatrix_Matrix_row at h
 refine sr fun _ k1 => bb 102 [I64 u0, I64 u1, .slice A00_2 n00_2 c00_2] rfl fun g2 => ak rfl k1 <| sr fun _ k3 => ?_
 obtain ⟨x4, hx4, h⟩ := bnd h
 obtain ⟨x5, hx5, h⟩ := bnd h
 obtain ⟨x6, hx6, h⟩ := bnd h
 refine ya (fieldAddr Tryz.underlying124 rfl nz_22 rfl rfl) <| ya (loadB (k := 102) scal_22 rfl rfl rfl) <| mv rfl <| ya (fieldAddr Tryz.underlying124 rfl nz_3 rfl rfl) <| ya (loadB (k := 102) scal_3 rfl rfl rfl) <| ya (mulC rfl rfl hx4) <| mv rfl <| ya (addC rfl rfl hx5) <| ya (fieldAddr Tryz.underlying124 rfl nz_3 rfl rfl) <| ya (loadB (k := 102) scal_3 rfl rfl rfl) <| ya (mulC rfl rfl hx6) ?_
 have hres := Option.some.inj h
 subst hres
 exact ya (sliceLH sty_22 rfl rfl rfl hb) <| ak rfl k3 <| re <| rt0 (ResIs.one rfl rfl)
theorem w_gfmatrix_Matrix_at (M0 : Mem) (u0 u1 : Int) (A00_2 : Option Addr) (n00_2 c00_2 : Nat) (u2 : By) (hf00_2 : SlT M0 A00_2 n00_2 c00_2 u2) (x01 x02 : Int) {res : (BitVec 8)} (h : m_gfmatrix_Matrix_at u0 u1 u2 x01 x02 = some res) :
  Fn Tryz.prog 111 #[.agg ([I64 u0, I64 u1, .slice A00_2 n00_2 c00_2] : List Value).toArray, I64 x01, I64 x02] M0 fun r M' es => r = U8 res /\ es = [] := by
 refine Fn.intro (N := 17) Tryz.func111 rfl rfl (nle rfl) fun w0 => ?_
 unfold m_gfmatrix_Matrix_at at h
 refine sr fun _ k1 => bb 102 [I64 u0, I64 u1, .slice A00_2 n00_2 c00_2] rfl fun g2 => ya (Yld.assign (v := U8 0#8) rfl) <| dz k1 <| sr fun _ k3 => ?_
 obtain ⟨x4, hx4, h⟩ := bnd h
 obtain ⟨x5, hx5, h⟩ := bnd h
 obtain ⟨x6, hx6, h⟩ := bnd h
 refine ya (fieldAddr Tryz.underlying124 rfl nz_22 rfl rfl) <| ya (loadB (k := 102) scal_22 rfl rfl rfl) <| mv rfl <| ya (fieldAddr Tryz.underlying124 rfl nz_3 rfl rfl) <| ya (loadB (k := 102) scal_3 rfl rfl rfl) <| ya (mulC rfl rfl hx4) <| mv rfl <| ya (addC rfl rfl hx5) <| ya (idxC (xs := u2) sty_22 rfl rfl (mM rfl hf00_2) hx6) <| ya (loadC0 (xs := u2) scal_5 rfl (mM rfl hf00_2) hx6 rfl) <| ak rfl k3 <| re ?_
 obtain rfl := si h
 exact rt0 (ResIs.one rfl rfl)
theorem w_gfmatrix_Identity (M0 : Mem) (x00 : Int) {res : Int × Int × By × Int} (h : m_gfmatrix_Identity x00 = some res) :
  Fn Tryz.prog 126 #[I64 x00] M0 fun r M' es => ∃ (A1 : Option Addr) (n1 c1 : Nat), r = .tuple #[.agg ([I64 res.1, I64 res.2.1, .slice A1 n1 c1] : List Value).toArray, I64 res.2.2.2] /\ es = [.own 5 (Lay.sz (BitVec 8)) A1 n1 c1 (cel res.2.2.1)] := by
 refine Fn.intro (N := 24) Tryz.func126 rfl rfl (nle rfl) fun w0 => ?_
 unfold m_gfmatrix_Identity at h
 refine sr fun _ k1 => al 102 zr_124 fun g2 => ak rfl k1 <| sq fun _ k3 => sr fun _ k4 => bd h fun x5 hx5 h => mv rfl <| c0 Tryz.func105 rfl (fun w hb hh => w_gfmatrix_mayHave (Mem.snap w) x00 hx5) <| ya (notB rfl) <| dz k4 <| cnn h rfl not_f (fun q => not_t (Bool.eq_false_iff.2 q)) (fun hc7 h => ?_) fun hc7 h => ?_
 ·refine ss <| k3 _ _ <| sr fun _ k8 => bd h fun x9 hx9 h => mv rfl <| mv rfl <| c1 113 Tryz.func123 rfl (fun w hb hh => w_gfmatrix_empty (Mem.snap w) x00 x00 hx9) fun A14 n15 c16 => al 117 zr_124 fun g17 => sb 117 agg_124 rfl rfl rfl <| dz k8 <| ct (σ := By) (fun x18 => [(2, pv g2), (4, pv g17)]) (fun x18 => [(0, .mem M0), (102, .blk g2 124 [I64 (0 : Int), I64 (0 : Int), .slice none 0 0]), (113, .own 5 (Lay.sz (BitVec 8)) A14 n15 c16 (cel x18)), (117, .blk g17 124 [I64 x9.1, I64 x9.2.1, .slice A14 n15 c16])]) (fun x18 => m_gfmatrix_Identity_j0 x9 x18 = some res) (fun _ k19 => ?_) ?_
  ·refine sr fun _ k20 => mv rfl <| mv rfl <| dz k20 <| bl <| lp (τ := By × Int) (fun ⟨x21, x22⟩ => [(2, pv g2), (4, pv g17), (13, I64 x00), (14, I64 x22)]) (fun ⟨x21, x22⟩ => [(0, .mem M0), (102, .blk g2 124 [I64 (0 : Int), I64 (0 : Int), .slice none 0 0]), (113, .own 5 (Lay.sz (BitVec 8)) A14 n15 c16 (cel x21)), (117, .blk g17 124 [I64 x9.1, I64 x9.2.1, .slice A14 n15 c16])]) (fun q23 ⟨x21, x22⟩ => m_gfmatrix_Identity_l1 x00 x9 q23 x21 x22 = some res) ⟨x9.2.2, (0 : Int)⟩ ?_ (by simp [m_gfmatrix_Identity_l1]) ?_
   ·exact h
   rintro q23 ⟨x21, x22⟩ h _ k24
   unfold m_gfmatrix_Identity_l1 at h
   refine sr fun _ k25 => ya (lss rfl rfl) <| dz k25 <| sq fun _ k26 => cI h rfl (fun hc27 h => ?_) fun hc27 h => ?_
   ·refine ss <| k26 _ _ <| sq fun _ k28 => bl <| sr fun _ k29 => mv rfl <| ak rfl k29 <| rg fun _ k30 => ?_
    obtain ⟨x31, hx31, h⟩ := bnd h
    obtain ⟨x32, hx32, h⟩ := bnd h
    obtain ⟨x33, hx33, h⟩ := bnd h
    obtain ⟨x34, hx34, h⟩ := bnd h
    obtain ⟨x35, hx35, h⟩ := bnd h
    refine ya (loadBM (k := 117) agg_124 rfl rfl rfl) <| mv rfl <| c0 Tryz.func106 rfl (fun w hb hh => w_gfmatrix_Matrix_row (Mem.snap w) x9.1 x9.2.1 A14 n15 c16 x22 (SlT.slcB (RdH.sn (rO 113 rfl) w hb hh) hx32) hx31) <| mv rfl <| ya (idxC (xs := x33) sty_22 rfl rfl (RdT.slcN (rO 113 rfl) hx33) hx34) <| WL.eff0 (Eff0.storeS 113 (xs := x21) (lo := x31.1) (hi := x31.2) (a' := 1#8) siz_5 rfl rfl rfl rfl rfl rfl hx35) <| dz k30 <| bn <| tn <| k28 _ _ <| rg fun _ k36 => bd h fun x37 hx37 h => ya (addC rfl rfl hx37) <| mv rfl <| dz k36 <| tn <| kw (k24 ⟨x35, x37⟩ h)
   exact xi <| te <| te <| bx <| tn <| kw (k19 x21 h)
  rintro x18 h
  unfold m_gfmatrix_Identity_j0 at h
  refine sr fun _ k38 => ya (loadBM (k := 117) agg_124 rfl rfl rfl) <| sb 102 agg_124 rfl rfl rfl <| ak rfl k38 <| re ?_
  obtain rfl := si h
  exact rt [113] (ResIs.cellTmpM (k := 102) rfl agg_124 rfl rfl rfl rfl) (Ext.refl _ _) ⟨A14, n15, c16, rfl, rfl⟩
 refine sr fun _ k39 => ya (build rfl (bu_124_)) <| sb 102 agg_124 rfl rfl rfl <| ak rfl k39 <| re <| tr <| QK.nilOwn 140 5 (Lay.sz (BitVec 8)) none ?_
 obtain rfl := si h
 exact rt [140] (ResIs.cellTmpM (k := 102) rfl agg_124 rfl rfl rfl rfl) (Ext.refl _ _) ⟨none, 0, 0, rfl, rfl⟩
theorem w_gfmatrix_Vandermonde (M0 : Mem) (x00 x01 : Int) {res : Int × Int × By × Int} (h : m_gfmatrix_Vandermonde x00 x01 = some res) :
  Fn Tryz.prog 107 #[I64 x00, I64 x01] M0 fun r M' es => ∃ (A1 : Option Addr) (n1 c1 : Nat), r = .tuple #[.agg ([I64 res.1, I64 res.2.1, .slice A1 n1 c1] : List Value).toArray, I64 res.2.2.2] /\ es = [.own 5 (Lay.sz (BitVec 8)) A1 n1 c1 (cel res.2.2.1)] := by
 refine Fn.intro (N := 41) Tryz.func107 rfl rfl (nle rfl) fun w0 => ?_
 unfold m_gfmatrix_Vandermonde at h
 refine sr fun _ k1 => al 102 zr_124 fun g2 => ak rfl k1 <| ct (σ := Unit) (fun _ => [(0, I64 x00), (1, I64 x01), (4, pv g2)]) (fun _ => [(0, .mem M0), (102, .blk g2 124 [I64 (0 : Int), I64 (0 : Int), .slice none 0 0])]) (fun _ => m_gfmatrix_Vandermonde_j0 x00 x01 = some res) (fun _ k3 => ?_) ?_
 ·refine sr fun _ k4 => bd h fun x5 hx5 h => mv rfl <| c0 Tryz.func105 rfl (fun w hb hh => w_gfmatrix_mayHave (Mem.snap w) x00 hx5) <| ya (notB rfl) <| mv rfl <| spn h not_f (fun q => not_t (Bool.eq_false_iff.2 q)) (fun hc7 h => ?_) fun hc7 h => ?_
  ·obtain ⟨x8, hx8, h⟩ := bnd h
   refine mvg rfl <| c0g Tryz.func105 rfl (fun w hb hh => w_gfmatrix_mayHave (Mem.snap w) x01 hx8) <| yg (notB rfl) <| pf rfl rfl <| dz k4 <| cnn h rfl not_f (fun q => not_t (Bool.eq_false_iff.2 q)) (fun hc10 h => ?_) fun hc10 h => ?_
   ·exact WC.skip <| tn <| kw (k3 () h)
   refine sr fun _ k11 => ya (build rfl (bu_124_)) <| sb 102 agg_124 rfl rfl rfl <| ak rfl k11 <| re <| tr <| QK.nilOwn 112 5 (Lay.sz (BitVec 8)) none ?_
   obtain rfl := si h
   exact rt [112] (ResIs.cellTmpM (k := 102) rfl agg_124 rfl rfl rfl rfl) (Ext.refl _ _) ⟨none, 0, 0, rfl, rfl⟩
  refine sk <| sk <| sk <| pt rfl rfl <| dz k4 <| cdT rfl <| sr fun _ k13 => ya (build rfl (bu_124_)) <| sb 102 agg_124 rfl rfl rfl <| ak rfl k13 <| re <| tr <| QK.nilOwn 114 5 (Lay.sz (BitVec 8)) none ?_
  obtain rfl := si h
  exact rt [114] (ResIs.cellTmpM (k := 102) rfl agg_124 rfl rfl rfl rfl) (Ext.refl _ _) ⟨none, 0, 0, rfl, rfl⟩
 rintro _ h
 unfold m_gfmatrix_Vandermonde_j0 at h
 refine sr fun _ k15 => bd h fun x16 hx16 h => mv rfl <| mv rfl <| c1 120 Tryz.func123 rfl (fun w hb hh => w_gfmatrix_empty (Mem.snap w) x00 x01 hx16) fun A21 n22 c23 => al 124 zr_124 fun g24 => sb 124 agg_124 rfl rfl rfl <| dz k15 <| ct (σ := By) (fun x25 => [(4, pv g2), (6, pv g24)]) (fun x25 => [(0, .mem M0), (102, .blk g2 124 [I64 (0 : Int), I64 (0 : Int), .slice none 0 0]), (120, .own 5 (Lay.sz (BitVec 8)) A21 n22 c23 (cel x25)), (124, .blk g24 124 [I64 x16.1, I64 x16.2.1, .slice A21 n22 c23])]) (fun x25 => m_gfmatrix_Vandermonde_j1 x16 x25 = some res) (fun _ k26 => ?_) ?_
 ·refine sr fun _ k27 => mv rfl <| mv rfl <| dz k27 <| bl <| lp (τ := By × Int) (fun ⟨x28, x29⟩ => [(1, I64 x01), (4, pv g2), (6, pv g24), (21, I64 x00), (22, I64 x29)]) (fun ⟨x28, x29⟩ => [(0, .mem M0), (102, .blk g2 124 [I64 (0 : Int), I64 (0 : Int), .slice none 0 0]), (120, .own 5 (Lay.sz (BitVec 8)) A21 n22 c23 (cel x28)), (124, .blk g24 124 [I64 x16.1, I64 x16.2.1, .slice A21 n22 c23])]) (fun q30 ⟨x28, x29⟩ => m_gfmatrix_Vandermonde_l2 x00 x01 x16 q30 x28 x29 = some res) ⟨x16.2.2, (0 : Int)⟩ ?_ (by simp [m_gfmatrix_Vandermonde_l2]) ?_
  ·exact h
  rintro q30 ⟨x28, x29⟩ h _ k31
  unfold m_gfmatrix_Vandermonde_l2 at h
  refine sr fun _ k32 => ya (lss rfl rfl) <| dz k32 <| sq fun _ k33 => cI h rfl (fun hc34 h => ?_) fun hc34 h => ?_
  ·refine ss <| k33 _ _ <| ct (σ := By) (fun x35 => [(1, I64 x01), (4, pv g2), (6, pv g24), (21, I64 x00), (22, I64 x29)]) (fun x35 => [(0, .mem M0), (102, .blk g2 124 [I64 (0 : Int), I64 (0 : Int), .slice none 0 0]), (120, .own 5 (Lay.sz (BitVec 8)) A21 n22 c23 (cel x35)), (124, .blk g24 124 [I64 x16.1, I64 x16.2.1, .slice A21 n22 c23])]) (fun x35 => m_gfmatrix_Vandermonde_j3 x29 (m_gfmatrix_Vandermonde_l2 x00 x01 x16 q30) x35 = some res) (fun _ k36 => ?_) ?_
   ·refine bl <| sr fun _ k37 => mv rfl <| ak rfl k37 <| sr fun _ k38 => mv rfl <| mv rfl <| dz k38 <| bl <| lp (τ := By × Int) (fun ⟨x39, x40⟩ => [(1, I64 x01), (4, pv g2), (6, pv g24), (7, I64 x29), (21, I64 x00), (22, I64 x29), (25, I64 x01), (26, I64 x40)]) (fun ⟨x39, x40⟩ => [(0, .mem M0), (102, .blk g2 124 [I64 (0 : Int), I64 (0 : Int), .slice none 0 0]), (120, .own 5 (Lay.sz (BitVec 8)) A21 n22 c23 (cel x39)), (124, .blk g24 124 [I64 x16.1, I64 x16.2.1, .slice A21 n22 c23])]) (fun q41 ⟨x39, x40⟩ => m_gfmatrix_Vandermonde_l4 x01 x16 x29 (m_gfmatrix_Vandermonde_l2 x00 x01 x16 q30) q41 x39 x40 = some res) ⟨x28, (0 : Int)⟩ ?_ (by simp [m_gfmatrix_Vandermonde_l4]) ?_
    ·exact h
    rintro q41 ⟨x39, x40⟩ h _ k42
    unfold m_gfmatrix_Vandermonde_l4 at h
    refine sr fun _ k43 => ya (lss rfl rfl) <| dz k43 <| sq fun _ k44 => cI h rfl (fun hc45 h => ?_) fun hc45 h => ?_
    ·refine ss <| k44 _ _ <| sq fun _ k46 => bl <| sr fun _ k47 => mv rfl <| ak rfl k47 <| rg fun _ k48 => ?_
     obtain ⟨x49, hx49, h⟩ := bnd h
     obtain ⟨x50, hx50, h⟩ := bnd h
     obtain ⟨x51, hx51, h⟩ := bnd h
     obtain ⟨x53, hx53, h⟩ := bnd h
     obtain ⟨x54, hx54, h⟩ := bnd h
     obtain ⟨x55, hx55, h⟩ := bnd h
     refine ya (loadBM (k := 124) agg_124 rfl rfl rfl) <| mv rfl <| c0 Tryz.func106 rfl (fun w hb hh => w_gfmatrix_Matrix_row (Mem.snap w) x16.1 x16.2.1 A21 n22 c23 x29 (SlT.slcB (RdH.sn (rO 120 rfl) w hb hh) hx50) hx49) <| mv rfl <| mv rfl <| ya (conv_i64_u8 some_3 und_5 rfl) <| mv rfl <| c0 Tryz.func124 rfl (fun w hb hh => w_gf256_Pow (Mem.snap w) (BitVec.ofInt 8 x29) x40 hx51) <| ya (idxC (xs := x53) sty_22 rfl rfl (RdT.slcN (rO 120 rfl) hx53) hx54) <| WL.eff0 (Eff0.storeS 120 (xs := x39) (lo := x49.1) (hi := x49.2) (a' := x51) siz_5 rfl rfl rfl rfl rfl rfl hx55) <| dz k48 <| bn <| tn <| k46 _ _ <| rg fun _ k56 => bd h fun x57 hx57 h => ya (addC rfl rfl hx57) <| mv rfl <| dz k56 <| tn <| kw (k42 ⟨x55, x57⟩ h)
    exact xi <| te <| te <| bx <| bn <| tn <| kw (k36 x39 h)
   rintro x35 h
   unfold m_gfmatrix_Vandermonde_j3 at h
   refine rg fun _ k58 => bd h fun x59 hx59 h => ya (addC rfl rfl hx59) <| mv rfl <| dz k58 <| tn <| kw (k31 ⟨x35, x59⟩ h)
  exact xi <| te <| te <| bx <| tn <| kw (k26 x28 h)
 rintro x25 h
 unfold m_gfmatrix_Vandermonde_j1 at h
 refine sr fun _ k60 => ya (loadBM (k := 124) agg_124 rfl rfl rfl) <| sb 102 agg_124 rfl rfl rfl <| ak rfl k60 <| re ?_
 obtain rfl := si h
 exact rt [120] (ResIs.cellTmpM (k := 102) rfl agg_124 rfl rfl rfl rfl) (Ext.refl _ _) ⟨A21, n22, c23, rfl, rfl⟩
theorem w_gfmatrix_Mul (M0 : Mem) (u0 u1 : Int) (A00_2 : Option Addr) (n00_2 c00_2 : Nat) (u2 : By) (hf00_2 : SlT M0 A00_2 n00_2 c00_2 u2) (v0 v1 : Int) (A01_2 : Option Addr) (n01_2 c01_2 : Nat) (v2 : By) (hf01_2 : SlT M0 A01_2 n01_2 c01_2 v2) {res : Int × Int × By × Int} (h : m_gfmatrix_Mul u0 u1 u2 v0 v1 v2 = some res) :
  Fn Tryz.prog 109 #[.agg ([I64 u0, I64 u1, .slice A00_2 n00_2 c00_2] : List Value).toArray, .agg ([I64 v0, I64 v1, .slice A01_2 n01_2 c01_2] : List Value).toArray] M0 fun r M' es => ∃ (A1 : Option Addr) (n1 c1 : Nat), r = .tuple #[.agg ([I64 res.1, I64 res.2.1, .slice A1 n1 c1] : List Value).toArray, I64 res.2.2.2] /\ es = [.own 5 (Lay.sz (BitVec 8)) A1 n1 c1 (cel res.2.2.1)] := by
 refine Fn.intro (N := 67) Tryz.func109 rfl rfl (nle rfl) fun w0 => ?_
 unfold m_gfmatrix_Mul at h
 refine sr fun _ k1 => bb 102 [I64 u0, I64 u1, .slice A00_2 n00_2 c00_2] rfl fun g2 => bb 103 [I64 v0, I64 v1, .slice A01_2 n01_2 c01_2] rfl fun g3 => al 104 zr_124 fun g4 => ak rfl k1 <| ct (σ := Unit) (fun _ => [(2, pv g2), (3, pv g3), (4, pv g4)]) (fun _ => [(0, .mem M0), (102, .blk g2 124 [I64 u0, I64 u1, .slice A00_2 n00_2 c00_2]), (103, .blk g3 124 [I64 v0, I64 v1, .slice A01_2 n01_2 c01_2]), (104, .blk g4 124 [I64 (0 : Int), I64 (0 : Int), .slice none 0 0])]) (fun _ => m_gfmatrix_Mul_j0 u0 u1 u2 v0 v1 v2 = some res) (fun _ k5 => ?_) ?_
 ·refine sr fun _ k6 => bd h fun x7 hx7 h => ya (loadBM (k := 102) agg_124 rfl rfl rfl) <| c0 Tryz.func104 rfl (fun w hb hh => w_gfmatrix_Valid (Mem.snap w) u0 u1 A00_2 n00_2 c00_2 _ (sM rfl hf00_2 w hb hh) hx7) <| ya (notB rfl) <| mv rfl <| spn h not_f (fun q => not_t (Bool.eq_false_iff.2 q)) (fun hc9 h => ?_) fun hc9 h => ?_
  ·obtain ⟨x10, hx10, h⟩ := bnd h
   refine yg (loadBM (k := 103) agg_124 rfl rfl rfl) <| c0g Tryz.func104 rfl (fun w hb hh => w_gfmatrix_Valid (Mem.snap w) v0 v1 A01_2 n01_2 c01_2 _ (sM rfl hf01_2 w hb hh) hx10) <| yg (notB rfl) <| pf rfl rfl <| mv rfl <| spn h not_f (fun q => not_t (Bool.eq_false_iff.2 q)) (fun hc12 h => ?_) fun hc12 h => ?_
   ·refine yg (fieldAddr Tryz.underlying124 rfl nz_3 rfl rfl) <| yg (loadB (k := 102) scal_3 rfl rfl rfl) <| yg (fieldAddr Tryz.underlying124 rfl nz_3 rfl rfl) <| yg (loadB (k := 103) scal_3 rfl rfl rfl) <| yg (neqI rfl rfl) <| pf rfl rfl <| dz k6 <| cnn h rfl bne_eq_false_iff_eq.2 bne_iff_ne.2 (fun hc13 h => ?_) fun hc13 h => ?_
    ·exact WC.skip <| tn <| kw (k5 () h)
    refine sr fun _ k14 => ya (build rfl (bu_124_)) <| sb 104 agg_124 rfl rfl rfl <| ak rfl k14 <| re <| tr <| QK.nilOwn 115 5 (Lay.sz (BitVec 8)) none ?_
    obtain rfl := si h
    exact rt [115] (ResIs.cellTmpM (k := 104) rfl agg_124 rfl rfl rfl rfl) (Ext.refl _ _) ⟨none, 0, 0, rfl, rfl⟩
   refine sk <| sk <| sk <| sk <| sk <| pt rfl rfl <| dz k6 <| cdT rfl <| sr fun _ k16 => ya (build rfl (bu_124_)) <| sb 104 agg_124 rfl rfl rfl <| ak rfl k16 <| re <| tr <| QK.nilOwn 117 5 (Lay.sz (BitVec 8)) none ?_
   obtain rfl := si h
   exact rt [117] (ResIs.cellTmpM (k := 104) rfl agg_124 rfl rfl rfl rfl) (Ext.refl _ _) ⟨none, 0, 0, rfl, rfl⟩
  refine sk <| sk <| sk <| pt rfl rfl <| mv rfl <| sk <| sk <| sk <| sk <| sk <| pt rfl rfl <| dz k6 <| cdT rfl <| sr fun _ k18 => ya (build rfl (bu_124_)) <| sb 104 agg_124 rfl rfl rfl <| ak rfl k18 <| re <| tr <| QK.nilOwn 119 5 (Lay.sz (BitVec 8)) none ?_
  obtain rfl := si h
  exact rt [119] (ResIs.cellTmpM (k := 104) rfl agg_124 rfl rfl rfl rfl) (Ext.refl _ _) ⟨none, 0, 0, rfl, rfl⟩
 rintro _ h
 unfold m_gfmatrix_Mul_j0 at h
 refine sr fun _ k20 => bd h fun x21 hx21 h => ya (fieldAddr Tryz.underlying124 rfl nz_3 rfl rfl) <| ya (loadB (k := 102) scal_3 rfl rfl rfl) <| ya (fieldAddr Tryz.underlying124 rfl nz_3 rfl rfl) <| ya (loadB (k := 103) scal_3 rfl rfl rfl) <| c1 125 Tryz.func123 rfl (fun w hb hh => w_gfmatrix_empty (Mem.snap w) u0 v1 hx21) fun A26 n27 c28 => al 129 zr_124 fun g29 => sb 129 agg_124 rfl rfl rfl <| dz k20 <| ct (σ := By) (fun x30 => [(4, pv g4), (6, pv g29)]) (fun x30 => [(0, .mem M0), (104, .blk g4 124 [I64 (0 : Int), I64 (0 : Int), .slice none 0 0]), (125, .own 5 (Lay.sz (BitVec 8)) A26 n27 c28 (cel x30)), (129, .blk g29 124 [I64 x21.1, I64 x21.2.1, .slice A26 n27 c28])]) (fun x30 => m_gfmatrix_Mul_j1 x21 x30 = some res) (fun _ k31 => ?_) ?_
 ·refine sr fun _ k32 => ya (fieldAddr Tryz.underlying124 rfl nz_3 rfl rfl) <| ya (loadB (k := 102) scal_3 rfl rfl rfl) <| mv rfl <| dz k32 <| bl <| lp (τ := By × Int) (fun ⟨x33, x34⟩ => [(2, pv g2), (3, pv g3), (4, pv g4), (6, pv g29), (32, I64 u0), (33, I64 x34)]) (fun ⟨x33, x34⟩ => [(0, .mem M0), (102, .blk g2 124 [I64 u0, I64 u1, .slice A00_2 n00_2 c00_2]), (103, .blk g3 124 [I64 v0, I64 v1, .slice A01_2 n01_2 c01_2]), (104, .blk g4 124 [I64 (0 : Int), I64 (0 : Int), .slice none 0 0]), (125, .own 5 (Lay.sz (BitVec 8)) A26 n27 c28 (cel x33)), (129, .blk g29 124 [I64 x21.1, I64 x21.2.1, .slice A26 n27 c28])]) (fun q35 ⟨x33, x34⟩ => m_gfmatrix_Mul_l2 u0 u1 u2 v0 v1 v2 x21 q35 x33 x34 = some res) ⟨x21.2.2, (0 : Int)⟩ ?_ (by simp [m_gfmatrix_Mul_l2]) ?_
  ·exact h
  rintro q35 ⟨x33, x34⟩ h _ k36
  unfold m_gfmatrix_Mul_l2 at h
  refine sr fun _ k37 => ya (lss rfl rfl) <| dz k37 <| sq fun _ k38 => cI h rfl (fun hc39 h => ?_) fun hc39 h => ?_
  ·refine ss <| k38 _ _ <| ct (σ := By) (fun x40 => [(2, pv g2), (3, pv g3), (4, pv g4), (6, pv g29), (32, I64 u0), (33, I64 x34)]) (fun x40 => [(0, .mem M0), (102, .blk g2 124 [I64 u0, I64 u1, .slice A00_2 n00_2 c00_2]), (103, .blk g3 124 [I64 v0, I64 v1, .slice A01_2 n01_2 c01_2]), (104, .blk g4 124 [I64 (0 : Int), I64 (0 : Int), .slice none 0 0]), (125, .own 5 (Lay.sz (BitVec 8)) A26 n27 c28 (cel x40)), (129, .blk g29 124 [I64 x21.1, I64 x21.2.1, .slice A26 n27 c28])]) (fun x40 => m_gfmatrix_Mul_j3 x34 (m_gfmatrix_Mul_l2 u0 u1 u2 v0 v1 v2 x21 q35) x40 = some res) (fun _ k41 => ?_) ?_
   ·refine bl <| sr fun _ k42 => mv rfl <| ak rfl k42 <| sr fun _ k43 => ya (fieldAddr Tryz.underlying124 rfl nz_3 rfl rfl) <| ya (loadB (k := 103) scal_3 rfl rfl rfl) <| mv rfl <| dz k43 <| bl <| lp (τ := By × Int) (fun ⟨x44, x45⟩ => [(2, pv g2), (3, pv g3), (4, pv g4), (6, pv g29), (7, I64 x34), (32, I64 u0), (33, I64 x34), (37, I64 v1), (38, I64 x45)]) (fun ⟨x44, x45⟩ => [(0, .mem M0), (102, .blk g2 124 [I64 u0, I64 u1, .slice A00_2 n00_2 c00_2]), (103, .blk g3 124 [I64 v0, I64 v1, .slice A01_2 n01_2 c01_2]), (104, .blk g4 124 [I64 (0 : Int), I64 (0 : Int), .slice none 0 0]), (125, .own 5 (Lay.sz (BitVec 8)) A26 n27 c28 (cel x44)), (129, .blk g29 124 [I64 x21.1, I64 x21.2.1, .slice A26 n27 c28])]) (fun q46 ⟨x44, x45⟩ => m_gfmatrix_Mul_l4 u0 u1 u2 v0 v1 v2 x21 x34 (m_gfmatrix_Mul_l2 u0 u1 u2 v0 v1 v2 x21 q35) q46 x44 x45 = some res) ⟨x33, (0 : Int)⟩ ?_ (by simp [m_gfmatrix_Mul_l4]) ?_
    ·exact h
    rintro q46 ⟨x44, x45⟩ h _ k47
    unfold m_gfmatrix_Mul_l4 at h
    refine sr fun _ k48 => ya (lss rfl rfl) <| dz k48 <| sq fun _ k49 => cI h rfl (fun hc50 h => ?_) fun hc50 h => ?_
    ·refine ss <| k49 _ _ <| ct (σ := By) (fun x51 => [(2, pv g2), (3, pv g3), (4, pv g4), (6, pv g29), (7, I64 x34), (32, I64 u0), (33, I64 x34), (37, I64 v1), (38, I64 x45)]) (fun x51 => [(0, .mem M0), (102, .blk g2 124 [I64 u0, I64 u1, .slice A00_2 n00_2 c00_2]), (103, .blk g3 124 [I64 v0, I64 v1, .slice A01_2 n01_2 c01_2]), (104, .blk g4 124 [I64 (0 : Int), I64 (0 : Int), .slice none 0 0]), (125, .own 5 (Lay.sz (BitVec 8)) A26 n27 c28 (cel x51)), (129, .blk g29 124 [I64 x21.1, I64 x21.2.1, .slice A26 n27 c28])]) (fun x51 => m_gfmatrix_Mul_j5 x45 (m_gfmatrix_Mul_l4 u0 u1 u2 v0 v1 v2 x21 x34 (m_gfmatrix_Mul_l2 u0 u1 u2 v0 v1 v2 x21 q35) q46) x51 = some res) (fun _ k52 => ?_) ?_
     ·refine bl <| sr fun _ k53 => mv rfl <| ak rfl k53 <| sr fun _ k54 => ya (fieldAddr Tryz.underlying124 rfl nz_3 rfl rfl) <| ya (loadB (k := 102) scal_3 rfl rfl rfl) <| mv rfl <| dz k54 <| bl <| lp (τ := By × Int) (fun ⟨x55, x56⟩ => [(2, pv g2), (3, pv g3), (4, pv g4), (6, pv g29), (7, I64 x34), (8, I64 x45), (32, I64 u0), (33, I64 x34), (37, I64 v1), (38, I64 x45), (42, I64 u1), (43, I64 x56)]) (fun ⟨x55, x56⟩ => [(0, .mem M0), (102, .blk g2 124 [I64 u0, I64 u1, .slice A00_2 n00_2 c00_2]), (103, .blk g3 124 [I64 v0, I64 v1, .slice A01_2 n01_2 c01_2]), (104, .blk g4 124 [I64 (0 : Int), I64 (0 : Int), .slice none 0 0]), (125, .own 5 (Lay.sz (BitVec 8)) A26 n27 c28 (cel x55)), (129, .blk g29 124 [I64 x21.1, I64 x21.2.1, .slice A26 n27 c28])]) (fun q57 ⟨x55, x56⟩ => m_gfmatrix_Mul_l6 u0 u1 u2 v0 v1 v2 x21 x34 x45 (m_gfmatrix_Mul_l4 u0 u1 u2 v0 v1 v2 x21 x34 (m_gfmatrix_Mul_l2 u0 u1 u2 v0 v1 v2 x21 q35) q46) q57 x55 x56 = some res) ⟨x44, (0 : Int)⟩ ?_ (by simp [m_gfmatrix_Mul_l6]) ?_
      ·exact h
      rintro q57 ⟨x55, x56⟩ h _ k58
      unfold m_gfmatrix_Mul_l6 at h
      refine sr fun _ k59 => ya (lss rfl rfl) <| dz k59 <| sq fun _ k60 => cI h rfl (fun hc61 h => ?_) fun hc61 h => ?_
      ·refine ss <| k60 _ _ <| sq fun _ k62 => bl <| sr fun _ k63 => mv rfl <| ak rfl k63 <| rd [(102, _), (103, _), (104, _), (129, _)] mixed fun _ k64 => ?_
       obtain ⟨x65, hx65, h⟩ := bnd h
       obtain ⟨x66, hx66, h⟩ := bnd h
       obtain ⟨x67, hx67, h⟩ := bnd h
       obtain ⟨x68, hx68, h⟩ := bnd h
       obtain ⟨x69, hx69, h⟩ := bnd h
       obtain ⟨x71, hx71, h⟩ := bnd h
       obtain ⟨x73, hx73, h⟩ := bnd h
       obtain ⟨x75, hx75, h⟩ := bnd h
       obtain ⟨x76, hx76, h⟩ := bnd h
       obtain ⟨x77, hx77, h⟩ := bnd h
       refine du 0 rfl (loadBM (k := 129) agg_124 rfl rfl rfl) <| dm 1 rfl rfl <| dm 3 rfl rfl <| du 6 rfl (loadBM (k := 102) agg_124 rfl rfl rfl) <| dm 7 rfl rfl <| dm 8 rfl rfl <| du 10 rfl (loadBM (k := 103) agg_124 rfl rfl rfl) <| dm 11 rfl rfl <| dm 12 rfl rfl <| on 2 <| d0 rfl Tryz.func106 rfl (fun w hb hh => w_gfmatrix_Matrix_row (Mem.snap w) x21.1 x21.2.1 A26 n27 c28 x34 (SlT.slcB (RdH.sn (rO 125 rfl) w hb hh) hx66) hx65) <| WD.two 4 9 (by kernel_rfl) ?_ ?_
       ·refine dy rfl (idxC (xs := x67) sty_22 rfl rfl (RdT.slcN (rO 125 rfl) hx67) hx68) <| WD.two 5 9 (by kernel_rfl) ?_ ?_
        ·refine dy rfl (loadC0 (xs := x67) scal_5 rfl (RdT.slcN (rO 125 rfl) hx67) hx68 rfl) <| on 9 <| d0 rfl Tryz.func111 rfl (fun w hb hh => w_gfmatrix_Matrix_at (Mem.snap w) u0 u1 A00_2 n00_2 c00_2 _ (sM rfl hf00_2 w hb hh) x34 x56 hx69) <| on 13 <| d0 rfl Tryz.func111 rfl (fun w hb hh => w_gfmatrix_Matrix_at (Mem.snap w) v0 v1 A01_2 n01_2 c01_2 _ (sM rfl hf01_2 w hb hh) x56 x45 hx71) <| on 14 <| d0 rfl Tryz.func131 rfl (fun w hb hh => w_gf256_Mul (Mem.snap w) x69 x71 hx73) <| du 15 rfl (xor_u8 (a := x68) (b := x73) rfl rfl) <| on 16 <| dy rfl (idxC (xs := x75) sty_22 rfl rfl (RdT.slcN (rO 125 rfl) hx75) hx76) <| on 17 <| WS.eff0 rfl (Eff0.storeS 125 (xs := x55) (lo := x65.1) (hi := x65.2) (a' := x68 ^^^ x73) siz_5 rfl rfl rfl rfl rfl rfl hx77) (sc (sc (sc (sc sn)))) <| dd <| k64 _ _ <| bn <| tn <| k62 _ _ <| rg fun _ k78 => bd h fun x79 hx79 h => ya (addC rfl rfl hx79) <| mv rfl <| dz k78 <| tn <| kw (k58 ⟨x77, x79⟩ h)
        skip
        refine d0 rfl Tryz.func111 rfl (fun w hb hh => w_gfmatrix_Matrix_at (Mem.snap w) u0 u1 A00_2 n00_2 c00_2 _ (sM rfl hf00_2 w hb hh) x34 x56 hx69) <| WD.two 5 13 (by kernel_rfl) ?_ ?_
        ·refine dy rfl (loadC0 (xs := x67) scal_5 rfl (RdT.slcN (rO 125 rfl) hx67) hx68 rfl) <| on 13 <| d0 rfl Tryz.func111 rfl (fun w hb hh => w_gfmatrix_Matrix_at (Mem.snap w) v0 v1 A01_2 n01_2 c01_2 _ (sM rfl hf01_2 w hb hh) x56 x45 hx71) <| on 14 <| d0 rfl Tryz.func131 rfl (fun w hb hh => w_gf256_Mul (Mem.snap w) x69 x71 hx73) <| du 15 rfl (xor_u8 (a := x68) (b := x73) rfl rfl) <| on 16 <| dy rfl (idxC (xs := x75) sty_22 rfl rfl (RdT.slcN (rO 125 rfl) hx75) hx76) <| on 17 <| WS.eff0 rfl (Eff0.storeS 125 (xs := x55) (lo := x65.1) (hi := x65.2) (a' := x68 ^^^ x73) siz_5 rfl rfl rfl rfl rfl rfl hx77) (sc (sc (sc (sc sn)))) <| dd <| k64 _ _ <| bn <| tn <| k62 _ _ <| rg fun _ k80 => bd h fun x81 hx81 h => ya (addC rfl rfl hx81) <| mv rfl <| dz k80 <| tn <| kw (k58 ⟨x77, x81⟩ h)
        skip
        refine d0 rfl Tryz.func111 rfl (fun w hb hh => w_gfmatrix_Matrix_at (Mem.snap w) v0 v1 A01_2 n01_2 c01_2 _ (sM rfl hf01_2 w hb hh) x56 x45 hx71) <| WD.two 5 14 (by kernel_rfl) ?_ ?_
        ·refine dy rfl (loadC0 (xs := x67) scal_5 rfl (RdT.slcN (rO 125 rfl) hx67) hx68 rfl) <| on 14 <| d0 rfl Tryz.func131 rfl (fun w hb hh => w_gf256_Mul (Mem.snap w) x69 x71 hx73) <| du 15 rfl (xor_u8 (a := x68) (b := x73) rfl rfl) <| on 16 <| dy rfl (idxC (xs := x75) sty_22 rfl rfl (RdT.slcN (rO 125 rfl) hx75) hx76) <| on 17 <| WS.eff0 rfl (Eff0.storeS 125 (xs := x55) (lo := x65.1) (hi := x65.2) (a' := x68 ^^^ x73) siz_5 rfl rfl rfl rfl rfl rfl hx77) (sc (sc (sc (sc sn)))) <| dd <| k64 _ _ <| bn <| tn <| k62 _ _ <| rg fun _ k82 => bd h fun x83 hx83 h => ya (addC rfl rfl hx83) <| mv rfl <| dz k82 <| tn <| kw (k58 ⟨x77, x83⟩ h)
        skip
        refine d0 rfl Tryz.func131 rfl (fun w hb hh => w_gf256_Mul (Mem.snap w) x69 x71 hx73) <| on 5 <| dy rfl (loadC0 (xs := x67) scal_5 rfl (RdT.slcN (rO 125 rfl) hx67) hx68 rfl) <| du 15 rfl (xor_u8 (a := x68) (b := x73) rfl rfl) <| on 16 <| dy rfl (idxC (xs := x75) sty_22 rfl rfl (RdT.slcN (rO 125 rfl) hx75) hx76) <| on 17 <| WS.eff0 rfl (Eff0.storeS 125 (xs := x55) (lo := x65.1) (hi := x65.2) (a' := x68 ^^^ x73) siz_5 rfl rfl rfl rfl rfl rfl hx77) (sc (sc (sc (sc sn)))) <| dd <| k64 _ _ <| bn <| tn <| k62 _ _ <| rg fun _ k84 => bd h fun x85 hx85 h => ya (addC rfl rfl hx85) <| mv rfl <| dz k84 <| tn <| kw (k58 ⟨x77, x85⟩ h)
       skip
       refine d0 rfl Tryz.func111 rfl (fun w hb hh => w_gfmatrix_Matrix_at (Mem.snap w) u0 u1 A00_2 n00_2 c00_2 _ (sM rfl hf00_2 w hb hh) x34 x56 hx69) <| WD.two 4 13 (by kernel_rfl) ?_ ?_
       ·refine dy rfl (idxC (xs := x67) sty_22 rfl rfl (RdT.slcN (rO 125 rfl) hx67) hx68) <| WD.two 5 13 (by kernel_rfl) ?_ ?_
        ·refine dy rfl (loadC0 (xs := x67) scal_5 rfl (RdT.slcN (rO 125 rfl) hx67) hx68 rfl) <| on 13 <| d0 rfl Tryz.func111 rfl (fun w hb hh => w_gfmatrix_Matrix_at (Mem.snap w) v0 v1 A01_2 n01_2 c01_2 _ (sM rfl hf01_2 w hb hh) x56 x45 hx71) <| on 14 <| d0 rfl Tryz.func131 rfl (fun w hb hh => w_gf256_Mul (Mem.snap w) x69 x71 hx73) <| du 15 rfl (xor_u8 (a := x68) (b := x73) rfl rfl) <| on 16 <| dy rfl (idxC (xs := x75) sty_22 rfl rfl (RdT.slcN (rO 125 rfl) hx75) hx76) <| on 17 <| WS.eff0 rfl (Eff0.storeS 125 (xs := x55) (lo := x65.1) (hi := x65.2) (a' := x68 ^^^ x73) siz_5 rfl rfl rfl rfl rfl rfl hx77) (sc (sc (sc (sc sn)))) <| dd <| k64 _ _ <| bn <| tn <| k62 _ _ <| rg fun _ k86 => bd h fun x87 hx87 h => ya (addC rfl rfl hx87) <| mv rfl <| dz k86 <| tn <| kw (k58 ⟨x77, x87⟩ h)
        skip
        refine d0 rfl Tryz.func111 rfl (fun w hb hh => w_gfmatrix_Matrix_at (Mem.snap w) v0 v1 A01_2 n01_2 c01_2 _ (sM rfl hf01_2 w hb hh) x56 x45 hx71) <| WD.two 5 14 (by kernel_rfl) ?_ ?_
        ·refine dy rfl (loadC0 (xs := x67) scal_5 rfl (RdT.slcN (rO 125 rfl) hx67) hx68 rfl) <| on 14 <| d0 rfl Tryz.func131 rfl (fun w hb hh => w_gf256_Mul (Mem.snap w) x69 x71 hx73) <| du 15 rfl (xor_u8 (a := x68) (b := x73) rfl rfl) <| on 16 <| dy rfl (idxC (xs := x75) sty_22 rfl rfl (RdT.slcN (rO 125 rfl) hx75) hx76) <| on 17 <| WS.eff0 rfl (Eff0.storeS 125 (xs := x55) (lo := x65.1) (hi := x65.2) (a' := x68 ^^^ x73) siz_5 rfl rfl rfl rfl rfl rfl hx77) (sc (sc (sc (sc sn)))) <| dd <| k64 _ _ <| bn <| tn <| k62 _ _ <| rg fun _ k88 => bd h fun x89 hx89 h => ya (addC rfl rfl hx89) <| mv rfl <| dz k88 <| tn <| kw (k58 ⟨x77, x89⟩ h)
        skip
        refine d0 rfl Tryz.func131 rfl (fun w hb hh => w_gf256_Mul (Mem.snap w) x69 x71 hx73) <| on 5 <| dy rfl (loadC0 (xs := x67) scal_5 rfl (RdT.slcN (rO 125 rfl) hx67) hx68 rfl) <| du 15 rfl (xor_u8 (a := x68) (b := x73) rfl rfl) <| on 16 <| dy rfl (idxC (xs := x75) sty_22 rfl rfl (RdT.slcN (rO 125 rfl) hx75) hx76) <| on 17 <| WS.eff0 rfl (Eff0.storeS 125 (xs := x55) (lo := x65.1) (hi := x65.2) (a' := x68 ^^^ x73) siz_5 rfl rfl rfl rfl rfl rfl hx77) (sc (sc (sc (sc sn)))) <| dd <| k64 _ _ <| bn <| tn <| k62 _ _ <| rg fun _ k90 => bd h fun x91 hx91 h => ya (addC rfl rfl hx91) <| mv rfl <| dz k90 <| tn <| kw (k58 ⟨x77, x91⟩ h)
       skip
       refine d0 rfl Tryz.func111 rfl (fun w hb hh => w_gfmatrix_Matrix_at (Mem.snap w) v0 v1 A01_2 n01_2 c01_2 _ (sM rfl hf01_2 w hb hh) x56 x45 hx71) <| WD.two 4 14 (by kernel_rfl) ?_ ?_
       ·refine dy rfl (idxC (xs := x67) sty_22 rfl rfl (RdT.slcN (rO 125 rfl) hx67) hx68) <| WD.two 5 14 (by kernel_rfl) ?_ ?_
        ·refine dy rfl (loadC0 (xs := x67) scal_5 rfl (RdT.slcN (rO 125 rfl) hx67) hx68 rfl) <| on 14 <| d0 rfl Tryz.func131 rfl (fun w hb hh => w_gf256_Mul (Mem.snap w) x69 x71 hx73) <| du 15 rfl (xor_u8 (a := x68) (b := x73) rfl rfl) <| on 16 <| dy rfl (idxC (xs := x75) sty_22 rfl rfl (RdT.slcN (rO 125 rfl) hx75) hx76) <| on 17 <| WS.eff0 rfl (Eff0.storeS 125 (xs := x55) (lo := x65.1) (hi := x65.2) (a' := x68 ^^^ x73) siz_5 rfl rfl rfl rfl rfl rfl hx77) (sc (sc (sc (sc sn)))) <| dd <| k64 _ _ <| bn <| tn <| k62 _ _ <| rg fun _ k92 => bd h fun x93 hx93 h => ya (addC rfl rfl hx93) <| mv rfl <| dz k92 <| tn <| kw (k58 ⟨x77, x93⟩ h)
        skip
        refine d0 rfl Tryz.func131 rfl (fun w hb hh => w_gf256_Mul (Mem.snap w) x69 x71 hx73) <| on 5 <| dy rfl (loadC0 (xs := x67) scal_5 rfl (RdT.slcN (rO 125 rfl) hx67) hx68 rfl) <| du 15 rfl (xor_u8 (a := x68) (b := x73) rfl rfl) <| on 16 <| dy rfl (idxC (xs := x75) sty_22 rfl rfl (RdT.slcN (rO 125 rfl) hx75) hx76) <| on 17 <| WS.eff0 rfl (Eff0.storeS 125 (xs := x55) (lo := x65.1) (hi := x65.2) (a' := x68 ^^^ x73) siz_5 rfl rfl rfl rfl rfl rfl hx77) (sc (sc (sc (sc sn)))) <| dd <| k64 _ _ <| bn <| tn <| k62 _ _ <| rg fun _ k94 => bd h fun x95 hx95 h => ya (addC rfl rfl hx95) <| mv rfl <| dz k94 <| tn <| kw (k58 ⟨x77, x95⟩ h)
       skip
       refine d0 rfl Tryz.func131 rfl (fun w hb hh => w_gf256_Mul (Mem.snap w) x69 x71 hx73) <| on 4 <| dy rfl (idxC (xs := x67) sty_22 rfl rfl (RdT.slcN (rO 125 rfl) hx67) hx68) <| on 5 <| dy rfl (loadC0 (xs := x67) scal_5 rfl (RdT.slcN (rO 125 rfl) hx67) hx68 rfl) <| du 15 rfl (xor_u8 (a := x68) (b := x73) rfl rfl) <| on 16 <| dy rfl (idxC (xs := x75) sty_22 rfl rfl (RdT.slcN (rO 125 rfl) hx75) hx76) <| on 17 <| WS.eff0 rfl (Eff0.storeS 125 (xs := x55) (lo := x65.1) (hi := x65.2) (a' := x68 ^^^ x73) siz_5 rfl rfl rfl rfl rfl rfl hx77) (sc (sc (sc (sc sn)))) <| dd <| k64 _ _ <| bn <| tn <| k62 _ _ <| rg fun _ k96 => bd h fun x97 hx97 h => ya (addC rfl rfl hx97) <| mv rfl <| dz k96 <| tn <| kw (k58 ⟨x77, x97⟩ h)
      exact xi <| te <| te <| bx <| bn <| tn <| kw (k52 x55 h)
     rintro x51 h
     unfold m_gfmatrix_Mul_j5 at h
     refine rg fun _ k98 => bd h fun x99 hx99 h => ya (addC rfl rfl hx99) <| mv rfl <| dz k98 <| tn <| kw (k47 ⟨x51, x99⟩ h)
    exact xi <| te <| te <| bx <| bn <| tn <| kw (k41 x44 h)
   rintro x40 h
   unfold m_gfmatrix_Mul_j3 at h
   refine rg fun _ k100 => bd h fun x101 hx101 h => ya (addC rfl rfl hx101) <| mv rfl <| dz k100 <| tn <| kw (k36 ⟨x40, x101⟩ h)
  exact xi <| te <| te <| bx <| tn <| kw (k31 x33 h)
 rintro x30 h
 unfold m_gfmatrix_Mul_j1 at h
 refine sr fun _ k102 => ya (loadBM (k := 129) agg_124 rfl rfl rfl) <| sb 104 agg_124 rfl rfl rfl <| ak rfl k102 <| re ?_
 obtain rfl := si h
 exact rt [125] (ResIs.cellTmpM (k := 104) rfl agg_124 rfl rfl rfl rfl) (Ext.refl _ _) ⟨A26, n27, c28, rfl, rfl⟩
theorem w_gfmatrix_Pick (M0 : Mem) (u0 u1 : Int) (A00_2 : Option Addr) (n00_2 c00_2 : Nat) (u2 : By) (hf00_2 : SlT M0 A00_2 n00_2 c00_2 u2) (A01 : Option Addr) (n01 c01 : Nat) (x01 : List Int) (hf01 : SlT M0 A01 n01 c01 x01) {res : Int × Int × By × Int} (h : m_gfmatrix_Pick u0 u1 u2 x01 = some res) :
  Fn Tryz.prog 77 #[.agg ([I64 u0, I64 u1, .slice A00_2 n00_2 c00_2] : List Value).toArray, .slice A01 n01 c01] M0 fun r M' es => ∃ (A1 : Option Addr) (n1 c1 : Nat), r = .tuple #[.agg ([I64 res.1, I64 res.2.1, .slice A1 n1 c1] : List Value).toArray, I64 res.2.2.2] /\ es = [.own 5 (Lay.sz (BitVec 8)) A1 n1 c1 (cel res.2.2.1)] := by
 refine Fn.intro (N := 48) Tryz.func77 rfl rfl (nle rfl) fun w0 => ?_
 unfold m_gfmatrix_Pick at h
 refine sr fun _ k1 => bb 102 [I64 u0, I64 u1, .slice A00_2 n00_2 c00_2] rfl fun g2 => al 103 zr_124 fun g3 => ak rfl k1 <| ct (σ := Unit) (fun _ => [(1, .slice A01 n01 c01), (2, pv g2), (4, pv g3)]) (fun _ => [(0, .mem M0), (102, .blk g2 124 [I64 u0, I64 u1, .slice A00_2 n00_2 c00_2]), (103, .blk g3 124 [I64 (0 : Int), I64 (0 : Int), .slice none 0 0])]) (fun _ => m_gfmatrix_Pick_j0 u0 u1 u2 x01 = some res) (fun _ k4 => ?_) ?_
 ·refine sr fun _ k5 => bd h fun x6 hx6 h => ya (loadBM (k := 102) agg_124 rfl rfl rfl) <| c0 Tryz.func104 rfl (fun w hb hh => w_gfmatrix_Valid (Mem.snap w) u0 u1 A00_2 n00_2 c00_2 _ (sM rfl hf00_2 w hb hh) hx6) <| ya (notB rfl) <| mv rfl <| spn h not_f (fun q => not_t (Bool.eq_false_iff.2 q)) (fun hc8 h => ?_) fun hc8 h => ?_
  ·obtain ⟨x9, hx9, h⟩ := bnd h
   refine mvg rfl <| yg (lenC (xs := x01) und_45 rfl (mM rfl hf01)) <| c0g Tryz.func105 rfl (fun w hb hh => w_gfmatrix_mayHave (Mem.snap w) (x01.length : Int) hx9) <| yg (notB rfl) <| pf rfl rfl <| dz k5 <| cnn h rfl not_f (fun q => not_t (Bool.eq_false_iff.2 q)) (fun hc11 h => ?_) fun hc11 h => ?_
   ·exact WC.skip <| tn <| kw (k4 () h)
   refine sr fun _ k12 => ya (build rfl (bu_124_)) <| sb 103 agg_124 rfl rfl rfl <| ak rfl k12 <| re <| tr <| QK.nilOwn 113 5 (Lay.sz (BitVec 8)) none ?_
   obtain rfl := si h
   exact rt [113] (ResIs.cellTmpM (k := 103) rfl agg_124 rfl rfl rfl rfl) (Ext.refl _ _) ⟨none, 0, 0, rfl, rfl⟩
  refine sk <| sk <| sk <| sk <| pt rfl rfl <| dz k5 <| cdT rfl <| sr fun _ k14 => ya (build rfl (bu_124_)) <| sb 103 agg_124 rfl rfl rfl <| ak rfl k14 <| re <| tr <| QK.nilOwn 115 5 (Lay.sz (BitVec 8)) none ?_
  obtain rfl := si h
  exact rt [115] (ResIs.cellTmpM (k := 103) rfl agg_124 rfl rfl rfl rfl) (Ext.refl _ _) ⟨none, 0, 0, rfl, rfl⟩
 rintro _ h
 unfold m_gfmatrix_Pick_j0 at h
 refine sr fun _ k16 => mv rfl <| ya (lenC (xs := x01) und_45 rfl (mM rfl hf01)) <| ya (fieldAddr Tryz.underlying124 rfl nz_3 rfl rfl) <| ya (loadB (k := 102) scal_3 rfl rfl rfl) <| ya (build rfl (bu_124_0_1 (x01.length : Int) u1)) <| al 117 zr_124 fun g17 => sb 117 agg_124 rfl rfl rfl <| dz k16 <| ct (σ := (Option Addr) × Nat × Nat × By) (fun ⟨A20, n21, c22, x23⟩ => [(4, pv g3), (6, pv g17)]) (fun ⟨A20, n21, c22, x23⟩ => [(0, .mem M0), (103, .blk g3 124 [I64 (0 : Int), I64 (0 : Int), .slice none 0 0]), (117, .blk g17 124 [I64 (x01.length : Int), I64 u1, .slice A20 n21 c22]), (119, .own 5 (Lay.sz (BitVec 8)) A20 n21 c22 (cel x23))]) (fun ⟨A20, n21, c22, x23⟩ => m_gfmatrix_Pick_j1 u1 x01 x23 = some res) (fun _ k24 => ?_) ?_
 ·refine sr fun _ k25 => mv rfl <| ya (lenC (xs := x01) und_45 rfl (mM rfl hf01)) <| mv rfl <| dz k25 <| bl <| WC.nilOwn 127 5 (Lay.sz (BitVec 8)) none <| lp (τ := (Option Addr) × Nat × Nat × By × Int) (fun ⟨A28, n29, c30, x31, x32⟩ => [(2, pv g2), (4, pv g3), (6, pv g17), (24, .slice A01 n01 c01), (25, I64 (x01.length : Int)), (26, I64 x32)]) (fun ⟨A28, n29, c30, x31, x32⟩ => [(0, .mem M0), (102, .blk g2 124 [I64 u0, I64 u1, .slice A00_2 n00_2 c00_2]), (103, .blk g3 124 [I64 (0 : Int), I64 (0 : Int), .slice none 0 0]), (117, .blk g17 124 [I64 (x01.length : Int), I64 u1, .slice A28 n29 c30]), (127, .own 5 (Lay.sz (BitVec 8)) A28 n29 c30 (cel x31))]) (fun q33 ⟨A28, n29, c30, x31, x32⟩ => m_gfmatrix_Pick_l2 u0 u1 u2 x01 q33 x31 x32 = some res) ⟨none, 0, 0, ([] : By), (0 : Int)⟩ ?_ (by simp [m_gfmatrix_Pick_l2]) ?_
  ·exact h
  rintro q33 ⟨A28, n29, c30, x31, x32⟩ h _ k34
  unfold m_gfmatrix_Pick_l2 at h
  refine sr fun _ k35 => ya (lss rfl rfl) <| dz k35 <| sq fun _ k36 => cI h rfl (fun hc37 h => ?_) fun hc37 h => ?_
  ·refine ss <| k36 _ _ <| sq fun _ k38 => bl <| sr fun _ k39 => bd h fun x40 hx40 h => ya (idxC (xs := x01) sty_45 rfl rfl (mM rfl hf01) hx40) <| ya (loadC0 (xs := x01) scal_3 rfl (mM rfl hf01) hx40 rfl) <| ak rfl k39 <| sq fun _ k41 => sr fun _ k42 => mv rfl <| ya (lss rfl rfl) <| mv rfl <| spl h decide_eq_true decide_eq_false (fun hc43 h => ?_) fun hc43 h => ?_
   ·refine sk <| sk <| sk <| sk <| pt rfl rfl <| dz k42 <| cdT rfl <| sr fun _ k44 => ya (build rfl (bu_124_)) <| sb 103 agg_124 rfl rfl rfl <| ak rfl k44 <| re <| tr <| br <| tr <| tr <| br <| tr <| QK.nilOwn 145 5 (Lay.sz (BitVec 8)) none ?_
    obtain rfl := si h
    exact rt [145] (ResIs.cellTmpM (k := 103) rfl agg_124 rfl rfl rfl rfl) (Ext.refl _ _) ⟨none, 0, 0, rfl, rfl⟩
   refine mvg rfl <| yg (fieldAddr Tryz.underlying124 rfl nz_3 rfl rfl) <| yg (loadB (k := 102) scal_3 rfl rfl rfl) <| yg (geq rfl rfl) <| pf rfl rfl <| dz k42 <| cI h rfl (fun hc46 h => ?_) fun hc46 h => ?_
   ·refine sr fun _ k47 => ya (build rfl (bu_124_)) <| sb 103 agg_124 rfl rfl rfl <| ak rfl k47 <| re <| tr <| br <| tr <| tr <| br <| tr <| QK.nilOwn 148 5 (Lay.sz (BitVec 8)) none ?_
    obtain rfl := si h
    exact rt [148] (ResIs.cellTmpM (k := 103) rfl agg_124 rfl rfl rfl rfl) (Ext.refl _ _) ⟨none, 0, 0, rfl, rfl⟩
   refine ss <| k41 _ _ <| rd [(102, _), (103, _)] mixed fun _ k49 => ?_
   obtain ⟨x50, hx50, h⟩ := bnd h
   obtain ⟨x51, hx51, h⟩ := bnd h
   obtain ⟨x52, hx52, h⟩ := bnd h
   refine du 0 rfl (fieldAddr Tryz.underlying124 rfl nz_22 rfl rfl) <| du 2 rfl (loadBM (k := 102) agg_124 rfl rfl rfl) <| dm 3 rfl rfl <| WD.two 1 4 (by kernel_rfl) ?_ ?_
   ·refine dy rfl (loadB (k := 117) scal_22 rfl rfl rfl) <| on 4 <| d0 rfl Tryz.func106 rfl (fun w hb hh => w_gfmatrix_Matrix_row (Mem.snap w) u0 u1 A00_2 n00_2 c00_2 x40 (SlT.slcB (sM rfl hf00_2 w hb hh) hx51) hx50) <| on 5 <| WS.eff rfl (by decide) (Eff.appendC 127 (xs := x31) (ys := x51) sty_22 rfl rfl rfl (RdT.slcN (mM rfl hf00_2) hx51) hx52) ?_
    rintro _ _ ⟨A53, c54, rfl, rfl⟩
    refine aq ?_
    refine du 6 rfl (fieldAddr Tryz.underlying124 rfl nz_22 rfl rfl) <| on 7 <| WS.eff0 rfl (Eff0.storeB 117 siz_22 rfl rfl rfl rfl (nle rfl)) (sc (sc sn)) <| dd <| k49 _ _ <| bn <| tn <| k38 _ _ <| rg fun _ k55 => bd h fun x56 hx56 h => ya (addC rfl rfl hx56) <| mv rfl <| dz k55 <| tn <| kw (k34 ⟨A53, x52.length, c54, x52, x56⟩ h)
   skip
   refine d0 rfl Tryz.func106 rfl (fun w hb hh => w_gfmatrix_Matrix_row (Mem.snap w) u0 u1 A00_2 n00_2 c00_2 x40 (SlT.slcB (sM rfl hf00_2 w hb hh) hx51) hx50) <| on 1 <| dy rfl (loadB (k := 117) scal_22 rfl rfl rfl) <| on 5 <| WS.eff rfl (by decide) (Eff.appendC 127 (xs := x31) (ys := x51) sty_22 rfl rfl rfl (RdT.slcN (mM rfl hf00_2) hx51) hx52) ?_
   rintro _ _ ⟨A53, c54, rfl, rfl⟩
   refine aq ?_
   refine du 6 rfl (fieldAddr Tryz.underlying124 rfl nz_22 rfl rfl) <| on 7 <| WS.eff0 rfl (Eff0.storeB 117 siz_22 rfl rfl rfl rfl (nle rfl)) (sc (sc sn)) <| dd <| k49 _ _ <| bn <| tn <| k38 _ _ <| rg fun _ k57 => bd h fun x58 hx58 h => ya (addC rfl rfl hx58) <| mv rfl <| dz k57 <| tn <| kw (k34 ⟨A53, x52.length, c54, x52, x58⟩ h)
  exact xi <| te <| te <| bx <| tn <| KK.move 127 119 rfl rfl <| kw (k24 ⟨A28, n29, c30, x31⟩ h)
 rintro ⟨A20, n21, c22, x23⟩ h
 unfold m_gfmatrix_Pick_j1 at h
 refine sr fun _ k59 => ya (loadBM (k := 117) agg_124 rfl rfl rfl) <| sb 103 agg_124 rfl rfl rfl <| ak rfl k59 <| re ?_
 obtain rfl := si h
 exact rt [119] (ResIs.cellTmpM (k := 103) rfl agg_124 rfl rfl rfl rfl) (Ext.refl _ _) ⟨A20, n21, c22, rfl, rfl⟩
theorem w_gfmatrix_scale (A : Option Addr) (n c : Nat) (x0c : By) (x00lo x00hi : Int) (x01 : BitVec 8) {res : By} (h : m_gfmatrix_scale x0c x00lo x00hi x01 = some res) :
  Mut Tryz.prog 129 #[.slice (subA A c (x00lo).toNat (Lay.sz (BitVec 8))) ((x00hi).toNat - (x00lo).toNat) (c - (x00lo).toNat), U8 x01] 5 (Lay.sz (BitVec 8)) A n c (cel x0c) fun r ds => r = .tuple #[] /\ ds = cel res := by
 refine Mut.intro (N := 20) Tryz.func129 rfl rfl (nle rfl) fun w0 e0 => ?_
 unfold m_gfmatrix_scale at h
 refine sr fun _ k1 => bd h fun x2 hx2 h => mv rfl <| ya (lenC (xs := x2) und_22 rfl (RdT.slcN (rO 2 rfl) hx2)) <| mv rfl <| dz k1 <| bl <| lp (τ := By × Int) (fun ⟨x3, x4⟩ => [(0, .slice (subA A c (x00lo).toNat (Lay.sz (BitVec 8))) ((x00hi).toNat - (x00lo).toNat) (c - (x00lo).toNat)), (1, U8 x01), (6, .slice (subA A c (x00lo).toNat (Lay.sz (BitVec 8))) ((x00hi).toNat - (x00lo).toNat) (c - (x00lo).toNat)), (7, I64 (x2.length : Int)), (8, I64 x4)]) (fun ⟨x3, x4⟩ => [(1, e0), (2, .own 5 (Lay.sz (BitVec 8)) A n c (cel x3))]) (fun q5 ⟨x3, x4⟩ => m_gfmatrix_scale_l0 x00hi x00lo x01 x2 q5 x3 x4 = some res) ⟨x0c, (0 : Int)⟩ ?_ (by simp [m_gfmatrix_scale_l0]) ?_
 ·exact h
 rintro q5 ⟨x3, x4⟩ h _ k6
 unfold m_gfmatrix_scale_l0 at h
 refine sr fun _ k7 => ya (lss rfl rfl) <| dz k7 <| sq fun _ k8 => cI h rfl (fun hc9 h => ?_) fun hc9 h => ?_
 ·refine ss <| k8 _ _ <| sq fun _ k10 => bl <| sr fun _ k11 => ?_
  obtain ⟨x12, hx12, h⟩ := bnd h
  obtain ⟨x13, hx13, h⟩ := bnd h
  refine mv rfl <| ya (idxC (xs := x12) sty_22 rfl rfl (RdT.slcN (rO 2 rfl) hx12) hx13) <| ya (loadC0 (xs := x12) scal_5 rfl (RdT.slcN (rO 2 rfl) hx12) hx13 rfl) <| asn rfl <| ak rfl k11 <| rg fun _ k14 => ?_
  obtain ⟨x15, hx15, h⟩ := bnd h
  obtain ⟨x17, hx17, h⟩ := bnd h
  obtain ⟨x18, hx18, h⟩ := bnd h
  obtain ⟨x19, hx19, h⟩ := bnd h
  refine mv rfl <| mv rfl <| mv rfl <| mv rfl <| c0 Tryz.func131 rfl (fun w hb hh => w_gf256_Mul (Mem.snap w) x13 x01 hx15) <| ya (idxC (xs := x17) sty_22 rfl rfl (RdT.slcN (rO 2 rfl) hx17) hx18) <| WL.eff0 (Eff0.storeS 2 (xs := x3) (lo := x00lo) (hi := x00hi) (a' := x15) siz_5 rfl rfl rfl rfl rfl rfl hx19) <| dz k14 <| bn <| tn <| k10 _ _ <| rg fun _ k20 => bd h fun x21 hx21 h => ya (addC rfl rfl hx21) <| mv rfl <| dz k20 <| tn <| kw (k6 ⟨x19, x21⟩ h)
 refine xi <| te <| te <| bx ?_
 obtain rfl := si h
 exact Ret.mut (ResIs.zero rfl) (sc (sc sn)) ⟨rfl, rfl⟩
theorem w_gfmatrix_add (A : Option Addr) (n c : Nat) (x0c : By) (x00lo x00hi x01lo x01hi : Int) (x02 : BitVec 8) {res : By} (h : m_gfmatrix_add x0c x00lo x00hi x01lo x01hi x02 = some res) :
  Mut Tryz.prog 130 #[.slice (subA A c (x00lo).toNat (Lay.sz (BitVec 8))) ((x00hi).toNat - (x00lo).toNat) (c - (x00lo).toNat), .slice (subA A c (x01lo).toNat (Lay.sz (BitVec 8))) ((x01hi).toNat - (x01lo).toNat) (c - (x01lo).toNat), U8 x02] 5 (Lay.sz (BitVec 8)) A n c (cel x0c) fun r ds => r = .tuple #[] /\ ds = cel res := by
 refine Mut.intro (N := 25) Tryz.func130 rfl rfl (nle rfl) fun w0 e0 => ?_
 unfold m_gfmatrix_add at h
 refine sr fun _ k1 => bd h fun x2 hx2 h => mv rfl <| ya (lenC (xs := x2) und_22 rfl (RdT.slcN (rO 2 rfl) hx2)) <| mv rfl <| dz k1 <| bl <| lp (τ := By × Int) (fun ⟨x3, x4⟩ => [(0, .slice (subA A c (x00lo).toNat (Lay.sz (BitVec 8))) ((x00hi).toNat - (x00lo).toNat) (c - (x00lo).toNat)), (2, U8 x02), (8, .slice (subA A c (x01lo).toNat (Lay.sz (BitVec 8))) ((x01hi).toNat - (x01lo).toNat) (c - (x01lo).toNat)), (9, I64 (x2.length : Int)), (10, I64 x4)]) (fun ⟨x3, x4⟩ => [(1, e0), (2, .own 5 (Lay.sz (BitVec 8)) A n c (cel x3))]) (fun q5 ⟨x3, x4⟩ => m_gfmatrix_add_l0 x00hi x00lo x01hi x01lo x02 x2 q5 x3 x4 = some res) ⟨x0c, (0 : Int)⟩ ?_ (by simp [m_gfmatrix_add_l0]) ?_
 ·exact h
 rintro q5 ⟨x3, x4⟩ h _ k6
 unfold m_gfmatrix_add_l0 at h
 refine sr fun _ k7 => ya (lss rfl rfl) <| dz k7 <| sq fun _ k8 => cI h rfl (fun hc9 h => ?_) fun hc9 h => ?_
 ·refine ss <| k8 _ _ <| sq fun _ k10 => bl <| sr fun _ k11 => ?_
  obtain ⟨x12, hx12, h⟩ := bnd h
  obtain ⟨x13, hx13, h⟩ := bnd h
  refine mv rfl <| ya (idxC (xs := x12) sty_22 rfl rfl (RdT.slcN (rO 2 rfl) hx12) hx13) <| ya (loadC0 (xs := x12) scal_5 rfl (RdT.slcN (rO 2 rfl) hx12) hx13 rfl) <| asn rfl <| ak rfl k11 <| rd [(1, _)] mixed fun _ k14 => ?_
  obtain ⟨x15, hx15, h⟩ := bnd h
  obtain ⟨x16, hx16, h⟩ := bnd h
  obtain ⟨x17, hx17, h⟩ := bnd h
  obtain ⟨x19, hx19, h⟩ := bnd h
  obtain ⟨x20, hx20, h⟩ := bnd h
  obtain ⟨x21, hx21, h⟩ := bnd h
  refine dm 0 rfl rfl <| dm 1 rfl rfl <| dm 4 rfl rfl <| dm 5 rfl rfl <| WD.two 2 6 (by kernel_rfl) ?_ ?_
  ·refine dy rfl (idxC (xs := x15) sty_22 rfl rfl (RdT.slcN (rO 2 rfl) hx15) hx16) <| WD.two 3 6 (by kernel_rfl) ?_ ?_
   ·refine dy rfl (loadC0 (xs := x15) scal_5 rfl (RdT.slcN (rO 2 rfl) hx15) hx16 rfl) <| on 6 <| d0 rfl Tryz.func131 rfl (fun w hb hh => w_gf256_Mul (Mem.snap w) x13 x02 hx17) <| du 7 rfl (xor_u8 (a := x16) (b := x17) rfl rfl) <| on 8 <| dy rfl (idxC (xs := x19) sty_22 rfl rfl (RdT.slcN (rO 2 rfl) hx19) hx20) <| on 9 <| WS.eff0 rfl (Eff0.storeS 2 (xs := x3) (lo := x00lo) (hi := x00hi) (a' := x16 ^^^ x17) siz_5 rfl rfl rfl rfl rfl rfl hx21) (sc sn) <| dd <| k14 _ _ <| bn <| tn <| k10 _ _ <| rg fun _ k22 => bd h fun x23 hx23 h => ya (addC rfl rfl hx23) <| mv rfl <| dz k22 <| tn <| kw (k6 ⟨x21, x23⟩ h)
   skip
   refine d0 rfl Tryz.func131 rfl (fun w hb hh => w_gf256_Mul (Mem.snap w) x13 x02 hx17) <| on 3 <| dy rfl (loadC0 (xs := x15) scal_5 rfl (RdT.slcN (rO 2 rfl) hx15) hx16 rfl) <| du 7 rfl (xor_u8 (a := x16) (b := x17) rfl rfl) <| on 8 <| dy rfl (idxC (xs := x19) sty_22 rfl rfl (RdT.slcN (rO 2 rfl) hx19) hx20) <| on 9 <| WS.eff0 rfl (Eff0.storeS 2 (xs := x3) (lo := x00lo) (hi := x00hi) (a' := x16 ^^^ x17) siz_5 rfl rfl rfl rfl rfl rfl hx21) (sc sn) <| dd <| k14 _ _ <| bn <| tn <| k10 _ _ <| rg fun _ k24 => bd h fun x25 hx25 h => ya (addC rfl rfl hx25) <| mv rfl <| dz k24 <| tn <| kw (k6 ⟨x21, x25⟩ h)
  skip
  refine d0 rfl Tryz.func131 rfl (fun w hb hh => w_gf256_Mul (Mem.snap w) x13 x02 hx17) <| on 2 <| dy rfl (idxC (xs := x15) sty_22 rfl rfl (RdT.slcN (rO 2 rfl) hx15) hx16) <| on 3 <| dy rfl (loadC0 (xs := x15) scal_5 rfl (RdT.slcN (rO 2 rfl) hx15) hx16 rfl) <| du 7 rfl (xor_u8 (a := x16) (b := x17) rfl rfl) <| on 8 <| dy rfl (idxC (xs := x19) sty_22 rfl rfl (RdT.slcN (rO 2 rfl) hx19) hx20) <| on 9 <| WS.eff0 rfl (Eff0.storeS 2 (xs := x3) (lo := x00lo) (hi := x00hi) (a' := x16 ^^^ x17) siz_5 rfl rfl rfl rfl rfl rfl hx21) (sc sn) <| dd <| k14 _ _ <| bn <| tn <| k10 _ _ <| rg fun _ k26 => bd h fun x27 hx27 h => ya (addC rfl rfl hx27) <| mv rfl <| dz k26 <| tn <| kw (k6 ⟨x21, x27⟩ h)
 refine xi <| te <| te <| bx ?_
 obtain rfl := si h
 exact Ret.mut (ResIs.zero rfl) (sc (sc sn)) ⟨rfl, rfl⟩
theorem w_gfmatrix_Matrix_swap (A : Option Addr) (n c : Nat) (x0c : By) (u0 u1 x01 x02 : Int) {res : By} (h : m_gfmatrix_Matrix_swap x0c u0 u1 x01 x02 = some res) :
  Mut Tryz.prog 128 #[.agg ([I64 u0, I64 u1, .slice A n c] : List Value).toArray, I64 x01, I64 x02] 5 (Lay.sz (BitVec 8)) A n c (cel x0c) fun r ds => r = .tuple #[] /\ ds = cel res := by
 refine Mut.intro (N := 35) Tryz.func128 rfl rfl (nle rfl) fun w0 e0 => ?_
 unfold m_gfmatrix_Matrix_swap at h
 refine sr fun _ k1 => bb 102 [I64 u0, I64 u1, .slice A n c] rfl fun g2 => dz k1 <| sd [(1, _), (102, _)] mixed fun _ k3 => ?_
 obtain ⟨x4, hx4, h⟩ := bnd h
 obtain ⟨x5, hx5, h⟩ := bnd h
 obtain ⟨x6, hx6, h⟩ := bnd h
 obtain ⟨x7, hx7, h⟩ := bnd h
 refine du 0 rfl (loadBM (k := 102) agg_124 rfl rfl rfl) <| dm 1 rfl rfl <| du 3 rfl (loadBM (k := 102) agg_124 rfl rfl rfl) <| dm 4 rfl rfl <| on 2 <| d0 rfl Tryz.func106 rfl (fun w hb hh => w_gfmatrix_Matrix_row (Mem.snap w) u0 u1 A n c x01 (SlT.slcB (RdH.sn (rO 2 rfl) w hb hh) hx5) hx4) <| on 5 <| d0 rfl Tryz.func106 rfl (fun w hb hh => w_gfmatrix_Matrix_row (Mem.snap w) u0 u1 A n c x02 (SlT.slcB (RdH.sn (rO 2 rfl) w hb hh) hx7) hx6) <| du 6 rfl (Yld.assign rfl) <| du 7 rfl (Yld.assign rfl) <| dd <| k3 _ _ <| sr fun _ k8 => bd h fun x9 hx9 h => mv rfl <| ya (lenC (xs := x9) und_22 rfl (RdT.slcN (rO 2 rfl) hx9)) <| mv rfl <| dz k8 <| bl <| lp (τ := By × Int) (fun ⟨x10, x11⟩ => [(6, .slice (subA A c (x4.1).toNat (Lay.sz (BitVec 8))) ((x4.2).toNat - (x4.1).toNat) (c - (x4.1).toNat)), (7, .slice (subA A c (x6.1).toNat (Lay.sz (BitVec 8))) ((x6.2).toNat - (x6.1).toNat) (c - (x6.1).toNat)), (16, I64 (x9.length : Int)), (17, I64 x11)]) (fun ⟨x10, x11⟩ => [(1, e0), (2, .own 5 (Lay.sz (BitVec 8)) A n c (cel x10))]) (fun q12 ⟨x10, x11⟩ => m_gfmatrix_Matrix_swap_l0 x4 x6 x9 q12 x10 x11 = some res) ⟨x0c, (0 : Int)⟩ ?_ (by simp [m_gfmatrix_Matrix_swap_l0]) ?_
 ·exact h
 rintro q12 ⟨x10, x11⟩ h _ k13
 unfold m_gfmatrix_Matrix_swap_l0 at h
 refine sr fun _ k14 => ya (lss rfl rfl) <| dz k14 <| sq fun _ k15 => cI h rfl (fun hc16 h => ?_) fun hc16 h => ?_
 ·refine ss <| k15 _ _ <| sq fun _ k17 => bl <| sr fun _ k18 => mv rfl <| ak rfl k18 <| rd [(1, _)] mixed fun _ k19 => ?_
  obtain ⟨x20, hx20, h⟩ := bnd h
  obtain ⟨x21, hx21, h⟩ := bnd h
  obtain ⟨x22, hx22, h⟩ := bnd h
  obtain ⟨x23, hx23, h⟩ := bnd h
  obtain ⟨x24, hx24, h⟩ := bnd h
  obtain ⟨x25, hx25, h⟩ := bnd h
  obtain ⟨x26, hx26, h⟩ := bnd h
  obtain ⟨x27, hx27, h⟩ := bnd h
  obtain ⟨x28, hx28, h⟩ := bnd h
  obtain ⟨x29, hx29, h⟩ := bnd h
  refine dm 0 rfl rfl <| dm 1 rfl rfl <| dm 2 rfl rfl <| dm 3 rfl rfl <| dm 4 rfl rfl <| dm 5 rfl rfl <| dm 8 rfl rfl <| dm 9 rfl rfl <| WD.two 6 10 (by kernel_rfl) ?_ ?_
  ·refine dy rfl (idxC (xs := x20) sty_22 rfl rfl (RdT.slcN (rO 2 rfl) hx20) hx21) <| WD.two 7 10 (by kernel_rfl) ?_ ?_
   ·refine dy rfl (loadC0 (xs := x20) scal_5 rfl (RdT.slcN (rO 2 rfl) hx20) hx21 rfl) <| on 10 <| dy rfl (idxC (xs := x22) sty_22 rfl rfl (RdT.slcN (rO 2 rfl) hx22) hx23) <| on 11 <| dy rfl (loadC0 (xs := x22) scal_5 rfl (RdT.slcN (rO 2 rfl) hx22) hx23 rfl) <| on 12 <| dy rfl (idxC (xs := x24) sty_22 rfl rfl (RdT.slcN (rO 2 rfl) hx24) hx25) <| on 13 <| WS.eff0 rfl (Eff0.storeS 2 (xs := x10) (lo := x4.1) (hi := x4.2) (a' := x21) siz_5 rfl rfl rfl rfl rfl rfl hx26) (sc sn) <| on 14 <| dy rfl (idxC (xs := x27) sty_22 rfl rfl (RdT.slcN (rO 2 rfl) hx27) hx28) <| on 15 <| WS.eff0 rfl (Eff0.storeS 2 (xs := x26) (lo := x6.1) (hi := x6.2) (a' := x23) siz_5 rfl rfl rfl rfl rfl rfl hx29) (sc sn) <| dd <| k19 _ _ <| bn <| tn <| k17 _ _ <| rg fun _ k30 => bd h fun x31 hx31 h => ya (addC rfl rfl hx31) <| mv rfl <| dz k30 <| tn <| kw (k13 ⟨x29, x31⟩ h)
   skip
   refine dy rfl (idxC (xs := x22) sty_22 rfl rfl (RdT.slcN (rO 2 rfl) hx22) hx23) <| WD.two 7 11 (by kernel_rfl) ?_ ?_
   ·refine dy rfl (loadC0 (xs := x20) scal_5 rfl (RdT.slcN (rO 2 rfl) hx20) hx21 rfl) <| on 11 <| dy rfl (loadC0 (xs := x22) scal_5 rfl (RdT.slcN (rO 2 rfl) hx22) hx23 rfl) <| on 12 <| dy rfl (idxC (xs := x24) sty_22 rfl rfl (RdT.slcN (rO 2 rfl) hx24) hx25) <| on 13 <| WS.eff0 rfl (Eff0.storeS 2 (xs := x10) (lo := x4.1) (hi := x4.2) (a' := x21) siz_5 rfl rfl rfl rfl rfl rfl hx26) (sc sn) <| on 14 <| dy rfl (idxC (xs := x27) sty_22 rfl rfl (RdT.slcN (rO 2 rfl) hx27) hx28) <| on 15 <| WS.eff0 rfl (Eff0.storeS 2 (xs := x26) (lo := x6.1) (hi := x6.2) (a' := x23) siz_5 rfl rfl rfl rfl rfl rfl hx29) (sc sn) <| dd <| k19 _ _ <| bn <| tn <| k17 _ _ <| rg fun _ k32 => bd h fun x33 hx33 h => ya (addC rfl rfl hx33) <| mv rfl <| dz k32 <| tn <| kw (k13 ⟨x29, x33⟩ h)
   skip
   refine dy rfl (loadC0 (xs := x22) scal_5 rfl (RdT.slcN (rO 2 rfl) hx22) hx23 rfl) <| on 7 <| dy rfl (loadC0 (xs := x20) scal_5 rfl (RdT.slcN (rO 2 rfl) hx20) hx21 rfl) <| on 12 <| dy rfl (idxC (xs := x24) sty_22 rfl rfl (RdT.slcN (rO 2 rfl) hx24) hx25) <| on 13 <| WS.eff0 rfl (Eff0.storeS 2 (xs := x10) (lo := x4.1) (hi := x4.2) (a' := x21) siz_5 rfl rfl rfl rfl rfl rfl hx26) (sc sn) <| on 14 <| dy rfl (idxC (xs := x27) sty_22 rfl rfl (RdT.slcN (rO 2 rfl) hx27) hx28) <| on 15 <| WS.eff0 rfl (Eff0.storeS 2 (xs := x26) (lo := x6.1) (hi := x6.2) (a' := x23) siz_5 rfl rfl rfl rfl rfl rfl hx29) (sc sn) <| dd <| k19 _ _ <| bn <| tn <| k17 _ _ <| rg fun _ k34 => bd h fun x35 hx35 h => ya (addC rfl rfl hx35) <| mv rfl <| dz k34 <| tn <| kw (k13 ⟨x29, x35⟩ h)
  skip
  refine dy rfl (idxC (xs := x22) sty_22 rfl rfl (RdT.slcN (rO 2 rfl) hx22) hx23) <| WD.two 6 11 (by kernel_rfl) ?_ ?_
  ·refine dy rfl (idxC (xs := x20) sty_22 rfl rfl (RdT.slcN (rO 2 rfl) hx20) hx21) <| WD.two 7 11 (by kernel_rfl) ?_ ?_
   ·refine dy rfl (loadC0 (xs := x20) scal_5 rfl (RdT.slcN (rO 2 rfl) hx20) hx21 rfl) <| on 11 <| dy rfl (loadC0 (xs := x22) scal_5 rfl (RdT.slcN (rO 2 rfl) hx22) hx23 rfl) <| on 12 <| dy rfl (idxC (xs := x24) sty_22 rfl rfl (RdT.slcN (rO 2 rfl) hx24) hx25) <| on 13 <| WS.eff0 rfl (Eff0.storeS 2 (xs := x10) (lo := x4.1) (hi := x4.2) (a' := x21) siz_5 rfl rfl rfl rfl rfl rfl hx26) (sc sn) <| on 14 <| dy rfl (idxC (xs := x27) sty_22 rfl rfl (RdT.slcN (rO 2 rfl) hx27) hx28) <| on 15 <| WS.eff0 rfl (Eff0.storeS 2 (xs := x26) (lo := x6.1) (hi := x6.2) (a' := x23) siz_5 rfl rfl rfl rfl rfl rfl hx29) (sc sn) <| dd <| k19 _ _ <| bn <| tn <| k17 _ _ <| rg fun _ k36 => bd h fun x37 hx37 h => ya (addC rfl rfl hx37) <| mv rfl <| dz k36 <| tn <| kw (k13 ⟨x29, x37⟩ h)
   skip
   refine dy rfl (loadC0 (xs := x22) scal_5 rfl (RdT.slcN (rO 2 rfl) hx22) hx23 rfl) <| on 7 <| dy rfl (loadC0 (xs := x20) scal_5 rfl (RdT.slcN (rO 2 rfl) hx20) hx21 rfl) <| on 12 <| dy rfl (idxC (xs := x24) sty_22 rfl rfl (RdT.slcN (rO 2 rfl) hx24) hx25) <| on 13 <| WS.eff0 rfl (Eff0.storeS 2 (xs := x10) (lo := x4.1) (hi := x4.2) (a' := x21) siz_5 rfl rfl rfl rfl rfl rfl hx26) (sc sn) <| on 14 <| dy rfl (idxC (xs := x27) sty_22 rfl rfl (RdT.slcN (rO 2 rfl) hx27) hx28) <| on 15 <| WS.eff0 rfl (Eff0.storeS 2 (xs := x26) (lo := x6.1) (hi := x6.2) (a' := x23) siz_5 rfl rfl rfl rfl rfl rfl hx29) (sc sn) <| dd <| k19 _ _ <| bn <| tn <| k17 _ _ <| rg fun _ k38 => bd h fun x39 hx39 h => ya (addC rfl rfl hx39) <| mv rfl <| dz k38 <| tn <| kw (k13 ⟨x29, x39⟩ h)
  skip
  refine dy rfl (loadC0 (xs := x22) scal_5 rfl (RdT.slcN (rO 2 rfl) hx22) hx23 rfl) <| on 6 <| dy rfl (idxC (xs := x20) sty_22 rfl rfl (RdT.slcN (rO 2 rfl) hx20) hx21) <| on 7 <| dy rfl (loadC0 (xs := x20) scal_5 rfl (RdT.slcN (rO 2 rfl) hx20) hx21 rfl) <| on 12 <| dy rfl (idxC (xs := x24) sty_22 rfl rfl (RdT.slcN (rO 2 rfl) hx24) hx25) <| on 13 <| WS.eff0 rfl (Eff0.storeS 2 (xs := x10) (lo := x4.1) (hi := x4.2) (a' := x21) siz_5 rfl rfl rfl rfl rfl rfl hx26) (sc sn) <| on 14 <| dy rfl (idxC (xs := x27) sty_22 rfl rfl (RdT.slcN (rO 2 rfl) hx27) hx28) <| on 15 <| WS.eff0 rfl (Eff0.storeS 2 (xs := x26) (lo := x6.1) (hi := x6.2) (a' := x23) siz_5 rfl rfl rfl rfl rfl rfl hx29) (sc sn) <| dd <| k19 _ _ <| bn <| tn <| k17 _ _ <| rg fun _ k40 => bd h fun x41 hx41 h => ya (addC rfl rfl hx41) <| mv rfl <| dz k40 <| tn <| kw (k13 ⟨x29, x41⟩ h)
 refine xi <| te <| te <| bx ?_
 obtain rfl := si h
 exact Ret.mut (ResIs.zero rfl) (sc (sc sn)) ⟨rfl, rfl⟩
theorem w_slices_Clone_byte_byte (M0 : Mem) (A00 : Option Addr) (n00 c00 : Nat) (x00 : By) (hf00 : SlT M0 A00 n00 c00 x00) {res : By} (h : m_slices_Clone_byte_byte x00 = some res) :
  Fn Tryz.prog 125 #[.slice A00 n00 c00] M0 fun r M' es => ∃ (A1 : Option Addr) (n1 c1 : Nat), r = .slice A1 n1 c1 /\ es = [.own 5 (Lay.sz (BitVec 8)) A1 n1 c1 (cel res)] := by
 refine Fn.intro (N := 8) Tryz.func125 rfl rfl (nle rfl) fun w0 => ?_
 unfold m_slices_Clone_byte_byte at h
 refine sr fun _ k1 => ak rfl k1 <| sq fun _ k2 => sr fun _ k3 => mv rfl <| ya (eqlNil und_22 rfl rfl) <| dn <| k3 _ _ ?_
 by_cases hA4 : A00 = none
 ·have hz := nil_of hf00 hA4
  subst hz
  replace h : some ([] : By) = some res := h
  refine WC.condTe rfl (by rw [hA4]; rfl) <| sr fun _ k5 => ak rfl k5 <| re <| tr <| QK.nilOwn 106 5 (Lay.sz (BitVec 8)) none ?_
  obtain rfl := si h
  exact rt [106] (ResIs.one rfl rfl) (Ext.refl _ _) ⟨none, 0, 0, rfl, rfl⟩
 skip
 refine WC.condFe rfl (isNone_ne hA4) <| ss <| k2 _ _ <| sr fun _ k7 => bd h fun x9 hx9 h => WL.eff (by decide) (Eff.buildC 108 ([] : By) sty_22 rfl rfl rfl rfl rfl (by decide)) ?_
 rintro _ _ ⟨g8, rfl, rfl⟩
 refine mv rfl <| ap 108 (xs := ([] : By)) (ys := x00) sty_22 rfl rfl rfl (mM rfl hf00) hx9 fun A10 c11 => ak rfl k7 <| re ?_
 obtain rfl := si h
 exact rt [108] (ResIs.one rfl rfl) (Ext.refl _ _) ⟨A10, x9.length, c11, rfl, rfl⟩
theorem w_gfmatrix_Invert (M0 : Mem) (u0 u1 : Int) (A00_2 : Option Addr) (n00_2 c00_2 : Nat) (u2 : By) (hf00_2 : SlT M0 A00_2 n00_2 c00_2 u2) {res : Int × Int × By × Int} (h : m_gfmatrix_Invert u0 u1 u2 = some res) :
  Fn Tryz.prog 108 #[.agg ([I64 u0, I64 u1, .slice A00_2 n00_2 c00_2] : List Value).toArray] M0 fun r M' es => ∃ (A1 : Option Addr) (n1 c1 : Nat), r = .tuple #[.agg ([I64 res.1, I64 res.2.1, .slice A1 n1 c1] : List Value).toArray, I64 res.2.2.2] /\ es = [.own 5 (Lay.sz (BitVec 8)) A1 n1 c1 (cel res.2.2.1)] := by
 refine Fn.intro (N := 104) Tryz.func108 rfl rfl (nle rfl) fun w0 => ?_
 unfold m_gfmatrix_Invert at h
 refine sr fun _ k1 => bb 102 [I64 u0, I64 u1, .slice A00_2 n00_2 c00_2] rfl fun g2 => al 103 zr_124 fun g3 => ak rfl k1 <| WC.scope <| ct (σ := Unit) (fun _ => [(1, pv g2), (2, pv g3)]) (fun _ => [(0, .mem M0), (102, .blk g2 124 [I64 u0, I64 u1, .slice A00_2 n00_2 c00_2]), (103, .blk g3 124 [I64 (0 : Int), I64 (0 : Int), .slice none 0 0])]) (fun _ => m_gfmatrix_Invert_j0 u0 u1 u2 = some res) (fun _ k4 => ?_) ?_
 ·refine sr fun _ k5 => bd h fun x6 hx6 h => ya (loadBM (k := 102) agg_124 rfl rfl rfl) <| c0 Tryz.func104 rfl (fun w hb hh => w_gfmatrix_Valid (Mem.snap w) u0 u1 A00_2 n00_2 c00_2 _ (sM rfl hf00_2 w hb hh) hx6) <| ya (notB rfl) <| mv rfl <| spn h not_f (fun q => not_t (Bool.eq_false_iff.2 q)) (fun hc8 h => ?_) fun hc8 h => ?_
  ·refine yg (fieldAddr Tryz.underlying124 rfl nz_3 rfl rfl) <| yg (loadB (k := 102) scal_3 rfl rfl rfl) <| yg (fieldAddr Tryz.underlying124 rfl nz_3 rfl rfl) <| yg (loadB (k := 102) scal_3 rfl rfl rfl) <| yg (neqI rfl rfl) <| pf rfl rfl <| dz k5 <| cnn h rfl bne_eq_false_iff_eq.2 bne_iff_ne.2 (fun hc9 h => ?_) fun hc9 h => ?_
   ·exact WC.skip <| tn <| kw (k4 () h)
   refine sr fun _ k10 => ya (build rfl (bu_124_)) <| sb 103 agg_124 rfl rfl rfl <| ak rfl k10 <| re <| tr <| QK.scopeR <| QK.nilOwn 111 5 (Lay.sz (BitVec 8)) none ?_
   obtain rfl := si h
   exact rt [111] (ResIs.cellTmpM (k := 103) rfl agg_124 rfl rfl rfl rfl) (Ext.refl _ _) ⟨none, 0, 0, rfl, rfl⟩
  refine sk <| sk <| sk <| sk <| sk <| pt rfl rfl <| dz k5 <| cdT rfl <| sr fun _ k12 => ya (build rfl (bu_124_)) <| sb 103 agg_124 rfl rfl rfl <| ak rfl k12 <| re <| tr <| QK.scopeR <| QK.nilOwn 113 5 (Lay.sz (BitVec 8)) none ?_
  obtain rfl := si h
  exact rt [113] (ResIs.cellTmpM (k := 103) rfl agg_124 rfl rfl rfl rfl) (Ext.refl _ _) ⟨none, 0, 0, rfl, rfl⟩
 rintro _ h
 unfold m_gfmatrix_Invert_j0 at h
 refine sr fun _ k14 => ya (fieldAddr Tryz.underlying124 rfl nz_3 rfl rfl) <| ya (loadB (k := 102) scal_3 rfl rfl rfl) <| ak rfl k14 <| sr fun _ k15 => bd h fun x16 hx16 h => ya (fieldAddr Tryz.underlying124 rfl nz_22 rfl rfl) <| ya (loadB (k := 102) scal_22 rfl rfl rfl) <| c1 120 Tryz.func125 rfl (fun w hb hh => w_slices_Clone_byte_byte (Mem.snap w) A00_2 n00_2 c00_2 _ (sM rfl hf00_2 w hb hh) hx16) fun A21 n22 c23 => ya (fieldAddr Tryz.underlying124 rfl nz_22 rfl rfl) <| WL.eff0 (Eff0.storeB 102 siz_22 rfl rfl rfl rfl (nle rfl)) <| dz k15 <| sr fun _ k24 => bd h fun x25 hx25 h => mv rfl <| c1 129 Tryz.func126 rfl (fun w hb hh => w_gfmatrix_Identity (Mem.snap w) u0 hx25) fun A30 n31 c32 => mv rfl <| ya (extract rfl rfl) <| ya (extract rfl rfl) <| al 133 zr_124 fun g33 => sb 133 agg_124 rfl rfl rfl <| ak rfl k24 <| sq fun _ k34 => WC.label <| tn <| k34 _ _ <| ct (σ := By) (fun x35 => [(2, pv g3), (5, pv g33)]) (fun x35 => [(0, .mem M0), (103, .blk g3 124 [I64 (0 : Int), I64 (0 : Int), .slice none 0 0]), (129, .own 5 (Lay.sz (BitVec 8)) A30 n31 c32 (cel x35)), (133, .blk g33 124 [I64 x25.1, I64 x25.2.1, .slice A30 n31 c32])]) (fun x35 => m_gfmatrix_Invert_j1 x25 x35 = some res) (fun _ k36 => ?_) ?_
 ·refine sr fun _ k37 => mv rfl <| mv rfl <| dz k37 <| bl <| lp (τ := By × By × Int) (fun ⟨x38, x39, x40⟩ => [(1, pv g2), (2, pv g3), (4, I64 u0), (5, pv g33), (35, I64 u0), (36, I64 x40)]) (fun ⟨x38, x39, x40⟩ => [(0, .mem M0), (102, .blk g2 124 [I64 u0, I64 u1, .slice A21 n22 c23]), (103, .blk g3 124 [I64 (0 : Int), I64 (0 : Int), .slice none 0 0]), (120, .own 5 (Lay.sz (BitVec 8)) A21 n22 c23 (cel x38)), (129, .own 5 (Lay.sz (BitVec 8)) A30 n31 c32 (cel x39)), (133, .blk g33 124 [I64 x25.1, I64 x25.2.1, .slice A30 n31 c32])]) (fun q41 ⟨x38, x39, x40⟩ => m_gfmatrix_Invert_l2 u0 u1 x25 q41 x38 x39 x40 = some res) ⟨x16, x25.2.2.1, (0 : Int)⟩ ?_ (by simp [m_gfmatrix_Invert_l2]) ?_
  ·exact h
  rintro q41 ⟨x38, x39, x40⟩ h _ k42
  unfold m_gfmatrix_Invert_l2 at h
  refine sr fun _ k43 => ya (lss rfl rfl) <| dz k43 <| sq fun _ k44 => cI h rfl (fun hc45 h => ?_) fun hc45 h => ?_
  ·refine ss <| k44 _ _ <| ct (σ := By × By) (fun ⟨x46, x47⟩ => [(1, pv g2), (2, pv g3), (4, I64 u0), (5, pv g33), (35, I64 u0), (36, I64 x40)]) (fun ⟨x46, x47⟩ => [(0, .mem M0), (102, .blk g2 124 [I64 u0, I64 u1, .slice A21 n22 c23]), (103, .blk g3 124 [I64 (0 : Int), I64 (0 : Int), .slice none 0 0]), (120, .own 5 (Lay.sz (BitVec 8)) A21 n22 c23 (cel x46)), (129, .own 5 (Lay.sz (BitVec 8)) A30 n31 c32 (cel x47)), (133, .blk g33 124 [I64 x25.1, I64 x25.2.1, .slice A30 n31 c32])]) (fun ⟨x46, x47⟩ => m_gfmatrix_Invert_j3 x40 (m_gfmatrix_Invert_l2 u0 u1 x25 q41) x46 x47 = some res) (fun _ k48 => ?_) ?_
   ·refine bl <| sr fun _ k49 => mv rfl <| ak rfl k49 <| ct (σ := Unit) (fun _ => [(2, pv g3)]) (fun _ => [(0, .mem M0), (103, .blk g3 124 [I64 (0 : Int), I64 (0 : Int), .slice none 0 0])]) (fun _ => m_gfmatrix_Invert_j4 = some res) (fun _ k50 => ?_) ?_
    ·refine sr fun _ k51 => mv rfl <| ak rfl k51 <| bl <| lp (τ := Int) (fun x52 => [(1, pv g2), (2, pv g3), (4, I64 u0), (5, pv g33), (7, I64 x40), (8, I64 x52), (35, I64 u0), (36, I64 x40)]) (fun x52 => [(0, .mem M0), (102, .blk g2 124 [I64 u0, I64 u1, .slice A21 n22 c23]), (103, .blk g3 124 [I64 (0 : Int), I64 (0 : Int), .slice none 0 0]), (120, .own 5 (Lay.sz (BitVec 8)) A21 n22 c23 (cel x38)), (129, .own 5 (Lay.sz (BitVec 8)) A30 n31 c32 (cel x39)), (133, .blk g33 124 [I64 x25.1, I64 x25.2.1, .slice A30 n31 c32])]) (fun q53 x52 => m_gfmatrix_Invert_l5 u0 u1 x25 x38 x39 x40 (m_gfmatrix_Invert_l2 u0 u1 x25 q41) q53 x52 = some res) (x40) ?_ (by simp [m_gfmatrix_Invert_l5]) ?_
     ·exact h
     rintro q53 x52 h _ k54
     unfold m_gfmatrix_Invert_l5 at h
     refine sq fun _ k55 => sr fun _ k56 => mv rfl <| mv rfl <| ya (lss rfl rfl) <| dz k56 <| cI h rfl (fun hc57 h => ?_) fun hc57 h => ?_
     ·refine ss <| k55 _ _ <| ct (σ := Unit) (fun _ => [(1, pv g2), (2, pv g3), (4, I64 u0), (5, pv g33), (7, I64 x40), (8, I64 x52), (35, I64 u0), (36, I64 x40)]) (fun _ => [(0, .mem M0), (102, .blk g2 124 [I64 u0, I64 u1, .slice A21 n22 c23]), (103, .blk g3 124 [I64 (0 : Int), I64 (0 : Int), .slice none 0 0]), (120, .own 5 (Lay.sz (BitVec 8)) A21 n22 c23 (cel x38)), (129, .own 5 (Lay.sz (BitVec 8)) A30 n31 c32 (cel x39)), (133, .blk g33 124 [I64 x25.1, I64 x25.2.1, .slice A30 n31 c32])]) (fun _ => m_gfmatrix_Invert_j6 x52 (m_gfmatrix_Invert_l5 u0 u1 x25 x38 x39 x40 (m_gfmatrix_Invert_l2 u0 u1 x25 q41) q53) = some res) (fun _ k58 => ?_) ?_
      ·refine bl <| sr fun _ k59 => ?_
       obtain ⟨x60, hx60, h⟩ := bnd h
       obtain ⟨x62, hx62, h⟩ := bnd h
       refine ya (loadBM (k := 102) agg_124 rfl rfl rfl) <| mv rfl <| mv rfl <| c0 Tryz.func111 rfl (fun w hb hh => w_gfmatrix_Matrix_at (Mem.snap w) u0 u1 A21 n22 c23 _ (RdH.sn (rO 120 rfl) w hb hh) x52 x40 hx60) <| c0 Tryz.func127 rfl (fun w hb hh => w_gf256_Inv (Mem.snap w) x60 hx62) <| mv rfl <| ya (extract rfl rfl) <| ya (extract rfl rfl) <| asn rfl <| ak rfl k59 <| sq fun _ k64 => sr fun _ k65 => mv rfl <| ya (neqI rfl rfl) <| dz k65 <| cnn h rfl bne_eq_false_iff_eq.2 bne_iff_ne.2 (fun hc66 h => ?_) fun hc66 h => ?_
       ·refine ss <| k64 _ _ <| sr fun _ k67 => bd h fun x68 hx68 h => ya (loadBM (k := 102) agg_124 rfl rfl rfl) <| mv rfl <| mv rfl <| WL.eff (by decide) (Eff.callMut 120 rfl Tryz.func128 nm_128 rfl rfl rfl (w_gfmatrix_Matrix_swap A21 n22 c23 x38 u0 u1 x52 x40 hx68)) ?_
        rintro _ _ ⟨_, ⟨rfl, rfl⟩, rfl⟩
        refine dz k67 <| sr fun _ k69 => bd h fun x70 hx70 h => ya (loadBM (k := 133) agg_124 rfl rfl rfl) <| mv rfl <| mv rfl <| WL.eff (by decide) (Eff.callMut 129 rfl Tryz.func128 nm_128 rfl rfl rfl (w_gfmatrix_Matrix_swap A30 n31 c32 x39 x25.1 x25.2.1 x52 x40 hx70)) ?_
        rintro _ _ ⟨_, ⟨rfl, rfl⟩, rfl⟩
        refine dz k69 <| sr fun _ k71 => ?_
        obtain ⟨x72, hx72, h⟩ := bnd h
        obtain ⟨x73, hx73, h⟩ := bnd h
        obtain ⟨x74, hx74, h⟩ := bnd h
        refine ya (loadBM (k := 102) agg_124 rfl rfl rfl) <| mv rfl <| c0 Tryz.func106 rfl (fun w hb hh => w_gfmatrix_Matrix_row (Mem.snap w) u0 u1 A21 n22 c23 x40 (SlT.slcB (RdH.sn (rO 120 rfl) w hb hh) hx73) hx72) <| mv rfl <| WL.eff (by decide) (Eff.callMut 120 rfl Tryz.func129 nm_129 rfl rfl rfl (w_gfmatrix_scale A21 n22 c23 x68 x72.1 x72.2 x62.1 hx74)) ?_
        rintro _ _ ⟨_, ⟨rfl, rfl⟩, rfl⟩
        refine dz k71 <| sr fun _ k75 => ?_
        obtain ⟨x76, hx76, h⟩ := bnd h
        obtain ⟨x77, hx77, h⟩ := bnd h
        obtain ⟨x78, hx78, h⟩ := bnd h
        refine ya (loadBM (k := 133) agg_124 rfl rfl rfl) <| mv rfl <| c0 Tryz.func106 rfl (fun w hb hh => w_gfmatrix_Matrix_row (Mem.snap w) x25.1 x25.2.1 A30 n31 c32 x40 (SlT.slcB (RdH.sn (rO 129 rfl) w hb hh) hx77) hx76) <| mv rfl <| WL.eff (by decide) (Eff.callMut 129 rfl Tryz.func129 nm_129 rfl rfl rfl (w_gfmatrix_scale A30 n31 c32 x70 x76.1 x76.2 x62.1 hx78)) ?_
        rintro _ _ ⟨_, ⟨rfl, rfl⟩, rfl⟩
        refine dz k75 <| ct (σ := By × By) (fun ⟨x79, x80⟩ => [(1, pv g2), (2, pv g3), (4, I64 u0), (5, pv g33), (35, I64 u0), (36, I64 x40)]) (fun ⟨x79, x80⟩ => [(0, .mem M0), (102, .blk g2 124 [I64 u0, I64 u1, .slice A21 n22 c23]), (103, .blk g3 124 [I64 (0 : Int), I64 (0 : Int), .slice none 0 0]), (120, .own 5 (Lay.sz (BitVec 8)) A21 n22 c23 (cel x79)), (129, .own 5 (Lay.sz (BitVec 8)) A30 n31 c32 (cel x80)), (133, .blk g33 124 [I64 x25.1, I64 x25.2.1, .slice A30 n31 c32])]) (fun ⟨x79, x80⟩ => m_gfmatrix_Invert_j7 x40 (m_gfmatrix_Invert_l2 u0 u1 x25 q41) x79 x80 = some res) (fun _ k81 => ?_) ?_
        ·refine sr fun _ k82 => mv rfl <| mv rfl <| dz k82 <| bl <| lp (τ := By × By × Int) (fun ⟨x83, x84, x85⟩ => [(1, pv g2), (2, pv g3), (4, I64 u0), (5, pv g33), (7, I64 x40), (35, I64 u0), (36, I64 x40), (73, I64 u0), (74, I64 x85)]) (fun ⟨x83, x84, x85⟩ => [(0, .mem M0), (102, .blk g2 124 [I64 u0, I64 u1, .slice A21 n22 c23]), (103, .blk g3 124 [I64 (0 : Int), I64 (0 : Int), .slice none 0 0]), (120, .own 5 (Lay.sz (BitVec 8)) A21 n22 c23 (cel x83)), (129, .own 5 (Lay.sz (BitVec 8)) A30 n31 c32 (cel x84)), (133, .blk g33 124 [I64 x25.1, I64 x25.2.1, .slice A30 n31 c32])]) (fun q86 ⟨x83, x84, x85⟩ => m_gfmatrix_Invert_l8 u0 u1 x25 x40 (m_gfmatrix_Invert_l2 u0 u1 x25 q41) q86 x83 x84 x85 = some res) ⟨x74, x78, (0 : Int)⟩ ?_ (by simp [m_gfmatrix_Invert_l8]) ?_
         ·exact h
         rintro q86 ⟨x83, x84, x85⟩ h _ k87
         unfold m_gfmatrix_Invert_l8 at h
         refine sr fun _ k88 => ya (lss rfl rfl) <| dz k88 <| sq fun _ k89 => cI h rfl (fun hc90 h => ?_) fun hc90 h => ?_
         ·refine ss <| k89 _ _ <| sq fun _ k91 => bl <| sr fun _ k92 => mv rfl <| ak rfl k92 <| sr fun _ k93 => bd h fun x94 hx94 h => ya (loadBM (k := 102) agg_124 rfl rfl rfl) <| mv rfl <| mv rfl <| c0 Tryz.func111 rfl (fun w hb hh => w_gfmatrix_Matrix_at (Mem.snap w) u0 u1 A21 n22 c23 _ (RdH.sn (rO 120 rfl) w hb hh) x85 x40 hx94) <| ak rfl k93 <| sr fun _ k96 => mv rfl <| mv rfl <| ya (neqI rfl rfl) <| dz k96 <| cnn h rfl bne_eq_false_iff_eq.2 bne_iff_ne.2 (fun hc97 h => ?_) fun hc97 h => ?_
          ·refine WC.skip <| bn <| tn <| k91 _ _ <| rg fun _ k98 => bd h fun x99 hx99 h => ya (addC rfl rfl hx99) <| mv rfl <| dz k98 <| tn <| kw (k87 ⟨x83, x84, x99⟩ h)
          refine sd [(102, _), (103, _), (129, _), (133, _)] mixed fun _ k100 => ?_
          obtain ⟨x101, hx101, h⟩ := bnd h
          obtain ⟨x102, hx102, h⟩ := bnd h
          obtain ⟨x103, hx103, h⟩ := bnd h
          obtain ⟨x104, hx104, h⟩ := bnd h
          obtain ⟨x105, hx105, h⟩ := bnd h
          refine du 0 rfl (loadBM (k := 102) agg_124 rfl rfl rfl) <| dm 1 rfl rfl <| du 3 rfl (loadBM (k := 102) agg_124 rfl rfl rfl) <| dm 4 rfl rfl <| dm 6 rfl rfl <| on 2 <| d0 rfl Tryz.func106 rfl (fun w hb hh => w_gfmatrix_Matrix_row (Mem.snap w) u0 u1 A21 n22 c23 x85 (SlT.slcB (RdH.sn (rO 120 rfl) w hb hh) hx102) hx101) <| on 5 <| d0 rfl Tryz.func106 rfl (fun w hb hh => w_gfmatrix_Matrix_row (Mem.snap w) u0 u1 A21 n22 c23 x40 (SlT.slcB (RdH.sn (rO 120 rfl) w hb hh) hx104) hx103) <| on 7 <| WS.eff rfl (by decide) (Eff.callMut 120 rfl Tryz.func130 nm_130 rfl rfl rfl (w_gfmatrix_add A21 n22 c23 x83 x101.1 x101.2 x103.1 x103.2 x94 hx105)) ?_
          rintro _ _ ⟨_, ⟨rfl, rfl⟩, rfl⟩
          refine aq ?_
          refine dd <| k100 _ _ <| rd [(102, _), (103, _), (120, _), (133, _)] mixed fun _ k106 => ?_
          obtain ⟨x107, hx107, h⟩ := bnd h
          obtain ⟨x108, hx108, h⟩ := bnd h
          obtain ⟨x109, hx109, h⟩ := bnd h
          obtain ⟨x110, hx110, h⟩ := bnd h
          obtain ⟨x111, hx111, h⟩ := bnd h
          refine du 0 rfl (loadBM (k := 133) agg_124 rfl rfl rfl) <| dm 1 rfl rfl <| du 3 rfl (loadBM (k := 133) agg_124 rfl rfl rfl) <| dm 4 rfl rfl <| dm 6 rfl rfl <| on 2 <| d0 rfl Tryz.func106 rfl (fun w hb hh => w_gfmatrix_Matrix_row (Mem.snap w) x25.1 x25.2.1 A30 n31 c32 x85 (SlT.slcB (RdH.sn (rO 129 rfl) w hb hh) hx108) hx107) <| on 5 <| d0 rfl Tryz.func106 rfl (fun w hb hh => w_gfmatrix_Matrix_row (Mem.snap w) x25.1 x25.2.1 A30 n31 c32 x40 (SlT.slcB (RdH.sn (rO 129 rfl) w hb hh) hx110) hx109) <| on 7 <| WS.eff rfl (by decide) (Eff.callMut 129 rfl Tryz.func130 nm_130 rfl rfl rfl (w_gfmatrix_add A30 n31 c32 x84 x107.1 x107.2 x109.1 x109.2 x94 hx111)) ?_
          rintro _ _ ⟨_, ⟨rfl, rfl⟩, rfl⟩
          refine aq ?_
          refine dd <| k106 _ _ <| bn <| tn <| k91 _ _ <| rg fun _ k112 => bd h fun x113 hx113 h => ya (addC rfl rfl hx113) <| mv rfl <| dz k112 <| tn <| kw (k87 ⟨x105, x111, x113⟩ h)
         exact xi <| te <| te <| bx <| tn <| kw (k81 ⟨x83, x84⟩ h)
        rintro ⟨x79, x80⟩ h
        unfold m_gfmatrix_Invert_j7 at h
        exact xi <| bo <| te <| te <| bo <| te <| bx <| tn <| kw (k48 ⟨x79, x80⟩ h)
       exact xi <| te <| bx <| tn <| kw (k58 () h)
      rintro _ h
      unfold m_gfmatrix_Invert_j6 at h
      refine rg fun _ k114 => bd h fun x115 hx115 h => mv rfl <| ya (addC rfl rfl hx115) <| ak rfl k114 <| tn <| kw (k54 (x115) h)
     exact xi <| te <| te <| bx <| tn <| kw (k50 () h)
    rintro _ h
    unfold m_gfmatrix_Invert_j4 at h
    refine sr fun _ k116 => ya (build rfl (bu_124_)) <| sb 103 agg_124 rfl rfl rfl <| ak rfl k116 <| re <| br <| tr <| tr <| br <| tr <| QK.scopeR <| QK.nilOwn 217 5 (Lay.sz (BitVec 8)) none ?_
    obtain rfl := si h
    exact rt [217] (ResIs.cellTmpM (k := 103) rfl agg_124 rfl rfl rfl rfl) (Ext.refl _ _) ⟨none, 0, 0, rfl, rfl⟩
   rintro ⟨x46, x47⟩ h
   unfold m_gfmatrix_Invert_j3 at h
   refine rg fun _ k118 => bd h fun x119 hx119 h => ya (addC rfl rfl hx119) <| mv rfl <| dz k118 <| tn <| kw (k42 ⟨x46, x47, x119⟩ h)
  exact xi <| te <| te <| bx <| tn <| kw (k36 x39 h)
 rintro x35 h
 unfold m_gfmatrix_Invert_j1 at h
 refine sr fun _ k120 => ya (loadBM (k := 133) agg_124 rfl rfl rfl) <| sb 103 agg_124 rfl rfl rfl <| ak rfl k120 <| re <| QK.scopeR ?_
 obtain rfl := si h
 exact rt [129] (ResIs.cellTmpM (k := 103) rfl agg_124 rfl rfl rfl rfl) (Ext.refl _ _) ⟨A30, n31, c32, rfl, rfl⟩
theorem w_gfmatrix_Apply (M0 : Mem) (u0 u1 : Int) (A00_2 : Option Addr) (n00_2 c00_2 : Nat) (u2 : By) (hf00_2 : SlT M0 A00_2 n00_2 c00_2 u2) (A01 : Option Addr) (n01 c01 : Nat) (rs01 : List Hdr) (x01 : List By) (hf01 : SlT M0 A01 n01 c01 rs01) (hq01 : Rels ((RelB (α := BitVec 8)) M0) rs01 x01) {res : (List By) × Int} (h : m_gfmatrix_Apply u0 u1 u2 x01 = some res) :
  Fn Tryz.prog 79 #[.agg ([I64 u0, I64 u1, .slice A00_2 n00_2 c00_2] : List Value).toArray, .slice A01 n01 c01] M0 fun r M' es => ∃ (A1 : Option Addr) (n1 c1 : Nat), ∃ rs1 : List Hdr, r = .tuple #[.slice A1 n1 c1, I64 res.2] /\ es = [.own 22 (Lay.sz Hdr) A1 n1 c1 (cel rs1)] /\ Rels ((RelB (α := BitVec 8)) M') rs1 res.1 := by
 refine Fn.intro (N := 78) Tryz.func79 rfl rfl (nle rfl) fun w0 => ?_
 unfold m_gfmatrix_Apply at h
 refine sr fun _ k1 => bb 102 [I64 u0, I64 u1, .slice A00_2 n00_2 c00_2] rfl fun g2 => asn rfl <| ak rfl k1 <| ct (σ := Unit) (fun _ => [(1, .slice A01 n01 c01), (2, pv g2)]) (fun _ => [(0, .mem M0), (102, .blk g2 124 [I64 u0, I64 u1, .slice A00_2 n00_2 c00_2])]) (fun _ => m_gfmatrix_Apply_j0 u0 u1 u2 x01 = some res) (fun _ k3 => ?_) ?_
 ·refine sr fun _ k4 => bd h fun x5 hx5 h => ya (loadBM (k := 102) agg_124 rfl rfl rfl) <| c0 Tryz.func104 rfl (fun w hb hh => w_gfmatrix_Valid (Mem.snap w) u0 u1 A00_2 n00_2 c00_2 _ (sM rfl hf00_2 w hb hh) hx5) <| ya (notB rfl) <| mv rfl <| spn h not_f (fun q => not_t (Bool.eq_false_iff.2 q)) (fun hc7 h => ?_) fun hc7 h => ?_
  ·refine mvg rfl <| yg (lenD (rs := rs01) (xs := x01) (Rels.len hq01) und_30 rfl (mM rfl hf01)) <| yg (fieldAddr Tryz.underlying124 rfl nz_3 rfl rfl) <| yg (loadB (k := 102) scal_3 rfl rfl rfl) <| yg (neqI rfl rfl) <| pf rfl rfl <| dz k4 <| cnn h rfl bne_eq_false_iff_eq.2 bne_iff_ne.2 (fun hc8 h => ?_) fun hc8 h => ?_
   ·exact WC.skip <| tn <| kw (k3 () h)
   refine sr fun _ k9 => asn rfl <| ak rfl k9 <| re <| tr <| QK.nilOwn 110 22 (Lay.sz Hdr) none ?_
   obtain rfl := si h
   exact rt [110] (ResIs.two rfl rfl rfl) (Ext.refl _ _) ⟨none, 0, 0, ([] : List Hdr), rfl, rfl, (Rels.nil (R := (RelB (α := BitVec 8)) M0))⟩
  refine sk <| sk <| sk <| sk <| sk <| pt rfl rfl <| dz k4 <| cdT rfl <| sr fun _ k11 => asn rfl <| ak rfl k11 <| re <| tr <| QK.nilOwn 112 22 (Lay.sz Hdr) none ?_
  obtain rfl := si h
  exact rt [112] (ResIs.two rfl rfl rfl) (Ext.refl _ _) ⟨none, 0, 0, ([] : List Hdr), rfl, rfl, (Rels.nil (R := (RelB (α := BitVec 8)) M0))⟩
 rintro _ h
 unfold m_gfmatrix_Apply_j0 at h
 refine ct (σ := Unit) (fun _ => [(1, .slice A01 n01 c01), (2, pv g2)]) (fun _ => [(0, .mem M0), (102, .blk g2 124 [I64 u0, I64 u1, .slice A00_2 n00_2 c00_2])]) (fun _ => m_gfmatrix_Apply_j1 u0 u1 u2 x01 = some res) (fun _ k13 => ?_) ?_
 ·refine sr fun _ k14 => mv rfl <| ya (lenD (rs := rs01) (xs := x01) (Rels.len hq01) und_30 rfl (mM rfl hf01)) <| mv rfl <| dz k14 <| bl <| lp (τ := Int) (fun x15 => [(1, .slice A01 n01 c01), (2, pv g2), (22, .slice A01 n01 c01), (23, I64 (x01.length : Int)), (24, I64 x15)]) (fun x15 => [(0, .mem M0), (102, .blk g2 124 [I64 u0, I64 u1, .slice A00_2 n00_2 c00_2])]) (fun q16 x15 => m_gfmatrix_Apply_l2 u0 u1 u2 x01 q16 x15 = some res) ((0 : Int)) ?_ (by simp [m_gfmatrix_Apply_l2]) ?_
  ·exact h
  rintro q16 x15 h _ k17
  unfold m_gfmatrix_Apply_l2 at h
  refine sr fun _ k18 => ya (lss rfl rfl) <| dz k18 <| sq fun _ k19 => cI h rfl (fun hc20 h => ?_) fun hc20 h => ?_
  ·refine ss <| k19 _ _ <| sq fun _ k21 => bl <| sr fun _ k22 => ?_
   obtain ⟨x23, hx23, h⟩ := bnd h
   obtain ⟨r_24, hr25, hq26⟩ := Rels.idx hq01 hx23
   refine ya (idxC (xs := rs01) sty_30 rfl rfl (mM rfl hf01) hr25) <| ya (loadC0 (xs := rs01) scal_22 rfl (mM rfl hf01) hr25 rfl) <| ak rfl k22 <| sr fun _ k27 => bd h fun x28 hx28 h => mv rfl <| ya (lenC (xs := x23) und_22 rfl (mM rfl hq26)) <| mv rfl ?_
   obtain ⟨r_29, hr30, hq31⟩ := Rels.idx hq01 hx28
   refine ya (idxC (xs := rs01) sty_30 rfl rfl (mM rfl hf01) hr30) <| ya (loadC0 (xs := rs01) scal_22 rfl (mM rfl hf01) hr30 rfl) <| ya (lenC (xs := x28) und_22 rfl (mM rfl hq31)) <| ya (neqI rfl rfl) <| dz k27 <| cnn h rfl bne_eq_false_iff_eq.2 bne_iff_ne.2 (fun hc32 h => ?_) fun hc32 h => ?_
   ·refine WC.skip <| bn <| tn <| k21 _ _ <| rg fun _ k33 => bd h fun x34 hx34 h => ya (addC rfl rfl hx34) <| mv rfl <| dz k33 <| tn <| kw (k17 (x34) h)
   refine sr fun _ k35 => asn rfl <| ak rfl k35 <| re <| br <| tr <| tr <| br <| tr <| QK.nilOwn 136 22 (Lay.sz Hdr) none ?_
   obtain rfl := si h
   exact rt [136] (ResIs.two rfl rfl rfl) (Ext.refl _ _) ⟨none, 0, 0, ([] : List Hdr), rfl, rfl, (Rels.nil (R := (RelB (α := BitVec 8)) M0))⟩
  exact xi <| te <| te <| bx <| tn <| kw (k13 () h)
 rintro _ h
 unfold m_gfmatrix_Apply_j1 at h
 refine sr fun _ k37 => bd h fun x39 hx39 h => ya (fieldAddr Tryz.underlying124 rfl nz_3 rfl rfl) <| ya (loadB (k := 102) scal_3 rfl rfl rfl) ?_
 obtain ⟨hu40, hq41⟩ := Rels.mks (R := (RelB (α := BitVec 8)) M0) (r := (⟨none, 0, 0⟩ : Hdr)) hx39 RelB.nil
 refine WL.eff (by decide) (Eff.makeC 138 (⟨none, 0, 0⟩ : Hdr) sty_30 rfl rfl rfl rfl rfl rfl hu40) ?_
 rintro _ _ ⟨g38, rfl, rfl⟩
 refine ak rfl k37 <| ct (σ := Mem × (List By) × (List Hdr)) (fun ⟨M42, x43, rs44⟩ => [(8, .slice (some ⟨g38, 0, none⟩) ((List.replicate (u0).toNat (⟨none, 0, 0⟩ : Hdr)).length) ((List.replicate (u0).toNat (⟨none, 0, 0⟩ : Hdr)).length))]) (fun ⟨M42, x43, rs44⟩ => [(0, .mem M42), (138, .own 22 (Lay.sz Hdr) (some ⟨g38, 0, none⟩) ((List.replicate (u0).toNat (⟨none, 0, 0⟩ : Hdr)).length) ((List.replicate (u0).toNat (⟨none, 0, 0⟩ : Hdr)).length) (cel rs44))]) (fun ⟨M42, x43, rs44⟩ => m_gfmatrix_Apply_j3 x43 = some res /\ Ext w0.heap.size M0 M42 /\ Rels ((RelB (α := BitVec 8)) M42) rs44 x43) (fun _ k46 => ?_) ?_
 ·refine sr fun _ k47 => mv rfl <| ya (lenD (rs := (List.replicate (u0).toNat (⟨none, 0, 0⟩ : Hdr))) (xs := x39) (Rels.len hq41) und_30 rfl (rO 138 rfl)) <| mv rfl <| dz k47 <| bl <| lp (τ := Mem × (List By) × (List Hdr) × Int) (fun ⟨M48, x49, rs50, x52⟩ => [(1, .slice A01 n01 c01), (2, pv g2), (8, .slice (some ⟨g38, 0, none⟩) ((List.replicate (u0).toNat (⟨none, 0, 0⟩ : Hdr)).length) ((List.replicate (u0).toNat (⟨none, 0, 0⟩ : Hdr)).length)), (40, I64 (x39.length : Int)), (41, I64 x52)]) (fun ⟨M48, x49, rs50, x52⟩ => [(0, .mem M48), (102, .blk g2 124 [I64 u0, I64 u1, .slice A00_2 n00_2 c00_2]), (138, .own 22 (Lay.sz Hdr) (some ⟨g38, 0, none⟩) ((List.replicate (u0).toNat (⟨none, 0, 0⟩ : Hdr)).length) ((List.replicate (u0).toNat (⟨none, 0, 0⟩ : Hdr)).length) (cel rs50))]) (fun q53 ⟨M48, x49, rs50, x52⟩ => m_gfmatrix_Apply_l4 u0 u1 u2 x01 x39 q53 x49 x52 = some res /\ Ext w0.heap.size M0 M48 /\ Rels ((RelB (α := BitVec 8)) M48) rs50 x49) ⟨M0, x39, (List.replicate (u0).toNat (⟨none, 0, 0⟩ : Hdr)), (0 : Int)⟩ ?_ (by simp [m_gfmatrix_Apply_l4]) ?_
  ·exact ⟨h, (Ext.refl _ _), hq41⟩
  rintro q53 ⟨M48, x49, rs50, x52⟩ ⟨h, hm_M48, hq51⟩ _ k54
  unfold m_gfmatrix_Apply_l4 at h
  refine sr fun _ k55 => ya (lss rfl rfl) <| dz k55 <| sq fun _ k56 => cI h rfl (fun hc57 h => ?_) fun hc57 h => ?_
  ·refine ss <| k56 _ _ <| ct (σ := Mem × (List By) × (List Hdr)) (fun ⟨M58, x59, rs60⟩ => [(1, .slice A01 n01 c01), (2, pv g2), (8, .slice (some ⟨g38, 0, none⟩) ((List.replicate (u0).toNat (⟨none, 0, 0⟩ : Hdr)).length) ((List.replicate (u0).toNat (⟨none, 0, 0⟩ : Hdr)).length)), (40, I64 (x39.length : Int)), (41, I64 x52)]) (fun ⟨M58, x59, rs60⟩ => [(0, .mem M58), (102, .blk g2 124 [I64 u0, I64 u1, .slice A00_2 n00_2 c00_2]), (138, .own 22 (Lay.sz Hdr) (some ⟨g38, 0, none⟩) ((List.replicate (u0).toNat (⟨none, 0, 0⟩ : Hdr)).length) ((List.replicate (u0).toNat (⟨none, 0, 0⟩ : Hdr)).length) (cel rs60))]) (fun ⟨M58, x59, rs60⟩ => m_gfmatrix_Apply_j5 x52 (m_gfmatrix_Apply_l4 u0 u1 u2 x01 x39 q53) x59 = some res /\ Ext w0.heap.size M48 M58 /\ Rels ((RelB (α := BitVec 8)) M58) rs60 x59) (fun _ k62 => ?_) ?_
   ·refine bl <| sr fun _ k63 => mv rfl <| ak rfl k63 <| sr fun _ k64 => ?_
    obtain ⟨x65, hx65, h⟩ := bnd h
    obtain ⟨x70, hx70, h⟩ := bnd h
    obtain ⟨x71, hx71, h⟩ := bnd h
    obtain ⟨x77, hx77, h⟩ := bnd h
    refine mv rfl <| mv rfl <| mv rfl ?_
    obtain ⟨r_66, hr67, hq68⟩ := Rels.idx (Rels.lift hq01 hm_M48) hx65
    refine ya (idxC (xs := rs01) sty_30 rfl rfl (mM rfl (SlRc.lift hf01 hm_M48)) hr67) <| ya (loadC0 (xs := rs01) scal_22 rfl (mM rfl (SlRc.lift hf01 hm_M48)) hr67 rfl) <| ya (lenC (xs := x65) und_22 rfl (mM rfl hq68)) <| WL.eff (by decide) (Eff.makeC 169 0#8 sty_22 rfl rfl rfl rfl rfl rfl hx70) ?_
    rintro _ _ ⟨g69, rfl, rfl⟩
    obtain ⟨r_72, hr73, hq74⟩ := Rels.idx hq51 hx71
    refine ya (idxC (xs := rs50) sty_30 rfl rfl (rO 138 rfl) hr73) <| WL.freeze 169 rfl rfl rfl fun M75 hm_M75 hf76 => ?_
    obtain ⟨hu78, hq79⟩ := Rels.upd (r := (⟨(some ⟨g69, 0, none⟩), x70.length, x70.length⟩ : Hdr)) (Rels.lift hq51 hm_M75) hx77 hf76
    refine WL.eff0 (Eff0.storeC1 138 (xs := rs50) (a' := (⟨(some ⟨g69, 0, none⟩), x70.length, x70.length⟩ : Hdr)) siz_22 rfl rfl rfl rfl rfl rfl hu78) <| dz k64 <| sr fun _ k80 => mv rfl <| ya (lenD (rs := rs01) (xs := x01) (Rels.len (Rels.lift (Rels.lift hq01 hm_M48) hm_M75)) und_30 rfl (mM rfl (SlRc.lift (SlRc.lift hf01 hm_M48) hm_M75))) <| mv rfl <| dz k80 <| bl <| lp (τ := Mem × (List By) × (List Hdr) × Int) (fun ⟨M81, x82, rs83, x85⟩ => [(1, .slice A01 n01 c01), (2, pv g2), (8, .slice (some ⟨g38, 0, none⟩) ((List.replicate (u0).toNat (⟨none, 0, 0⟩ : Hdr)).length) ((List.replicate (u0).toNat (⟨none, 0, 0⟩ : Hdr)).length)), (9, I64 x52), (40, I64 (x39.length : Int)), (41, I64 x52), (52, .slice A01 n01 c01), (53, I64 (x01.length : Int)), (54, I64 x85)]) (fun ⟨M81, x82, rs83, x85⟩ => [(0, .mem M81), (102, .blk g2 124 [I64 u0, I64 u1, .slice A00_2 n00_2 c00_2]), (138, .own 22 (Lay.sz Hdr) (some ⟨g38, 0, none⟩) ((List.replicate (u0).toNat (⟨none, 0, 0⟩ : Hdr)).length) ((List.replicate (u0).toNat (⟨none, 0, 0⟩ : Hdr)).length) (cel rs83))]) (fun q86 ⟨M81, x82, rs83, x85⟩ => m_gfmatrix_Apply_l6 u0 u1 u2 x01 x52 (m_gfmatrix_Apply_l4 u0 u1 u2 x01 x39 q53) q86 x82 x85 = some res /\ Ext w0.heap.size M75 M81 /\ Rels ((RelB (α := BitVec 8)) M81) rs83 x82) ⟨M75, x77, (rs50.set (x52).toNat (⟨(some ⟨g69, 0, none⟩), x70.length, x70.length⟩ : Hdr)), (0 : Int)⟩ ?_ (by simp [m_gfmatrix_Apply_l6]) ?_
    ·exact ⟨h, (Ext.refl _ _), hq79⟩
    rintro q86 ⟨M81, x82, rs83, x85⟩ ⟨h, hm_M81, hq84⟩ _ k87
    unfold m_gfmatrix_Apply_l6 at h
    refine sr fun _ k88 => ya (lss rfl rfl) <| dz k88 <| sq fun _ k89 => cI h rfl (fun hc90 h => ?_) fun hc90 h => ?_
    ·refine ss <| k89 _ _ <| sq fun _ k91 => bl <| sr fun _ k92 => bd h fun x93 hx93 h => mv rfl ?_
     obtain ⟨r_94, hr95, hq96⟩ := Rels.idx (Rels.lift (Rels.lift (Rels.lift hq01 hm_M48) hm_M75) hm_M81) hx93
     refine ya (idxC (xs := rs01) sty_30 rfl rfl (mM rfl (SlRc.lift (SlRc.lift (SlRc.lift hf01 hm_M48) hm_M75) hm_M81)) hr95) <| ya (loadC0 (xs := rs01) scal_22 rfl (mM rfl (SlRc.lift (SlRc.lift (SlRc.lift hf01 hm_M48) hm_M75) hm_M81)) hr95 rfl) <| asn rfl <| ak rfl k92 <| rd [(102, _)] mixed fun _ k97 => ?_
     obtain ⟨x98, hx98, h⟩ := bnd h
     obtain ⟨x102, hx102, h⟩ := bnd h
     obtain ⟨x104, hx104, h⟩ := bnd h
     obtain ⟨x112, hx112, h⟩ := bnd h
     obtain ⟨x118, hx118, h⟩ := bnd h
     refine dm 0 rfl rfl <| dm 1 rfl rfl <| dm 2 rfl rfl <| dm 3 rfl rfl <| dm 6 rfl rfl <| du 7 rfl (loadBM (k := 102) agg_124 rfl rfl rfl) <| dm 8 rfl rfl <| dm 9 rfl rfl <| WD.two 4 10 (by kernel_rfl) ?_ ?_
     ·obtain ⟨r_99, hr100, hq101⟩ := Rels.idx hq84 hx98
      refine dy rfl (idxC (xs := rs83) sty_30 rfl rfl (rO 138 rfl) hr100) <| WD.two 5 10 (by kernel_rfl) ?_ ?_
      ·refine dy rfl (loadC0 (xs := rs83) scal_22 rfl (rO 138 rfl) hr100 rfl) <| on 10 <| d0 rfl Tryz.func111 rfl (fun w hb hh => w_gfmatrix_Matrix_at (Mem.snap w) u0 u1 A00_2 n00_2 c00_2 _ (RdH.sn (mM rfl (SlRc.lift (SlRc.lift (SlRc.lift hf00_2 hm_M48) hm_M75) hm_M81)) w hb hh) x52 x85 hx102) <| on 11 <| WS.eff rfl (by decide) (Eff.callS 208 rfl Tryz.func110 nm_110 rfl rfl (fun w hb hh => w_gf256_MulAdd (Mem.snap w) r_99.A r_99.n r_99.c _ (sM rfl hq101 w hb hh) r_94.A r_94.n r_94.c _ (sM rfl hq96 w hb hh) x102 hx104)) ?_
       rintro _ _ ⟨_, ⟨A109, n110, c111, rfl, rfl⟩, rfl⟩
       refine aq ?_
       refine dm 12 rfl rfl <| du 13 rfl (extract rfl rfl) <| du 14 rfl (extract rfl rfl) <| on 15 ?_
       obtain ⟨r_113, hr114, hq115⟩ := Rels.idx hq84 hx112
       refine dy rfl (idxC (xs := rs83) sty_30 rfl rfl (rO 138 rfl) hr114) <| on 16 <| WS.freeze 208 rfl rfl rfl rfl rfl fun M116 hm_M116 hf117 => ?_
       obtain ⟨hu119, hq120⟩ := Rels.upd (r := (⟨A109, n110, c111⟩ : Hdr)) (Rels.lift hq84 hm_M116) hx118 hf117
       refine WS.eff0 rfl (Eff0.storeC1 138 (xs := rs83) (a' := (⟨A109, n110, c111⟩ : Hdr)) siz_22 rfl rfl rfl rfl rfl rfl hu119) (sc sn) <| dd <| k97 _ _ <| bn <| tn <| k91 _ _ <| rg fun _ k121 => bd h fun x122 hx122 h => ya (addC rfl rfl hx122) <| mv rfl <| dz k121 <| tn <| kw (k87 ⟨M116, x118, (rs83.set (x52).toNat (⟨A109, n110, c111⟩ : Hdr)), x122⟩ ⟨h, (Ext.trans hm_M81 hm_M116), hq120⟩)
      skip
      refine d0 rfl Tryz.func111 rfl (fun w hb hh => w_gfmatrix_Matrix_at (Mem.snap w) u0 u1 A00_2 n00_2 c00_2 _ (RdH.sn (mM rfl (SlRc.lift (SlRc.lift (SlRc.lift hf00_2 hm_M48) hm_M75) hm_M81)) w hb hh) x52 x85 hx102) <| on 5 <| dy rfl (loadC0 (xs := rs83) scal_22 rfl (rO 138 rfl) hr100 rfl) <| on 11 <| WS.eff rfl (by decide) (Eff.callS 208 rfl Tryz.func110 nm_110 rfl rfl (fun w hb hh => w_gf256_MulAdd (Mem.snap w) r_99.A r_99.n r_99.c _ (sM rfl hq101 w hb hh) r_94.A r_94.n r_94.c _ (sM rfl hq96 w hb hh) x102 hx104)) ?_
      rintro _ _ ⟨_, ⟨A109, n110, c111, rfl, rfl⟩, rfl⟩
      refine aq ?_
      refine dm 12 rfl rfl <| du 13 rfl (extract rfl rfl) <| du 14 rfl (extract rfl rfl) <| on 15 ?_
      obtain ⟨r_113, hr114, hq115⟩ := Rels.idx hq84 hx112
      refine dy rfl (idxC (xs := rs83) sty_30 rfl rfl (rO 138 rfl) hr114) <| on 16 <| WS.freeze 208 rfl rfl rfl rfl rfl fun M116 hm_M116 hf117 => ?_
      obtain ⟨hu119, hq120⟩ := Rels.upd (r := (⟨A109, n110, c111⟩ : Hdr)) (Rels.lift hq84 hm_M116) hx118 hf117
      refine WS.eff0 rfl (Eff0.storeC1 138 (xs := rs83) (a' := (⟨A109, n110, c111⟩ : Hdr)) siz_22 rfl rfl rfl rfl rfl rfl hu119) (sc sn) <| dd <| k97 _ _ <| bn <| tn <| k91 _ _ <| rg fun _ k123 => bd h fun x124 hx124 h => ya (addC rfl rfl hx124) <| mv rfl <| dz k123 <| tn <| kw (k87 ⟨M116, x118, (rs83.set (x52).toNat (⟨A109, n110, c111⟩ : Hdr)), x124⟩ ⟨h, (Ext.trans hm_M81 hm_M116), hq120⟩)
     skip
     refine d0 rfl Tryz.func111 rfl (fun w hb hh => w_gfmatrix_Matrix_at (Mem.snap w) u0 u1 A00_2 n00_2 c00_2 _ (RdH.sn (mM rfl (SlRc.lift (SlRc.lift (SlRc.lift hf00_2 hm_M48) hm_M75) hm_M81)) w hb hh) x52 x85 hx102) <| on 4 ?_
     obtain ⟨r_99, hr100, hq101⟩ := Rels.idx hq84 hx98
     refine dy rfl (idxC (xs := rs83) sty_30 rfl rfl (rO 138 rfl) hr100) <| on 5 <| dy rfl (loadC0 (xs := rs83) scal_22 rfl (rO 138 rfl) hr100 rfl) <| on 11 <| WS.eff rfl (by decide) (Eff.callS 208 rfl Tryz.func110 nm_110 rfl rfl (fun w hb hh => w_gf256_MulAdd (Mem.snap w) r_99.A r_99.n r_99.c _ (sM rfl hq101 w hb hh) r_94.A r_94.n r_94.c _ (sM rfl hq96 w hb hh) x102 hx104)) ?_
     rintro _ _ ⟨_, ⟨A109, n110, c111, rfl, rfl⟩, rfl⟩
     refine aq ?_
     refine dm 12 rfl rfl <| du 13 rfl (extract rfl rfl) <| du 14 rfl (extract rfl rfl) <| on 15 ?_
     obtain ⟨r_113, hr114, hq115⟩ := Rels.idx hq84 hx112
     refine dy rfl (idxC (xs := rs83) sty_30 rfl rfl (rO 138 rfl) hr114) <| on 16 <| WS.freeze 208 rfl rfl rfl rfl rfl fun M116 hm_M116 hf117 => ?_
     obtain ⟨hu119, hq120⟩ := Rels.upd (r := (⟨A109, n110, c111⟩ : Hdr)) (Rels.lift hq84 hm_M116) hx118 hf117
     refine WS.eff0 rfl (Eff0.storeC1 138 (xs := rs83) (a' := (⟨A109, n110, c111⟩ : Hdr)) siz_22 rfl rfl rfl rfl rfl rfl hu119) (sc sn) <| dd <| k97 _ _ <| bn <| tn <| k91 _ _ <| rg fun _ k125 => bd h fun x126 hx126 h => ya (addC rfl rfl hx126) <| mv rfl <| dz k125 <| tn <| kw (k87 ⟨M116, x118, (rs83.set (x52).toNat (⟨A109, n110, c111⟩ : Hdr)), x126⟩ ⟨h, (Ext.trans hm_M81 hm_M116), hq120⟩)
    exact xi <| te <| te <| bx <| bn <| tn <| kw (k62 ⟨M81, x82, rs83⟩ ⟨h, (Ext.trans hm_M75 hm_M81), hq84⟩)
   rintro ⟨M58, x59, rs60⟩ ⟨h, hm_M58, hq61⟩
   unfold m_gfmatrix_Apply_j5 at h
   refine rg fun _ k127 => bd h fun x128 hx128 h => ya (addC rfl rfl hx128) <| mv rfl <| dz k127 <| tn <| kw (k54 ⟨M58, x59, rs60, x128⟩ ⟨h, (Ext.trans hm_M48 hm_M58), hq61⟩)
  exact xi <| te <| te <| bx <| tn <| kw (k46 ⟨M48, x49, rs50⟩ ⟨h, hm_M48, hq51⟩)
 rintro ⟨M42, x43, rs44⟩ ⟨h, hm_M42, hq45⟩
 unfold m_gfmatrix_Apply_j3 at h
 refine sr fun _ k129 => mv rfl <| asn rfl <| ak rfl k129 <| re ?_
 obtain rfl := si h
 exact rt [138] (ResIs.two rfl rfl rfl) hm_M42 ⟨(some ⟨g38, 0, none⟩), (List.replicate (u0).toNat (⟨none, 0, 0⟩ : Hdr)).length, (List.replicate (u0).toNat (⟨none, 0, 0⟩ : Hdr)).length, rs44, rfl, rfl, hq45⟩
end Go.Proofs.YthjnhlmfcejhkaaGreat
