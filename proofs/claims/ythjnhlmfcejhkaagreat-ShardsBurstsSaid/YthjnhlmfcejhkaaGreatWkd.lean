/- A part of the proof. Conditions: as each theorem says. -/
import Derived.Test.YthjnhlmfcejhkaaGreatWkc
import Derived.Test.YthjnhlmfcejhkaaGreatMdr
namespace Go.Proofs.YthjnhlmfcejhkaaGreat
set_option maxRecDepth 10000
open Go Go.RowKit Yld
set_option linter.unusedVariables false
theorem und_138 : Tryz.prog.underlying 138 = some (.array 6 4) := by kernel_rfl
theorem und_9 : Tryz.prog.underlying 9 = some .string := by kernel_rfl
theorem und_91 : Tryz.prog.underlying 91 = some (.slice 4) := by kernel_rfl
theorem agg_138 : Agg Tryz.prog 138 6 := ⟨⟨_, Tryz.underlying138, rfl⟩, by kernel_rfl⟩
theorem nm_37 : (Tryz.f37.name == "runtime.NumGoroutine") = false := by kernel_rfl
theorem nm_79 : (Tryz.f79.name == "runtime.NumGoroutine") = false := by kernel_rfl
theorem nm_87 : (Tryz.f87.name == "runtime.NumGoroutine") = false := by kernel_rfl
theorem scal_4 : scal Tryz.prog 4 = true := by kernel_rfl
theorem siz_4 : (Tryz.prog.info? 4).map (·.size) = some 1 := by kernel_rfl
theorem zr_138 : (Tryz.prog.info? 138).map (fun i => i.zero.map (·.cells)) = some (some (cel (List.replicate 6 (false))).toArray) := by kernel_rfl
theorem w_rs_Code (M0 : Mem)  {res : Int × Int × By} (h : m_rs_Code = some res) :
  Fn Tryz.prog 78 #[] M0 fun r M' es => ∃ (A1 : Option Addr) (n1 c1 : Nat), r = .agg ([I64 res.1, I64 res.2.1, .slice A1 n1 c1] : List Value).toArray /\ es = [.own 5 (Lay.sz (BitVec 8)) A1 n1 c1 (cel res.2.2)] := by
 refine Fn.intro (N := 31) Tryz.func78 rfl rfl (nle rfl) fun w0 => ?_
 unfold m_rs_Code at h
 refine sr fun _ k1 => al 102 zr_124 fun g2 => dz k1 <| sr fun _ k3 => bd h fun x4 hx4 h => c1 108 Tryz.func107 rfl (fun w hb hh => w_gfmatrix_Vandermonde (Mem.snap w) (6 : Int) (4 : Int) hx4) fun A9 n10 c11 => mv rfl <| ya (extract rfl rfl) <| ya (extract rfl rfl) <| al 112 zr_124 fun g12 => sb 112 agg_124 rfl rfl rfl <| ak rfl k3 <| sr fun _ k13 => bd h fun x15 hx15 h => ya (loadBM (k := 112) agg_124 rfl rfl rfl) <| WL.eff (by decide) (Eff.buildC 114 ([(0 : Int), (1 : Int), (2 : Int), (3 : Int)] : List Int) sty_45 rfl rfl rfl rfl rfl (by decide)) ?_
 rintro _ _ ⟨g14, rfl, rfl⟩
 refine c1 119 Tryz.func77 rfl (fun w hb hh => w_gfmatrix_Pick (Mem.snap w) x4.1 x4.2.1 A9 n10 c11 _ (RdH.sn (rO 108 rfl) w hb hh) (some ⟨g14, 0, none⟩) (([(0 : Int), (1 : Int), (2 : Int), (3 : Int)] : List Int).length) (([(0 : Int), (1 : Int), (2 : Int), (3 : Int)] : List Int).length) _ (RdH.sn (rO 114 rfl) w hb hh) hx15) fun A20 n21 c22 => mv rfl <| ya (extract rfl rfl) <| ya (extract rfl rfl) <| al 123 zr_124 fun g23 => sb 123 agg_124 rfl rfl rfl <| ak rfl k13 <| sr fun _ k24 => bd h fun x25 hx25 h => ya (loadBM (k := 123) agg_124 rfl rfl rfl) <| c1 129 Tryz.func108 rfl (fun w hb hh => w_gfmatrix_Invert (Mem.snap w) x15.1 x15.2.1 A20 n21 c22 _ (RdH.sn (rO 119 rfl) w hb hh) hx25) fun A30 n31 c32 => mv rfl <| ya (extract rfl rfl) <| ya (extract rfl rfl) <| al 133 zr_124 fun g33 => sb 133 agg_124 rfl rfl rfl <| ak rfl k24 <| sr fun _ k34 => bd h fun x35 hx35 h => ya (loadBM (k := 112) agg_124 rfl rfl rfl) <| ya (loadBM (k := 133) agg_124 rfl rfl rfl) <| c1 139 Tryz.func109 rfl (fun w hb hh => w_gfmatrix_Mul (Mem.snap w) x4.1 x4.2.1 A9 n10 c11 _ (RdH.sn (rO 108 rfl) w hb hh) x25.1 x25.2.1 A30 n31 c32 _ (RdH.sn (rO 129 rfl) w hb hh) hx35) fun A40 n41 c42 => mv rfl <| ya (extract rfl rfl) <| ya (extract rfl rfl) <| al 143 zr_124 fun g43 => sb 143 agg_124 rfl rfl rfl <| ak rfl k34 <| sr fun _ k44 => ya (loadBM (k := 143) agg_124 rfl rfl rfl) <| sb 102 agg_124 rfl rfl rfl <| dz k44 <| re ?_
 obtain rfl := si h
 exact rt [139] (ResIs.cellM (k := 102) rfl agg_124 rfl rfl (rfl)) (Ext.refl _ _) ⟨A40, n41, c42, rfl, rfl⟩
theorem w_rs_restore (M0 : Mem) (A00 : Option Addr) (n00 c00 : Nat) (rs00 : List Hdr) (x00 : List By) (hf00 : SlT M0 A00 n00 c00 rs00) (hq00 : Rels ((RelB (α := BitVec 8)) M0) rs00 x00) (x01 : List Bool) (hl01 : x01.length = 6) {res : (List By)} (h : m_rs_restore x00 x01 = some res) :
  Fn Tryz.prog 87 #[.slice A00 n00 c00, .agg (cel x01).toArray] M0 fun r M' es => ∃ (A1 : Option Addr) (n1 c1 : Nat), ∃ rs1 : List Hdr, r = .slice A1 n1 c1 /\ es = [.own 22 (Lay.sz Hdr) A1 n1 c1 (cel rs1)] /\ Rels ((RelB (α := BitVec 8)) M') rs1 res := by
 refine Fn.intro (N := 66) Tryz.func87 rfl rfl (nle rfl) fun w0 => ?_
 unfold m_rs_restore at h
 refine sr fun _ k1 => bb 102 (cel x01) rfl fun g2 => ak rfl k1 <| sr fun _ k3 => ak rfl k3 <| sr fun _ k4 => ak rfl k4 <| ct (σ := (Option Addr) × Nat × Nat × (List Int) × (Option Addr) × Nat × Nat × (List By) × (List Hdr)) (fun ⟨A7, n8, c9, x10, A13, n14, c15, x16, rs17⟩ => [(5, .slice A7 n8 c9), (6, .slice A13 n14 c15)]) (fun ⟨A7, n8, c9, x10, A13, n14, c15, x16, rs17⟩ => [(0, .mem M0), (106, .own 3 (Lay.sz Int) A7 n8 c9 (cel x10)), (112, .own 22 (Lay.sz Hdr) A13 n14 c15 (cel rs17))]) (fun ⟨A7, n8, c9, x10, A13, n14, c15, x16, rs17⟩ => m_rs_restore_j0 x10 x16 = some res /\ Rels ((RelB (α := BitVec 8)) M0) rs17 x16) (fun _ k19 => ?_) ?_
 ·refine sr fun _ k20 => ya (loadBM (k := 102) agg_138 rfl rfl (cel_len1 rfl hl01)) <| mv rfl <| dz k20 <| bl <| WC.nilOwn 122 3 (Lay.sz Int) none <| WC.nilOwn 128 22 (Lay.sz Hdr) none <| lp (τ := (Option Addr) × Nat × Nat × (List Int) × (Option Addr) × Nat × Nat × (List By) × (List Hdr) × Int) (fun ⟨A23, n24, c25, x26, A29, n30, c31, x32, rs33, x35⟩ => [(0, .slice A00 n00 c00), (5, .slice A23 n24 c25), (6, .slice A29 n30 c31), (18, .agg (cel x01).toArray), (19, I64 x35)]) (fun ⟨A23, n24, c25, x26, A29, n30, c31, x32, rs33, x35⟩ => [(0, .mem M0), (122, .own 3 (Lay.sz Int) A23 n24 c25 (cel x26)), (128, .own 22 (Lay.sz Hdr) A29 n30 c31 (cel rs33))]) (fun q36 ⟨A23, n24, c25, x26, A29, n30, c31, x32, rs33, x35⟩ => m_rs_restore_l1 x00 x01 q36 x26 x32 x35 = some res /\ Rels ((RelB (α := BitVec 8)) M0) rs33 x32) ⟨none, 0, 0, ([] : List Int), none, 0, 0, ([] : List By), ([] : List Hdr), (0 : Int)⟩ ?_ (by simp [m_rs_restore_l1]) ?_
  ·exact ⟨h, (Rels.nil (R := (RelB (α := BitVec 8)) M0))⟩
  rintro q36 ⟨A23, n24, c25, x26, A29, n30, c31, x32, rs33, x35⟩ ⟨h, hq34⟩ _ k37
  unfold m_rs_restore_l1 at h
  refine sr fun _ k38 => ya (lss rfl rfl) <| dz k38 <| sq fun _ k39 => cI h rfl (fun hc40 h => ?_) fun hc40 h => ?_
  ·refine ss <| k39 _ _ <| sq fun _ k41 => bl <| sr fun _ k42 => bd h fun x43 hx43 h => mv rfl <| ya (idxAggC (xs := x01) und_138 siz_4 rfl scal_4 rfl rfl hl01 hx43 rfl) <| asn rfl <| ak rfl k42 <| sr fun _ k44 => mv rfl <| mv rfl <| spl h id Bool.eq_false_iff.2 (fun hc45 h => ?_) fun hc45 h => ?_
   ·refine mvg rfl <| yg (lenC (xs := x26) und_45 rfl (rO 122 rfl)) <| yg (lss rfl rfl) <| pt rfl rfl <| dz k44 <| cI h rfl (fun hc46 h => ?_) fun hc46 h => ?_
    ·refine rd [(0, _)] mixed fun _ k47 => ?_
     obtain ⟨x49, hx49, h⟩ := bnd h
     obtain ⟨x52, hx52, h⟩ := bnd h
     obtain ⟨x58, hx58, h⟩ := bnd h
     refine dm 0 rfl rfl <| dm 1 rfl rfl <| dm 4 rfl rfl <| dm 5 rfl rfl <| dm 6 rfl rfl ?_
     obtain ⟨r_53, hr54, hq55⟩ := Rels.idx hq00 hx52
     refine du 7 rfl (idxC (xs := rs00) sty_30 rfl rfl (mM rfl hf00) hr54) <| du 8 rfl (loadC0 (xs := rs00) scal_22 rfl (mM rfl hf00) hr54 rfl) <| WD.two 2 9 (by kernel_rfl) ?_ ?_
     ·refine WS.eff rfl (by decide) (Eff.buildC 148 ([x35] : List Int) sty_45 rfl rfl rfl rfl rfl (by decide)) ?_
      rintro _ _ ⟨g48, rfl, rfl⟩
      refine aq ?_
      refine WD.two 3 9 (by kernel_rfl) ?_ ?_
      ·refine WS.eff rfl (by decide) (Eff.appendC 122 (xs := x26) (ys := ([x35] : List Int)) sty_45 rfl rfl rfl (rO 148 rfl) hx49) ?_
       rintro _ _ ⟨A50, c51, rfl, rfl⟩
       refine aq ?_
       refine on 9 ?_
       have hq57 : Rels ((RelB (α := BitVec 8)) M0) ([(⟨r_53.A, r_53.n, r_53.c⟩ : Hdr)] : List Hdr) ([x52] : List By) := (Rels.cons hq55 Rels.nil)
       refine WS.eff rfl (by decide) (Eff.buildC 156 ([(⟨r_53.A, r_53.n, r_53.c⟩ : Hdr)] : List Hdr) sty_30 rfl rfl rfl rfl rfl (by decide)) ?_
       rintro _ _ ⟨g56, rfl, rfl⟩
       refine aq ?_
       refine on 10 ?_
       obtain ⟨hu61, hq62⟩ := Rels.apd hq34 hq57 hx58
       refine WS.eff rfl (by decide) (Eff.appendC 128 (xs := rs33) (ys := ([(⟨r_53.A, r_53.n, r_53.c⟩ : Hdr)] : List Hdr)) sty_30 rfl rfl rfl (rO 156 rfl) hu61) ?_
       rintro _ _ ⟨A59, c60, rfl, rfl⟩
       refine aq ?_
       refine du 11 rfl (Yld.assign rfl) <| du 12 rfl (Yld.assign rfl) <| dd <| k47 _ _ <| bn <| tn <| k41 _ _ <| rg fun _ k63 => bd h fun x64 hx64 h => ya (addC rfl rfl hx64) <| mv rfl <| dz k63 <| tn <| kw (k37 ⟨A50, x49.length, c51, x49, A59, (rs33 ++ ([(⟨r_53.A, r_53.n, r_53.c⟩ : Hdr)] : List Hdr)).length, c60, x58, (rs33 ++ ([(⟨r_53.A, r_53.n, r_53.c⟩ : Hdr)] : List Hdr)), x64⟩ ⟨h, hq62⟩)
      skip
      have hq57 : Rels ((RelB (α := BitVec 8)) M0) ([(⟨r_53.A, r_53.n, r_53.c⟩ : Hdr)] : List Hdr) ([x52] : List By) := (Rels.cons hq55 Rels.nil)
      refine WS.eff rfl (by decide) (Eff.buildC 156 ([(⟨r_53.A, r_53.n, r_53.c⟩ : Hdr)] : List Hdr) sty_30 rfl rfl rfl rfl rfl (by decide)) ?_
      rintro _ _ ⟨g56, rfl, rfl⟩
      refine aq ?_
      refine on 3 <| WS.eff rfl (by decide) (Eff.appendC 122 (xs := x26) (ys := ([x35] : List Int)) sty_45 rfl rfl rfl (rO 148 rfl) hx49) ?_
      rintro _ _ ⟨A50, c51, rfl, rfl⟩
      refine aq ?_
      refine on 10 ?_
      obtain ⟨hu61, hq62⟩ := Rels.apd hq34 hq57 hx58
      refine WS.eff rfl (by decide) (Eff.appendC 128 (xs := rs33) (ys := ([(⟨r_53.A, r_53.n, r_53.c⟩ : Hdr)] : List Hdr)) sty_30 rfl rfl rfl (rO 156 rfl) hu61) ?_
      rintro _ _ ⟨A59, c60, rfl, rfl⟩
      refine aq ?_
      refine du 11 rfl (Yld.assign rfl) <| du 12 rfl (Yld.assign rfl) <| dd <| k47 _ _ <| bn <| tn <| k41 _ _ <| rg fun _ k65 => bd h fun x66 hx66 h => ya (addC rfl rfl hx66) <| mv rfl <| dz k65 <| tn <| kw (k37 ⟨A50, x49.length, c51, x49, A59, (rs33 ++ ([(⟨r_53.A, r_53.n, r_53.c⟩ : Hdr)] : List Hdr)).length, c60, x58, (rs33 ++ ([(⟨r_53.A, r_53.n, r_53.c⟩ : Hdr)] : List Hdr)), x66⟩ ⟨h, hq62⟩)
     skip
     have hq57 : Rels ((RelB (α := BitVec 8)) M0) ([(⟨r_53.A, r_53.n, r_53.c⟩ : Hdr)] : List Hdr) ([x52] : List By) := (Rels.cons hq55 Rels.nil)
     refine WS.eff rfl (by decide) (Eff.buildC 156 ([(⟨r_53.A, r_53.n, r_53.c⟩ : Hdr)] : List Hdr) sty_30 rfl rfl rfl rfl rfl (by decide)) ?_
     rintro _ _ ⟨g56, rfl, rfl⟩
     refine aq ?_
     refine on 2 <| WS.eff rfl (by decide) (Eff.buildC 148 ([x35] : List Int) sty_45 rfl rfl rfl rfl rfl (by decide)) ?_
     rintro _ _ ⟨g48, rfl, rfl⟩
     refine aq ?_
     refine on 3 <| WS.eff rfl (by decide) (Eff.appendC 122 (xs := x26) (ys := ([x35] : List Int)) sty_45 rfl rfl rfl (rO 148 rfl) hx49) ?_
     rintro _ _ ⟨A50, c51, rfl, rfl⟩
     refine aq ?_
     refine on 10 ?_
     obtain ⟨hu61, hq62⟩ := Rels.apd hq34 hq57 hx58
     refine WS.eff rfl (by decide) (Eff.appendC 128 (xs := rs33) (ys := ([(⟨r_53.A, r_53.n, r_53.c⟩ : Hdr)] : List Hdr)) sty_30 rfl rfl rfl (rO 156 rfl) hu61) ?_
     rintro _ _ ⟨A59, c60, rfl, rfl⟩
     refine aq ?_
     refine du 11 rfl (Yld.assign rfl) <| du 12 rfl (Yld.assign rfl) <| dd <| k47 _ _ <| bn <| tn <| k41 _ _ <| rg fun _ k67 => bd h fun x68 hx68 h => ya (addC rfl rfl hx68) <| mv rfl <| dz k67 <| tn <| kw (k37 ⟨A50, x49.length, c51, x49, A59, (rs33 ++ ([(⟨r_53.A, r_53.n, r_53.c⟩ : Hdr)] : List Hdr)).length, c60, x58, (rs33 ++ ([(⟨r_53.A, r_53.n, r_53.c⟩ : Hdr)] : List Hdr)), x68⟩ ⟨h, hq62⟩)
    refine WC.skip <| bn <| tn <| k41 _ _ <| rg fun _ k69 => bd h fun x70 hx70 h => ya (addC rfl rfl hx70) <| mv rfl <| dz k69 <| tn <| kw (k37 ⟨A23, n24, c25, x26, A29, n30, c31, x32, rs33, x70⟩ ⟨h, hq34⟩)
   refine sk <| sk <| sk <| pf rfl rfl <| dz k44 <| cdF rfl <| WC.skip <| bn <| tn <| k41 _ _ <| rg fun _ k71 => bd h fun x72 hx72 h => ya (addC rfl rfl hx72) <| mv rfl <| dz k71 <| tn <| kw (k37 ⟨A23, n24, c25, x26, A29, n30, c31, x32, rs33, x72⟩ ⟨h, hq34⟩)
  exact xi <| te <| te <| bx <| tn <| KK.move 122 106 rfl rfl <| KK.move 128 112 rfl rfl <| kw (k19 ⟨A23, n24, c25, x26, A29, n30, c31, x32, rs33⟩ ⟨h, hq34⟩)
 rintro ⟨A7, n8, c9, x10, A13, n14, c15, x16, rs17⟩ ⟨h, hq18⟩
 unfold m_rs_restore_j0 at h
 refine sr fun _ k73 => bd h fun x74 hx74 h => c1 178 Tryz.func78 rfl (fun w hb hh => w_rs_Code (Mem.snap w) hx74) fun A79 n80 c81 => al 182 zr_124 fun g82 => sb 182 agg_124 rfl rfl rfl <| dz k73 <| sr fun _ k83 => bd h fun x84 hx84 h => ya (loadBM (k := 182) agg_124 rfl rfl rfl) <| mv rfl <| c1 188 Tryz.func77 rfl (fun w hb hh => w_gfmatrix_Pick (Mem.snap w) x74.1 x74.2.1 A79 n80 c81 _ (RdH.sn (rO 178 rfl) w hb hh) A7 n8 c9 _ (RdH.sn (rO 106 rfl) w hb hh) hx84) fun A89 n90 c91 => mv rfl <| ya (extract rfl rfl) <| ya (extract rfl rfl) <| al 192 zr_124 fun g92 => sb 192 agg_124 rfl rfl rfl <| ak rfl k83 <| sr fun _ k93 => bd h fun x94 hx94 h => ya (loadBM (k := 192) agg_124 rfl rfl rfl) <| c1 198 Tryz.func108 rfl (fun w hb hh => w_gfmatrix_Invert (Mem.snap w) x84.1 x84.2.1 A89 n90 c91 _ (RdH.sn (rO 188 rfl) w hb hh) hx94) fun A99 n100 c101 => mv rfl <| ya (extract rfl rfl) <| ya (extract rfl rfl) <| al 202 zr_124 fun g102 => sb 202 agg_124 rfl rfl rfl <| ak rfl k93 <| sr fun _ k103 => bd h fun x104 hx104 h => ya (loadBM (k := 182) agg_124 rfl rfl rfl) <| ya (loadBM (k := 202) agg_124 rfl rfl rfl) <| c1 208 Tryz.func109 rfl (fun w hb hh => w_gfmatrix_Mul (Mem.snap w) x74.1 x74.2.1 A79 n80 c81 _ (RdH.sn (rO 178 rfl) w hb hh) x94.1 x94.2.1 A99 n100 c101 _ (RdH.sn (rO 198 rfl) w hb hh) hx104) fun A109 n110 c111 => mv rfl <| ya (extract rfl rfl) <| ya (extract rfl rfl) <| al 212 zr_124 fun g112 => sb 212 agg_124 rfl rfl rfl <| ak rfl k103 <| sr fun _ k113 => bd h fun x114 hx114 h => ya (loadBM (k := 212) agg_124 rfl rfl rfl) <| mv rfl <| WL.freeze 208 rfl rfl rfl fun M126 hm_M126 hf127 => WL.freeze 112 rfl rfl rfl fun M128 hm_M128 hf129 => WL.eff (by decide) (Eff.callM 220 rfl Tryz.func79 nm_79 rfl rfl rfl (w_gfmatrix_Apply _ x104.1 x104.2.1 A109 n110 c111 _ (SlRc.lift hf127 hm_M128) A13 n14 c15 rs17 _ hf129 (Rels.lift (Rels.lift hq18 hm_M126) hm_M128) hx114)) ?_
 rintro _ _ ⟨M130, _, ⟨A131, n132, c133, rs134, rfl, rfl, hq135⟩, hm_M130, rfl⟩
 refine mv rfl <| ya (extract rfl rfl) <| ya (extract rfl rfl) <| asn rfl <| ak rfl k113 <| sr fun _ k136 => mv rfl <| ak rfl k136 <| re ?_
 obtain rfl := si h
 exact rt [220] (ResIs.one rfl rfl) (Ext.trans (Ext.trans hm_M126 hm_M128) hm_M130) ⟨A131, n132, c133, rs134, rfl, rfl, hq135⟩
theorem w_rs_Restore (M0 : Mem) (A00 : Option Addr) (n00 c00 : Nat) (rs00 : List Hdr) (x00 : List By) (hf00 : SlT M0 A00 n00 c00 rs00) (hq00 : Rels ((RelB (α := BitVec 8)) M0) rs00 x00) (A01 : Option Addr) (n01 c01 : Nat) (x01 : List Bool) (hf01 : SlT M0 A01 n01 c01 x01) {res : (List By) × Int} (h : m_rs_Restore x00 x01 = some res) :
  Fn Tryz.prog 45 #[.slice A00 n00 c00, .slice A01 n01 c01] M0 fun r M' es => ∃ (A1 : Option Addr) (n1 c1 : Nat), ∃ rs1 : List Hdr, r = .tuple #[.slice A1 n1 c1, I64 res.2] /\ es = [.own 22 (Lay.sz Hdr) A1 n1 c1 (cel rs1)] /\ Rels ((RelB (α := BitVec 8)) M') rs1 res.1 := by
 refine Fn.intro (N := 51) Tryz.func45 rfl rfl (nle rfl) fun w0 => ?_
 unfold m_rs_Restore at h
 refine sr fun _ k1 => asn rfl <| ak rfl k1 <| ct (σ := Unit) (fun _ => [(0, .slice A00 n00 c00), (1, .slice A01 n01 c01)]) (fun _ => [(0, .mem M0)]) (fun _ => m_rs_Restore_j0 x00 x01 = some res) (fun _ k2 => ?_) ?_
 ·refine sr fun _ k3 => mv rfl <| ya (lenD (rs := rs00) (xs := x00) (Rels.len hq00) und_30 rfl (mM rfl hf00)) <| ya (neqI rfl rfl) <| mv rfl <| spn h bne_eq_false_iff_eq.2 bne_iff_ne.2 (fun hc4 h => ?_) fun hc4 h => ?_
  ·refine mvg rfl <| yg (lenC (xs := x01) und_91 rfl (mM rfl hf01)) <| yg (neqI rfl rfl) <| pf rfl rfl <| dz k3 <| cnn h rfl bne_eq_false_iff_eq.2 bne_iff_ne.2 (fun hc5 h => ?_) fun hc5 h => ?_
   ·exact WC.skip <| tn <| kw (k2 () h)
   refine sr fun _ k6 => asn rfl <| ak rfl k6 <| re <| tr <| QK.nilOwn 107 22 (Lay.sz Hdr) none ?_
   obtain rfl := si h
   exact rt [107] (ResIs.two rfl rfl rfl) (Ext.refl _ _) ⟨none, 0, 0, ([] : List Hdr), rfl, rfl, (Rels.nil (R := (RelB (α := BitVec 8)) M0))⟩
  refine sk <| sk <| sk <| pt rfl rfl <| dz k3 <| cdT rfl <| sr fun _ k8 => asn rfl <| ak rfl k8 <| re <| tr <| QK.nilOwn 109 22 (Lay.sz Hdr) none ?_
  obtain rfl := si h
  exact rt [109] (ResIs.two rfl rfl rfl) (Ext.refl _ _) ⟨none, 0, 0, ([] : List Hdr), rfl, rfl, (Rels.nil (R := (RelB (α := BitVec 8)) M0))⟩
 rintro _ h
 unfold m_rs_Restore_j0 at h
 refine sr fun _ k10 => bd h fun x11 hx11 h => mv rfl <| ya (arrayAtC (xs := x01) und_138 rfl (mM rfl hf01) hx11) <| ya (loadTk (xs := x01) agg_138 rfl (Nat.lt_of_sub_eq_succ rfl) rfl (mM rfl hf01) hx11) <| al 112 zr_138 fun g12 => WL.eff0 (Eff0.storeBAM 112 agg_138 rfl rfl rfl ⟨cel_len1 rfl (tka_len hx11), cel_len1 rfl List.length_replicate⟩ (cel_all _)) <| dz k10 <| sr fun _ k13 => asn rfl <| ak rfl k13 <| ct (σ := Int) (fun x14 => [(0, .slice A00 n00 c00), (6, pv g12), (8, I64 x14)]) (fun x14 => [(0, .mem M0), (112, .blk g12 138 (cel x11))]) (fun x14 => m_rs_Restore_j1 x00 x11 x14 = some res) (fun _ k15 => ?_) ?_
 ·refine sr fun _ k16 => ya (loadBM (k := 112) agg_138 rfl rfl (cel_len1 rfl (tka_len hx11))) <| mv rfl <| dz k16 <| bl <| lp (τ := Int × Int × Int) (fun ⟨x17, x18, x19⟩ => [(0, .slice A00 n00 c00), (6, pv g12), (7, I64 x17), (8, I64 x18), (22, .agg (cel x11).toArray), (23, I64 x19)]) (fun ⟨x17, x18, x19⟩ => [(0, .mem M0), (112, .blk g12 138 (cel x11))]) (fun q20 ⟨x17, x18, x19⟩ => m_rs_Restore_l2 x00 x11 q20 x17 x18 x19 = some res) ⟨(-1 : Int), (0 : Int), (0 : Int)⟩ ?_ (by simp [m_rs_Restore_l2]) ?_
  ·exact h
  rintro q20 ⟨x17, x18, x19⟩ h _ k21
  unfold m_rs_Restore_l2 at h
  refine sr fun _ k22 => ya (lss rfl rfl) <| dz k22 <| sq fun _ k23 => cI h rfl (fun hc24 h => ?_) fun hc24 h => ?_
  ·refine ss <| k23 _ _ <| sq fun _ k25 => bl <| sr fun _ k26 => bd h fun x27 hx27 h => mv rfl <| ya (idxAggC (xs := x11) und_138 siz_4 rfl scal_4 rfl rfl (tka_len hx11) hx27 rfl) <| asn rfl <| ak rfl k26 <| sq fun _ k28 => sr fun _ k29 => mv rfl <| ya (notB rfl) <| dz k29 <| cnn h rfl not_f (fun q => not_t (Bool.eq_false_iff.2 q)) (fun hc30 h => ?_) fun hc30 h => ?_
   ·refine ss <| k28 _ _ <| sq fun _ k31 => sr fun _ k32 => mv rfl <| ya (lss rfl rfl) <| dz k32 <| cI h rfl (fun hc33 h => ?_) fun hc33 h => ?_
    ·refine rg fun _ k34 => mv rfl <| ak rfl k34 <| tn <| k31 _ _ <| sq fun _ k35 => sd [(0, _), (112, _)] mixed fun _ k36 => ?_
     obtain ⟨x37, hx37, h⟩ := bnd h
     obtain ⟨x41, hx41, h⟩ := bnd h
     refine dm 0 rfl rfl <| dm 1 rfl rfl ?_
     obtain ⟨r_38, hr39, hq40⟩ := Rels.idx hq00 hx37
     refine du 2 rfl (idxC (xs := rs00) sty_30 rfl rfl (mM rfl hf00) hr39) <| du 3 rfl (loadC0 (xs := rs00) scal_22 rfl (mM rfl hf00) hr39 rfl) <| du 4 rfl (lenC (xs := x37) und_22 rfl (mM rfl hq40)) <| dm 5 rfl rfl <| dm 6 rfl rfl ?_
     obtain ⟨r_42, hr43, hq44⟩ := Rels.idx hq00 hx41
     refine du 7 rfl (idxC (xs := rs00) sty_30 rfl rfl (mM rfl hf00) hr43) <| du 8 rfl (loadC0 (xs := rs00) scal_22 rfl (mM rfl hf00) hr43 rfl) <| du 9 rfl (lenC (xs := x41) und_22 rfl (mM rfl hq44)) <| du 10 rfl (neqI rfl rfl) <| dd <| k36 _ _ <| cnn h rfl bne_eq_false_iff_eq.2 bne_iff_ne.2 (fun hc45 h => ?_) fun hc45 h => ?_
     ·refine ss <| k35 _ _ <| rg fun _ k46 => bd h fun x47 hx47 h => mv rfl <| ya (addC rfl rfl hx47) <| ak rfl k46 <| bn <| tn <| k25 _ _ <| rg fun _ k48 => bd h fun x49 hx49 h => ya (addC rfl rfl hx49) <| mv rfl <| dz k48 <| tn <| kw (k21 ⟨x19, x47, x49⟩ h)
     refine sr fun _ k50 => asn rfl <| ak rfl k50 <| re <| tr <| br <| tr <| tr <| br <| tr <| QK.nilOwn 151 22 (Lay.sz Hdr) none ?_
     obtain rfl := si h
     exact rt [151] (ResIs.two rfl rfl rfl) (Ext.refl _ _) ⟨none, 0, 0, ([] : List Hdr), rfl, rfl, (Rels.nil (R := (RelB (α := BitVec 8)) M0))⟩
    refine ss <| k31 _ _ <| sq fun _ k52 => sd [(0, _), (112, _)] mixed fun _ k53 => ?_
    obtain ⟨x54, hx54, h⟩ := bnd h
    obtain ⟨x58, hx58, h⟩ := bnd h
    refine dm 0 rfl rfl <| dm 1 rfl rfl ?_
    obtain ⟨r_55, hr56, hq57⟩ := Rels.idx hq00 hx54
    refine du 2 rfl (idxC (xs := rs00) sty_30 rfl rfl (mM rfl hf00) hr56) <| du 3 rfl (loadC0 (xs := rs00) scal_22 rfl (mM rfl hf00) hr56 rfl) <| du 4 rfl (lenC (xs := x54) und_22 rfl (mM rfl hq57)) <| dm 5 rfl rfl <| dm 6 rfl rfl ?_
    obtain ⟨r_59, hr60, hq61⟩ := Rels.idx hq00 hx58
    refine du 7 rfl (idxC (xs := rs00) sty_30 rfl rfl (mM rfl hf00) hr60) <| du 8 rfl (loadC0 (xs := rs00) scal_22 rfl (mM rfl hf00) hr60 rfl) <| du 9 rfl (lenC (xs := x58) und_22 rfl (mM rfl hq61)) <| du 10 rfl (neqI rfl rfl) <| dd <| k53 _ _ <| cnn h rfl bne_eq_false_iff_eq.2 bne_iff_ne.2 (fun hc62 h => ?_) fun hc62 h => ?_
    ·refine ss <| k52 _ _ <| rg fun _ k63 => bd h fun x64 hx64 h => mv rfl <| ya (addC rfl rfl hx64) <| ak rfl k63 <| bn <| tn <| k25 _ _ <| rg fun _ k65 => bd h fun x66 hx66 h => ya (addC rfl rfl hx66) <| mv rfl <| dz k65 <| tn <| kw (k21 ⟨x17, x64, x66⟩ h)
    refine sr fun _ k67 => asn rfl <| ak rfl k67 <| re <| tr <| br <| tr <| tr <| br <| tr <| QK.nilOwn 168 22 (Lay.sz Hdr) none ?_
    obtain rfl := si h
    exact rt [168] (ResIs.two rfl rfl rfl) (Ext.refl _ _) ⟨none, 0, 0, ([] : List Hdr), rfl, rfl, (Rels.nil (R := (RelB (α := BitVec 8)) M0))⟩
   refine xi <| te <| bx <| tn <| k25 _ _ <| rg fun _ k69 => bd h fun x70 hx70 h => ya (addC rfl rfl hx70) <| mv rfl <| dz k69 <| tn <| kw (k21 ⟨x17, x18, x70⟩ h)
  exact xi <| te <| te <| bx <| tn <| kw (k15 x18 h)
 rintro x14 h
 unfold m_rs_Restore_j1 at h
 refine sq fun _ k71 => sr fun _ k72 => mv rfl <| ya (lss rfl rfl) <| dz k72 <| cI h rfl (fun hc73 h => ?_) fun hc73 h => ?_
 ·refine sr fun _ k74 => asn rfl <| ak rfl k74 <| re <| tr <| QK.nilOwn 175 22 (Lay.sz Hdr) none ?_
  obtain rfl := si h
  exact rt [175] (ResIs.two rfl rfl rfl) (Ext.refl _ _) ⟨none, 0, 0, ([] : List Hdr), rfl, rfl, (Rels.nil (R := (RelB (α := BitVec 8)) M0))⟩
 refine ss <| k71 _ _ <| sr fun _ k76 => bd h fun x77 hx77 h => mv rfl <| ya (loadBM (k := 112) agg_138 rfl rfl (cel_len1 rfl (tka_len hx11))) <| WL.eff (by decide) (Eff.callM 183 rfl Tryz.func87 nm_87 rfl rfl rfl (w_rs_restore _ A00 n00 c00 rs00 _ hf00 hq00 x11 (tka_len hx11) hx77)) ?_
 rintro _ _ ⟨M89, _, ⟨A90, n91, c92, rs93, rfl, rfl, hq94⟩, hm_M89, rfl⟩
 refine asn rfl <| ak rfl k76 <| re ?_
 obtain rfl := si h
 exact rt [183] (ResIs.two rfl rfl rfl) hm_M89 ⟨A90, n91, c92, rs93, rfl, rfl, hq94⟩
theorem w_rs_Encode (M0 : Mem) (A00 : Option Addr) (n00 c00 : Nat) (rs00 : List Hdr) (x00 : List By) (hf00 : SlT M0 A00 n00 c00 rs00) (hq00 : Rels ((RelB (α := BitVec 8)) M0) rs00 x00) {res : (List By) × Int} (h : m_rs_Encode x00 = some res) :
  Fn Tryz.prog 37 #[.slice A00 n00 c00] M0 fun r M' es => ∃ (A1 : Option Addr) (n1 c1 : Nat), ∃ rs1 : List Hdr, r = .tuple #[.slice A1 n1 c1, I64 res.2] /\ es = [.own 22 (Lay.sz Hdr) A1 n1 c1 (cel rs1)] /\ Rels ((RelB (α := BitVec 8)) M') rs1 res.1 := by
 refine Fn.intro (N := 20) Tryz.func37 rfl rfl (nle rfl) fun w0 => ?_
 unfold m_rs_Encode at h
 refine sr fun _ k1 => asn rfl <| ak rfl k1 <| sq fun _ k2 => sr fun _ k3 => mv rfl <| ya (lenD (rs := rs00) (xs := x00) (Rels.len hq00) und_30 rfl (mM rfl hf00)) <| ya (neqI rfl rfl) <| dz k3 <| cnn h rfl bne_eq_false_iff_eq.2 bne_iff_ne.2 (fun hc4 h => ?_) fun hc4 h => ?_
 ·refine ss <| k2 _ _ <| sr fun _ k5 => ?_
  obtain ⟨x6, hx6, h⟩ := bnd h
  obtain ⟨x15, hx15, h⟩ := bnd h
  refine c1 110 Tryz.func78 rfl (fun w hb hh => w_rs_Code (Mem.snap w) hx6) fun A11 n12 c13 => WL.eff (by decide) (Eff.buildC 114 ([(4 : Int), (5 : Int)] : List Int) sty_45 rfl rfl rfl rfl rfl (by decide)) ?_
  rintro _ _ ⟨g14, rfl, rfl⟩
  refine c1 119 Tryz.func77 rfl (fun w hb hh => w_gfmatrix_Pick (Mem.snap w) x6.1 x6.2.1 A11 n12 c13 _ (RdH.sn (rO 110 rfl) w hb hh) (some ⟨g14, 0, none⟩) (([(4 : Int), (5 : Int)] : List Int).length) (([(4 : Int), (5 : Int)] : List Int).length) _ (RdH.sn (rO 114 rfl) w hb hh) hx15) fun A20 n21 c22 => mv rfl <| ya (extract rfl rfl) <| ya (extract rfl rfl) <| al 123 zr_124 fun g23 => sb 123 agg_124 rfl rfl rfl <| ak rfl k5 <| sr fun _ k24 => bd h fun x25 hx25 h => ya (loadBM (k := 123) agg_124 rfl rfl rfl) <| mv rfl <| WL.freeze 119 rfl rfl rfl fun M37 hm_M37 hf38 => WL.eff (by decide) (Eff.callM 131 rfl Tryz.func79 nm_79 rfl rfl rfl (w_gfmatrix_Apply _ x15.1 x15.2.1 A20 n21 c22 _ hf38 A00 n00 c00 rs00 _ (SlRc.lift hf00 hm_M37) (Rels.lift hq00 hm_M37) hx25)) ?_
  rintro _ _ ⟨M39, _, ⟨A40, n41, c42, rs43, rfl, rfl, hq44⟩, hm_M39, rfl⟩
  refine ya (extract rfl rfl) <| ya (extract rfl rfl) <| asn rfl <| ak rfl k24 <| re ?_
  obtain rfl := si h
  exact rt [131] (ResIs.two rfl rfl rfl) (Ext.trans hm_M37 hm_M39) ⟨A40, n41, c42, rs43, rfl, rfl, hq44⟩
 refine sr fun _ k45 => asn rfl <| ak rfl k45 <| re <| tr <| QK.nilOwn 146 22 (Lay.sz Hdr) none ?_
 obtain rfl := si h
 exact rt [146] (ResIs.two rfl rfl rfl) (Ext.refl _ _) ⟨none, 0, 0, ([] : List Hdr), rfl, rfl, (Rels.nil (R := (RelB (α := BitVec 8)) M0))⟩
end Go.Proofs.YthjnhlmfcejhkaaGreat
