/- A part of the proof. Conditions: as each theorem says. -/
import Derived.Test.YthjnhlmfcejhkaaGreatX18
import Derived.Test.YthjnhlmfcejhkaaGreatProg
import Derived.Test.YthjnhlmfcejhkaaGreatMdr
namespace Go.Proofs.YthjnhlmfcejhkaaGreat
set_option maxRecDepth 10000
open Go Go.RowKit Yld
set_option linter.unusedVariables false
theorem und_179 : Tryz.prog.underlying 179 = some (.array 510 5) := by kernel_rfl
theorem und_180 : Tryz.prog.underlying 180 = some (.array 256 3) := by kernel_rfl
theorem und_22 : Tryz.prog.underlying 22 = some (.slice 5) := by kernel_rfl
theorem und_3 : Tryz.prog.underlying 3 = some (.int .i64) := by kernel_rfl
theorem und_47 : Tryz.prog.underlying 47 = some (.int .u64) := by kernel_rfl
theorem und_5 : Tryz.prog.underlying 5 = some (.int .u8) := by kernel_rfl
theorem agg_179 : Agg Tryz.prog 179 510 := ⟨⟨_, Tryz.underlying179, rfl⟩, by kernel_rfl⟩
theorem agg_180 : Agg Tryz.prog 180 256 := ⟨⟨_, Tryz.underlying180, rfl⟩, by kernel_rfl⟩
theorem mixed : Tryz.prog.follows .mixedOrders = true := by kernel_rfl
theorem nm_132 : (Tryz.f132.name == "runtime.NumGoroutine") = false := by kernel_rfl
theorem scal_3 : scal Tryz.prog 3 = true := by kernel_rfl
theorem scal_5 : scal Tryz.prog 5 = true := by kernel_rfl
theorem siz_3 : (Tryz.prog.info? 3).map (·.size) = some 1 := by kernel_rfl
theorem siz_5 : (Tryz.prog.info? 5).map (·.size) = some 1 := by kernel_rfl
theorem some_3 : (Tryz.prog.underlying 3).isSome = true := by kernel_rfl
theorem some_5 : (Tryz.prog.underlying 5).isSome = true := by kernel_rfl
theorem sty_22 : STy Tryz.prog 22 5 (U8 0#8) 1 1 := STy.of und_22 (by kernel_rfl) rfl
theorem zr_179 : (Tryz.prog.info? 179).map (fun i => i.zero.map (·.cells)) = some (some (cel (List.replicate 510 (0#8))).toArray) := by kernel_rfl
theorem zr_180 : (Tryz.prog.info? 180).map (fun i => i.zero.map (·.cells)) = some (some (cel (List.replicate 256 ((0 : Int)))).toArray) := by kernel_rfl
theorem w_gf256_Mul (M0 : Mem) (x00 x01 : BitVec 8) {res : (BitVec 8)} (h : m_gf256_Mul x00 x01 = some res) :
  Fn Tryz.prog 131 #[U8 x00, U8 x01] M0 fun r M' es => r = U8 res /\ es = [] := by
 refine Fn.intro (N := 28) Tryz.func131 rfl rfl (nle rfl) fun w0 => ?_
 unfold m_gf256_Mul at h
 refine sr fun _ k1 => ya (Yld.assign (v := U8 0#8) rfl) <| dz k1 <| sr fun _ k2 => mv rfl <| ya (conv_u8_i64 (a := x00) some_5 und_3 rfl) <| asn rfl <| ak rfl k2 <| ct (σ := Int) (fun x3 => [(5, I64 x3)]) (fun x3 => [(0, .mem M0)]) (fun x3 => m_gf256_Mul_j0 x3 = some res) (fun _ k4 => ?_) ?_
 ·refine bl <| lp (τ := (BitVec 8) × Int × Int) (fun ⟨x5, x6, x7⟩ => [(1, U8 x5), (5, I64 x6), (6, I64 x7)]) (fun ⟨x5, x6, x7⟩ => [(0, .mem M0)]) (fun q8 ⟨x5, x6, x7⟩ => m_gf256_Mul_l1 q8 x5 x6 x7 = some res) ⟨x01, (0 : Int), (x00.toNat : Int)⟩ ?_ (by simp [m_gf256_Mul_l1]) ?_
  ·exact h
  rintro q8 ⟨x5, x6, x7⟩ h _ k9
  unfold m_gf256_Mul_l1 at h
  refine sq fun _ k10 => sr fun _ k11 => mv rfl <| ya (neq_u8 (a := x5) (b := 0#8) rfl rfl) <| dz k11 <| cnn h rfl bne_eq_false_iff_eq.2 bne_iff_ne.2 (fun hc12 h => ?_) fun hc12 h => ?_
  ·exact xi <| te <| te <| bx <| tn <| kw (k4 x6 h)
  refine ss <| k10 _ _ <| sq fun _ k13 => bl <| sq fun _ k14 => sr fun _ k15 => mv rfl <| ya (and_u8 (a := x5) (b := 1#8) rfl rfl) <| ya (eql_u8 (a := (x5 &&& 1#8)) (b := 1#8) rfl rfl) <| dz k15 <| cnd h rfl beq_iff_eq.2 beq_eq_false_iff_ne.2 (fun hc16 h => ?_) fun hc16 h => ?_
  ·refine rg fun _ k17 => mv rfl <| mv rfl <| ya (xorC rfl rfl) <| ak rfl k17 <| tn <| k14 _ _ <| sr fun _ k18 => bd h fun x19 hx19 h => mv rfl <| ya (shlC rfl rfl hx19) <| ak rfl k18 <| sr fun _ k20 => bd h fun x21 hx21 h => mv rfl <| ya (shrC rfl rfl hx21) <| ya (eqlI rfl rfl) <| dz k20 <| cnd h rfl beq_iff_eq.2 beq_eq_false_iff_ne.2 (fun hc22 h => ?_) fun hc22 h => ?_
   ·exact rg fun _ k23 => mv rfl <| ya (xorC rfl rfl) <| ak rfl k23 <| bn <| tn <| k13 _ _ <| rg fun _ k24 => mv rfl <| ya (shrU_u8 (a := x5) (m := 1) rfl rfl) <| ak rfl k24 <| tn <| kw (k9 ⟨x5 >>> 1, xori x6 x7, xori x19 (285 : Int)⟩ h)
   exact WC.skip <| bn <| tn <| k13 _ _ <| rg fun _ k25 => mv rfl <| ya (shrU_u8 (a := x5) (m := 1) rfl rfl) <| ak rfl k25 <| tn <| kw (k9 ⟨x5 >>> 1, xori x6 x7, x19⟩ h)
  refine ss <| k14 _ _ <| sr fun _ k26 => bd h fun x27 hx27 h => mv rfl <| ya (shlC rfl rfl hx27) <| ak rfl k26 <| sr fun _ k28 => bd h fun x29 hx29 h => mv rfl <| ya (shrC rfl rfl hx29) <| ya (eqlI rfl rfl) <| dz k28 <| cnd h rfl beq_iff_eq.2 beq_eq_false_iff_ne.2 (fun hc30 h => ?_) fun hc30 h => ?_
  ·exact rg fun _ k31 => mv rfl <| ya (xorC rfl rfl) <| ak rfl k31 <| bn <| tn <| k13 _ _ <| rg fun _ k32 => mv rfl <| ya (shrU_u8 (a := x5) (m := 1) rfl rfl) <| ak rfl k32 <| tn <| kw (k9 ⟨x5 >>> 1, x6, xori x27 (285 : Int)⟩ h)
  exact WC.skip <| bn <| tn <| k13 _ _ <| rg fun _ k33 => mv rfl <| ya (shrU_u8 (a := x5) (m := 1) rfl rfl) <| ak rfl k33 <| tn <| kw (k9 ⟨x5 >>> 1, x6, x27⟩ h)
 rintro x3 h
 unfold m_gf256_Mul_j0 at h
 refine sr fun _ k34 => mv rfl <| ya (conv_i64_u8 some_3 und_5 rfl) <| ak rfl k34 <| re ?_
 obtain rfl := si h
 exact rt0 (ResIs.one rfl rfl)
theorem w_gf256_tables (M0 : Mem)  {res : By × (List Int)} (h : m_gf256_tables = some res) :
  Fn Tryz.prog 132 #[] M0 fun r M' es => r = .tuple #[.agg (cel res.1).toArray, .agg (cel res.2).toArray] /\ es = [] /\ (res.1).length = 510 /\ (res.2).length = 256 := by
 refine Fn.intro (N := 29) Tryz.func132 rfl rfl (nle rfl) fun w0 => ?_
 unfold m_gf256_tables at h
 refine sr fun _ k1 => al 102 zr_179 fun g2 => al 103 zr_180 fun g3 => dz k1 <| sr fun _ k4 => ak rfl k4 <| ct (σ := By × (List Int)) (fun ⟨x5, x7⟩ => [(0, pv g2), (1, pv g3)]) (fun ⟨x5, x7⟩ => [(0, .mem M0), (102, .blk g2 179 (cel x5)), (103, .blk g3 180 (cel x7))]) (fun ⟨x5, x7⟩ => m_gf256_tables_j0 x5 x7 = some res /\ x5.length = 510 /\ x7.length = 256) (fun _ k9 => ?_) ?_
 ·refine sr fun _ k10 => mv rfl <| dz k10 <| bl <| lp (τ := By × (List Int) × Int × Int) (fun ⟨x11, x13, x15, x16⟩ => [(0, pv g2), (1, pv g3), (2, I64 x15), (4, I64 x16)]) (fun ⟨x11, x13, x15, x16⟩ => [(0, .mem M0), (102, .blk g2 179 (cel x11)), (103, .blk g3 180 (cel x13))]) (fun q17 ⟨x11, x13, x15, x16⟩ => m_gf256_tables_l1 q17 x11 x13 x15 x16 = some res /\ x11.length = 510 /\ x13.length = 256) ⟨(List.replicate 510 (0#8)), (List.replicate 256 ((0 : Int))), (1 : Int), (0 : Int)⟩ ?_ (by simp [m_gf256_tables_l1]) ?_
  ·exact ⟨h, List.length_replicate, List.length_replicate⟩
  rintro q17 ⟨x11, x13, x15, x16⟩ ⟨h, hl12, hl14⟩ _ k18
  unfold m_gf256_tables_l1 at h
  refine sr fun _ k19 => ya (lss rfl rfl) <| dz k19 <| sq fun _ k20 => cI h rfl (fun hc21 h => ?_) fun hc21 h => ?_
  ·refine ss <| k20 _ _ <| sq fun _ k22 => bl <| sr fun _ k23 => mv rfl <| ak rfl k23 <| sr fun _ k24 => ?_
   obtain ⟨x25, hx25, h⟩ := bnd h
   obtain ⟨x26, hx26, h⟩ := bnd h
   obtain ⟨x27, hx27, h⟩ := bnd h
   obtain ⟨x28, hx28, h⟩ := bnd h
   obtain ⟨x29, hx29, h⟩ := bnd h
   refine mv rfl <| mv rfl <| ya (addC rfl rfl hx25) <| mv rfl <| ya (conv_i64_u8 some_3 und_5 rfl) <| mv rfl <| ya (conv_i64_u8 some_3 und_5 rfl) <| ya (idxArrC (xs := x11) und_179 rfl rfl rfl hl12 hx26) <| WL.eff0 (Eff0.storeArrC 102 (xs := x11) (a' := BitVec.ofInt 8 x15) siz_5 rfl rfl rfl rfl rfl rfl hx27) <| ya (idxArrC (xs := x27) und_179 rfl rfl rfl (upd_len hx27 hl12) hx28) <| WL.eff0 (Eff0.storeArrC 102 (xs := x27) (a' := BitVec.ofInt 8 x15) siz_5 rfl rfl rfl rfl rfl rfl hx29) <| dz k24 <| sr fun _ k30 => ?_
   obtain ⟨x31, hx31, h⟩ := bnd h
   obtain ⟨x32, hx32, h⟩ := bnd h
   refine mv rfl <| mv rfl <| ya (idxArrC (xs := x13) und_180 rfl rfl rfl hl14 hx31) <| WL.eff0 (Eff0.storeArrC 103 (xs := x13) (a' := x16) siz_3 rfl rfl rfl rfl rfl rfl hx32) <| dz k30 <| sr fun _ k33 => bd h fun x34 hx34 h => mv rfl <| ya (shlC rfl rfl hx34) <| ak rfl k33 <| sr fun _ k35 => bd h fun x36 hx36 h => mv rfl <| ya (shrC rfl rfl hx36) <| ya (eqlI rfl rfl) <| dz k35 <| cnd h rfl beq_iff_eq.2 beq_eq_false_iff_ne.2 (fun hc37 h => ?_) fun hc37 h => ?_
   ·refine rg fun _ k38 => mv rfl <| ya (xorC rfl rfl) <| ak rfl k38 <| bn <| tn <| k22 _ _ <| rg fun _ k39 => bd h fun x40 hx40 h => ya (addC rfl rfl hx40) <| mv rfl <| dz k39 <| tn <| kw (k18 ⟨x29, x32, xori x34 (285 : Int), x40⟩ ⟨h, (upd_len hx29 (upd_len hx27 hl12)), (upd_len hx32 hl14)⟩)
   refine WC.skip <| bn <| tn <| k22 _ _ <| rg fun _ k41 => bd h fun x42 hx42 h => ya (addC rfl rfl hx42) <| mv rfl <| dz k41 <| tn <| kw (k18 ⟨x29, x32, x34, x42⟩ ⟨h, (upd_len hx29 (upd_len hx27 hl12)), (upd_len hx32 hl14)⟩)
  exact xi <| te <| te <| bx <| tn <| kw (k9 ⟨x11, x13⟩ ⟨h, hl12, hl14⟩)
 rintro ⟨x5, x7⟩ ⟨h, hl6, hl8⟩
 unfold m_gf256_tables_j0 at h
 refine sd [(0, _)] mixed fun _ k43 => ?_
 refine WD.two 0 1 (by kernel_rfl) ?_ ?_
 ·refine dy rfl (loadBM (k := 102) agg_179 rfl rfl (cel_len1 rfl hl6)) <| WD.two 1 2 (by kernel_rfl) ?_ ?_
  ·refine dy rfl (loadBM (k := 103) agg_180 rfl rfl (cel_len1 rfl hl8)) <| on 2 <| WS.eff0 rfl (Eff0.storeBAM 102 agg_179 rfl rfl rfl ⟨cel_len1 rfl hl6, cel_len1 rfl hl6⟩ (cel_all _)) (sc sn) <| on 3 <| WS.eff0 rfl (Eff0.storeBAM 103 agg_180 rfl rfl rfl ⟨cel_len1 rfl hl8, cel_len1 rfl hl8⟩ (cel_all _)) (sc sn) <| dd <| k43 _ _ <| re ?_
   obtain rfl := si h
   exact rt [] (ResIs.cell2M (k := 102) (k' := 103) rfl agg_179 agg_180 rfl rfl rfl rfl (cel_len1 rfl hl6) (cel_len1 rfl hl8)) (Ext.refl _ _) ⟨rfl, rfl, hl6, hl8⟩
  skip
  refine WS.eff0 rfl (Eff0.storeBAM 102 agg_179 rfl rfl rfl ⟨cel_len1 rfl hl6, cel_len1 rfl hl6⟩ (cel_all _)) (sc sn) <| on 1 <| dy rfl (loadBM (k := 103) agg_180 rfl rfl (cel_len1 rfl hl8)) <| on 3 <| WS.eff0 rfl (Eff0.storeBAM 103 agg_180 rfl rfl rfl ⟨cel_len1 rfl hl8, cel_len1 rfl hl8⟩ (cel_all _)) (sc sn) <| dd <| k43 _ _ <| re ?_
  obtain rfl := si h
  exact rt [] (ResIs.cell2M (k := 102) (k' := 103) rfl agg_179 agg_180 rfl rfl rfl rfl (cel_len1 rfl hl6) (cel_len1 rfl hl8)) (Ext.refl _ _) ⟨rfl, rfl, hl6, hl8⟩
 skip
 refine dy rfl (loadBM (k := 103) agg_180 rfl rfl (cel_len1 rfl hl8)) <| on 0 <| dy rfl (loadBM (k := 102) agg_179 rfl rfl (cel_len1 rfl hl6)) <| on 2 <| WS.eff0 rfl (Eff0.storeBAM 102 agg_179 rfl rfl rfl ⟨cel_len1 rfl hl6, cel_len1 rfl hl6⟩ (cel_all _)) (sc sn) <| on 3 <| WS.eff0 rfl (Eff0.storeBAM 103 agg_180 rfl rfl rfl ⟨cel_len1 rfl hl8, cel_len1 rfl hl8⟩ (cel_all _)) (sc sn) <| dd <| k43 _ _ <| re ?_
 obtain rfl := si h
 exact rt [] (ResIs.cell2M (k := 102) (k' := 103) rfl agg_179 agg_180 rfl rfl rfl rfl (cel_len1 rfl hl6) (cel_len1 rfl hl8)) (Ext.refl _ _) ⟨rfl, rfl, hl6, hl8⟩
theorem w_gf256_within (M0 : Mem) (x00 : Int) {res : Int} (h : m_gf256_within x00 = some res) :
  Fn Tryz.prog 145 #[I64 x00] M0 fun r M' es => r = I64 res /\ es = [] := by
 refine Fn.intro (N := 7) Tryz.func145 rfl rfl (nle rfl) fun w0 => ?_
 unfold m_gf256_within at h
 refine sr fun _ k1 => ak rfl k1 <| sr fun _ k2 => ?_
 obtain ⟨x3, hx3, h⟩ := bnd h
 obtain ⟨x4, hx4, h⟩ := bnd h
 obtain ⟨x5, hx5, h⟩ := bnd h
 refine mv rfl <| ya (remC rfl rfl hx3) <| ya (addC rfl rfl hx4) <| ya (remC rfl rfl hx5) <| ak rfl k2 <| re ?_
 obtain rfl := si h
 exact rt0 (ResIs.one rfl rfl)
theorem w_gf256_Inv (M0 : Mem) (x00 : BitVec 8) {res : (BitVec 8) × Int} (h : m_gf256_Inv x00 = some res) :
  Fn Tryz.prog 127 #[U8 x00] M0 fun r M' es => r = .tuple #[U8 res.1, I64 res.2] /\ es = [] := by
 refine Fn.intro (N := 18) Tryz.func127 rfl rfl (nle rfl) fun w0 => ?_
 unfold m_gf256_Inv at h
 refine sr fun _ k1 => ya (Yld.assign (v := U8 0#8) rfl) <| ak rfl k1 <| sq fun _ k2 => sr fun _ k3 => mv rfl <| ya (eql_u8 (a := x00) (b := 0#8) rfl rfl) <| dz k3 <| cnd h rfl beq_iff_eq.2 beq_eq_false_iff_ne.2 (fun hc4 h => ?_) fun hc4 h => ?_
 ·refine sr fun _ k5 => ya (Yld.assign (v := U8 0#8) rfl) <| ak rfl k5 <| re <| tr ?_
  obtain rfl := si h
  exact rt0 (ResIs.two rfl rfl rfl)
 refine ss <| k2 _ _ <| sr fun _ k6 => bd h fun x7 hx7 h => WL.eff (by decide) (Eff.callS 110 rfl Tryz.func132 nm_132 rfl rfl (fun w hb hh => w_gf256_tables (Mem.snap w) hx7)) ?_
 rintro _ _ ⟨_, ⟨rfl, rfl, hl11, hl12⟩, rfl⟩
 refine mv rfl <| ya (extract rfl rfl) <| ya (extract rfl rfl) <| al 113 zr_179 fun g13 => al 114 zr_180 fun g14 => WL.eff0 (Eff0.storeBAM 113 agg_179 rfl rfl rfl ⟨cel_len1 rfl hl11, cel_len1 rfl List.length_replicate⟩ (cel_all _)) <| WL.eff0 (Eff0.storeBAM 114 agg_180 rfl rfl rfl ⟨cel_len1 rfl hl12, cel_len1 rfl List.length_replicate⟩ (cel_all _)) <| dz k6 <| sr fun _ k15 => ?_
 obtain ⟨x16, hx16, h⟩ := bnd h
 obtain ⟨x17, hx17, h⟩ := bnd h
 obtain ⟨x18, hx18, h⟩ := bnd h
 refine mv rfl <| ya (idxArrC (xs := x7.2) und_180 rfl rfl rfl hl12 hx16) <| ya (loadArrC (xs := x7.2) (k := 114) scal_3 rfl rfl hx16 rfl) <| ya (subC rfl rfl hx17) <| ya (idxArrC (xs := x7.1) und_179 rfl rfl rfl hl11 hx18) <| ya (loadArrC (xs := x7.1) (k := 113) scal_5 rfl rfl hx18 rfl) <| asn rfl <| ak rfl k15 <| re ?_
 obtain rfl := si h
 exact rt0 (ResIs.two rfl rfl rfl)
theorem w_gf256_Pow (M0 : Mem) (x00 : BitVec 8) (x01 : Int) {res : (BitVec 8)} (h : m_gf256_Pow x00 x01 = some res) :
  Fn Tryz.prog 124 #[U8 x00, I64 x01] M0 fun r M' es => r = U8 res /\ es = [] := by
 refine Fn.intro (N := 26) Tryz.func124 rfl rfl (nle rfl) fun w0 => ?_
 unfold m_gf256_Pow at h
 refine sr fun _ k1 => ya (Yld.assign (v := U8 0#8) rfl) <| dz k1 <| sq fun _ k2 => bl <| sr fun _ k3 => mv rfl <| ya (eqlI rfl rfl) <| ak rfl k3 <| cnd h rfl beq_iff_eq.2 beq_eq_false_iff_ne.2 (fun hc4 h => ?_) fun hc4 h => ?_
 ·refine sr fun _ k5 => ya (Yld.assign (v := U8 1#8) rfl) <| dz k5 <| re <| br <| tr ?_
  obtain rfl := si h
  exact rt0 (ResIs.one rfl rfl)
 refine sr fun _ k6 => mv rfl <| ya (eql_u8 (a := x00) (b := 0#8) rfl rfl) <| ak rfl k6 <| cnd h rfl beq_iff_eq.2 beq_eq_false_iff_ne.2 (fun hc7 h => ?_) fun hc7 h => ?_
 ·refine sr fun _ k8 => ya (Yld.assign (v := U8 0#8) rfl) <| dz k8 <| re <| br <| tr ?_
  obtain rfl := si h
  exact rt0 (ResIs.one rfl rfl)
 refine WC.skip <| bn <| tn <| k2 _ _ <| sr fun _ k9 => bd h fun x10 hx10 h => WL.eff (by decide) (Eff.callS 113 rfl Tryz.func132 nm_132 rfl rfl (fun w hb hh => w_gf256_tables (Mem.snap w) hx10)) ?_
 rintro _ _ ⟨_, ⟨rfl, rfl, hl14, hl15⟩, rfl⟩
 refine mv rfl <| ya (extract rfl rfl) <| ya (extract rfl rfl) <| al 116 zr_179 fun g16 => al 117 zr_180 fun g17 => WL.eff0 (Eff0.storeBAM 116 agg_179 rfl rfl rfl ⟨cel_len1 rfl hl14, cel_len1 rfl List.length_replicate⟩ (cel_all _)) <| WL.eff0 (Eff0.storeBAM 117 agg_180 rfl rfl rfl ⟨cel_len1 rfl hl15, cel_len1 rfl List.length_replicate⟩ (cel_all _)) <| dz k9 <| sd [(0, _), (116, _), (117, _)] mixed fun _ k18 => ?_
 obtain ⟨x19, hx19, h⟩ := bnd h
 obtain ⟨x20, hx20, h⟩ := bnd h
 obtain ⟨x22, hx22, h⟩ := bnd h
 obtain ⟨x23, hx23, h⟩ := bnd h
 obtain ⟨x24, hx24, h⟩ := bnd h
 refine dm 0 rfl rfl <| du 1 rfl (idxArrC (xs := x10.2) und_180 rfl rfl rfl hl15 hx19) <| du 2 rfl (loadArrC (xs := x10.2) (k := 117) scal_3 rfl rfl hx19 rfl) <| dm 3 rfl rfl <| on 4 <| d0 rfl Tryz.func145 rfl (fun w hb hh => w_gf256_within (Mem.snap w) x01 hx20) <| du 5 rfl (mulC rfl rfl hx22) <| du 6 rfl (remC rfl rfl hx23) <| du 7 rfl (idxArrC (xs := x10.1) und_179 rfl rfl rfl hl14 hx24) <| du 8 rfl (loadArrC (xs := x10.1) (k := 116) scal_5 rfl rfl hx24 rfl) <| du 9 rfl (Yld.assign rfl) <| dd <| k18 _ _ <| re ?_
 obtain rfl := si h
 exact rt0 (ResIs.one rfl rfl)
theorem w_gf256_MulAdd (M0 : Mem) (A00 : Option Addr) (n00 c00 : Nat) (x00 : By) (hf00 : SlT M0 A00 n00 c00 x00) (A01 : Option Addr) (n01 c01 : Nat) (x01 : By) (hf01 : SlT M0 A01 n01 c01 x01) (x02 : BitVec 8) {res : By × Int} (h : m_gf256_MulAdd x00 x01 x02 = some res) :
  Fn Tryz.prog 110 #[.slice A00 n00 c00, .slice A01 n01 c01, U8 x02] M0 fun r M' es => ∃ (A1 : Option Addr) (n1 c1 : Nat), r = .tuple #[.slice A1 n1 c1, I64 res.2] /\ es = [.own 5 (Lay.sz (BitVec 8)) A1 n1 c1 (cel res.1)] := by
 refine Fn.intro (N := 54) Tryz.func110 rfl rfl (nle rfl) fun w0 => ?_
 unfold m_gf256_MulAdd at h
 refine sr fun _ k1 => asn rfl <| ak rfl k1 <| sq fun _ k2 => sr fun _ k3 => mv rfl <| ya (lenC (xs := x00) und_22 rfl (mM rfl hf00)) <| mv rfl <| ya (lenC (xs := x01) und_22 rfl (mM rfl hf01)) <| ya (neqI rfl rfl) <| dz k3 <| cnn h rfl bne_eq_false_iff_eq.2 bne_iff_ne.2 (fun hc4 h => ?_) fun hc4 h => ?_
 ·refine ss <| k2 _ _ <| sr fun _ k5 => bd h fun x6 hx6 h => WL.eff (by decide) (Eff.callS 109 rfl Tryz.func132 nm_132 rfl rfl (fun w hb hh => w_gf256_tables (Mem.snap w) hx6)) ?_
  rintro _ _ ⟨_, ⟨rfl, rfl, hl10, hl11⟩, rfl⟩
  refine mv rfl <| ya (extract rfl rfl) <| ya (extract rfl rfl) <| al 112 zr_179 fun g12 => al 113 zr_180 fun g13 => WL.eff0 (Eff0.storeBAM 112 agg_179 rfl rfl rfl ⟨cel_len1 rfl hl10, cel_len1 rfl List.length_replicate⟩ (cel_all _)) <| WL.eff0 (Eff0.storeBAM 113 agg_180 rfl rfl rfl ⟨cel_len1 rfl hl11, cel_len1 rfl List.length_replicate⟩ (cel_all _)) <| dz k5 <| sr fun _ k14 => bd h fun x16 hx16 h => mv rfl <| WL.nilOwn 115 5 (Lay.sz (BitVec 8)) none <| ap 115 (xs := ([] : By)) (ys := x00) sty_22 rfl rfl rfl (mM rfl hf00) hx16 fun A17 c18 => ak rfl k14 <| ct (σ := By) (fun x19 => [(10, .slice A17 x16.length c18)]) (fun x19 => [(0, .mem M0), (115, .own 5 (Lay.sz (BitVec 8)) A17 x16.length c18 (cel x19))]) (fun x19 => m_gf256_MulAdd_j0 x19 = some res) (fun _ k20 => ?_) ?_
  ·refine sr fun _ k21 => mv rfl <| ya (lenC (xs := x01) und_22 rfl (mM rfl hf01)) <| mv rfl <| dz k21 <| bl <| lp (τ := By × Int) (fun ⟨x22, x23⟩ => [(2, U8 x02), (8, pv g12), (9, pv g13), (10, .slice A17 x16.length c18), (24, .slice A01 n01 c01), (25, I64 (x01.length : Int)), (26, I64 x23)]) (fun ⟨x22, x23⟩ => [(0, .mem M0), (112, .blk g12 179 (cel x6.1)), (113, .blk g13 180 (cel x6.2)), (115, .own 5 (Lay.sz (BitVec 8)) A17 x16.length c18 (cel x22))]) (fun q24 ⟨x22, x23⟩ => m_gf256_MulAdd_l1 x01 x02 x6 q24 x22 x23 = some res) ⟨x16, (0 : Int)⟩ ?_ (by simp [m_gf256_MulAdd_l1]) ?_
   ·exact h
   rintro q24 ⟨x22, x23⟩ h _ k25
   unfold m_gf256_MulAdd_l1 at h
   refine sr fun _ k26 => ya (lss rfl rfl) <| dz k26 <| sq fun _ k27 => cI h rfl (fun hc28 h => ?_) fun hc28 h => ?_
   ·refine ss <| k27 _ _ <| sq fun _ k29 => bl <| sr fun _ k30 => bd h fun x31 hx31 h => mv rfl <| ya (idxC (xs := x01) sty_22 rfl rfl (mM rfl hf01) hx31) <| ya (loadC0 (xs := x01) scal_5 rfl (mM rfl hf01) hx31 rfl) <| asn rfl <| ak rfl k30 <| ctr (σ := Bool) (fun x32 => [(2, U8 x02), (8, pv g12), (9, pv g13), (10, .slice A17 x16.length c18), (11, I64 x23), (12, U8 x31), (24, .slice A01 n01 c01), (25, I64 (x01.length : Int)), (26, I64 x23), (36, .bool x32)]) (fun x32 => [(0, .mem M0), (112, .blk g12 179 (cel x6.1)), (113, .blk g13 180 (cel x6.2)), (115, .own 5 (Lay.sz (BitVec 8)) A17 x16.length c18 (cel x22))]) (fun x32 => m_gf256_MulAdd_j2 x02 x6 x22 x23 x31 (m_gf256_MulAdd_l1 x01 x02 x6 q24) x32 = some res) (fun _ k33 => ?_) ?_
    ·refine mv rfl <| ya (neq_u8 (a := x02) (b := 0#8) rfl rfl) <| mv rfl <| spn h bne_eq_false_iff_eq.2 bne_iff_ne.2 (fun hc35 h => ?_) fun hc35 h => ?_
     ·exact sk <| sk <| pf rfl rfl <| WL.done <| kw (k33 false h)
     exact mvg rfl <| yg (neq_u8 (a := x31) (b := 0#8) rfl rfl) <| pt rfl rfl <| WL.done <| kw (k33 (x31 != 0#8) h)
    rintro x32 h
    unfold m_gf256_MulAdd_j2 at h
    refine cnd h rfl id Bool.eq_false_iff.2 (fun hc36 h => ?_) fun hc36 h => ?_
    ·refine rd [(0, _), (112, _), (113, _)] mixed fun _ k37 => ?_
     obtain ⟨x38, hx38, h⟩ := bnd h
     obtain ⟨x39, hx39, h⟩ := bnd h
     obtain ⟨x40, hx40, h⟩ := bnd h
     obtain ⟨x41, hx41, h⟩ := bnd h
     obtain ⟨x42, hx42, h⟩ := bnd h
     obtain ⟨x43, hx43, h⟩ := bnd h
     obtain ⟨x44, hx44, h⟩ := bnd h
     refine dm 0 rfl rfl <| dm 1 rfl rfl <| dm 4 rfl rfl <| du 5 rfl (idxArrC (xs := x6.2) und_180 rfl rfl rfl hl11 hx39) <| du 6 rfl (loadArrC (xs := x6.2) (k := 113) scal_3 rfl rfl hx39 rfl) <| dm 7 rfl rfl <| du 8 rfl (idxArrC (xs := x6.2) und_180 rfl rfl rfl hl11 hx40) <| du 9 rfl (loadArrC (xs := x6.2) (k := 113) scal_3 rfl rfl hx40 rfl) <| du 10 rfl (addC rfl rfl hx41) <| du 11 rfl (idxArrC (xs := x6.1) und_179 rfl rfl rfl hl10 hx42) <| du 12 rfl (loadArrC (xs := x6.1) (k := 112) scal_5 rfl rfl hx42 rfl) <| on 2 <| dy rfl (idxC (xs := x22) sty_22 rfl rfl (rO 115 rfl) hx38) <| on 3 <| dy rfl (loadC0 (xs := x22) scal_5 rfl (rO 115 rfl) hx38 rfl) <| du 13 rfl (xor_u8 (a := x38) (b := x42) rfl rfl) <| on 14 <| dy rfl (idxC (xs := x22) sty_22 rfl rfl (rO 115 rfl) hx43) <| on 15 <| WS.eff0 rfl (Eff0.storeC1 115 (xs := x22) (a' := x38 ^^^ x42) siz_5 rfl rfl rfl rfl rfl rfl hx44) (sc (sc (sc sn))) <| dd <| k37 _ _ <| bn <| tn <| k29 _ _ <| rg fun _ k45 => bd h fun x46 hx46 h => ya (addC rfl rfl hx46) <| mv rfl <| dz k45 <| tn <| kw (k25 ⟨x44, x46⟩ h)
    refine WC.skip <| bn <| tn <| k29 _ _ <| rg fun _ k47 => bd h fun x48 hx48 h => ya (addC rfl rfl hx48) <| mv rfl <| dz k47 <| tn <| kw (k25 ⟨x22, x48⟩ h)
   exact xi <| te <| te <| bx <| tn <| kw (k20 x22 h)
  rintro x19 h
  unfold m_gf256_MulAdd_j0 at h
  refine sr fun _ k49 => mv rfl <| asn rfl <| ak rfl k49 <| re ?_
  obtain rfl := si h
  exact rt [115] (ResIs.two rfl rfl rfl) (Ext.refl _ _) ⟨A17, x16.length, c18, rfl, rfl⟩
 refine sr fun _ k50 => asn rfl <| ak rfl k50 <| re <| tr <| QK.nilOwn 151 5 (Lay.sz (BitVec 8)) none ?_
 obtain rfl := si h
 exact rt [151] (ResIs.two rfl rfl rfl) (Ext.refl _ _) ⟨none, 0, 0, rfl, rfl⟩
end Go.Proofs.YthjnhlmfcejhkaaGreat
