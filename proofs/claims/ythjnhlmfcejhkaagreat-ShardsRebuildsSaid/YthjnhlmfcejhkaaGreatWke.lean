/- A part of the proof. Conditions: as each theorem says. -/
import Derived.Test.YthjnhlmfcejhkaaGreatX18
import Derived.Test.YthjnhlmfcejhkaaGreatProg
import Derived.Test.YthjnhlmfcejhkaaGreatMdr
namespace Go.Proofs.YthjnhlmfcejhkaaGreat
set_option maxRecDepth 10000
open Go Go.RowKit Yld
set_option linter.unusedVariables false
theorem und_179 : Tryz.prog.underlying 179 = some (.array 510 5) := by kernel_rfl
theorem und_180 : Tryz.prog.underlying 180 = some (.array 256 3) := by kernel_rfl
theorem und_22 : Tryz.prog.underlying 22 = some (.slice 5) := by kernel_rfl
theorem und_3 : Tryz.prog.underlying 3 = some (.int .i64) := by kernel_rfl
theorem und_47 : Tryz.prog.underlying 47 = some (.int .u64) := by kernel_rfl
theorem und_5 : Tryz.prog.underlying 5 = some (.int .u8) := by kernel_rfl
theorem agg_179 : Agg Tryz.prog 179 510 := ⟨⟨_, Tryz.underlying179, rfl⟩, by kernel_rfl⟩
theorem agg_180 : Agg Tryz.prog 180 256 := ⟨⟨_, Tryz.underlying180, rfl⟩, by kernel_rfl⟩
theorem mixed : Tryz.prog.follows .mixedOrders = true := by kernel_rfl
theorem nm_132 : (Tryz.f132.name == "runtime.NumGoroutine") = false := by kernel_rfl
theorem scal_3 : scal Tryz.prog 3 = true := by kernel_rfl
theorem scal_5 : scal Tryz.prog 5 = true := by kernel_rfl
theorem siz_3 : (Tryz.prog.info? 3).map (·.size) = some 1 := by kernel_rfl
theorem siz_5 : (Tryz.prog.info? 5).map (·.size) = some 1 := by kernel_rfl
theorem some_3 : (Tryz.prog.underlying 3).isSome = true := by kernel_rfl
theorem some_5 : (Tryz.prog.underlying 5).isSome = true := by kernel_rfl
theorem sty_22 : STy Tryz.prog 22 5 (U8 0#8) 1 1 := STy.of und_22 (by kernel_rfl) rfl
theorem zr_179 : (Tryz.prog.info? 179).map (fun i => i.zero.map (·.cells)) = some (some (cel (List.replicate 510 (0#8))).toArray) := by kernel_rfl
theorem zr_180 : (Tryz.prog.info? 180).map (fun i => i.zero.map (·.cells)) = some (some (cel (List.replicate 256 ((0 : Int)))).toArray) := by kernel_rfl
theorem w_gf256_Mul (M0 : Mem) (x00 x01 : BitVec 8) {res : (BitVec 8)} (h : m_gf256_Mul x00 x01 = some res) :
  Fn Tryz.prog 131 #[U8 x00, U8 x01] M0 fun r M' es => r = U8 res /\ es = [] := by
 refine Fn.intro (N := 28) Tryz.func131 rfl rfl (nle rfl) fun w0 => ?_
 unfold m_gf256_Mul at h
 refine sr fun _ k1 => ya (Yld.assign (v := U8 0#8) rfl) <| dz k1 <| sr fun _ k2 => mv rfl <| ya (conv_u8_i64 (a := x00) some_5 und_3 rfl) <| asn rfl <| ak rfl k2 <| ct (σ := Int) (fun x3 => [(5, I64 x3)]) (fun x3 => [(0, .mem M0)]) (fun x3 => m_gf256_Mul_j0 x3 = some res) (fun _ k4 => ?_) ?_
 ·refine bl <| lp (τ := (BitVec 8) × Int × Int) (fun ⟨x5, x6, x7⟩ => [(1, U8 x5), (5, I64 x6), (6, I64 x7)]) (fun ⟨x5, x6, x7⟩ => [(0, .mem M0)]) (fun q8 ⟨x5, x6, x7⟩ => m_gf256_Mul_l1 q8 x5 x6 x7 = some res) ⟨x01, (0 : Int), (x00.toNat : Int)⟩ ?_ (by simp [m_gf256_Mul_l1]) ?_
  ·exact h
  rintro q8 ⟨x5, x6, x7⟩ h _ k9
  unfold m_gf256_Mul_l1 at h
  refine sq fun _ k10 => sr fun _ k11 => mv rfl <| ya (neq_u8 (a := x5) (b := 0#8) rfl rfl) <| dz k11 <| cnn h rfl bne_eq_false_iff_eq.2 bne_iff_ne.2 (fun hc12 h => ?_) fun hc12 h => ?_
  ·exact xi <| te <| te <| bx <| tn <| kw (k4 x6 h)
  refine ss <| k10 _ _ <| sq fun _ k13 => bl <| sq fun _ k14 => sr fun _ k15 => mv rfl <| ya (and_u8 (a := x5) (b := 1#8) rfl rfl) <| ya (eql_u8 (a := (x5 &&& 1#8)) (b := 1#8) rfl rfl) <| dz k15 <| cnd h rfl beq_iff_eq.2 beq_eq_false_iff_ne.2 (fun hc16 h => ?_) fun hc16 h => ?_
  ·refine rg fun _ k17 => mv rfl <| mv rfl <| ya (xorC rfl rfl) <| ak rfl k17 <| tn <| k14 _ _ <| sr fun _ k18 => bd h fun x19 hx19 h => mv rfl <| ya (shlC rfl rfl hx19) <| ak rfl k18 <| sr fun _ k20 => bd h fun x21 hx21 h => mv rfl <| ya (shrC rfl rfl hx21) <| ya (eqlI rfl rfl) <| dz k20 <| cnd h rfl beq_iff_eq.2 beq_eq_false_iff_ne.2 (fun hc22 h => ?_) fun hc22 h => ?_
   ·exact rg fun _ k23 => mv rfl <| ya (xorC rfl rfl) <| ak rfl k23 <| bn <| tn <| k13 _ _ <| rg fun _ k24 => mv rfl <| ya (shrU_u8 (a := x5) (m := 1) rfl rfl) <| ak rfl k24 <| tn <| kw (k9 ⟨x5 >>> 1, xori x6 x7, xori x19 (285 : Int)⟩ h)
   exact WC.skip <| bn <| tn <| k13 _ _ <| rg fun _ k25 => mv rfl <| ya (shrU_u8 (a := x5) (m := 1) rfl rfl) <| ak rfl k25 <| tn <| kw (k9 ⟨x5 >>> 1, xori x6 x7, x19⟩ h)
  refine ss <| k14 _ _ <| sr fun _ k26 => bd h fun x27 hx27 h => mv rfl <| ya (shlC rfl rfl hx27) <| ak rfl k26 <| sr fun _ k28 => bd h fun x29 hx29 h => mv rfl <| ya (shrC rfl rfl hx29) <| ya (eqlI rfl rfl) <| dz k28 <| cnd h rfl beq_iff_eq.2 beq_eq_false_iff_ne.2 (fun hc30 h => ?_) fun hc30 h => ?_
  ·exact rg fun _ k31 => mv rfl <| ya (xorC rfl rfl) <| ak rfl k31 <| bn <| tn <| k13 _ _ <| rg fun _ k32 => mv rfl <| ya (shrU_u8 (a := x5) (m := 1) rfl rfl) <| ak rfl k32 <| tn <| kw (k9 ⟨x5 >>> 1, x6, xori x27 (285 : Int)⟩ h)
  exact WC.skip <| bn <| tn <| k13 _ _ <| rg fun _ k33 => mv rfl <| ya (shrU_u8 (a := x5) (m := 1) rfl rfl) <| ak rfl k33 <| tn <| kw (k9 ⟨x5 >>> 1, x6, x27⟩ h)
 rintro x3 h
 unfold m_gf256_Mul_j0 at h
 refine sr fun _ k34 => mv rfl <| ya (conv_i64_u8 some_3 und_5 rfl) <| ak rfl k34 <| re ?_
 obtain rfl := si h
 exact rt0 (ResIs.one rfl rfl)
theorem w_gf256_tables (M0 : Mem)  {res : By × (List Int)} (h : m_gf256_tables = some res) :
  Fn Tryz.prog 132 #[] M0 fun r M' es => r = .tuple #[.agg (cel res.1).toArray, .agg (cel res.2).toArray] /\ es = [] /\ (res.1).length = 510 /\ (res.2).length = 256 := by
 refine Fn.intro (N := 29) Tryz.func132 rfl rfl (nle rfl) fun w0 => ?_
 unfold m_gf256_tables at h
 refine sr fun _ k1 => al 102 zr_179 fun g2 => al 103 zr_180 fun g3 => dz k1 <| sr fun _ k4 => ak rfl k4 <| ct (σ := By × (List Int)) (fun ⟨x5, x7⟩ => [(0, pv g2), (1, pv g3)]) (fun ⟨x5, x7⟩ => [(0, .mem M0), (102, .blk g2 179 (cel x5)), (103, .blk g3 180 (cel x7))]) (fun ⟨x5, x7⟩ => m_gf256_tables_j0 x5 x7 = some res /\ x5.length = 510 /\ x7.length = 256) (fun _ k9 => ?_) ?_
 ·refine sr fun _ k10 => mv rfl <| dz k10 <| bl <| lp (τ := By × (List Int) × Int × Int) (fun ⟨x11, x13, x15, x16⟩ => [(0, pv g2), (1, pv g3), (2, I64 x15), (4, I64 x16)]) (fun ⟨x11, x13, x15, x16⟩ => [(0, .mem M0), (102, .blk g2 179 (cel x11)), (103, .blk g3 180 (cel x13))]) (fun q17 ⟨x11, x13, x15, x16⟩ => m_gf256_tables_l1 q17 x11 x13 x15 x16 = some res /\ x11.length = 510 /\ x13.length = 256) ⟨(List.replicate 510 (0#8)), (List.replicate 256 ((0 : Int))), (1 : Int), (0 : Int)⟩ ?_ (by simp [m_gf256_tables_l1]) ?_
  ·exact ⟨h, List.length_replicate, List.length_replicate⟩
  rintro q17 ⟨x11, x13, x15, x16⟩ ⟨h, hl12, hl14⟩ _ k18
  unfold m_gf256_tables_l1 at h
  refine sr fun _ k19 => ya (lss rfl rfl) <| dz k19 <| sq fun _ k20 => cI h rfl (fun hc21 h => ?_) fun hc21 h => ?_
  ·refine ss <| k20 _ _ <| sq fun _ k22 => bl <| sr fun _ k23 => mv rfl <| ak rfl k23 <| sr fun _ k24 => ?_
   obtain ⟨x25, hx25, h⟩ := bnd h
   obtain ⟨x26, hx26, h⟩ := bnd h
   obtain ⟨x27, hx27, h⟩ := bnd h
   obtain ⟨x28, hx28, h⟩ := bnd h
   obtain ⟨x29, hx29, h⟩ := bnd h
   refine mv rfl <| mv rfl <| ya (addC rfl rfl hx25) <| mv rfl <| ya (conv_i64_u8 some_3 und_5 rfl) <| mv rfl <| ya (conv_i64_u8 some_3 und_5 rfl) <| ya (idxArrC (xs := x11) und_179 rfl rfl rfl hl12 hx26) <| WL.eff0 (Eff0.storeArrC 102 (xs := x11) (a' := BitVec.ofInt 8 x15) siz_5 rfl rfl rfl rfl rfl rfl hx27) <| ya (idxArrC (xs := x27) und_179 rfl rfl rfl (upd_len hx27 hl12) hx28) <| WL.eff0 (Eff0.storeArrC 102 (xs := x27) (a' := BitVec.ofInt 8 x15) siz_5 rfl rfl rfl rfl rfl rfl hx29) <| dz k24 <| sr fun _ k30 => ?_
   obtain ⟨x31, hx31, h⟩ := bnd h
   obtain ⟨x32, hx32, h⟩ := bnd h
   refine mv rfl <| mv rfl <| ya (idxArrC (xs := x13) und_180 rfl rfl rfl hl14 hx31) <| WL.eff0 (Eff0.storeArrC 103 (xs := x13) (a' := x16) siz_3 rfl rfl rfl rfl rfl rfl hx32) <| dz k30 <| sr fun _ k33 => bd h fun x34 hx34 h => mv rfl <| ya (shlC rfl rfl hx34) <| ak rfl k33 <| sr fun _ k35 => bd h fun x36 hx36 h => mv rfl <| ya (shrC rfl rfl hx36) <| ya (eqlI rfl rfl) <| dz k35 <| cnd h rfl beq_iff_eq.2 beq_eq_false_iff_ne.2 (fun hc37 h => ?_) fun hc37 h => ?_
   ·refine rg fun _ k38 => mv rfl <| ya (xorC rfl rfl) <| ak rfl k38 <| bn <| tn <| k22 _ _ <| rg fun _ k39 => bd h fun x40 hx40 h => ya (addC rfl rfl hx40) <| mv rfl <| dz k39 <| tn <| kw (k18 ⟨x29, x32, xori x34 (285 : Int), x40⟩ ⟨h, (upd_len hx29 (upd_len hx27 hl12)), (upd_len hx32 hl14)⟩)
   refine WC.skip <| bn <| tn <| k22 _ _ <| rg fun _ k41 => bd h fun x42 hx42 h => ya (addC rfl rfl hx42) <| mv rfl <| dz k41 <| tn <| kw (k18 ⟨x29, x32, x34, x42⟩ ⟨h, (upd_len hx29 (upd_len hx27 hl12)), (upd_len hx32 hl14)⟩)
  exact xi <| te <| te <| bx <| tn <| kw (k9 ⟨x11, x13⟩ ⟨h, hl12, hl14⟩)
 rintro ⟨x5, x7⟩ ⟨h, hl6, hl8⟩
 unfold m_gf256_tables_j0 at h
 refine sd [(0, _)] mixed fun _ k43 => ?_
 refine WD.two 0 1 (by kernel_rfl) ?_ ?_
 ·refine dy rfl (loadBM (k := 102) agg_179 rfl rfl (cel_len1 rfl hl6)) <| WD.two 1 2 (by kernel_rfl) ?_ ?_
  ·refine dy rfl (loadBM (k := 103) agg_180 rfl rfl (cel_len1 rfl hl8)) <| on 2 <| WS.eff0 rfl (Eff0.storeBAM 102 agg_179 rfl rfl rfl ⟨cel_len1 rfl hl6, cel_len1 rfl hl6⟩ (cel_all _)) (sc sn) <| on 3 <| WS.eff0 rfl (Eff0.storeBAM 103 agg_180 rfl rfl rfl ⟨cel_len1 rfl hl8, cel_len1 rfl hl8⟩ (cel_all _)) (sc sn) <| dd <| k43 _ _ <| re ?_
   obtain rfl := si h
   exact rt [] (ResIs.cell2M (k := 102) (k' := 103) rfl agg_179 agg_180 rfl rfl rfl rfl (cel_len1 rfl hl6) (cel_len1 rfl hl8)) (Ext.refl _ _) ⟨rfl, rfl, hl6, hl8⟩
  skip
  refine WS.eff0 rfl (Eff0.storeBAM 102 agg_179 rfl rfl rfl ⟨cel_len1 rfl hl6, cel_len1 rfl hl6⟩ (cel_all _)) (sc sn) <| on 1 <| dy rfl (loadBM (k := 103) agg_180 rfl rfl (cel_len1 rfl hl8)) <| on 3 <| WS.eff0 rfl (Eff0.storeBAM 103 agg_180 rfl rfl rfl ⟨cel_len1 rfl hl8, cel_len1 rfl hl8⟩ (cel_all _)) (sc sn) <| dd <| k43 _ _ <| re ?_
  obtain rfl := si h
  exact rt [] (ResIs.cell2M (k := 102) (k' := 103) rfl agg_179 agg_180 rfl rfl rfl rfl (cel_len1 rfl hl6) (cel_len1 rfl hl8)) (Ext.refl _ _) ⟨rfl, rfl, hl6, hl8⟩
 skip
 refine dy rfl (loadBM (k := 103) agg_180 rfl rfl (cel_len1 rfl hl8)) <| on 0 <| dy rfl (loadBM (k := 102) agg_179 rfl rfl (cel_len1 rfl hl6)) <| on 2 <| WS.eff0 rfl (Eff0.storeBAM 102 agg_179 rfl rfl rfl ⟨cel_len1 rfl hl6, cel_len1 rfl hl6⟩ (cel_all _)) (sc sn) <| on 3 <| WS.eff0 rfl (Eff0.storeBAM 103 agg_180 rfl rfl rfl ⟨cel_len1 rfl hl8, cel_len1 rfl hl8⟩ (cel_all _)) (sc sn) <| dd <| k43 _ _ <| re ?_
 obtain rfl := si h
 exact rt [] (ResIs.cell2M (k := 102) (k' := 103) rfl agg_179 agg_180 rfl rfl rfl rfl (cel_len1 rfl hl6) (cel_len1 rfl hl8)) (Ext.refl _ _) ⟨rfl, rfl, hl6, hl8⟩
theorem w_gf256_within (M0 : Mem) (x00 : Int) {res : Int} (h : m_gf256_within x00 = some res) :
  Fn Tryz.prog 145 #[I64 x00] M0 fun r M' es => r = I64 res /\ es = [] := by
 refine Fn.intro (N := 7) Tryz.func145 rfl rfl (nle rfl) fun w0 => ?_
 unfold m_gf256_within at h
 refine sr fun _ k1 => ak rfl k1 <| sr fun _ k2 => ?_
 obtain ⟨x3, hx3, h⟩ := bnd h
 obtain ⟨x4, hx4, h⟩ := bnd h
 obtain ⟨x5, hx5, h⟩ := bnd h
 refine mv rfl <| ya (remC rfl rfl hx3) <| ya (addC rfl rfl hx4) <| ya (remC rfl rfl hx5) <| ak rfl k2 <| re ?_
 obtain rfl := si h
 exact rt0 (ResIs.one rfl rfl)
theorem w_gf256_Inv (M0 : Mem) (x00 : BitVec 8) {res : (BitVec 8) × Int} (h : m_gf256_Inv x00 = some res) :
  Fn Tryz.prog 127 #[U8 x00] M0 fun r M' es => r = .tuple #[U8 res.1, I64 res.2] /\ es = [] := by
 refine Fn.intro (N := 18) Tryz.func127 rfl rfl (nle rfl) fun w0 => ?_
 unfold m_gf256_Inv at h
 refine sr fun _ k1 => ya (Yld.assign (v := U8 0#8) rfl) <| ak rfl k1 <| sq fun _ k2 => sr fun _ k3 => mv rfl <| ya (eql_u8 (a := x00) (b := 0#8) rfl rfl) <| dz k3 <| cnd h rfl beq_iff_eq.2 beq_eq_false_iff_ne.2 (fun hc4 h => ?_) fun hc4 h => ?_
 ·refine sr fun _ k5 => ya (Yld.assign (v := U8 0#8) rfl) <| ak rfl k5 <| re <| tr ?_
  obtain rfl := si h
  exact rt0 (ResIs.two rfl rfl rfl)
 refine ss <| k2 _ _ <| sr fun _ k6 => bd h fun x7 hx7 h => WL.eff (by decide) (Eff.callS 110 rfl Tryz.func132 nm_132 rfl rfl (fun w hb hh => w_gf256_tables (Mem.snap w) hx7)) ?_
 rintro _ _ ⟨_, ⟨rfl, rfl, hl11, hl12⟩, rfl⟩
 refine mv rfl <| ya (extract rfl rfl) <| ya (extract rfl rfl) <| al 113 zr_179 fun g13 => al 114 zr_180 fun g14 => WL.eff0 (Eff0.storeBAM 113 agg_179 rfl rfl rfl ⟨cel_len1 rfl hl11, cel_len1 rfl List.length_replicate⟩ (cel_all _)) <| WL.eff0 (Eff0.storeBAM 114 agg_180 rfl rfl rfl ⟨cel_len1 rfl hl12, cel_len1 rfl List.length_replicate⟩ (cel_all _)) <| dz k6 <| sr fun _ k15 => ?_
 obtain ⟨x16, hx16, h⟩ := bnd h
 obtain ⟨x17, hx17, h⟩ := bnd h
 obtain ⟨x18, hx18, h⟩ := bnd h
 refine mv rfl <| ya (idxArrC (xs := x7.2) und_180 rfl rfl rfl hl12 hx16) <| ya (loadArrC (xs := x7.2) (k := 114) scal_3 rfl rfl hx16 rfl) <| ya (subC rfl rfl hx17) <| ya (idxArrC (xs := x7.1) und_179 rfl rfl rfl hl11 hx18) <| ya (loadArrC (xs := x7.1) (k := 113) scal_5 rfl rfl hx18 rfl) <| asn rfl <| ak rfl k15 <| re ?_
 obtain rfl := si h
 exact rt0 (ResIs.two rfl rfl rfl)
theorem w_gf256_Pow (M0 : Mem) (x00 : BitVec 8) (x01 : Int) {res : (BitVec 8)} (h : m_gf256_Pow x00 x01 = some res) :
  Fn Tryz.prog 124 #[U8 x00, I64 x01] M0 fun r M' es => r = U8 res /\ es = [] := by
 refine Fn.intro (N := 26) Tryz.func124 rfl rfl (nle rfl) fun w0 => ?_
 unfold m_gf256_Pow at h
 refine sr fun _ k1 => ya (Yld.assign (v := U8 0#8) rfl) <| dz k1 <| sq fun _ k2 => bl <| sr fun _ k3 => mv rfl <| ya (eqlI rfl rfl) <| ak rfl k3 <| cnd h rfl beq_iff_eq.2 beq_eq_false_iff_ne.2 (fun hc4 h => ?_) fun hc4 h => ?_
 ·refine sr fun _ k5 => ya (Yld.assign (v := U8 1#8) rfl) <| dz k5 <| re <| br <| tr ?_
  obtain rfl := si h
  exact rt0 (ResIs.one rfl rfl)
 refine sr fun _ k6 => mv rfl <| ya (eql_u8 (a := x00) (b := 0#8) rfl rfl) <| ak rfl k6 <| cnd h rfl beq_iff_eq.2 beq_eq_false_iff_ne.2 (fun hc7 h => ?_) fun hc7 h => ?_
 ·refine sr fun _ k8 => ya (Yld.assign (v := U8 0#8) rfl) <| dz k8 <| re <| br <| tr ?_
  obtain rfl := si h
  exact rt0 (ResIs.one rfl rfl)
 refine WC.skip <| bn <| tn <| k2 _ _ <| sr fun _ k9 => bd h fun x10 hx10 h => WL.eff (by decide) (Eff.callS 113 rfl Tryz.func132 nm_132 rfl rfl (fun w hb hh => w_gf256_tables (Mem.snap w) hx10)) ?_
 rintro _ _ ⟨_, ⟨rfl, rfl, hl14, hl15⟩, rfl⟩
 refine mv rfl <| ya (extract rfl rfl) <| ya (extract rfl rfl) <| al 116 zr_179 fun g16 => al 117 zr_180 fun g17 => WL.eff0 (Eff0.storeBAM 116 agg_179 rfl rfl rfl ⟨cel_len1 rfl hl14, cel_len1 rfl List.length_replicate⟩ (cel_all _)) <| WL.eff0 (Eff0.storeBAM 117 agg_180 rfl rfl rfl ⟨cel_len1 rfl hl15, cel_len1 rfl List.length_replicate⟩ (cel_all _)) <| dz k9 <| sd [(0, _), (116, _), (117, _)] mixed fun _ k18 => ?_
 obtain ⟨x19, hx19, h⟩ := bnd h
 obtain ⟨x20, hx20, h⟩ := bnd h
 obtain ⟨x22, hx22, h⟩ := bnd h
 obtain ⟨x23, hx23, h⟩ := bnd h
 obtain ⟨x24, hx24, h⟩ := bnd h
 refine dm 0 rfl rfl <| du 1 rfl (idxArrC (xs := x10.2) und_180 rfl rfl rfl hl15 hx19) <| du 2 rfl (loadArrC (xs := x10.2) (k := 117) scal_3 rfl rfl hx19 rfl) <| dm 3 rfl rfl <| on 4 <| d0 rfl Tryz.func145 rfl (fun w hb hh => w_gf256_within (Mem.snap w) x01 hx20) <| du 5 rfl (mulC rfl rfl hx22) <| du 6 rfl (remC rfl rfl hx23) <| du 7 rfl (idxArrC (xs := x10.1) und_179 rfl rfl rfl hl14 hx24) <| du 8 rfl (loadArrC (xs := x10.1) (k := 116) scal_5 rfl rfl hx24 rfl) <| du 9 rfl (Yld.assign rfl) <| dd <| k18 _ _ <| re ?_
 obtain rfl := si h
 exact rt0 (ResIs.one rfl rfl)
theorem w_gf256_MulAdd (M0 : Mem) (A00 : Option Addr) (n00 c00 : Nat) (x00 : By) (hf00 : SlT M0 A00 n00 c00 x00) (A01 : Option Addr) (n01 c01 : Nat) (x01 : By) (hf01 : SlT M0 A01 n01 c01 x01) (x02 : BitVec 8) {res : By × Int} (h : m_gf256_MulAdd x00 x01 x02 = some res) :
  Fn Tryz.prog 110 #[.slice A00 n00 c00, .slice A01 n01 c01, U8 x02] M0 fun r M' es => ∃ (A1 : Option Addr) (n1 c1 : Nat), r = .tuple #[.slice A1 n1 c1, I64 res.2] /\ es = [.own 5 (Lay.sz (BitVec 8)) A1 n1 c1 (cel res.1)] := by
 refine Fn.intro (N := 54) Tryz.func110 rfl rfl (nle rfl) fun w0 => ?_
 unfold m_gf256_MulAdd at h
 refine sr fun _ k1 => asn rfl <| ak rfl k1 <| sq fun _ k2 => sr fun _ k3 => mv rfl <| ya (lenC (xs := x00) und_22 rfl (mM rfl hf00)) <| mv rfl <| ya (lenC (xs := x01) und_22 rfl (mM rfl hf01)) <| ya (neqI rfl rfl) <| dz k3 <| cnn h rfl bne_eq_false_iff_eq.2 bne_iff_ne.2 (fun hc4 h => ?_) fun hc4 h => ?_
 ·refine ss <| k2 _ _ <| sr fun _ k5 => bd h fun x6 hx6 h => WL.eff (by decide) (Eff.callS 109 rfl Tryz.func132 nm_132 rfl rfl (fun w hb hh => w_gf256_tables (Mem.snap w) hx6)) ?_
  rintro _ _ ⟨_, ⟨rfl, rfl, hl10, hl11⟩, rfl⟩
  refine mv rfl <| ya (extract rfl rfl) <| ya (extract rfl rfl) <| al 112 zr_179 fun g12 => al 113 zr_180 fun g13 => WL.eff0 (Eff0.storeBAM 112 agg_179 rfl rfl rfl ⟨cel_len1 rfl hl10, cel_len1 rfl List.length_replicate⟩ (cel_all _)) <| WL.eff0 (Eff0.storeBAM 113 agg_180 rfl rfl rfl ⟨cel_len1 rfl hl11, cel_len1 rfl List.length_replicate⟩ (cel_all _)) <| dz k5 <| sr fun _ k14 => bd h fun x16 hx16 h => mv rfl <| WL.nilOwn 115 5 (Lay.sz (BitVec 8)) none <| ap 115 (xs := ([] : By)) (ys := x00) sty_22 rfl rfl rfl (mM rfl hf00) hx16 fun A17 c18 => ak rfl k14 <| ct (σ := By) (fun x19 => [(10, .slice A17 x16.length c18)]) (fun x19 => [(0, .mem M0), (115, .own 5 (Lay.sz (BitVec 8)) A17 x16.length c18 (cel x19))]) (fun x19 => m_gf256_MulAdd_j0 x19 = some res) (fun _ k20 => ?_) ?_
  ·refine sr fun _ k21 => mv rfl <| ya (lenC (xs := x01) und_22 rfl (mM rfl hf01)) <| mv rfl <| dz k21 <| bl <| lp (τ := By × Int) (fun ⟨x22, x23⟩ => [(2, U8 x02), (8, pv g12), (9, pv g13), (10, .slice A17 x16.length c18), (24, .slice A01 n01 c01), (25, I64 (x01.length : Int)), (26, I64 x23)]) (fun ⟨x22, x23⟩ => [(0, .mem M0), (112, .blk g12 179 (cel x6.1)), (113, .blk g13 180 (cel x6.2)), (115, .own 5 (Lay.sz (BitVec 8)) A17 x16.length c18 (cel x22))]) (fun q24 ⟨x22, x23⟩ => m_gf256_MulAdd_l1 x01 x02 x6 q24 x22 x23 = some res) ⟨x16, (0 : Int)⟩ ?_ (by simp [m_gf256_MulAdd_l1]) ?_
   ·exact h
   rintro q24 ⟨x22, x23⟩ h _ k25
   unfold m_gf256_MulAdd_l1 at h
   refine sr fun _ k26 => ya (lss rfl rfl) <| dz k26 <| sq fun _ k27 => cI h rfl (fun hc28 h => ?_) fun hc28 h => ?_
   ·refine ss <| k27 _ _ <| sq fun _ k29 => bl <| sr fun _ k30 => bd h fun x31 hx31 h => mv rfl <| ya (idxC (xs := x01) sty_22 rfl rfl (mM rfl hf01) hx31) <| ya (loadC0 (xs := x01) scal_5 rfl (mM rfl hf01) hx31 rfl) <| asn rfl <| ak rfl k30 <| ctr (σ := Bool) (fun x32 => [(2, U8 x02), (8, pv g12), (9, pv g13), (10, .slice A17 x16.length c18), (11, I64 x23), (12, U8 x31), (24, .slice A01 n01 c01), (25, I64 (x01.length : Int)), (26, I64 x23), (36, .bool x32)]) (fun x32 => [(0, .mem M0), (112, .blk g12 179 (cel x6.1)), (113, .blk g13 180 (cel x6.2)), (115, .own 5 (Lay.sz (BitVec 8)) A17 x16.length c18 (cel x22))]) (fun x32 => m_gf256_MulAdd_j2 x02 x6 x22 x23 x31 (m_gf256_MulAdd_l1 x01 x02 x6 q24) x32 = some res) (fun _ k33 => ?_) ?_
    ·refine mv rfl <| ya (neq_u8 (a := x02) (b := 0#8) rfl rfl) <| mv rfl <| spn h bne_eq_false_iff_eq.2 bne_iff_ne.2 (fun hc35 h => ?_) fun hc35 h => ?_
     ·exact sk <| sk <| pf rfl rfl <| WL.done <| kw (k33 false h)
     exact mvg rfl <| yg (neq_u8 (a := x31) (b := 0#8) rfl rfl) <| pt rfl rfl <| WL.done <| kw (k33 (x31 != 0#8) h)
    rintro x32 h
    unfold m_gf256_MulAdd_j2 at h
    refine cnd h rfl id Bool.eq_false_iff.2 (fun hc36 h => ?_) fun hc36 h => ?_
    ·refine rd [(0, _), (112, _), (113, _)] mixed fun _ k37 => ?_
     obtain ⟨x38, hx38, h⟩ := bnd h
     obtain ⟨x39, hx39, h⟩ := bnd h
     obtain ⟨x40, hx40, h⟩ := bnd h
     obtain ⟨x41, hx41, h⟩ := bnd h
     obtain ⟨x42, hx42, h⟩ := bnd h
     obtain ⟨x43, hx43, h⟩ := bnd h
     obtain ⟨x44, hx44, h⟩ := bnd h
     refine dm 0 rfl rfl <| dm 1 rfl rfl <| dm 4 rfl rfl <| du 5 rfl (idxArrC (xs := x6.2) und_180 rfl rfl rfl hl11 hx39) <| du 6 rfl (loadArrC (xs := x6.2) (k := 113) scal_3 rfl rfl hx39 rfl) <| dm 7 rfl rfl <| du 8 rfl (idxArrC (xs := x6.2) und_180 rfl rfl rfl hl11 hx40) <| du 9 rfl (loadArrC (xs := x6.2) (k := 113) scal_3 rfl rfl hx40 rfl) <| du 10 rfl (addC rfl rfl hx41) <| du 11 rfl (idxArrC (xs := x6.1) und_179 rfl rfl rfl hl10 hx42) <| du 12 rfl (loadArrC (xs := x6.1) (k := 112) scal_5 rfl rfl hx42 rfl) <| on 2 <| dy rfl (idxC (xs := x22) sty_22 rfl rfl (rO 115 rfl) hx38) <| on 3 <| dy rfl (loadC0 (xs := x22) scal_5 rfl (rO 115 rfl) hx38 rfl) <| du 13 rfl (xor_u8 (a := x38) (b := x42) rfl rfl) <| on 14 <| dy rfl (idxC (xs := x22) sty_22 rfl rfl (rO 115 rfl) hx43) <| on 15 <| WS.eff0 rfl (Eff0.storeC1 115 (xs := x22) (a' := x38 ^^^ x42) siz_5 rfl rfl rfl rfl rfl rfl hx44) (sc (sc (sc sn))) <| dd <| k37 _ _ <| bn <| tn <| k29 _ _ <| rg fun _ k45 => bd h fun x46 hx46 h => ya (addC rfl rfl hx46) <| mv rfl <| dz k45 <| tn <| kw (k25 ⟨x44, x46⟩ h)
    refine WC.skip <| bn <| tn <| k29 _ _ <| rg fun _ k47 => bd h fun x48 hx48 h => ya (addC rfl rfl hx48) <| mv rfl <| dz k47 <| tn <| kw (k25 ⟨x22, x48⟩ h)
   exact xi <| te <| te <| bx <| tn <| kw (k20 x22 h)
  rintro x19 h
  unfold m_gf256_MulAdd_j0 at h
  refine sr fun _ k49 => mv rfl <| asn rfl <| ak rfl k49 <| re ?_
  obtain rfl := si h
  exact rt [115] (ResIs.two rfl rfl rfl) (Ext.refl _ _) ⟨A17, x16.length, c18, rfl, rfl⟩
 refine sr fun _ k50 => asn rfl <| ak rfl k50 <| re <| tr <| QK.nilOwn 151 5 (Lay.sz (BitVec 8)) none ?_
 obtain rfl := si h
 exact rt [151] (ResIs.two rfl rfl rfl) (Ext.refl _ _) ⟨none, 0, 0, rfl, rfl⟩
theorem w_r02_Mul (M0 : Mem) (x00 x01 : BitVec 8) {res : (BitVec 8)} (h : m_r02_Mul x00 x01 = some res) :
  Fn Tryz.prog 144 #[U8 x00, U8 x01] M0 fun r M' es => r = U8 res /\ es = [] := by
 refine Fn.intro (N := 43) Tryz.func144 rfl rfl (nle rfl) fun w0 => ?_
 unfold m_r02_Mul at h
 refine sr fun _ k1 => ya (Yld.assign (v := U8 0#8) rfl) <| dz k1 <| sr fun _ k2 => ak rfl k2 <| ct (σ := Int) (fun x3 => [(5, I64 x3)]) (fun x3 => [(0, .mem M0)]) (fun x3 => m_r02_Mul_j0 x3 = some res) (fun _ k4 => ?_) ?_
 ·refine sr fun _ k5 => ak rfl k5 <| bl <| lp (τ := Int × Int) (fun ⟨x6, x7⟩ => [(0, U8 x00), (1, U8 x01), (5, I64 x6), (6, I64 x7)]) (fun ⟨x6, x7⟩ => [(0, .mem M0)]) (fun q8 ⟨x6, x7⟩ => m_r02_Mul_l1 x00 x01 q8 x6 x7 = some res) ⟨(0 : Int), (0 : Int)⟩ ?_ (by simp [m_r02_Mul_l1]) ?_
  ·exact h
  rintro q8 ⟨x6, x7⟩ h _ k9
  unfold m_r02_Mul_l1 at h
  refine sq fun _ k10 => sr fun _ k11 => mv rfl <| ya (lss rfl rfl) <| dz k11 <| cI h rfl (fun hc12 h => ?_) fun hc12 h => ?_
  ·refine ss <| k10 _ _ <| sq fun _ k13 => bl <| sr fun _ k14 => mv rfl <| mv rfl <| ya (conv_i64_u64 some_3 und_47 rfl) <| ya (shrU_u8 (a := x01) (m := (BitVec.ofInt 64 x7).toNat) rfl rfl) <| ya (and_u8 (a := (x01 >>> (BitVec.ofInt 64 x7).toNat)) (b := 1#8) rfl rfl) <| ya (eql_u8 (a := ((x01 >>> (BitVec.ofInt 64 x7).toNat) &&& 1#8)) (b := 1#8) rfl rfl) <| dz k14 <| cnd h rfl beq_iff_eq.2 beq_eq_false_iff_ne.2 (fun hc15 h => ?_) fun hc15 h => ?_
   ·refine rg fun _ k16 => bd h fun x17 hx17 h => mv rfl <| mv rfl <| ya (conv_u8_i64 (a := x00) some_5 und_3 rfl) <| mv rfl <| ya (conv_i64_u64 some_3 und_47 rfl) <| ya (shlC rfl rfl hx17) <| ya (xorC rfl rfl) <| ak rfl k16 <| bn <| tn <| k13 _ _ <| rg fun _ k18 => bd h fun x19 hx19 h => mv rfl <| ya (addC rfl rfl hx19) <| ak rfl k18 <| tn <| kw (k9 ⟨xori x6 x17, x19⟩ h)
   refine WC.skip <| bn <| tn <| k13 _ _ <| rg fun _ k20 => bd h fun x21 hx21 h => mv rfl <| ya (addC rfl rfl hx21) <| ak rfl k20 <| tn <| kw (k9 ⟨x6, x21⟩ h)
  exact xi <| te <| te <| bx <| tn <| kw (k4 x6 h)
 rintro x3 h
 unfold m_r02_Mul_j0 at h
 refine ct (σ := Int) (fun x22 => [(5, I64 x22)]) (fun x22 => [(0, .mem M0)]) (fun x22 => m_r02_Mul_j2 x22 = some res) (fun _ k23 => ?_) ?_
 ·refine sr fun _ k24 => ak rfl k24 <| bl <| lp (τ := Int × Int) (fun ⟨x25, x26⟩ => [(5, I64 x25), (7, I64 x26)]) (fun ⟨x25, x26⟩ => [(0, .mem M0)]) (fun q27 ⟨x25, x26⟩ => m_r02_Mul_l3 q27 x25 x26 = some res) ⟨x3, (14 : Int)⟩ ?_ (by simp [m_r02_Mul_l3]) ?_
  ·exact h
  rintro q27 ⟨x25, x26⟩ h _ k28
  unfold m_r02_Mul_l3 at h
  refine sq fun _ k29 => sr fun _ k30 => mv rfl <| ya (geq rfl rfl) <| dz k30 <| cI h rfl (fun hc31 h => ?_) fun hc31 h => ?_
  ·refine ss <| k29 _ _ <| sq fun _ k32 => bl <| sr fun _ k33 => bd h fun x34 hx34 h => mv rfl <| mv rfl <| ya (conv_i64_u64 some_3 und_47 rfl) <| ya (shrC rfl rfl hx34) <| ya (andC rfl rfl) <| ya (eqlI rfl rfl) <| dz k33 <| cnd h rfl beq_iff_eq.2 beq_eq_false_iff_ne.2 (fun hc35 h => ?_) fun hc35 h => ?_
   ·refine rg fun _ k36 => ?_
    obtain ⟨x37, hx37, h⟩ := bnd h
    obtain ⟨x38, hx38, h⟩ := bnd h
    refine mv rfl <| mv rfl <| ya (subC rfl rfl hx37) <| ya (conv_i64_u64 some_3 und_47 rfl) <| ya (shlC rfl rfl hx38) <| ya (xorC rfl rfl) <| ak rfl k36 <| bn <| tn <| k32 _ _ <| rg fun _ k39 => bd h fun x40 hx40 h => mv rfl <| ya (subC rfl rfl hx40) <| ak rfl k39 <| tn <| kw (k28 ⟨xori x25 x38, x40⟩ h)
   refine WC.skip <| bn <| tn <| k32 _ _ <| rg fun _ k41 => bd h fun x42 hx42 h => mv rfl <| ya (subC rfl rfl hx42) <| ak rfl k41 <| tn <| kw (k28 ⟨x25, x42⟩ h)
  exact xi <| te <| te <| bx <| tn <| kw (k23 x25 h)
 rintro x22 h
 unfold m_r02_Mul_j2 at h
 refine sr fun _ k43 => mv rfl <| ya (conv_i64_u8 some_3 und_5 rfl) <| ak rfl k43 <| re ?_
 obtain rfl := si h
 exact rt0 (ResIs.one rfl rfl)
theorem w_r02_Inv (M0 : Mem) (x00 : BitVec 8) {res : (BitVec 8) × Int} (h : m_r02_Inv x00 = some res) :
  Fn Tryz.prog 121 #[U8 x00] M0 fun r M' es => r = .tuple #[U8 res.1, I64 res.2] /\ es = [] := by
 refine Fn.intro (N := 16) Tryz.func121 rfl rfl (nle rfl) fun w0 => ?_
 unfold m_r02_Inv at h
 refine sr fun _ k1 => ya (Yld.assign (v := U8 0#8) rfl) <| ak rfl k1 <| ct (σ := Unit) (fun _ => []) (fun _ => [(0, .mem M0)]) (fun _ => m_r02_Inv_j0 = some res) (fun _ k2 => ?_) ?_
 ·refine sr fun _ k3 => ak rfl k3 <| bl <| lp (τ := Int) (fun x4 => [(0, U8 x00), (4, I64 x4)]) (fun x4 => [(0, .mem M0)]) (fun q5 x4 => m_r02_Inv_l1 x00 q5 x4 = some res) ((1 : Int)) ?_ (by simp [m_r02_Inv_l1]) ?_
  ·exact h
  rintro q5 x4 h _ k6
  unfold m_r02_Inv_l1 at h
  refine sq fun _ k7 => sr fun _ k8 => mv rfl <| ya (lss rfl rfl) <| dz k8 <| cI h rfl (fun hc9 h => ?_) fun hc9 h => ?_
  ·refine ss <| k7 _ _ <| sq fun _ k10 => bl <| sr fun _ k11 => bd h fun x12 hx12 h => mv rfl <| mv rfl <| ya (conv_i64_u8 some_3 und_5 rfl) <| c0 Tryz.func144 rfl (fun w hb hh => w_r02_Mul (Mem.snap w) x00 (BitVec.ofInt 8 x4) hx12) <| ya (eql_u8 (a := x12) (b := 1#8) rfl rfl) <| dz k11 <| cnd h rfl beq_iff_eq.2 beq_eq_false_iff_ne.2 (fun hc14 h => ?_) fun hc14 h => ?_
   ·refine sr fun _ k15 => mv rfl <| ya (conv_i64_u8 some_3 und_5 rfl) <| asn rfl <| ak rfl k15 <| re <| br <| tr <| tr <| br <| tr ?_
    obtain rfl := si h
    exact rt0 (ResIs.two rfl rfl rfl)
   refine WC.skip <| bn <| tn <| k10 _ _ <| rg fun _ k16 => bd h fun x17 hx17 h => mv rfl <| ya (addC rfl rfl hx17) <| ak rfl k16 <| tn <| kw (k6 (x17) h)
  exact xi <| te <| te <| bx <| tn <| kw (k2 () h)
 rintro _ h
 unfold m_r02_Inv_j0 at h
 refine sr fun _ k18 => ya (Yld.assign (v := U8 0#8) rfl) <| ak rfl k18 <| re ?_
 obtain rfl := si h
 exact rt0 (ResIs.two rfl rfl rfl)
theorem w_r02_MulAdd (M0 : Mem) (A00 : Option Addr) (n00 c00 : Nat) (x00 : By) (hf00 : SlT M0 A00 n00 c00 x00) (A01 : Option Addr) (n01 c01 : Nat) (x01 : By) (hf01 : SlT M0 A01 n01 c01 x01) (x02 : BitVec 8) {res : By × Int} (h : m_r02_MulAdd x00 x01 x02 = some res) :
  Fn Tryz.prog 122 #[.slice A00 n00 c00, .slice A01 n01 c01, U8 x02] M0 fun r M' es => ∃ (A1 : Option Addr) (n1 c1 : Nat), r = .tuple #[.slice A1 n1 c1, I64 res.2] /\ es = [.own 5 (Lay.sz (BitVec 8)) A1 n1 c1 (cel res.1)] := by
 refine Fn.intro (N := 36) Tryz.func122 rfl rfl (nle rfl) fun w0 => ?_
 unfold m_r02_MulAdd at h
 refine sr fun _ k1 => asn rfl <| ak rfl k1 <| sq fun _ k2 => sr fun _ k3 => mv rfl <| ya (lenC (xs := x00) und_22 rfl (mM rfl hf00)) <| mv rfl <| ya (lenC (xs := x01) und_22 rfl (mM rfl hf01)) <| ya (neqI rfl rfl) <| dz k3 <| cnn h rfl bne_eq_false_iff_eq.2 bne_iff_ne.2 (fun hc4 h => ?_) fun hc4 h => ?_
 ·refine ss <| k2 _ _ <| sr fun _ k5 => ak rfl k5 <| ct (σ := (Option Addr) × Nat × Nat × By) (fun ⟨A8, n9, c10, x11⟩ => [(8, .slice A8 n9 c10)]) (fun ⟨A8, n9, c10, x11⟩ => [(0, .mem M0), (107, .own 5 (Lay.sz (BitVec 8)) A8 n9 c10 (cel x11))]) (fun ⟨A8, n9, c10, x11⟩ => m_r02_MulAdd_j0 x11 = some res) (fun _ k12 => ?_) ?_
  ·refine sr fun _ k13 => ak rfl k13 <| bl <| WC.nilOwn 115 5 (Lay.sz (BitVec 8)) none <| lp (τ := (Option Addr) × Nat × Nat × By × Int) (fun ⟨A16, n17, c18, x19, x20⟩ => [(0, .slice A00 n00 c00), (1, .slice A01 n01 c01), (2, U8 x02), (8, .slice A16 n17 c18), (9, I64 x20)]) (fun ⟨A16, n17, c18, x19, x20⟩ => [(0, .mem M0), (115, .own 5 (Lay.sz (BitVec 8)) A16 n17 c18 (cel x19))]) (fun q21 ⟨A16, n17, c18, x19, x20⟩ => m_r02_MulAdd_l1 x00 x01 x02 q21 x19 x20 = some res) ⟨none, 0, 0, ([] : By), (0 : Int)⟩ ?_ (by simp [m_r02_MulAdd_l1]) ?_
   ·exact h
   rintro q21 ⟨A16, n17, c18, x19, x20⟩ h _ k22
   unfold m_r02_MulAdd_l1 at h
   refine sq fun _ k23 => sr fun _ k24 => mv rfl <| mv rfl <| ya (lenC (xs := x00) und_22 rfl (mM rfl hf00)) <| ya (lss rfl rfl) <| dz k24 <| cI h rfl (fun hc25 h => ?_) fun hc25 h => ?_
   ·refine ss <| k23 _ _ <| sq fun _ k26 => bl <| rd [(0, _)] mixed fun _ k27 => ?_
    obtain ⟨x28, hx28, h⟩ := bnd h
    obtain ⟨x29, hx29, h⟩ := bnd h
    obtain ⟨x30, hx30, h⟩ := bnd h
    obtain ⟨x33, hx33, h⟩ := bnd h
    refine dm 0 rfl rfl <| dm 1 rfl rfl <| dm 2 rfl rfl <| du 3 rfl (idxC (xs := x00) sty_22 rfl rfl (mM rfl hf00) hx28) <| du 4 rfl (loadC0 (xs := x00) scal_5 rfl (mM rfl hf00) hx28 rfl) <| dm 5 rfl rfl <| dm 6 rfl rfl <| dm 7 rfl rfl <| du 8 rfl (idxC (xs := x01) sty_22 rfl rfl (mM rfl hf01) hx29) <| du 9 rfl (loadC0 (xs := x01) scal_5 rfl (mM rfl hf01) hx29 rfl) <| on 10 <| d0 rfl Tryz.func144 rfl (fun w hb hh => w_r02_Mul (Mem.snap w) x02 x29 hx30) <| du 11 rfl (xor_u8 (a := x28) (b := x30) rfl rfl) <| on 12 <| WS.eff rfl (by decide) (Eff.buildC 132 ([x28 ^^^ x30] : By) sty_22 rfl rfl rfl rfl rfl (by decide)) ?_
    rintro _ _ ⟨g32, rfl, rfl⟩
    refine aq ?_
    refine on 13 <| WS.eff rfl (by decide) (Eff.appendC 115 (xs := x19) (ys := ([x28 ^^^ x30] : By)) sty_22 rfl rfl rfl (rO 132 rfl) hx33) ?_
    rintro _ _ ⟨A34, c35, rfl, rfl⟩
    refine aq ?_
    refine du 14 rfl (Yld.assign rfl) <| dd <| k27 _ _ <| bn <| tn <| k26 _ _ <| rg fun _ k36 => bd h fun x37 hx37 h => mv rfl <| ya (addC rfl rfl hx37) <| ak rfl k36 <| tn <| kw (k22 ⟨A34, x33.length, c35, x33, x37⟩ h)
   exact xi <| te <| te <| bx <| tn <| KK.move 115 107 rfl rfl <| kw (k12 ⟨A16, n17, c18, x19⟩ h)
  rintro ⟨A8, n9, c10, x11⟩ h
  unfold m_r02_MulAdd_j0 at h
  refine sr fun _ k38 => mv rfl <| asn rfl <| ak rfl k38 <| re ?_
  obtain rfl := si h
  exact rt [107] (ResIs.two rfl rfl rfl) (Ext.refl _ _) ⟨A8, n9, c10, rfl, rfl⟩
 refine sr fun _ k39 => asn rfl <| ak rfl k39 <| re <| tr <| QK.nilOwn 140 5 (Lay.sz (BitVec 8)) none ?_
 obtain rfl := si h
 exact rt [140] (ResIs.two rfl rfl rfl) (Ext.refl _ _) ⟨none, 0, 0, rfl, rfl⟩
theorem und_30 : Tryz.prog.underlying 30 = some (.slice 22) := by kernel_rfl
theorem und_45 : Tryz.prog.underlying 45 = some (.slice 3) := by kernel_rfl
theorem agg_124 : Agg Tryz.prog 124 3 := ⟨⟨_, Tryz.underlying124, rfl⟩, by kernel_rfl⟩
theorem bu_124_ : Tryz.prog.built 124 [] = some ([I64 (0 : Int), I64 (0 : Int), .slice none 0 0] : List Value).toArray := by kernel_rfl
theorem bu_124_0_1 : ∀ (a0 : Int) (a1 : Int), Tryz.prog.built 124 [(0, I64 a0), (1, I64 a1)] = some ([I64 a0, I64 a1, .slice none 0 0] : List Value).toArray := fun a0 a1 => by kernel_rfl
theorem bu_124_0_1_2 : ∀ (a0 : Int) (a1 : Int) (a2 : Option Addr) (n2 c2 : Nat), Tryz.prog.built 124 [(0, I64 a0), (1, I64 a1), (2, .slice a2 n2 c2)] = some ([I64 a0, I64 a1, .slice a2 n2 c2] : List Value).toArray := fun a0 a1 a2 n2 c2 => by kernel_rfl
theorem nm_110 : (Tryz.f110.name == "runtime.NumGoroutine") = false := by kernel_rfl
theorem nm_128 : (Tryz.f128.name == "runtime.NumGoroutine") = false := by kernel_rfl
theorem nm_129 : (Tryz.f129.name == "runtime.NumGoroutine") = false := by kernel_rfl
theorem nm_130 : (Tryz.f130.name == "runtime.NumGoroutine") = false := by kernel_rfl
theorem nz_22 : (Tryz.prog.info? 22).map (fun i => decide (i.size = 0)) = some false := by kernel_rfl
theorem nz_3 : (Tryz.prog.info? 3).map (fun i => decide (i.size = 0)) = some false := by kernel_rfl
theorem scal_22 : scal Tryz.prog 22 = true := by kernel_rfl
theorem siz_22 : (Tryz.prog.info? 22).map (·.size) = some 1 := by kernel_rfl
theorem sty_30 : STy Tryz.prog 30 22 (.slice none 0 0) 1 24 := STy.of und_30 (by kernel_rfl) rfl
theorem sty_45 : STy Tryz.prog 45 3 (I64 0) 1 8 := STy.of und_45 (by kernel_rfl) rfl
theorem zr_124 : (Tryz.prog.info? 124).map (fun i => i.zero.map (·.cells)) = some (some ([I64 (0 : Int), I64 (0 : Int), .slice none 0 0] : List Value).toArray) := by kernel_rfl
theorem w_gfmatrix_mayHave (M0 : Mem) (x00 : Int) {res : Bool} (h : m_gfmatrix_mayHave x00 = some res) :
  Fn Tryz.prog 105 #[I64 x00] M0 fun r M' es => r = .bool res /\ es = [] := by
 refine Fn.intro (N := 9) Tryz.func105 rfl rfl (nle rfl) fun w0 => ?_
 unfold m_gfmatrix_mayHave at h
 refine sr fun _ k1 => ak rfl k1 <| sr fun _ k2 => mv rfl <| ya (geq rfl rfl) <| mv rfl <| spl h decide_eq_true decide_eq_false (fun hc3 h => ?_) fun hc3 h => ?_
 ·refine mvg rfl <| yg (leq rfl rfl) <| pt rfl rfl <| ak rfl k2 <| re ?_
  obtain rfl := si h
  exact rt0 (ResIs.one rfl rfl)
 refine sk <| sk <| pf rfl rfl <| ak rfl k2 <| re ?_
 obtain rfl := si h
 exact rt0 (ResIs.one rfl rfl)
theorem w_gfmatrix_Valid (M0 : Mem) (u0 u1 : Int) (A00_2 : Option Addr) (n00_2 c00_2 : Nat) (u2 : By) (hf00_2 : SlT M0 A00_2 n00_2 c00_2 u2) {res : Bool} (h : m_gfmatrix_Valid u0 u1 u2 = some res) :
  Fn Tryz.prog 104 #[.agg ([I64 u0, I64 u1, .slice A00_2 n00_2 c00_2] : List Value).toArray] M0 fun r M' es => r = .bool res /\ es = [] := by
 refine Fn.intro (N := 22) Tryz.func104 rfl rfl (nle rfl) fun w0 => ?_
 unfold m_gfmatrix_Valid at h
 refine sr fun _ k1 => bb 102 [I64 u0, I64 u1, .slice A00_2 n00_2 c00_2] rfl fun g2 => ak rfl k1 <| sr fun _ k3 => bd h fun x4 hx4 h => ya (fieldAddr Tryz.underlying124 rfl nz_3 rfl rfl) <| ya (loadB (k := 102) scal_3 rfl rfl rfl) <| c0 Tryz.func105 rfl (fun w hb hh => w_gfmatrix_mayHave (Mem.snap w) u0 hx4) <| mv rfl <| spl h id Bool.eq_false_iff.2 (fun hc6 h => ?_) fun hc6 h => ?_
 ·obtain ⟨x7, hx7, h⟩ := bnd h
  refine yg (fieldAddr Tryz.underlying124 rfl nz_3 rfl rfl) <| yg (loadB (k := 102) scal_3 rfl rfl rfl) <| c0g Tryz.func105 rfl (fun w hb hh => w_gfmatrix_mayHave (Mem.snap w) u1 hx7) <| pt rfl rfl <| mv rfl <| spl h id Bool.eq_false_iff.2 (fun hc9 h => ?_) fun hc9 h => ?_
  ·obtain ⟨x10, hx10, h⟩ := bnd h
   refine yg (fieldAddr Tryz.underlying124 rfl nz_22 rfl rfl) <| yg (loadB (k := 102) scal_22 rfl rfl rfl) <| yg (lenC (xs := u2) und_22 rfl (mM rfl hf00_2)) <| yg (fieldAddr Tryz.underlying124 rfl nz_3 rfl rfl) <| yg (loadB (k := 102) scal_3 rfl rfl rfl) <| yg (fieldAddr Tryz.underlying124 rfl nz_3 rfl rfl) <| yg (loadB (k := 102) scal_3 rfl rfl rfl) <| yg (mulC rfl rfl hx10) <| yg (eqlI rfl rfl) <| pt rfl rfl <| ak rfl k3 <| re ?_
   obtain rfl := si h
   exact rt0 (ResIs.one rfl rfl)
  refine sk <| sk <| sk <| sk <| sk <| sk <| sk <| sk <| sk <| pf rfl rfl <| ak rfl k3 <| re ?_
  obtain rfl := si h
  exact rt0 (ResIs.one rfl rfl)
 refine sk <| sk <| sk <| pf rfl rfl <| mv rfl <| sk <| sk <| sk <| sk <| sk <| sk <| sk <| sk <| sk <| pf rfl rfl <| ak rfl k3 <| re ?_
 obtain rfl := si h
 exact rt0 (ResIs.one rfl rfl)
theorem w_gfmatrix_empty (M0 : Mem) (x00 x01 : Int) {res : Int × Int × By} (h : m_gfmatrix_empty x00 x01 = some res) :
  Fn Tryz.prog 123 #[I64 x00, I64 x01] M0 fun r M' es => ∃ (A1 : Option Addr) (n1 c1 : Nat), r = .agg ([I64 res.1, I64 res.2.1, .slice A1 n1 c1] : List Value).toArray /\ es = [.own 5 (Lay.sz (BitVec 8)) A1 n1 c1 (cel res.2.2)] := by
 refine Fn.intro (N := 12) Tryz.func123 rfl rfl (nle rfl) fun w0 => ?_
 unfold m_gfmatrix_empty at h
 refine sr fun _ k1 => al 102 zr_124 fun g2 => dz k1 <| sr fun _ k3 => ?_
 obtain ⟨x4, hx4, h⟩ := bnd h
 obtain ⟨x6, hx6, h⟩ := bnd h
 refine mv rfl <| mv rfl <| mv rfl <| mv rfl <| ya (mulC rfl rfl hx4) <| WL.eff (by decide) (Eff.makeC 105 0#8 sty_22 rfl rfl rfl rfl rfl rfl hx6) ?_
 rintro _ _ ⟨g5, rfl, rfl⟩
 refine ya (build rfl (bu_124_0_1_2 x00 x01 (some ⟨g5, 0, none⟩) x6.length x6.length)) <| sb 102 agg_124 rfl rfl rfl <| dz k3 <| re ?_
 obtain rfl := si h
 exact rt [105] (ResIs.cellM (k := 102) rfl agg_124 rfl rfl (rfl)) (Ext.refl _ _) ⟨(some ⟨g5, 0, none⟩), x6.length, x6.length, rfl, rfl⟩
theorem w_gfmatrix_Matrix_row (M0 : Mem) (u0 u1 : Int) (A00_2 : Option Addr) (n00_2 c00_2 : Nat) (x01 : Int) {res : Int × Int} (hb : 0 <= res.1 /\ res.1 <= res.2 /\ res.2 <= c00_2) (h : m_gfmatrix_Matrix_row u0 u1 x01 = some res) :
  Fn Tryz.prog 106 #[.agg ([I64 u0, I64 u1, .slice A00_2 n00_2 c00_2] : List Value).toArray, I64 x01] M0 fun r M' es => r = .slice (subA A00_2 c00_2 (res.1).toNat 1) ((res.2).toNat - (res.1).toNat) (c00_2 - (res.1).toNat) /\ es = [] := by
 refine Fn.intro (N := 17) Tryz.func106 rfl rfl (nle rfl) fun w0 => ?_
 unfold m_gfmatrix_Matrix_row at h
 refine sr fun _ k1 => bb 102 [I64 u0, I64 u1, .slice A00_2 n00_2 c00_2] rfl fun g2 => ak rfl k1 <| sr fun _ k3 => ?_
 obtain ⟨x4, hx4, h⟩ := bnd h
 obtain ⟨x5, hx5, h⟩ := bnd h
 obtain ⟨x6, hx6, h⟩ := bnd h
 refine ya (fieldAddr Tryz.underlying124 rfl nz_22 rfl rfl) <| ya (loadB (k := 102) scal_22 rfl rfl rfl) <| mv rfl <| ya (fieldAddr Tryz.underlying124 rfl nz_3 rfl rfl) <| ya (loadB (k := 102) scal_3 rfl rfl rfl) <| ya (mulC rfl rfl hx4) <| mv rfl <| ya (addC rfl rfl hx5) <| ya (fieldAddr Tryz.underlying124 rfl nz_3 rfl rfl) <| ya (loadB (k := 102) scal_3 rfl rfl rfl) <| ya (mulC rfl rfl hx6) ?_
 have hres := Option.some.inj h
 subst hres
 exact ya (sliceLH sty_22 rfl rfl rfl hb) <| ak rfl k3 <| re <| rt0 (ResIs.one rfl rfl)
theorem w_gfmatrix_Matrix_at (M0 : Mem) (u0 u1 : Int) (A00_2 : Option Addr) (n00_2 c00_2 : Nat) (u2 : By) (hf00_2 : SlT M0 A00_2 n00_2 c00_2 u2) (x01 x02 : Int) {res : (BitVec 8)} (h : m_gfmatrix_Matrix_at u0 u1 u2 x01 x02 = some res) :
  Fn Tryz.prog 111 #[.agg ([I64 u0, I64 u1, .slice A00_2 n00_2 c00_2] : List Value).toArray, I64 x01, I64 x02] M0 fun r M' es => r = U8 res /\ es = [] := by
 refine Fn.intro (N := 17) Tryz.func111 rfl rfl (nle rfl) fun w0 => ?_
 unfold m_gfmatrix_Matrix_at at h
 refine sr fun _ k1 => bb 102 [I64 u0, I64 u1, .slice A00_2 n00_2 c00_2] rfl fun g2 => ya (Yld.assign (v := U8 0#8) rfl) <| dz k1 <| sr fun _ k3 => ?_
 obtain ⟨x4, hx4, h⟩ := bnd h
 obtain ⟨x5, hx5, h⟩ := bnd h
 obtain ⟨x6, hx6, h⟩ := bnd h
 refine ya (fieldAddr Tryz.underlying124 rfl nz_22 rfl rfl) <| ya (loadB (k := 102) scal_22 rfl rfl rfl) <| mv rfl <| ya (fieldAddr Tryz.underlying124 rfl nz_3 rfl rfl) <| ya (loadB (k := 102) scal_3 rfl rfl rfl) <| ya (mulC rfl rfl hx4) <| mv rfl <| ya (addC rfl rfl hx5) <| ya (idxC (xs := u2) sty_22 rfl rfl (mM rfl hf00_2) hx6) <| ya (loadC0 (xs := u2) scal_5 rfl (mM rfl hf00_2) hx6 rfl) <| ak rfl k3 <| re ?_
 obtain rfl := si h
 exact rt0 (ResIs.one rfl rfl)
theorem w_gfmatrix_Identity (M0 : Mem) (x00 : Int) {res : Int × Int × By × Int} (h : m_gfmatrix_Identity x00 = some res) :
  Fn Tryz.prog 126 #[I64 x00] M0 fun r M' es => ∃ (A1 : Option Addr) (n1 c1 : Nat), r = .tuple #[.agg ([I64 res.1, I64 res.2.1, .slice A1 n1 c1] : List Value).toArray, I64 res.2.2.2] /\ es = [.own 5 (Lay.sz (BitVec 8)) A1 n1 c1 (cel res.2.2.1)] := by
 refine Fn.intro (N := 24) Tryz.func126 rfl rfl (nle rfl) fun w0 => ?_
 unfold m_gfmatrix_Identity at h
 refine sr fun _ k1 => al 102 zr_124 fun g2 => ak rfl k1 <| sq fun _ k3 => sr fun _ k4 => bd h fun x5 hx5 h => mv rfl <| c0 Tryz.func105 rfl (fun w hb hh => w_gfmatrix_mayHave (Mem.snap w) x00 hx5) <| ya (notB rfl) <| dz k4 <| cnn h rfl not_f (fun q => not_t (Bool.eq_false_iff.2 q)) (fun hc7 h => ?_) fun hc7 h => ?_
 ·refine ss <| k3 _ _ <| sr fun _ k8 => bd h fun x9 hx9 h => mv rfl <| mv rfl <| c1 113 Tryz.func123 rfl (fun w hb hh => w_gfmatrix_empty (Mem.snap w) x00 x00 hx9) fun A14 n15 c16 => al 117 zr_124 fun g17 => sb 117 agg_124 rfl rfl rfl <| dz k8 <| ct (σ := By) (fun x18 => [(2, pv g2), (4, pv g17)]) (fun x18 => [(0, .mem M0), (102, .blk g2 124 [I64 (0 : Int), I64 (0 : Int), .slice none 0 0]), (113, .own 5 (Lay.sz (BitVec 8)) A14 n15 c16 (cel x18)), (117, .blk g17 124 [I64 x9.1, I64 x9.2.1, .slice A14 n15 c16])]) (fun x18 => m_gfmatrix_Identity_j0 x9 x18 = some res) (fun _ k19 => ?_) ?_
  ·refine sr fun _ k20 => mv rfl <| mv rfl <| dz k20 <| bl <| lp (τ := By × Int) (fun ⟨x21, x22⟩ => [(2, pv g2), (4, pv g17), (13, I64 x00), (14, I64 x22)]) (fun ⟨x21, x22⟩ => [(0, .mem M0), (102, .blk g2 124 [I64 (0 : Int), I64 (0 : Int), .slice none 0 0]), (113, .own 5 (Lay.sz (BitVec 8)) A14 n15 c16 (cel x21)), (117, .blk g17 124 [I64 x9.1, I64 x9.2.1, .slice A14 n15 c16])]) (fun q23 ⟨x21, x22⟩ => m_gfmatrix_Identity_l1 x00 x9 q23 x21 x22 = some res) ⟨x9.2.2, (0 : Int)⟩ ?_ (by simp [m_gfmatrix_Identity_l1]) ?_
   ·exact h
   rintro q23 ⟨x21, x22⟩ h _ k24
   unfold m_gfmatrix_Identity_l1 at h
   refine sr fun _ k25 => ya (lss rfl rfl) <| dz k25 <| sq fun _ k26 => cI h rfl (fun hc27 h => ?_) fun hc27 h => ?_
   ·refine ss <| k26 _ _ <| sq fun _ k28 => bl <| sr fun _ k29 => mv rfl <| ak rfl k29 <| rg fun _ k30 => ?_
    obtain ⟨x31, hx31, h⟩ := bnd h
    obtain ⟨x32, hx32, h⟩ := bnd h
    obtain ⟨x33, hx33, h⟩ := bnd h
    obtain ⟨x34, hx34, h⟩ := bnd h
    obtain ⟨x35, hx35, h⟩ := bnd h
    refine ya (loadBM (k := 117) agg_124 rfl rfl rfl) <| mv rfl <| c0 Tryz.func106 rfl (fun w hb hh => w_gfmatrix_Matrix_row (Mem.snap w) x9.1 x9.2.1 A14 n15 c16 x22 (SlT.slcB (RdH.sn (rO 113 rfl) w hb hh) hx32) hx31) <| mv rfl <| ya (idxC (xs := x33) sty_22 rfl rfl (RdT.slcN (rO 113 rfl) hx33) hx34) <| WL.eff0 (Eff0.storeS 113 (xs := x21) (lo := x31.1) (hi := x31.2) (a' := 1#8) siz_5 rfl rfl rfl rfl rfl rfl hx35) <| dz k30 <| bn <| tn <| k28 _ _ <| rg fun _ k36 => bd h fun x37 hx37 h => ya (addC rfl rfl hx37) <| mv rfl <| dz k36 <| tn <| kw (k24 ⟨x35, x37⟩ h)
   exact xi <| te <| te <| bx <| tn <| kw (k19 x21 h)
  rintro x18 h
  unfold m_gfmatrix_Identity_j0 at h
  refine sr fun _ k38 => ya (loadBM (k := 117) agg_124 rfl rfl rfl) <| sb 102 agg_124 rfl rfl rfl <| ak rfl k38 <| re ?_
  obtain rfl := si h
  exact rt [113] (ResIs.cellTmpM (k := 102) rfl agg_124 rfl rfl rfl rfl) (Ext.refl _ _) ⟨A14, n15, c16, rfl, rfl⟩
 refine sr fun _ k39 => ya (build rfl (bu_124_)) <| sb 102 agg_124 rfl rfl rfl <| ak rfl k39 <| re <| tr <| QK.nilOwn 140 5 (Lay.sz (BitVec 8)) none ?_
 obtain rfl := si h
 exact rt [140] (ResIs.cellTmpM (k := 102) rfl agg_124 rfl rfl rfl rfl) (Ext.refl _ _) ⟨none, 0, 0, rfl, rfl⟩
theorem w_gfmatrix_Vandermonde (M0 : Mem) (x00 x01 : Int) {res : Int × Int × By × Int} (h : m_gfmatrix_Vandermonde x00 x01 = some res) :
  Fn Tryz.prog 107 #[I64 x00, I64 x01] M0 fun r M' es => ∃ (A1 : Option Addr) (n1 c1 : Nat), r = .tuple #[.agg ([I64 res.1, I64 res.2.1, .slice A1 n1 c1] : List Value).toArray, I64 res.2.2.2] /\ es = [.own 5 (Lay.sz (BitVec 8)) A1 n1 c1 (cel res.2.2.1)] := by
 refine Fn.intro (N := 41) Tryz.func107 rfl rfl (nle rfl) fun w0 => ?_
 unfold m_gfmatrix_Vandermonde at h
 refine sr fun _ k1 => al 102 zr_124 fun g2 => ak rfl k1 <| ct (σ := Unit) (fun _ => [(0, I64 x00), (1, I64 x01), (4, pv g2)]) (fun _ => [(0, .mem M0), (102, .blk g2 124 [I64 (0 : Int), I64 (0 : Int), .slice none 0 0])]) (fun _ => m_gfmatrix_Vandermonde_j0 x00 x01 = some res) (fun _ k3 => ?_) ?_
 ·refine sr fun _ k4 => bd h fun x5 hx5 h => mv rfl <| c0 Tryz.func105 rfl (fun w hb hh => w_gfmatrix_mayHave (Mem.snap w) x00 hx5) <| ya (notB rfl) <| mv rfl <| spn h not_f (fun q => not_t (Bool.eq_false_iff.2 q)) (fun hc7 h => ?_) fun hc7 h => ?_
  ·obtain ⟨x8, hx8, h⟩ := bnd h
   refine mvg rfl <| c0g Tryz.func105 rfl (fun w hb hh => w_gfmatrix_mayHave (Mem.snap w) x01 hx8) <| yg (notB rfl) <| pf rfl rfl <| dz k4 <| cnn h rfl not_f (fun q => not_t (Bool.eq_false_iff.2 q)) (fun hc10 h => ?_) fun hc10 h => ?_
   ·exact WC.skip <| tn <| kw (k3 () h)
   refine sr fun _ k11 => ya (build rfl (bu_124_)) <| sb 102 agg_124 rfl rfl rfl <| ak rfl k11 <| re <| tr <| QK.nilOwn 112 5 (Lay.sz (BitVec 8)) none ?_
   obtain rfl := si h
   exact rt [112] (ResIs.cellTmpM (k := 102) rfl agg_124 rfl rfl rfl rfl) (Ext.refl _ _) ⟨none, 0, 0, rfl, rfl⟩
  refine sk <| sk <| sk <| pt rfl rfl <| dz k4 <| cdT rfl <| sr fun _ k13 => ya (build rfl (bu_124_)) <| sb 102 agg_124 rfl rfl rfl <| ak rfl k13 <| re <| tr <| QK.nilOwn 114 5 (Lay.sz (BitVec 8)) none ?_
  obtain rfl := si h
  exact rt [114] (ResIs.cellTmpM (k := 102) rfl agg_124 rfl rfl rfl rfl) (Ext.refl _ _) ⟨none, 0, 0, rfl, rfl⟩
 rintro _ h
 unfold m_gfmatrix_Vandermonde_j0 at h
 refine sr fun _ k15 => bd h fun x16 hx16 h => mv rfl <| mv rfl <| c1 120 Tryz.func123 rfl (fun w hb hh => w_gfmatrix_empty (Mem.snap w) x00 x01 hx16) fun A21 n22 c23 => al 124 zr_124 fun g24 => sb 124 agg_124 rfl rfl rfl <| dz k15 <| ct (σ := By) (fun x25 => [(4, pv g2), (6, pv g24)]) (fun x25 => [(0, .mem M0), (102, .blk g2 124 [I64 (0 : Int), I64 (0 : Int), .slice none 0 0]), (120, .own 5 (Lay.sz (BitVec 8)) A21 n22 c23 (cel x25)), (124, .blk g24 124 [I64 x16.1, I64 x16.2.1, .slice A21 n22 c23])]) (fun x25 => m_gfmatrix_Vandermonde_j1 x16 x25 = some res) (fun _ k26 => ?_) ?_
 ·refine sr fun _ k27 => mv rfl <| mv rfl <| dz k27 <| bl <| lp (τ := By × Int) (fun ⟨x28, x29⟩ => [(1, I64 x01), (4, pv g2), (6, pv g24), (21, I64 x00), (22, I64 x29)]) (fun ⟨x28, x29⟩ => [(0, .mem M0), (102, .blk g2 124 [I64 (0 : Int), I64 (0 : Int), .slice none 0 0]), (120, .own 5 (Lay.sz (BitVec 8)) A21 n22 c23 (cel x28)), (124, .blk g24 124 [I64 x16.1, I64 x16.2.1, .slice A21 n22 c23])]) (fun q30 ⟨x28, x29⟩ => m_gfmatrix_Vandermonde_l2 x00 x01 x16 q30 x28 x29 = some res) ⟨x16.2.2, (0 : Int)⟩ ?_ (by simp [m_gfmatrix_Vandermonde_l2]) ?_
  ·exact h
  rintro q30 ⟨x28, x29⟩ h _ k31
  unfold m_gfmatrix_Vandermonde_l2 at h
  refine sr fun _ k32 => ya (lss rfl rfl) <| dz k32 <| sq fun _ k33 => cI h rfl (fun hc34 h => ?_) fun hc34 h => ?_
  ·refine ss <| k33 _ _ <| ct (σ := By) (fun x35 => [(1, I64 x01), (4, pv g2), (6, pv g24), (21, I64 x00), (22, I64 x29)]) (fun x35 => [(0, .mem M0), (102, .blk g2 124 [I64 (0 : Int), I64 (0 : Int), .slice none 0 0]), (120, .own 5 (Lay.sz (BitVec 8)) A21 n22 c23 (cel x35)), (124, .blk g24 124 [I64 x16.1, I64 x16.2.1, .slice A21 n22 c23])]) (fun x35 => m_gfmatrix_Vandermonde_j3 x29 (m_gfmatrix_Vandermonde_l2 x00 x01 x16 q30) x35 = some res) (fun _ k36 => ?_) ?_
   ·refine bl <| sr fun _ k37 => mv rfl <| ak rfl k37 <| sr fun _ k38 => mv rfl <| mv rfl <| dz k38 <| bl <| lp (τ := By × Int) (fun ⟨x39, x40⟩ => [(1, I64 x01), (4, pv g2), (6, pv g24), (7, I64 x29), (21, I64 x00), (22, I64 x29), (25, I64 x01), (26, I64 x40)]) (fun ⟨x39, x40⟩ => [(0, .mem M0), (102, .blk g2 124 [I64 (0 : Int), I64 (0 : Int), .slice none 0 0]), (120, .own 5 (Lay.sz (BitVec 8)) A21 n22 c23 (cel x39)), (124, .blk g24 124 [I64 x16.1, I64 x16.2.1, .slice A21 n22 c23])]) (fun q41 ⟨x39, x40⟩ => m_gfmatrix_Vandermonde_l4 x01 x16 x29 (m_gfmatrix_Vandermonde_l2 x00 x01 x16 q30) q41 x39 x40 = some res) ⟨x28, (0 : Int)⟩ ?_ (by simp [m_gfmatrix_Vandermonde_l4]) ?_
    ·exact h
    rintro q41 ⟨x39, x40⟩ h _ k42
    unfold m_gfmatrix_Vandermonde_l4 at h
    refine sr fun _ k43 => ya (lss rfl rfl) <| dz k43 <| sq fun _ k44 => cI h rfl (fun hc45 h => ?_) fun hc45 h => ?_
    ·refine ss <| k44 _ _ <| sq fun _ k46 => bl <| sr fun _ k47 => mv rfl <| ak rfl k47 <| rg fun _ k48 => ?_
     obtain ⟨x49, hx49, h⟩ := bnd h
     obtain ⟨x50, hx50, h⟩ := bnd h
     obtain ⟨x51, hx51, h⟩ := bnd h
     obtain ⟨x53, hx53, h⟩ := bnd h
     obtain ⟨x54, hx54, h⟩ := bnd h
     obtain ⟨x55, hx55, h⟩ := bnd h
     refine ya (loadBM (k := 124) agg_124 rfl rfl rfl) <| mv rfl <| c0 Tryz.func106 rfl (fun w hb hh => w_gfmatrix_Matrix_row (Mem.snap w) x16.1 x16.2.1 A21 n22 c23 x29 (SlT.slcB (RdH.sn (rO 120 rfl) w hb hh) hx50) hx49) <| mv rfl <| mv rfl <| ya (conv_i64_u8 some_3 und_5 rfl) <| mv rfl <| c0 Tryz.func124 rfl (fun w hb hh => w_gf256_Pow (Mem.snap w) (BitVec.ofInt 8 x29) x40 hx51) <| ya (idxC (xs := x53) sty_22 rfl rfl (RdT.slcN (rO 120 rfl) hx53) hx54) <| WL.eff0 (Eff0.storeS 120 (xs := x39) (lo := x49.1) (hi := x49.2) (a' := x51) siz_5 rfl rfl rfl rfl rfl rfl hx55) <| dz k48 <| bn <| tn <| k46 _ _ <| rg fun _ k56 => bd h fun x57 hx57 h => ya (addC rfl rfl hx57) <| mv rfl <| dz k56 <| tn <| kw (k42 ⟨x55, x57⟩ h)
    exact xi <| te <| te <| bx <| bn <| tn <| kw (k36 x39 h)
   rintro x35 h
   unfold m_gfmatrix_Vandermonde_j3 at h
   refine rg fun _ k58 => bd h fun x59 hx59 h => ya (addC rfl rfl hx59) <| mv rfl <| dz k58 <| tn <| kw (k31 ⟨x35, x59⟩ h)
  exact xi <| te <| te <| bx <| tn <| kw (k26 x28 h)
 rintro x25 h
 unfold m_gfmatrix_Vandermonde_j1 at h
 refine sr fun _ k60 => ya (loadBM (k := 124) agg_124 rfl rfl rfl) <| sb 102 agg_124 rfl rfl rfl <| ak rfl k60 <| re ?_
 obtain rfl := si h
 exact rt [120] (ResIs.cellTmpM (k := 102) rfl agg_124 rfl rfl rfl rfl) (Ext.refl _ _) ⟨A21, n22, c23, rfl, rfl⟩
theorem w_gfmatrix_Mul (M0 : Mem) (u0 u1 : Int) (A00_2 : Option Addr) (n00_2 c00_2 : Nat) (u2 : By) (hf00_2 : SlT M0 A00_2 n00_2 c00_2 u2) (v0 v1 : Int) (A01_2 : Option Addr) (n01_2 c01_2 : Nat) (v2 : By) (hf01_2 : SlT M0 A01_2 n01_2 c01_2 v2) {res : Int × Int × By × Int} (h : m_gfmatrix_Mul u0 u1 u2 v0 v1 v2 = some res) :
  Fn Tryz.prog 109 #[.agg ([I64 u0, I64 u1, .slice A00_2 n00_2 c00_2] : List Value).toArray, .agg ([I64 v0, I64 v1, .slice A01_2 n01_2 c01_2] : List Value).toArray] M0 fun r M' es => ∃ (A1 : Option Addr) (n1 c1 : Nat), r = .tuple #[.agg ([I64 res.1, I64 res.2.1, .slice A1 n1 c1] : List Value).toArray, I64 res.2.2.2] /\ es = [.own 5 (Lay.sz (BitVec 8)) A1 n1 c1 (cel res.2.2.1)] := by
 refine Fn.intro (N := 67) Tryz.func109 rfl rfl (nle rfl) fun w0 => ?_
 unfold m_gfmatrix_Mul at h
 refine sr fun _ k1 => bb 102 [I64 u0, I64 u1, .slice A00_2 n00_2 c00_2] rfl fun g2 => bb 103 [I64 v0, I64 v1, .slice A01_2 n01_2 c01_2] rfl fun g3 => al 104 zr_124 fun g4 => ak rfl k1 <| ct (σ := Unit) (fun _ => [(2, pv g2), (3, pv g3), (4, pv g4)]) (fun _ => [(0, .mem M0), (102, .blk g2 124 [I64 u0, I64 u1, .slice A00_2 n00_2 c00_2]), (103, .blk g3 124 [I64 v0, I64 v1, .slice A01_2 n01_2 c01_2]), (104, .blk g4 124 [I64 (0 : Int), I64 (0 : Int), .slice none 0 0])]) (fun _ => m_gfmatrix_Mul_j0 u0 u1 u2 v0 v1 v2 = some res) (fun _ k5 => ?_) ?_
 ·refine sr fun _ k6 => bd h fun x7 hx7 h => ya (loadBM (k := 102) agg_124 rfl rfl rfl) <| c0 Tryz.func104 rfl (fun w hb hh => w_gfmatrix_Valid (Mem.snap w) u0 u1 A00_2 n00_2 c00_2 _ (sM rfl hf00_2 w hb hh) hx7) <| ya (notB rfl) <| mv rfl <| spn h not_f (fun q => not_t (Bool.eq_false_iff.2 q)) (fun hc9 h => ?_) fun hc9 h => ?_
  ·obtain ⟨x10, hx10, h⟩ := bnd h
   refine yg (loadBM (k := 103) agg_124 rfl rfl rfl) <| c0g Tryz.func104 rfl (fun w hb hh => w_gfmatrix_Valid (Mem.snap w) v0 v1 A01_2 n01_2 c01_2 _ (sM rfl hf01_2 w hb hh) hx10) <| yg (notB rfl) <| pf rfl rfl <| mv rfl <| spn h not_f (fun q => not_t (Bool.eq_false_iff.2 q)) (fun hc12 h => ?_) fun hc12 h => ?_
   ·refine yg (fieldAddr Tryz.underlying124 rfl nz_3 rfl rfl) <| yg (loadB (k := 102) scal_3 rfl rfl rfl) <| yg (fieldAddr Tryz.underlying124 rfl nz_3 rfl rfl) <| yg (loadB (k := 103) scal_3 rfl rfl rfl) <| yg (neqI rfl rfl) <| pf rfl rfl <| dz k6 <| cnn h rfl bne_eq_false_iff_eq.2 bne_iff_ne.2 (fun hc13 h => ?_) fun hc13 h => ?_
    ·exact WC.skip <| tn <| kw (k5 () h)
    refine sr fun _ k14 => ya (build rfl (bu_124_)) <| sb 104 agg_124 rfl rfl rfl <| ak rfl k14 <| re <| tr <| QK.nilOwn 115 5 (Lay.sz (BitVec 8)) none ?_
    obtain rfl := si h
    exact rt [115] (ResIs.cellTmpM (k := 104) rfl agg_124 rfl rfl rfl rfl) (Ext.refl _ _) ⟨none, 0, 0, rfl, rfl⟩
   refine sk <| sk <| sk <| sk <| sk <| pt rfl rfl <| dz k6 <| cdT rfl <| sr fun _ k16 => ya (build rfl (bu_124_)) <| sb 104 agg_124 rfl rfl rfl <| ak rfl k16 <| re <| tr <| QK.nilOwn 117 5 (Lay.sz (BitVec 8)) none ?_
   obtain rfl := si h
   exact rt [117] (ResIs.cellTmpM (k := 104) rfl agg_124 rfl rfl rfl rfl) (Ext.refl _ _) ⟨none, 0, 0, rfl, rfl⟩
  refine sk <| sk <| sk <| pt rfl rfl <| mv rfl <| sk <| sk <| sk <| sk <| sk <| pt rfl rfl <| dz k6 <| cdT rfl <| sr fun _ k18 => ya (build rfl (bu_124_)) <| sb 104 agg_124 rfl rfl rfl <| ak rfl k18 <| re <| tr <| QK.nilOwn 119 5 (Lay.sz (BitVec 8)) none ?_
  obtain rfl := si h
  exact rt [119] (ResIs.cellTmpM (k := 104) rfl agg_124 rfl rfl rfl rfl) (Ext.refl _ _) ⟨none, 0, 0, rfl, rfl⟩
 rintro _ h
 unfold m_gfmatrix_Mul_j0 at h
 refine sr fun _ k20 => bd h fun x21 hx21 h => ya (fieldAddr Tryz.underlying124 rfl nz_3 rfl rfl) <| ya (loadB (k := 102) scal_3 rfl rfl rfl) <| ya (fieldAddr Tryz.underlying124 rfl nz_3 rfl rfl) <| ya (loadB (k := 103) scal_3 rfl rfl rfl) <| c1 125 Tryz.func123 rfl (fun w hb hh => w_gfmatrix_empty (Mem.snap w) u0 v1 hx21) fun A26 n27 c28 => al 129 zr_124 fun g29 => sb 129 agg_124 rfl rfl rfl <| dz k20 <| ct (σ := By) (fun x30 => [(4, pv g4), (6, pv g29)]) (fun x30 => [(0, .mem M0), (104, .blk g4 124 [I64 (0 : Int), I64 (0 : Int), .slice none 0 0]), (125, .own 5 (Lay.sz (BitVec 8)) A26 n27 c28 (cel x30)), (129, .blk g29 124 [I64 x21.1, I64 x21.2.1, .slice A26 n27 c28])]) (fun x30 => m_gfmatrix_Mul_j1 x21 x30 = some res) (fun _ k31 => ?_) ?_
 ·refine sr fun _ k32 => ya (fieldAddr Tryz.underlying124 rfl nz_3 rfl rfl) <| ya (loadB (k := 102) scal_3 rfl rfl rfl) <| mv rfl <| dz k32 <| bl <| lp (τ := By × Int) (fun ⟨x33, x34⟩ => [(2, pv g2), (3, pv g3), (4, pv g4), (6, pv g29), (32, I64 u0), (33, I64 x34)]) (fun ⟨x33, x34⟩ => [(0, .mem M0), (102, .blk g2 124 [I64 u0, I64 u1, .slice A00_2 n00_2 c00_2]), (103, .blk g3 124 [I64 v0, I64 v1, .slice A01_2 n01_2 c01_2]), (104, .blk g4 124 [I64 (0 : Int), I64 (0 : Int), .slice none 0 0]), (125, .own 5 (Lay.sz (BitVec 8)) A26 n27 c28 (cel x33)), (129, .blk g29 124 [I64 x21.1, I64 x21.2.1, .slice A26 n27 c28])]) (fun q35 ⟨x33, x34⟩ => m_gfmatrix_Mul_l2 u0 u1 u2 v0 v1 v2 x21 q35 x33 x34 = some res) ⟨x21.2.2, (0 : Int)⟩ ?_ (by simp [m_gfmatrix_Mul_l2]) ?_
  ·exact h
  rintro q35 ⟨x33, x34⟩ h _ k36
  unfold m_gfmatrix_Mul_l2 at h
  refine sr fun _ k37 => ya (lss rfl rfl) <| dz k37 <| sq fun _ k38 => cI h rfl (fun hc39 h => ?_) fun hc39 h => ?_
  ·refine ss <| k38 _ _ <| ct (σ := By) (fun x40 => [(2, pv g2), (3, pv g3), (4, pv g4), (6, pv g29), (32, I64 u0), (33, I64 x34)]) (fun x40 => [(0, .mem M0), (102, .blk g2 124 [I64 u0, I64 u1, .slice A00_2 n00_2 c00_2]), (103, .blk g3 124 [I64 v0, I64 v1, .slice A01_2 n01_2 c01_2]), (104, .blk g4 124 [I64 (0 : Int), I64 (0 : Int), .slice none 0 0]), (125, .own 5 (Lay.sz (BitVec 8)) A26 n27 c28 (cel x40)), (129, .blk g29 124 [I64 x21.1, I64 x21.2.1, .slice A26 n27 c28])]) (fun x40 => m_gfmatrix_Mul_j3 x34 (m_gfmatrix_Mul_l2 u0 u1 u2 v0 v1 v2 x21 q35) x40 = some res) (fun _ k41 => ?_) ?_
   ·refine bl <| sr fun _ k42 => mv rfl <| ak rfl k42 <| sr fun _ k43 => ya (fieldAddr Tryz.underlying124 rfl nz_3 rfl rfl) <| ya (loadB (k := 103) scal_3 rfl rfl rfl) <| mv rfl <| dz k43 <| bl <| lp (τ := By × Int) (fun ⟨x44, x45⟩ => [(2, pv g2), (3, pv g3), (4, pv g4), (6, pv g29), (7, I64 x34), (32, I64 u0), (33, I64 x34), (37, I64 v1), (38, I64 x45)]) (fun ⟨x44, x45⟩ => [(0, .mem M0), (102, .blk g2 124 [I64 u0, I64 u1, .slice A00_2 n00_2 c00_2]), (103, .blk g3 124 [I64 v0, I64 v1, .slice A01_2 n01_2 c01_2]), (104, .blk g4 124 [I64 (0 : Int), I64 (0 : Int), .slice none 0 0]), (125, .own 5 (Lay.sz (BitVec 8)) A26 n27 c28 (cel x44)), (129, .blk g29 124 [I64 x21.1, I64 x21.2.1, .slice A26 n27 c28])]) (fun q46 ⟨x44, x45⟩ => m_gfmatrix_Mul_l4 u0 u1 u2 v0 v1 v2 x21 x34 (m_gfmatrix_Mul_l2 u0 u1 u2 v0 v1 v2 x21 q35) q46 x44 x45 = some res) ⟨x33, (0 : Int)⟩ ?_ (by simp [m_gfmatrix_Mul_l4]) ?_
    ·exact h
    rintro q46 ⟨x44, x45⟩ h _ k47
    unfold m_gfmatrix_Mul_l4 at h
    refine sr fun _ k48 => ya (lss rfl rfl) <| dz k48 <| sq fun _ k49 => cI h rfl (fun hc50 h => ?_) fun hc50 h => ?_
    ·refine ss <| k49 _ _ <| ct (σ := By) (fun x51 => [(2, pv g2), (3, pv g3), (4, pv g4), (6, pv g29), (7, I64 x34), (32, I64 u0), (33, I64 x34), (37, I64 v1), (38, I64 x45)]) (fun x51 => [(0, .mem M0), (102, .blk g2 124 [I64 u0, I64 u1, .slice A00_2 n00_2 c00_2]), (103, .blk g3 124 [I64 v0, I64 v1, .slice A01_2 n01_2 c01_2]), (104, .blk g4 124 [I64 (0 : Int), I64 (0 : Int), .slice none 0 0]), (125, .own 5 (Lay.sz (BitVec 8)) A26 n27 c28 (cel x51)), (129, .blk g29 124 [I64 x21.1, I64 x21.2.1, .slice A26 n27 c28])]) (fun x51 => m_gfmatrix_Mul_j5 x45 (m_gfmatrix_Mul_l4 u0 u1 u2 v0 v1 v2 x21 x34 (m_gfmatrix_Mul_l2 u0 u1 u2 v0 v1 v2 x21 q35) q46) x51 = some res) (fun _ k52 => ?_) ?_
     ·refine bl <| sr fun _ k53 => mv rfl <| ak rfl k53 <| sr fun _ k54 => ya (fieldAddr Tryz.underlying124 rfl nz_3 rfl rfl) <| ya (loadB (k := 102) scal_3 rfl rfl rfl) <| mv rfl <| dz k54 <| bl <| lp (τ := By × Int) (fun ⟨x55, x56⟩ => [(2, pv g2), (3, pv g3), (4, pv g4), (6, pv g29), (7, I64 x34), (8, I64 x45), (32, I64 u0), (33, I64 x34), (37, I64 v1), (38, I64 x45), (42, I64 u1), (43, I64 x56)]) (fun ⟨x55, x56⟩ => [(0, .mem M0), (102, .blk g2 124 [I64 u0, I64 u1, .slice A00_2 n00_2 c00_2]), (103, .blk g3 124 [I64 v0, I64 v1, .slice A01_2 n01_2 c01_2]), (104, .blk g4 124 [I64 (0 : Int), I64 (0 : Int), .slice none 0 0]), (125, .own 5 (Lay.sz (BitVec 8)) A26 n27 c28 (cel x55)), (129, .blk g29 124 [I64 x21.1, I64 x21.2.1, .slice A26 n27 c28])]) (fun q57 ⟨x55, x56⟩ => m_gfmatrix_Mul_l6 u0 u1 u2 v0 v1 v2 x21 x34 x45 (m_gfmatrix_Mul_l4 u0 u1 u2 v0 v1 v2 x21 x34 (m_gfmatrix_Mul_l2 u0 u1 u2 v0 v1 v2 x21 q35) q46) q57 x55 x56 = some res) ⟨x44, (0 : Int)⟩ ?_ (by simp [m_gfmatrix_Mul_l6]) ?_
      ·exact h
      rintro q57 ⟨x55, x56⟩ h _ k58
      unfold m_gfmatrix_Mul_l6 at h
      refine sr fun _ k59 => ya (lss rfl rfl) <| dz k59 <| sq fun _ k60 => cI h rfl (fun hc61 h => ?_) fun hc61 h => ?_
      ·refine ss <| k60 _ _ <| sq fun _ k62 => bl <| sr fun _ k63 => mv rfl <| ak rfl k63 <| rd [(102, _), (103, _), (104, _), (129, _)] mixed fun _ k64 => ?_
       obtain ⟨x65, hx65, h⟩ := bnd h
       obtain ⟨x66, hx66, h⟩ := bnd h
       obtain ⟨x67, hx67, h⟩ := bnd h
       obtain ⟨x68, hx68, h⟩ := bnd h
       obtain ⟨x69, hx69, h⟩ := bnd h
       obtain ⟨x71, hx71, h⟩ := bnd h
       obtain ⟨x73, hx73, h⟩ := bnd h
       obtain ⟨x75, hx75, h⟩ := bnd h
       obtain ⟨x76, hx76, h⟩ := bnd h
       obtain ⟨x77, hx77, h⟩ := bnd h
       refine du 0 rfl (loadBM (k := 129) agg_124 rfl rfl rfl) <| dm 1 rfl rfl <| dm 3 rfl rfl <| du 6 rfl (loadBM (k := 102) agg_124 rfl rfl rfl) <| dm 7 rfl rfl <| dm 8 rfl rfl <| du 10 rfl (loadBM (k := 103) agg_124 rfl rfl rfl) <| dm 11 rfl rfl <| dm 12 rfl rfl <| on 2 <| d0 rfl Tryz.func106 rfl (fun w hb hh => w_gfmatrix_Matrix_row (Mem.snap w) x21.1 x21.2.1 A26 n27 c28 x34 (SlT.slcB (RdH.sn (rO 125 rfl) w hb hh) hx66) hx65) <| WD.two 4 9 (by kernel_rfl) ?_ ?_
       ·refine dy rfl (idxC (xs := x67) sty_22 rfl rfl (RdT.slcN (rO 125 rfl) hx67) hx68) <| WD.two 5 9 (by kernel_rfl) ?_ ?_
        ·refine dy rfl (loadC0 (xs := x67) scal_5 rfl (RdT.slcN (rO 125 rfl) hx67) hx68 rfl) <| on 9 <| d0 rfl Tryz.func111 rfl (fun w hb hh => w_gfmatrix_Matrix_at (Mem.snap w) u0 u1 A00_2 n00_2 c00_2 _ (sM rfl hf00_2 w hb hh) x34 x56 hx69) <| on 13 <| d0 rfl Tryz.func111 rfl (fun w hb hh => w_gfmatrix_Matrix_at (Mem.snap w) v0 v1 A01_2 n01_2 c01_2 _ (sM rfl hf01_2 w hb hh) x56 x45 hx71) <| on 14 <| d0 rfl Tryz.func131 rfl (fun w hb hh => w_gf256_Mul (Mem.snap w) x69 x71 hx73) <| du 15 rfl (xor_u8 (a := x68) (b := x73) rfl rfl) <| on 16 <| dy rfl (idxC (xs := x75) sty_22 rfl rfl (RdT.slcN (rO 125 rfl) hx75) hx76) <| on 17 <| WS.eff0 rfl (Eff0.storeS 125 (xs := x55) (lo := x65.1) (hi := x65.2) (a' := x68 ^^^ x73) siz_5 rfl rfl rfl rfl rfl rfl hx77) (sc (sc (sc (sc sn)))) <| dd <| k64 _ _ <| bn <| tn <| k62 _ _ <| rg fun _ k78 => bd h fun x79 hx79 h => ya (addC rfl rfl hx79) <| mv rfl <| dz k78 <| tn <| kw (k58 ⟨x77, x79⟩ h)
        skip
        refine d0 rfl Tryz.func111 rfl (fun w hb hh => w_gfmatrix_Matrix_at (Mem.snap w) u0 u1 A00_2 n00_2 c00_2 _ (sM rfl hf00_2 w hb hh) x34 x56 hx69) <| WD.two 5 13 (by kernel_rfl) ?_ ?_
        ·refine dy rfl (loadC0 (xs := x67) scal_5 rfl (RdT.slcN (rO 125 rfl) hx67) hx68 rfl) <| on 13 <| d0 rfl Tryz.func111 rfl (fun w hb hh => w_gfmatrix_Matrix_at (Mem.snap w) v0 v1 A01_2 n01_2 c01_2 _ (sM rfl hf01_2 w hb hh) x56 x45 hx71) <| on 14 <| d0 rfl Tryz.func131 rfl (fun w hb hh => w_gf256_Mul (Mem.snap w) x69 x71 hx73) <| du 15 rfl (xor_u8 (a := x68) (b := x73) rfl rfl) <| on 16 <| dy rfl (idxC (xs := x75) sty_22 rfl rfl (RdT.slcN (rO 125 rfl) hx75) hx76) <| on 17 <| WS.eff0 rfl (Eff0.storeS 125 (xs := x55) (lo := x65.1) (hi := x65.2) (a' := x68 ^^^ x73) siz_5 rfl rfl rfl rfl rfl rfl hx77) (sc (sc (sc (sc sn)))) <| dd <| k64 _ _ <| bn <| tn <| k62 _ _ <| rg fun _ k80 => bd h fun x81 hx81 h => ya (addC rfl rfl hx81) <| mv rfl <| dz k80 <| tn <| kw (k58 ⟨x77, x81⟩ h)
        skip
        refine d0 rfl Tryz.func111 rfl (fun w hb hh => w_gfmatrix_Matrix_at (Mem.snap w) v0 v1 A01_2 n01_2 c01_2 _ (sM rfl hf01_2 w hb hh) x56 x45 hx71) <| WD.two 5 14 (by kernel_rfl) ?_ ?_
        ·refine dy rfl (loadC0 (xs := x67) scal_5 rfl (RdT.slcN (rO 125 rfl) hx67) hx68 rfl) <| on 14 <| d0 rfl Tryz.func131 rfl (fun w hb hh => w_gf256_Mul (Mem.snap w) x69 x71 hx73) <| du 15 rfl (xor_u8 (a := x68) (b := x73) rfl rfl) <| on 16 <| dy rfl (idxC (xs := x75) sty_22 rfl rfl (RdT.slcN (rO 125 rfl) hx75) hx76) <| on 17 <| WS.eff0 rfl (Eff0.storeS 125 (xs := x55) (lo := x65.1) (hi := x65.2) (a' := x68 ^^^ x73) siz_5 rfl rfl rfl rfl rfl rfl hx77) (sc (sc (sc (sc sn)))) <| dd <| k64 _ _ <| bn <| tn <| k62 _ _ <| rg fun _ k82 => bd h fun x83 hx83 h => ya (addC rfl rfl hx83) <| mv rfl <| dz k82 <| tn <| kw (k58 ⟨x77, x83⟩ h)
        skip
        refine d0 rfl Tryz.func131 rfl (fun w hb hh => w_gf256_Mul (Mem.snap w) x69 x71 hx73) <| on 5 <| dy rfl (loadC0 (xs := x67) scal_5 rfl (RdT.slcN (rO 125 rfl) hx67) hx68 rfl) <| du 15 rfl (xor_u8 (a := x68) (b := x73) rfl rfl) <| on 16 <| dy rfl (idxC (xs := x75) sty_22 rfl rfl (RdT.slcN (rO 125 rfl) hx75) hx76) <| on 17 <| WS.eff0 rfl (Eff0.storeS 125 (xs := x55) (lo := x65.1) (hi := x65.2) (a' := x68 ^^^ x73) siz_5 rfl rfl rfl rfl rfl rfl hx77) (sc (sc (sc (sc sn)))) <| dd <| k64 _ _ <| bn <| tn <| k62 _ _ <| rg fun _ k84 => bd h fun x85 hx85 h => ya (addC rfl rfl hx85) <| mv rfl <| dz k84 <| tn <| kw (k58 ⟨x77, x85⟩ h)
       skip
       refine d0 rfl Tryz.func111 rfl (fun w hb hh => w_gfmatrix_Matrix_at (Mem.snap w) u0 u1 A00_2 n00_2 c00_2 _ (sM rfl hf00_2 w hb hh) x34 x56 hx69) <| WD.two 4 13 (by kernel_rfl) ?_ ?_
       ·refine dy rfl (idxC (xs := x67) sty_22 rfl rfl (RdT.slcN (rO 125 rfl) hx67) hx68) <| WD.two 5 13 (by kernel_rfl) ?_ ?_
        ·refine dy rfl (loadC0 (xs := x67) scal_5 rfl (RdT.slcN (rO 125 rfl) hx67) hx68 rfl) <| on 13 <| d0 rfl Tryz.func111 rfl (fun w hb hh => w_gfmatrix_Matrix_at (Mem.snap w) v0 v1 A01_2 n01_2 c01_2 _ (sM rfl hf01_2 w hb hh) x56 x45 hx71) <| on 14 <| d0 rfl Tryz.func131 rfl (fun w hb hh => w_gf256_Mul (Mem.snap w) x69 x71 hx73) <| du 15 rfl (xor_u8 (a := x68) (b := x73) rfl rfl) <| on 16 <| dy rfl (idxC (xs := x75) sty_22 rfl rfl (RdT.slcN (rO 125 rfl) hx75) hx76) <| on 17 <| WS.eff0 rfl (Eff0.storeS 125 (xs := x55) (lo := x65.1) (hi := x65.2) (a' := x68 ^^^ x73) siz_5 rfl rfl rfl rfl rfl rfl hx77) (sc (sc (sc (sc sn)))) <| dd <| k64 _ _ <| bn <| tn <| k62 _ _ <| rg fun _ k86 => bd h fun x87 hx87 h => ya (addC rfl rfl hx87) <| mv rfl <| dz k86 <| tn <| kw (k58 ⟨x77, x87⟩ h)
        skip
        refine d0 rfl Tryz.func111 rfl (fun w hb hh => w_gfmatrix_Matrix_at (Mem.snap w) v0 v1 A01_2 n01_2 c01_2 _ (sM rfl hf01_2 w hb hh) x56 x45 hx71) <| WD.two 5 14 (by kernel_rfl) ?_ ?_
        ·refine dy rfl (loadC0 (xs := x67) scal_5 rfl (RdT.slcN (rO 125 rfl) hx67) hx68 rfl) <| on 14 <| d0 rfl Tryz.func131 rfl (fun w hb hh => w_gf256_Mul (Mem.snap w) x69 x71 hx73) <| du 15 rfl (xor_u8 (a := x68) (b := x73) rfl rfl) <| on 16 <| dy rfl (idxC (xs := x75) sty_22 rfl rfl (RdT.slcN (rO 125 rfl) hx75) hx76) <| on 17 <| WS.eff0 rfl (Eff0.storeS 125 (xs := x55) (lo := x65.1) (hi := x65.2) (a' := x68 ^^^ x73) siz_5 rfl rfl rfl rfl rfl rfl hx77) (sc (sc (sc (sc sn)))) <| dd <| k64 _ _ <| bn <| tn <| k62 _ _ <| rg fun _ k88 => bd h fun x89 hx89 h => ya (addC rfl rfl hx89) <| mv rfl <| dz k88 <| tn <| kw (k58 ⟨x77, x89⟩ h)
        skip
        refine d0 rfl Tryz.func131 rfl (fun w hb hh => w_gf256_Mul (Mem.snap w) x69 x71 hx73) <| on 5 <| dy rfl (loadC0 (xs := x67) scal_5 rfl (RdT.slcN (rO 125 rfl) hx67) hx68 rfl) <| du 15 rfl (xor_u8 (a := x68) (b := x73) rfl rfl) <| on 16 <| dy rfl (idxC (xs := x75) sty_22 rfl rfl (RdT.slcN (rO 125 rfl) hx75) hx76) <| on 17 <| WS.eff0 rfl (Eff0.storeS 125 (xs := x55) (lo := x65.1) (hi := x65.2) (a' := x68 ^^^ x73) siz_5 rfl rfl rfl rfl rfl rfl hx77) (sc (sc (sc (sc sn)))) <| dd <| k64 _ _ <| bn <| tn <| k62 _ _ <| rg fun _ k90 => bd h fun x91 hx91 h => ya (addC rfl rfl hx91) <| mv rfl <| dz k90 <| tn <| kw (k58 ⟨x77, x91⟩ h)
       skip
       refine d0 rfl Tryz.func111 rfl (fun w hb hh => w_gfmatrix_Matrix_at (Mem.snap w) v0 v1 A01_2 n01_2 c01_2 _ (sM rfl hf01_2 w hb hh) x56 x45 hx71) <| WD.two 4 14 (by kernel_rfl) ?_ ?_
       ·refine dy rfl (idxC (xs := x67) sty_22 rfl rfl (RdT.slcN (rO 125 rfl) hx67) hx68) <| WD.two 5 14 (by kernel_rfl) ?_ ?_
        ·refine dy rfl (loadC0 (xs := x67) scal_5 rfl (RdT.slcN (rO 125 rfl) hx67) hx68 rfl) <| on 14 <| d0 rfl Tryz.func131 rfl (fun w hb hh => w_gf256_Mul (Mem.snap w) x69 x71 hx73) <| du 15 rfl (xor_u8 (a := x68) (b := x73) rfl rfl) <| on 16 <| dy rfl (idxC (xs := x75) sty_22 rfl rfl (RdT.slcN (rO 125 rfl) hx75) hx76) <| on 17 <| WS.eff0 rfl (Eff0.storeS 125 (xs := x55) (lo := x65.1) (hi := x65.2) (a' := x68 ^^^ x73) siz_5 rfl rfl rfl rfl rfl rfl hx77) (sc (sc (sc (sc sn)))) <| dd <| k64 _ _ <| bn <| tn <| k62 _ _ <| rg fun _ k92 => bd h fun x93 hx93 h => ya (addC rfl rfl hx93) <| mv rfl <| dz k92 <| tn <| kw (k58 ⟨x77, x93⟩ h)
        skip
        refine d0 rfl Tryz.func131 rfl (fun w hb hh => w_gf256_Mul (Mem.snap w) x69 x71 hx73) <| on 5 <| dy rfl (loadC0 (xs := x67) scal_5 rfl (RdT.slcN (rO 125 rfl) hx67) hx68 rfl) <| du 15 rfl (xor_u8 (a := x68) (b := x73) rfl rfl) <| on 16 <| dy rfl (idxC (xs := x75) sty_22 rfl rfl (RdT.slcN (rO 125 rfl) hx75) hx76) <| on 17 <| WS.eff0 rfl (Eff0.storeS 125 (xs := x55) (lo := x65.1) (hi := x65.2) (a' := x68 ^^^ x73) siz_5 rfl rfl rfl rfl rfl rfl hx77) (sc (sc (sc (sc sn)))) <| dd <| k64 _ _ <| bn <| tn <| k62 _ _ <| rg fun _ k94 => bd h fun x95 hx95 h => ya (addC rfl rfl hx95) <| mv rfl <| dz k94 <| tn <| kw (k58 ⟨x77, x95⟩ h)
       skip
       refine d0 rfl Tryz.func131 rfl (fun w hb hh => w_gf256_Mul (Mem.snap w) x69 x71 hx73) <| on 4 <| dy rfl (idxC (xs := x67) sty_22 rfl rfl (RdT.slcN (rO 125 rfl) hx67) hx68) <| on 5 <| dy rfl (loadC0 (xs := x67) scal_5 rfl (RdT.slcN (rO 125 rfl) hx67) hx68 rfl) <| du 15 rfl (xor_u8 (a := x68) (b := x73) rfl rfl) <| on 16 <| dy rfl (idxC (xs := x75) sty_22 rfl rfl (RdT.slcN (rO 125 rfl) hx75) hx76) <| on 17 <| WS.eff0 rfl (Eff0.storeS 125 (xs := x55) (lo := x65.1) (hi := x65.2) (a' := x68 ^^^ x73) siz_5 rfl rfl rfl rfl rfl rfl hx77) (sc (sc (sc (sc sn)))) <| dd <| k64 _ _ <| bn <| tn <| k62 _ _ <| rg fun _ k96 => bd h fun x97 hx97 h => ya (addC rfl rfl hx97) <| mv rfl <| dz k96 <| tn <| kw (k58 ⟨x77, x97⟩ h)
      exact xi <| te <| te <| bx <| bn <| tn <| kw (k52 x55 h)
     rintro x51 h
     unfold m_gfmatrix_Mul_j5 at h
     refine rg fun _ k98 => bd h fun x99 hx99 h => ya (addC rfl rfl hx99) <| mv rfl <| dz k98 <| tn <| kw (k47 ⟨x51, x99⟩ h)
    exact xi <| te <| te <| bx <| bn <| tn <| kw (k41 x44 h)
   rintro x40 h
   unfold m_gfmatrix_Mul_j3 at h
   refine rg fun _ k100 => bd h fun x101 hx101 h => ya (addC rfl rfl hx101) <| mv rfl <| dz k100 <| tn <| kw (k36 ⟨x40, x101⟩ h)
  exact xi <| te <| te <| bx <| tn <| kw (k31 x33 h)
 rintro x30 h
 unfold m_gfmatrix_Mul_j1 at h
 refine sr fun _ k102 => ya (loadBM (k := 129) agg_124 rfl rfl rfl) <| sb 104 agg_124 rfl rfl rfl <| ak rfl k102 <| re ?_
 obtain rfl := si h
 exact rt [125] (ResIs.cellTmpM (k := 104) rfl agg_124 rfl rfl rfl rfl) (Ext.refl _ _) ⟨A26, n27, c28, rfl, rfl⟩
theorem w_gfmatrix_Pick (M0 : Mem) (u0 u1 : Int) (A00_2 : Option Addr) (n00_2 c00_2 : Nat) (u2 : By) (hf00_2 : SlT M0 A00_2 n00_2 c00_2 u2) (A01 : Option Addr) (n01 c01 : Nat) (x01 : List Int) (hf01 : SlT M0 A01 n01 c01 x01) {res : Int × Int × By × Int} (h : m_gfmatrix_Pick u0 u1 u2 x01 = some res) :
  Fn Tryz.prog 77 #[.agg ([I64 u0, I64 u1, .slice A00_2 n00_2 c00_2] : List Value).toArray, .slice A01 n01 c01] M0 fun r M' es => ∃ (A1 : Option Addr) (n1 c1 : Nat), r = .tuple #[.agg ([I64 res.1, I64 res.2.1, .slice A1 n1 c1] : List Value).toArray, I64 res.2.2.2] /\ es = [.own 5 (Lay.sz (BitVec 8)) A1 n1 c1 (cel res.2.2.1)] := by
 refine Fn.intro (N := 48) Tryz.func77 rfl rfl (nle rfl) fun w0 => ?_
 unfold m_gfmatrix_Pick at h
 refine sr fun _ k1 => bb 102 [I64 u0, I64 u1, .slice A00_2 n00_2 c00_2] rfl fun g2 => al 103 zr_124 fun g3 => ak rfl k1 <| ct (σ := Unit) (fun _ => [(1, .slice A01 n01 c01), (2, pv g2), (4, pv g3)]) (fun _ => [(0, .mem M0), (102, .blk g2 124 [I64 u0, I64 u1, .slice A00_2 n00_2 c00_2]), (103, .blk g3 124 [I64 (0 : Int), I64 (0 : Int), .slice none 0 0])]) (fun _ => m_gfmatrix_Pick_j0 u0 u1 u2 x01 = some res) (fun _ k4 => ?_) ?_
 ·refine sr fun _ k5 => bd h fun x6 hx6 h => ya (loadBM (k := 102) agg_124 rfl rfl rfl) <| c0 Tryz.func104 rfl (fun w hb hh => w_gfmatrix_Valid (Mem.snap w) u0 u1 A00_2 n00_2 c00_2 _ (sM rfl hf00_2 w hb hh) hx6) <| ya (notB rfl) <| mv rfl <| spn h not_f (fun q => not_t (Bool.eq_false_iff.2 q)) (fun hc8 h => ?_) fun hc8 h => ?_
  ·obtain ⟨x9, hx9, h⟩ := bnd h
   refine mvg rfl <| yg (lenC (xs := x01) und_45 rfl (mM rfl hf01)) <| c0g Tryz.func105 rfl (fun w hb hh => w_gfmatrix_mayHave (Mem.snap w) (x01.length : Int) hx9) <| yg (notB rfl) <| pf rfl rfl <| dz k5 <| cnn h rfl not_f (fun q => not_t (Bool.eq_false_iff.2 q)) (fun hc11 h => ?_) fun hc11 h => ?_
   ·exact WC.skip <| tn <| kw (k4 () h)
   refine sr fun _ k12 => ya (build rfl (bu_124_)) <| sb 103 agg_124 rfl rfl rfl <| ak rfl k12 <| re <| tr <| QK.nilOwn 113 5 (Lay.sz (BitVec 8)) none ?_
   obtain rfl := si h
   exact rt [113] (ResIs.cellTmpM (k := 103) rfl agg_124 rfl rfl rfl rfl) (Ext.refl _ _) ⟨none, 0, 0, rfl, rfl⟩
  refine sk <| sk <| sk <| sk <| pt rfl rfl <| dz k5 <| cdT rfl <| sr fun _ k14 => ya (build rfl (bu_124_)) <| sb 103 agg_124 rfl rfl rfl <| ak rfl k14 <| re <| tr <| QK.nilOwn 115 5 (Lay.sz (BitVec 8)) none ?_
  obtain rfl := si h
  exact rt [115] (ResIs.cellTmpM (k := 103) rfl agg_124 rfl rfl rfl rfl) (Ext.refl _ _) ⟨none, 0, 0, rfl, rfl⟩
 rintro _ h
 unfold m_gfmatrix_Pick_j0 at h
 refine sr fun _ k16 => mv rfl <| ya (lenC (xs := x01) und_45 rfl (mM rfl hf01)) <| ya (fieldAddr Tryz.underlying124 rfl nz_3 rfl rfl) <| ya (loadB (k := 102) scal_3 rfl rfl rfl) <| ya (build rfl (bu_124_0_1 (x01.length : Int) u1)) <| al 117 zr_124 fun g17 => sb 117 agg_124 rfl rfl rfl <| dz k16 <| ct (σ := (Option Addr) × Nat × Nat × By) (fun ⟨A20, n21, c22, x23⟩ => [(4, pv g3), (6, pv g17)]) (fun ⟨A20, n21, c22, x23⟩ => [(0, .mem M0), (103, .blk g3 124 [I64 (0 : Int), I64 (0 : Int), .slice none 0 0]), (117, .blk g17 124 [I64 (x01.length : Int), I64 u1, .slice A20 n21 c22]), (119, .own 5 (Lay.sz (BitVec 8)) A20 n21 c22 (cel x23))]) (fun ⟨A20, n21, c22, x23⟩ => m_gfmatrix_Pick_j1 u1 x01 x23 = some res) (fun _ k24 => ?_) ?_
 ·refine sr fun _ k25 => mv rfl <| ya (lenC (xs := x01) und_45 rfl (mM rfl hf01)) <| mv rfl <| dz k25 <| bl <| WC.nilOwn 127 5 (Lay.sz (BitVec 8)) none <| lp (τ := (Option Addr) × Nat × Nat × By × Int) (fun ⟨A28, n29, c30, x31, x32⟩ => [(2, pv g2), (4, pv g3), (6, pv g17), (24, .slice A01 n01 c01), (25, I64 (x01.length : Int)), (26, I64 x32)]) (fun ⟨A28, n29, c30, x31, x32⟩ => [(0, .mem M0), (102, .blk g2 124 [I64 u0, I64 u1, .slice A00_2 n00_2 c00_2]), (103, .blk g3 124 [I64 (0 : Int), I64 (0 : Int), .slice none 0 0]), (117, .blk g17 124 [I64 (x01.length : Int), I64 u1, .slice A28 n29 c30]), (127, .own 5 (Lay.sz (BitVec 8)) A28 n29 c30 (cel x31))]) (fun q33 ⟨A28, n29, c30, x31, x32⟩ => m_gfmatrix_Pick_l2 u0 u1 u2 x01 q33 x31 x32 = some res) ⟨none, 0, 0, ([] : By), (0 : Int)⟩ ?_ (by simp [m_gfmatrix_Pick_l2]) ?_
  ·exact h
  rintro q33 ⟨A28, n29, c30, x31, x32⟩ h _ k34
  unfold m_gfmatrix_Pick_l2 at h
  refine sr fun _ k35 => ya (lss rfl rfl) <| dz k35 <| sq fun _ k36 => cI h rfl (fun hc37 h => ?_) fun hc37 h => ?_
  ·refine ss <| k36 _ _ <| sq fun _ k38 => bl <| sr fun _ k39 => bd h fun x40 hx40 h => ya (idxC (xs := x01) sty_45 rfl rfl (mM rfl hf01) hx40) <| ya (loadC0 (xs := x01) scal_3 rfl (mM rfl hf01) hx40 rfl) <| ak rfl k39 <| sq fun _ k41 => sr fun _ k42 => mv rfl <| ya (lss rfl rfl) <| mv rfl <| spl h decide_eq_true decide_eq_false (fun hc43 h => ?_) fun hc43 h => ?_
   ·refine sk <| sk <| sk <| sk <| pt rfl rfl <| dz k42 <| cdT rfl <| sr fun _ k44 => ya (build rfl (bu_124_)) <| sb 103 agg_124 rfl rfl rfl <| ak rfl k44 <| re <| tr <| br <| tr <| tr <| br <| tr <| QK.nilOwn 145 5 (Lay.sz (BitVec 8)) none ?_
    obtain rfl := si h
    exact rt [145] (ResIs.cellTmpM (k := 103) rfl agg_124 rfl rfl rfl rfl) (Ext.refl _ _) ⟨none, 0, 0, rfl, rfl⟩
   refine mvg rfl <| yg (fieldAddr Tryz.underlying124 rfl nz_3 rfl rfl) <| yg (loadB (k := 102) scal_3 rfl rfl rfl) <| yg (geq rfl rfl) <| pf rfl rfl <| dz k42 <| cI h rfl (fun hc46 h => ?_) fun hc46 h => ?_
   ·refine sr fun _ k47 => ya (build rfl (bu_124_)) <| sb 103 agg_124 rfl rfl rfl <| ak rfl k47 <| re <| tr <| br <| tr <| tr <| br <| tr <| QK.nilOwn 148 5 (Lay.sz (BitVec 8)) none ?_
    obtain rfl := si h
    exact rt [148] (ResIs.cellTmpM (k := 103) rfl agg_124 rfl rfl rfl rfl) (Ext.refl _ _) ⟨none, 0, 0, rfl, rfl⟩
   refine ss <| k41 _ _ <| rd [(102, _), (103, _)] mixed fun _ k49 => ?_
   obtain ⟨x50, hx50, h⟩ := bnd h
   obtain ⟨x51, hx51, h⟩ := bnd h
   obtain ⟨x52, hx52, h⟩ := bnd h
   refine du 0 rfl (fieldAddr Tryz.underlying124 rfl nz_22 rfl rfl) <| du 2 rfl (loadBM (k := 102) agg_124 rfl rfl rfl) <| dm 3 rfl rfl <| WD.two 1 4 (by kernel_rfl) ?_ ?_
   ·refine dy rfl (loadB (k := 117) scal_22 rfl rfl rfl) <| on 4 <| d0 rfl Tryz.func106 rfl (fun w hb hh => w_gfmatrix_Matrix_row (Mem.snap w) u0 u1 A00_2 n00_2 c00_2 x40 (SlT.slcB (sM rfl hf00_2 w hb hh) hx51) hx50) <| on 5 <| WS.eff rfl (by decide) (Eff.appendC 127 (xs := x31) (ys := x51) sty_22 rfl rfl rfl (RdT.slcN (mM rfl hf00_2) hx51) hx52) ?_
    rintro _ _ ⟨A53, c54, rfl, rfl⟩
    refine aq ?_
    refine du 6 rfl (fieldAddr Tryz.underlying124 rfl nz_22 rfl rfl) <| on 7 <| WS.eff0 rfl (Eff0.storeB 117 siz_22 rfl rfl rfl rfl (nle rfl)) (sc (sc sn)) <| dd <| k49 _ _ <| bn <| tn <| k38 _ _ <| rg fun _ k55 => bd h fun x56 hx56 h => ya (addC rfl rfl hx56) <| mv rfl <| dz k55 <| tn <| kw (k34 ⟨A53, x52.length, c54, x52, x56⟩ h)
   skip
   refine d0 rfl Tryz.func106 rfl (fun w hb hh => w_gfmatrix_Matrix_row (Mem.snap w) u0 u1 A00_2 n00_2 c00_2 x40 (SlT.slcB (sM rfl hf00_2 w hb hh) hx51) hx50) <| on 1 <| dy rfl (loadB (k := 117) scal_22 rfl rfl rfl) <| on 5 <| WS.eff rfl (by decide) (Eff.appendC 127 (xs := x31) (ys := x51) sty_22 rfl rfl rfl (RdT.slcN (mM rfl hf00_2) hx51) hx52) ?_
   rintro _ _ ⟨A53, c54, rfl, rfl⟩
   refine aq ?_
   refine du 6 rfl (fieldAddr Tryz.underlying124 rfl nz_22 rfl rfl) <| on 7 <| WS.eff0 rfl (Eff0.storeB 117 siz_22 rfl rfl rfl rfl (nle rfl)) (sc (sc sn)) <| dd <| k49 _ _ <| bn <| tn <| k38 _ _ <| rg fun _ k57 => bd h fun x58 hx58 h => ya (addC rfl rfl hx58) <| mv rfl <| dz k57 <| tn <| kw (k34 ⟨A53, x52.length, c54, x52, x58⟩ h)
  exact xi <| te <| te <| bx <| tn <| KK.move 127 119 rfl rfl <| kw (k24 ⟨A28, n29, c30, x31⟩ h)
 rintro ⟨A20, n21, c22, x23⟩ h
 unfold m_gfmatrix_Pick_j1 at h
 refine sr fun _ k59 => ya (loadBM (k := 117) agg_124 rfl rfl rfl) <| sb 103 agg_124 rfl rfl rfl <| ak rfl k59 <| re ?_
 obtain rfl := si h
 exact rt [119] (ResIs.cellTmpM (k := 103) rfl agg_124 rfl rfl rfl rfl) (Ext.refl _ _) ⟨A20, n21, c22, rfl, rfl⟩
theorem w_gfmatrix_scale (A : Option Addr) (n c : Nat) (x0c : By) (x00lo x00hi : Int) (x01 : BitVec 8) {res : By} (h : m_gfmatrix_scale x0c x00lo x00hi x01 = some res) :
  Mut Tryz.prog 129 #[.slice (subA A c (x00lo).toNat (Lay.sz (BitVec 8))) ((x00hi).toNat - (x00lo).toNat) (c - (x00lo).toNat), U8 x01] 5 (Lay.sz (BitVec 8)) A n c (cel x0c) fun r ds => r = .tuple #[] /\ ds = cel res := by
 refine Mut.intro (N := 20) Tryz.func129 rfl rfl (nle rfl) fun w0 e0 => ?_
 unfold m_gfmatrix_scale at h
 refine sr fun _ k1 => bd h fun x2 hx2 h => mv rfl <| ya (lenC (xs := x2) und_22 rfl (RdT.slcN (rO 2 rfl) hx2)) <| mv rfl <| dz k1 <| bl <| lp (τ := By × Int) (fun ⟨x3, x4⟩ => [(0, .slice (subA A c (x00lo).toNat (Lay.sz (BitVec 8))) ((x00hi).toNat - (x00lo).toNat) (c - (x00lo).toNat)), (1, U8 x01), (6, .slice (subA A c (x00lo).toNat (Lay.sz (BitVec 8))) ((x00hi).toNat - (x00lo).toNat) (c - (x00lo).toNat)), (7, I64 (x2.length : Int)), (8, I64 x4)]) (fun ⟨x3, x4⟩ => [(1, e0), (2, .own 5 (Lay.sz (BitVec 8)) A n c (cel x3))]) (fun q5 ⟨x3, x4⟩ => m_gfmatrix_scale_l0 x00hi x00lo x01 x2 q5 x3 x4 = some res) ⟨x0c, (0 : Int)⟩ ?_ (by simp [m_gfmatrix_scale_l0]) ?_
 ·exact h
 rintro q5 ⟨x3, x4⟩ h _ k6
 unfold m_gfmatrix_scale_l0 at h
 refine sr fun _ k7 => ya (lss rfl rfl) <| dz k7 <| sq fun _ k8 => cI h rfl (fun hc9 h => ?_) fun hc9 h => ?_
 ·refine ss <| k8 _ _ <| sq fun _ k10 => bl <| sr fun _ k11 => ?_
  obtain ⟨x12, hx12, h⟩ := bnd h
  obtain ⟨x13, hx13, h⟩ := bnd h
  refine mv rfl <| ya (idxC (xs := x12) sty_22 rfl rfl (RdT.slcN (rO 2 rfl) hx12) hx13) <| ya (loadC0 (xs := x12) scal_5 rfl (RdT.slcN (rO 2 rfl) hx12) hx13 rfl) <| asn rfl <| ak rfl k11 <| rg fun _ k14 => ?_
  obtain ⟨x15, hx15, h⟩ := bnd h
  obtain ⟨x17, hx17, h⟩ := bnd h
  obtain ⟨x18, hx18, h⟩ := bnd h
  obtain ⟨x19, hx19, h⟩ := bnd h
  refine mv rfl <| mv rfl <| mv rfl <| mv rfl <| c0 Tryz.func131 rfl (fun w hb hh => w_gf256_Mul (Mem.snap w) x13 x01 hx15) <| ya (idxC (xs := x17) sty_22 rfl rfl (RdT.slcN (rO 2 rfl) hx17) hx18) <| WL.eff0 (Eff0.storeS 2 (xs := x3) (lo := x00lo) (hi := x00hi) (a' := x15) siz_5 rfl rfl rfl rfl rfl rfl hx19) <| dz k14 <| bn <| tn <| k10 _ _ <| rg fun _ k20 => bd h fun x21 hx21 h => ya (addC rfl rfl hx21) <| mv rfl <| dz k20 <| tn <| kw (k6 ⟨x19, x21⟩ h)
 refine xi <| te <| te <| bx ?_
 obtain rfl := si h
 exact Ret.mut (ResIs.zero rfl) (sc (sc sn)) ⟨rfl, rfl⟩
theorem w_gfmatrix_add (A : Option Addr) (n c : Nat) (x0c : By) (x00lo x00hi x01lo x01hi : Int) (x02 : BitVec 8) {res : By} (h : m_gfmatrix_add x0c x00lo x00hi x01lo x01hi x02 = some res) :
  Mut Tryz.prog 130 #[.slice (subA A c (x00lo).toNat (Lay.sz (BitVec 8))) ((x00hi).toNat - (x00lo).toNat) (c - (x00lo).toNat), .slice (subA A c (x01lo).toNat (Lay.sz (BitVec 8))) ((x01hi).toNat - (x01lo).toNat) (c - (x01lo).toNat), U8 x02] 5 (Lay.sz (BitVec 8)) A n c (cel x0c) fun r ds => r = .tuple #[] /\ ds = cel res := by
 refine Mut.intro (N := 25) Tryz.func130 rfl rfl (nle rfl) fun w0 e0 => ?_
 unfold m_gfmatrix_add at h
 refine sr fun _ k1 => bd h fun x2 hx2 h => mv rfl <| ya (lenC (xs := x2) und_22 rfl (RdT.slcN (rO 2 rfl) hx2)) <| mv rfl <| dz k1 <| bl <| lp (τ := By × Int) (fun ⟨x3, x4⟩ => [(0, .slice (subA A c (x00lo).toNat (Lay.sz (BitVec 8))) ((x00hi).toNat - (x00lo).toNat) (c - (x00lo).toNat)), (2, U8 x02), (8, .slice (subA A c (x01lo).toNat (Lay.sz (BitVec 8))) ((x01hi).toNat - (x01lo).toNat) (c - (x01lo).toNat)), (9, I64 (x2.length : Int)), (10, I64 x4)]) (fun ⟨x3, x4⟩ => [(1, e0), (2, .own 5 (Lay.sz (BitVec 8)) A n c (cel x3))]) (fun q5 ⟨x3, x4⟩ => m_gfmatrix_add_l0 x00hi x00lo x01hi x01lo x02 x2 q5 x3 x4 = some res) ⟨x0c, (0 : Int)⟩ ?_ (by simp [m_gfmatrix_add_l0]) ?_
 ·exact h
 rintro q5 ⟨x3, x4⟩ h _ k6
 unfold m_gfmatrix_add_l0 at h
 refine sr fun _ k7 => ya (lss rfl rfl) <| dz k7 <| sq fun _ k8 => cI h rfl (fun hc9 h => ?_) fun hc9 h => ?_
 ·refine ss <| k8 _ _ <| sq fun _ k10 => bl <| sr fun _ k11 => ?_
  obtain ⟨x12, hx12, h⟩ := bnd h
  obtain ⟨x13, hx13, h⟩ := bnd h
  refine mv rfl <| ya (idxC (xs := x12) sty_22 rfl rfl (RdT.slcN (rO 2 rfl) hx12) hx13) <| ya (loadC0 (xs := x12) scal_5 rfl (RdT.slcN (rO 2 rfl) hx12) hx13 rfl) <| asn rfl <| ak rfl k11 <| rd [(1, _)] mixed fun _ k14 => ?_
  obtain ⟨x15, hx15, h⟩ := bnd h
  obtain ⟨x16, hx16, h⟩ := bnd h
  obtain ⟨x17, hx17, h⟩ := bnd h
  obtain ⟨x19, hx19, h⟩ := bnd h
  obtain ⟨x20, hx20, h⟩ := bnd h
  obtain ⟨x21, hx21, h⟩ := bnd h
  refine dm 0 rfl rfl <| dm 1 rfl rfl <| dm 4 rfl rfl <| dm 5 rfl rfl <| WD.two 2 6 (by kernel_rfl) ?_ ?_
  ·refine dy rfl (idxC (xs := x15) sty_22 rfl rfl (RdT.slcN (rO 2 rfl) hx15) hx16) <| WD.two 3 6 (by kernel_rfl) ?_ ?_
   ·refine dy rfl (loadC0 (xs := x15) scal_5 rfl (RdT.slcN (rO 2 rfl) hx15) hx16 rfl) <| on 6 <| d0 rfl Tryz.func131 rfl (fun w hb hh => w_gf256_Mul (Mem.snap w) x13 x02 hx17) <| du 7 rfl (xor_u8 (a := x16) (b := x17) rfl rfl) <| on 8 <| dy rfl (idxC (xs := x19) sty_22 rfl rfl (RdT.slcN (rO 2 rfl) hx19) hx20) <| on 9 <| WS.eff0 rfl (Eff0.storeS 2 (xs := x3) (lo := x00lo) (hi := x00hi) (a' := x16 ^^^ x17) siz_5 rfl rfl rfl rfl rfl rfl hx21) (sc sn) <| dd <| k14 _ _ <| bn <| tn <| k10 _ _ <| rg fun _ k22 => bd h fun x23 hx23 h => ya (addC rfl rfl hx23) <| mv rfl <| dz k22 <| tn <| kw (k6 ⟨x21, x23⟩ h)
   skip
   refine d0 rfl Tryz.func131 rfl (fun w hb hh => w_gf256_Mul (Mem.snap w) x13 x02 hx17) <| on 3 <| dy rfl (loadC0 (xs := x15) scal_5 rfl (RdT.slcN (rO 2 rfl) hx15) hx16 rfl) <| du 7 rfl (xor_u8 (a := x16) (b := x17) rfl rfl) <| on 8 <| dy rfl (idxC (xs := x19) sty_22 rfl rfl (RdT.slcN (rO 2 rfl) hx19) hx20) <| on 9 <| WS.eff0 rfl (Eff0.storeS 2 (xs := x3) (lo := x00lo) (hi := x00hi) (a' := x16 ^^^ x17) siz_5 rfl rfl rfl rfl rfl rfl hx21) (sc sn) <| dd <| k14 _ _ <| bn <| tn <| k10 _ _ <| rg fun _ k24 => bd h fun x25 hx25 h => ya (addC rfl rfl hx25) <| mv rfl <| dz k24 <| tn <| kw (k6 ⟨x21, x25⟩ h)
  skip
  refine d0 rfl Tryz.func131 rfl (fun w hb hh => w_gf256_Mul (Mem.snap w) x13 x02 hx17) <| on 2 <| dy rfl (idxC (xs := x15) sty_22 rfl rfl (RdT.slcN (rO 2 rfl) hx15) hx16) <| on 3 <| dy rfl (loadC0 (xs := x15) scal_5 rfl (RdT.slcN (rO 2 rfl) hx15) hx16 rfl) <| du 7 rfl (xor_u8 (a := x16) (b := x17) rfl rfl) <| on 8 <| dy rfl (idxC (xs := x19) sty_22 rfl rfl (RdT.slcN (rO 2 rfl) hx19) hx20) <| on 9 <| WS.eff0 rfl (Eff0.storeS 2 (xs := x3) (lo := x00lo) (hi := x00hi) (a' := x16 ^^^ x17) siz_5 rfl rfl rfl rfl rfl rfl hx21) (sc sn) <| dd <| k14 _ _ <| bn <| tn <| k10 _ _ <| rg fun _ k26 => bd h fun x27 hx27 h => ya (addC rfl rfl hx27) <| mv rfl <| dz k26 <| tn <| kw (k6 ⟨x21, x27⟩ h)
 refine xi <| te <| te <| bx ?_
 obtain rfl := si h
 exact Ret.mut (ResIs.zero rfl) (sc (sc sn)) ⟨rfl, rfl⟩
theorem w_gfmatrix_Matrix_swap (A : Option Addr) (n c : Nat) (x0c : By) (u0 u1 x01 x02 : Int) {res : By} (h : m_gfmatrix_Matrix_swap x0c u0 u1 x01 x02 = some res) :
  Mut Tryz.prog 128 #[.agg ([I64 u0, I64 u1, .slice A n c] : List Value).toArray, I64 x01, I64 x02] 5 (Lay.sz (BitVec 8)) A n c (cel x0c) fun r ds => r = .tuple #[] /\ ds = cel res := by
 refine Mut.intro (N := 35) Tryz.func128 rfl rfl (nle rfl) fun w0 e0 => ?_
 unfold m_gfmatrix_Matrix_swap at h
 refine sr fun _ k1 => bb 102 [I64 u0, I64 u1, .slice A n c] rfl fun g2 => dz k1 <| sd [(1, _), (102, _)] mixed fun _ k3 => ?_
 obtain ⟨x4, hx4, h⟩ := bnd h
 obtain ⟨x5, hx5, h⟩ := bnd h
 obtain ⟨x6, hx6, h⟩ := bnd h
 obtain ⟨x7, hx7, h⟩ := bnd h
 refine du 0 rfl (loadBM (k := 102) agg_124 rfl rfl rfl) <| dm 1 rfl rfl <| du 3 rfl (loadBM (k := 102) agg_124 rfl rfl rfl) <| dm 4 rfl rfl <| on 2 <| d0 rfl Tryz.func106 rfl (fun w hb hh => w_gfmatrix_Matrix_row (Mem.snap w) u0 u1 A n c x01 (SlT.slcB (RdH.sn (rO 2 rfl) w hb hh) hx5) hx4) <| on 5 <| d0 rfl Tryz.func106 rfl (fun w hb hh => w_gfmatrix_Matrix_row (Mem.snap w) u0 u1 A n c x02 (SlT.slcB (RdH.sn (rO 2 rfl) w hb hh) hx7) hx6) <| du 6 rfl (Yld.assign rfl) <| du 7 rfl (Yld.assign rfl) <| dd <| k3 _ _ <| sr fun _ k8 => bd h fun x9 hx9 h => mv rfl <| ya (lenC (xs := x9) und_22 rfl (RdT.slcN (rO 2 rfl) hx9)) <| mv rfl <| dz k8 <| bl <| lp (τ := By × Int) (fun ⟨x10, x11⟩ => [(6, .slice (subA A c (x4.1).toNat (Lay.sz (BitVec 8))) ((x4.2).toNat - (x4.1).toNat) (c - (x4.1).toNat)), (7, .slice (subA A c (x6.1).toNat (Lay.sz (BitVec 8))) ((x6.2).toNat - (x6.1).toNat) (c - (x6.1).toNat)), (16, I64 (x9.length : Int)), (17, I64 x11)]) (fun ⟨x10, x11⟩ => [(1, e0), (2, .own 5 (Lay.sz (BitVec 8)) A n c (cel x10))]) (fun q12 ⟨x10, x11⟩ => m_gfmatrix_Matrix_swap_l0 x4 x6 x9 q12 x10 x11 = some res) ⟨x0c, (0 : Int)⟩ ?_ (by simp [m_gfmatrix_Matrix_swap_l0]) ?_
 ·exact h
 rintro q12 ⟨x10, x11⟩ h _ k13
 unfold m_gfmatrix_Matrix_swap_l0 at h
 refine sr fun _ k14 => ya (lss rfl rfl) <| dz k14 <| sq fun _ k15 => cI h rfl (fun hc16 h => ?_) fun hc16 h => ?_
 ·refine ss <| k15 _ _ <| sq fun _ k17 => bl <| sr fun _ k18 => mv rfl <| ak rfl k18 <| rd [(1, _)] mixed fun _ k19 => ?_
  obtain ⟨x20, hx20, h⟩ := bnd h
  obtain ⟨x21, hx21, h⟩ := bnd h
  obtain ⟨x22, hx22, h⟩ := bnd h
  obtain ⟨x23, hx23, h⟩ := bnd h
  obtain ⟨x24, hx24, h⟩ := bnd h
  obtain ⟨x25, hx25, h⟩ := bnd h
  obtain ⟨x26, hx26, h⟩ := bnd h
  obtain ⟨x27, hx27, h⟩ := bnd h
  obtain ⟨x28, hx28, h⟩ := bnd h
  obtain ⟨x29, hx29, h⟩ := bnd h
  refine dm 0 rfl rfl <| dm 1 rfl rfl <| dm 2 rfl rfl <| dm 3 rfl rfl <| dm 4 rfl rfl <| dm 5 rfl rfl <| dm 8 rfl rfl <| dm 9 rfl rfl <| WD.two 6 10 (by kernel_rfl) ?_ ?_
  ·refine dy rfl (idxC (xs := x20) sty_22 rfl rfl (RdT.slcN (rO 2 rfl) hx20) hx21) <| WD.two 7 10 (by kernel_rfl) ?_ ?_
   ·refine dy rfl (loadC0 (xs := x20) scal_5 rfl (RdT.slcN (rO 2 rfl) hx20) hx21 rfl) <| on 10 <| dy rfl (idxC (xs := x22) sty_22 rfl rfl (RdT.slcN (rO 2 rfl) hx22) hx23) <| on 11 <| dy rfl (loadC0 (xs := x22) scal_5 rfl (RdT.slcN (rO 2 rfl) hx22) hx23 rfl) <| on 12 <| dy rfl (idxC (xs := x24) sty_22 rfl rfl (RdT.slcN (rO 2 rfl) hx24) hx25) <| on 13 <| WS.eff0 rfl (Eff0.storeS 2 (xs := x10) (lo := x4.1) (hi := x4.2) (a' := x21) siz_5 rfl rfl rfl rfl rfl rfl hx26) (sc sn) <| on 14 <| dy rfl (idxC (xs := x27) sty_22 rfl rfl (RdT.slcN (rO 2 rfl) hx27) hx28) <| on 15 <| WS.eff0 rfl (Eff0.storeS 2 (xs := x26) (lo := x6.1) (hi := x6.2) (a' := x23) siz_5 rfl rfl rfl rfl rfl rfl hx29) (sc sn) <| dd <| k19 _ _ <| bn <| tn <| k17 _ _ <| rg fun _ k30 => bd h fun x31 hx31 h => ya (addC rfl rfl hx31) <| mv rfl <| dz k30 <| tn <| kw (k13 ⟨x29, x31⟩ h)
   skip
   refine dy rfl (idxC (xs := x22) sty_22 rfl rfl (RdT.slcN (rO 2 rfl) hx22) hx23) <| WD.two 7 11 (by kernel_rfl) ?_ ?_
   ·refine dy rfl (loadC0 (xs := x20) scal_5 rfl (RdT.slcN (rO 2 rfl) hx20) hx21 rfl) <| on 11 <| dy rfl (loadC0 (xs := x22) scal_5 rfl (RdT.slcN (rO 2 rfl) hx22) hx23 rfl) <| on 12 <| dy rfl (idxC (xs := x24) sty_22 rfl rfl (RdT.slcN (rO 2 rfl) hx24) hx25) <| on 13 <| WS.eff0 rfl (Eff0.storeS 2 (xs := x10) (lo := x4.1) (hi := x4.2) (a' := x21) siz_5 rfl rfl rfl rfl rfl rfl hx26) (sc sn) <| on 14 <| dy rfl (idxC (xs := x27) sty_22 rfl rfl (RdT.slcN (rO 2 rfl) hx27) hx28) <| on 15 <| WS.eff0 rfl (Eff0.storeS 2 (xs := x26) (lo := x6.1) (hi := x6.2) (a' := x23) siz_5 rfl rfl rfl rfl rfl rfl hx29) (sc sn) <| dd <| k19 _ _ <| bn <| tn <| k17 _ _ <| rg fun _ k32 => bd h fun x33 hx33 h => ya (addC rfl rfl hx33) <| mv rfl <| dz k32 <| tn <| kw (k13 ⟨x29, x33⟩ h)
   skip
   refine dy rfl (loadC0 (xs := x22) scal_5 rfl (RdT.slcN (rO 2 rfl) hx22) hx23 rfl) <| on 7 <| dy rfl (loadC0 (xs := x20) scal_5 rfl (RdT.slcN (rO 2 rfl) hx20) hx21 rfl) <| on 12 <| dy rfl (idxC (xs := x24) sty_22 rfl rfl (RdT.slcN (rO 2 rfl) hx24) hx25) <| on 13 <| WS.eff0 rfl (Eff0.storeS 2 (xs := x10) (lo := x4.1) (hi := x4.2) (a' := x21) siz_5 rfl rfl rfl rfl rfl rfl hx26) (sc sn) <| on 14 <| dy rfl (idxC (xs := x27) sty_22 rfl rfl (RdT.slcN (rO 2 rfl) hx27) hx28) <| on 15 <| WS.eff0 rfl (Eff0.storeS 2 (xs := x26) (lo := x6.1) (hi := x6.2) (a' := x23) siz_5 rfl rfl rfl rfl rfl rfl hx29) (sc sn) <| dd <| k19 _ _ <| bn <| tn <| k17 _ _ <| rg fun _ k34 => bd h fun x35 hx35 h => ya (addC rfl rfl hx35) <| mv rfl <| dz k34 <| tn <| kw (k13 ⟨x29, x35⟩ h)
  skip
  refine dy rfl (idxC (xs := x22) sty_22 rfl rfl (RdT.slcN (rO 2 rfl) hx22) hx23) <| WD.two 6 11 (by kernel_rfl) ?_ ?_
  ·refine dy rfl (idxC (xs := x20) sty_22 rfl rfl (RdT.slcN (rO 2 rfl) hx20) hx21) <| WD.two 7 11 (by kernel_rfl) ?_ ?_
   ·refine dy rfl (loadC0 (xs := x20) scal_5 rfl (RdT.slcN (rO 2 rfl) hx20) hx21 rfl) <| on 11 <| dy rfl (loadC0 (xs := x22) scal_5 rfl (RdT.slcN (rO 2 rfl) hx22) hx23 rfl) <| on 12 <| dy rfl (idxC (xs := x24) sty_22 rfl rfl (RdT.slcN (rO 2 rfl) hx24) hx25) <| on 13 <| WS.eff0 rfl (Eff0.storeS 2 (xs := x10) (lo := x4.1) (hi := x4.2) (a' := x21) siz_5 rfl rfl rfl rfl rfl rfl hx26) (sc sn) <| on 14 <| dy rfl (idxC (xs := x27) sty_22 rfl rfl (RdT.slcN (rO 2 rfl) hx27) hx28) <| on 15 <| WS.eff0 rfl (Eff0.storeS 2 (xs := x26) (lo := x6.1) (hi := x6.2) (a' := x23) siz_5 rfl rfl rfl rfl rfl rfl hx29) (sc sn) <| dd <| k19 _ _ <| bn <| tn <| k17 _ _ <| rg fun _ k36 => bd h fun x37 hx37 h => ya (addC rfl rfl hx37) <| mv rfl <| dz k36 <| tn <| kw (k13 ⟨x29, x37⟩ h)
   skip
   refine dy rfl (loadC0 (xs := x22) scal_5 rfl (RdT.slcN (rO 2 rfl) hx22) hx23 rfl) <| on 7 <| dy rfl (loadC0 (xs := x20) scal_5 rfl (RdT.slcN (rO 2 rfl) hx20) hx21 rfl) <| on 12 <| dy rfl (idxC (xs := x24) sty_22 rfl rfl (RdT.slcN (rO 2 rfl) hx24) hx25) <| on 13 <| WS.eff0 rfl (Eff0.storeS 2 (xs := x10) (lo := x4.1) (hi := x4.2) (a' := x21) siz_5 rfl rfl rfl rfl rfl rfl hx26) (sc sn) <| on 14 <| dy rfl (idxC (xs := x27) sty_22 rfl rfl (RdT.slcN (rO 2 rfl) hx27) hx28) <| on 15 <| WS.eff0 rfl (Eff0.storeS 2 (xs := x26) (lo := x6.1) (hi := x6.2) (a' := x23) siz_5 rfl rfl rfl rfl rfl rfl hx29) (sc sn) <| dd <| k19 _ _ <| bn <| tn <| k17 _ _ <| rg fun _ k38 => bd h fun x39 hx39 h => ya (addC rfl rfl hx39) <| mv rfl <| dz k38 <| tn <| kw (k13 ⟨x29, x39⟩ h)
  skip
  refine dy rfl (loadC0 (xs := x22) scal_5 rfl (RdT.slcN (rO 2 rfl) hx22) hx23 rfl) <| on 6 <| dy rfl (idxC (xs := x20) sty_22 rfl rfl (RdT.slcN (rO 2 rfl) hx20) hx21) <| on 7 <| dy rfl (loadC0 (xs := x20) scal_5 rfl (RdT.slcN (rO 2 rfl) hx20) hx21 rfl) <| on 12 <| dy rfl (idxC (xs := x24) sty_22 rfl rfl (RdT.slcN (rO 2 rfl) hx24) hx25) <| on 13 <| WS.eff0 rfl (Eff0.storeS 2 (xs := x10) (lo := x4.1) (hi := x4.2) (a' := x21) siz_5 rfl rfl rfl rfl rfl rfl hx26) (sc sn) <| on 14 <| dy rfl (idxC (xs := x27) sty_22 rfl rfl (RdT.slcN (rO 2 rfl) hx27) hx28) <| on 15 <| WS.eff0 rfl (Eff0.storeS 2 (xs := x26) (lo := x6.1) (hi := x6.2) (a' := x23) siz_5 rfl rfl rfl rfl rfl rfl hx29) (sc sn) <| dd <| k19 _ _ <| bn <| tn <| k17 _ _ <| rg fun _ k40 => bd h fun x41 hx41 h => ya (addC rfl rfl hx41) <| mv rfl <| dz k40 <| tn <| kw (k13 ⟨x29, x41⟩ h)
 refine xi <| te <| te <| bx ?_
 obtain rfl := si h
 exact Ret.mut (ResIs.zero rfl) (sc (sc sn)) ⟨rfl, rfl⟩
theorem w_slices_Clone_byte_byte (M0 : Mem) (A00 : Option Addr) (n00 c00 : Nat) (x00 : By) (hf00 : SlT M0 A00 n00 c00 x00) {res : By} (h : m_slices_Clone_byte_byte x00 = some res) :
  Fn Tryz.prog 125 #[.slice A00 n00 c00] M0 fun r M' es => ∃ (A1 : Option Addr) (n1 c1 : Nat), r = .slice A1 n1 c1 /\ es = [.own 5 (Lay.sz (BitVec 8)) A1 n1 c1 (cel res)] := by
 refine Fn.intro (N := 8) Tryz.func125 rfl rfl (nle rfl) fun w0 => ?_
 unfold m_slices_Clone_byte_byte at h
 refine sr fun _ k1 => ak rfl k1 <| sq fun _ k2 => sr fun _ k3 => mv rfl <| ya (eqlNil und_22 rfl rfl) <| dn <| k3 _ _ ?_
 by_cases hA4 : A00 = none
 ·have hz := nil_of hf00 hA4
  subst hz
  replace h : some ([] : By) = some res := h
  refine WC.condTe rfl (by rw [hA4]; rfl) <| sr fun _ k5 => ak rfl k5 <| re <| tr <| QK.nilOwn 106 5 (Lay.sz (BitVec 8)) none ?_
  obtain rfl := si h
  exact rt [106] (ResIs.one rfl rfl) (Ext.refl _ _) ⟨none, 0, 0, rfl, rfl⟩
 skip
 refine WC.condFe rfl (isNone_ne hA4) <| ss <| k2 _ _ <| sr fun _ k7 => bd h fun x9 hx9 h => WL.eff (by decide) (Eff.buildC 108 ([] : By) sty_22 rfl rfl rfl rfl rfl (by decide)) ?_
 rintro _ _ ⟨g8, rfl, rfl⟩
 refine mv rfl <| ap 108 (xs := ([] : By)) (ys := x00) sty_22 rfl rfl rfl (mM rfl hf00) hx9 fun A10 c11 => ak rfl k7 <| re ?_
 obtain rfl := si h
 exact rt [108] (ResIs.one rfl rfl) (Ext.refl _ _) ⟨A10, x9.length, c11, rfl, rfl⟩
theorem w_gfmatrix_Invert (M0 : Mem) (u0 u1 : Int) (A00_2 : Option Addr) (n00_2 c00_2 : Nat) (u2 : By) (hf00_2 : SlT M0 A00_2 n00_2 c00_2 u2) {res : Int × Int × By × Int} (h : m_gfmatrix_Invert u0 u1 u2 = some res) :
  Fn Tryz.prog 108 #[.agg ([I64 u0, I64 u1, .slice A00_2 n00_2 c00_2] : List Value).toArray] M0 fun r M' es => ∃ (A1 : Option Addr) (n1 c1 : Nat), r = .tuple #[.agg ([I64 res.1, I64 res.2.1, .slice A1 n1 c1] : List Value).toArray, I64 res.2.2.2] /\ es = [.own 5 (Lay.sz (BitVec 8)) A1 n1 c1 (cel res.2.2.1)] := by
 refine Fn.intro (N := 104) Tryz.func108 rfl rfl (nle rfl) fun w0 => ?_
 unfold m_gfmatrix_Invert at h
 refine sr fun _ k1 => bb 102 [I64 u0, I64 u1, .slice A00_2 n00_2 c00_2] rfl fun g2 => al 103 zr_124 fun g3 => ak rfl k1 <| WC.scope <| ct (σ := Unit) (fun _ => [(1, pv g2), (2, pv g3)]) (fun _ => [(0, .mem M0), (102, .blk g2 124 [I64 u0, I64 u1, .slice A00_2 n00_2 c00_2]), (103, .blk g3 124 [I64 (0 : Int), I64 (0 : Int), .slice none 0 0])]) (fun _ => m_gfmatrix_Invert_j0 u0 u1 u2 = some res) (fun _ k4 => ?_) ?_
 ·refine sr fun _ k5 => bd h fun x6 hx6 h => ya (loadBM (k := 102) agg_124 rfl rfl rfl) <| c0 Tryz.func104 rfl (fun w hb hh => w_gfmatrix_Valid (Mem.snap w) u0 u1 A00_2 n00_2 c00_2 _ (sM rfl hf00_2 w hb hh) hx6) <| ya (notB rfl) <| mv rfl <| spn h not_f (fun q => not_t (Bool.eq_false_iff.2 q)) (fun hc8 h => ?_) fun hc8 h => ?_
  ·refine yg (fieldAddr Tryz.underlying124 rfl nz_3 rfl rfl) <| yg (loadB (k := 102) scal_3 rfl rfl rfl) <| yg (fieldAddr Tryz.underlying124 rfl nz_3 rfl rfl) <| yg (loadB (k := 102) scal_3 rfl rfl rfl) <| yg (neqI rfl rfl) <| pf rfl rfl <| dz k5 <| cnn h rfl bne_eq_false_iff_eq.2 bne_iff_ne.2 (fun hc9 h => ?_) fun hc9 h => ?_
   ·exact WC.skip <| tn <| kw (k4 () h)
   refine sr fun _ k10 => ya (build rfl (bu_124_)) <| sb 103 agg_124 rfl rfl rfl <| ak rfl k10 <| re <| tr <| QK.scopeR <| QK.nilOwn 111 5 (Lay.sz (BitVec 8)) none ?_
   obtain rfl := si h
   exact rt [111] (ResIs.cellTmpM (k := 103) rfl agg_124 rfl rfl rfl rfl) (Ext.refl _ _) ⟨none, 0, 0, rfl, rfl⟩
  refine sk <| sk <| sk <| sk <| sk <| pt rfl rfl <| dz k5 <| cdT rfl <| sr fun _ k12 => ya (build rfl (bu_124_)) <| sb 103 agg_124 rfl rfl rfl <| ak rfl k12 <| re <| tr <| QK.scopeR <| QK.nilOwn 113 5 (Lay.sz (BitVec 8)) none ?_
  obtain rfl := si h
  exact rt [113] (ResIs.cellTmpM (k := 103) rfl agg_124 rfl rfl rfl rfl) (Ext.refl _ _) ⟨none, 0, 0, rfl, rfl⟩
 rintro _ h
 unfold m_gfmatrix_Invert_j0 at h
 refine sr fun _ k14 => ya (fieldAddr Tryz.underlying124 rfl nz_3 rfl rfl) <| ya (loadB (k := 102) scal_3 rfl rfl rfl) <| ak rfl k14 <| sr fun _ k15 => bd h fun x16 hx16 h => ya (fieldAddr Tryz.underlying124 rfl nz_22 rfl rfl) <| ya (loadB (k := 102) scal_22 rfl rfl rfl) <| c1 120 Tryz.func125 rfl (fun w hb hh => w_slices_Clone_byte_byte (Mem.snap w) A00_2 n00_2 c00_2 _ (sM rfl hf00_2 w hb hh) hx16) fun A21 n22 c23 => ya (fieldAddr Tryz.underlying124 rfl nz_22 rfl rfl) <| WL.eff0 (Eff0.storeB 102 siz_22 rfl rfl rfl rfl (nle rfl)) <| dz k15 <| sr fun _ k24 => bd h fun x25 hx25 h => mv rfl <| c1 129 Tryz.func126 rfl (fun w hb hh => w_gfmatrix_Identity (Mem.snap w) u0 hx25) fun A30 n31 c32 => mv rfl <| ya (extract rfl rfl) <| ya (extract rfl rfl) <| al 133 zr_124 fun g33 => sb 133 agg_124 rfl rfl rfl <| ak rfl k24 <| sq fun _ k34 => WC.label <| tn <| k34 _ _ <| ct (σ := By) (fun x35 => [(2, pv g3), (5, pv g33)]) (fun x35 => [(0, .mem M0), (103, .blk g3 124 [I64 (0 : Int), I64 (0 : Int), .slice none 0 0]), (129, .own 5 (Lay.sz (BitVec 8)) A30 n31 c32 (cel x35)), (133, .blk g33 124 [I64 x25.1, I64 x25.2.1, .slice A30 n31 c32])]) (fun x35 => m_gfmatrix_Invert_j1 x25 x35 = some res) (fun _ k36 => ?_) ?_
 ·refine sr fun _ k37 => mv rfl <| mv rfl <| dz k37 <| bl <| lp (τ := By × By × Int) (fun ⟨x38, x39, x40⟩ => [(1, pv g2), (2, pv g3), (4, I64 u0), (5, pv g33), (35, I64 u0), (36, I64 x40)]) (fun ⟨x38, x39, x40⟩ => [(0, .mem M0), (102, .blk g2 124 [I64 u0, I64 u1, .slice A21 n22 c23]), (103, .blk g3 124 [I64 (0 : Int), I64 (0 : Int), .slice none 0 0]), (120, .own 5 (Lay.sz (BitVec 8)) A21 n22 c23 (cel x38)), (129, .own 5 (Lay.sz (BitVec 8)) A30 n31 c32 (cel x39)), (133, .blk g33 124 [I64 x25.1, I64 x25.2.1, .slice A30 n31 c32])]) (fun q41 ⟨x38, x39, x40⟩ => m_gfmatrix_Invert_l2 u0 u1 x25 q41 x38 x39 x40 = some res) ⟨x16, x25.2.2.1, (0 : Int)⟩ ?_ (by simp [m_gfmatrix_Invert_l2]) ?_
  ·exact h
  rintro q41 ⟨x38, x39, x40⟩ h _ k42
  unfold m_gfmatrix_Invert_l2 at h
  refine sr fun _ k43 => ya (lss rfl rfl) <| dz k43 <| sq fun _ k44 => cI h rfl (fun hc45 h => ?_) fun hc45 h => ?_
  ·refine ss <| k44 _ _ <| ct (σ := By × By) (fun ⟨x46, x47⟩ => [(1, pv g2), (2, pv g3), (4, I64 u0), (5, pv g33), (35, I64 u0), (36, I64 x40)]) (fun ⟨x46, x47⟩ => [(0, .mem M0), (102, .blk g2 124 [I64 u0, I64 u1, .slice A21 n22 c23]), (103, .blk g3 124 [I64 (0 : Int), I64 (0 : Int), .slice none 0 0]), (120, .own 5 (Lay.sz (BitVec 8)) A21 n22 c23 (cel x46)), (129, .own 5 (Lay.sz (BitVec 8)) A30 n31 c32 (cel x47)), (133, .blk g33 124 [I64 x25.1, I64 x25.2.1, .slice A30 n31 c32])]) (fun ⟨x46, x47⟩ => m_gfmatrix_Invert_j3 x40 (m_gfmatrix_Invert_l2 u0 u1 x25 q41) x46 x47 = some res) (fun _ k48 => ?_) ?_
   ·refine bl <| sr fun _ k49 => mv rfl <| ak rfl k49 <| ct (σ := Unit) (fun _ => [(2, pv g3)]) (fun _ => [(0, .mem M0), (103, .blk g3 124 [I64 (0 : Int), I64 (0 : Int), .slice none 0 0])]) (fun _ => m_gfmatrix_Invert_j4 = some res) (fun _ k50 => ?_) ?_
    ·refine sr fun _ k51 => mv rfl <| ak rfl k51 <| bl <| lp (τ := Int) (fun x52 => [(1, pv g2), (2, pv g3), (4, I64 u0), (5, pv g33), (7, I64 x40), (8, I64 x52), (35, I64 u0), (36, I64 x40)]) (fun x52 => [(0, .mem M0), (102, .blk g2 124 [I64 u0, I64 u1, .slice A21 n22 c23]), (103, .blk g3 124 [I64 (0 : Int), I64 (0 : Int), .slice none 0 0]), (120, .own 5 (Lay.sz (BitVec 8)) A21 n22 c23 (cel x38)), (129, .own 5 (Lay.sz (BitVec 8)) A30 n31 c32 (cel x39)), (133, .blk g33 124 [I64 x25.1, I64 x25.2.1, .slice A30 n31 c32])]) (fun q53 x52 => m_gfmatrix_Invert_l5 u0 u1 x25 x38 x39 x40 (m_gfmatrix_Invert_l2 u0 u1 x25 q41) q53 x52 = some res) (x40) ?_ (by simp [m_gfmatrix_Invert_l5]) ?_
     ·exact h
     rintro q53 x52 h _ k54
     unfold m_gfmatrix_Invert_l5 at h
     refine sq fun _ k55 => sr fun _ k56 => mv rfl <| mv rfl <| ya (lss rfl rfl) <| dz k56 <| cI h rfl (fun hc57 h => ?_) fun hc57 h => ?_
     ·refine ss <| k55 _ _ <| ct (σ := Unit) (fun _ => [(1, pv g2), (2, pv g3), (4, I64 u0), (5, pv g33), (7, I64 x40), (8, I64 x52), (35, I64 u0), (36, I64 x40)]) (fun _ => [(0, .mem M0), (102, .blk g2 124 [I64 u0, I64 u1, .slice A21 n22 c23]), (103, .blk g3 124 [I64 (0 : Int), I64 (0 : Int), .slice none 0 0]), (120, .own 5 (Lay.sz (BitVec 8)) A21 n22 c23 (cel x38)), (129, .own 5 (Lay.sz (BitVec 8)) A30 n31 c32 (cel x39)), (133, .blk g33 124 [I64 x25.1, I64 x25.2.1, .slice A30 n31 c32])]) (fun _ => m_gfmatrix_Invert_j6 x52 (m_gfmatrix_Invert_l5 u0 u1 x25 x38 x39 x40 (m_gfmatrix_Invert_l2 u0 u1 x25 q41) q53) = some res) (fun _ k58 => ?_) ?_
      ·refine bl <| sr fun _ k59 => ?_
       obtain ⟨x60, hx60, h⟩ := bnd h
       obtain ⟨x62, hx62, h⟩ := bnd h
       refine ya (loadBM (k := 102) agg_124 rfl rfl rfl) <| mv rfl <| mv rfl <| c0 Tryz.func111 rfl (fun w hb hh => w_gfmatrix_Matrix_at (Mem.snap w) u0 u1 A21 n22 c23 _ (RdH.sn (rO 120 rfl) w hb hh) x52 x40 hx60) <| c0 Tryz.func127 rfl (fun w hb hh => w_gf256_Inv (Mem.snap w) x60 hx62) <| mv rfl <| ya (extract rfl rfl) <| ya (extract rfl rfl) <| asn rfl <| ak rfl k59 <| sq fun _ k64 => sr fun _ k65 => mv rfl <| ya (neqI rfl rfl) <| dz k65 <| cnn h rfl bne_eq_false_iff_eq.2 bne_iff_ne.2 (fun hc66 h => ?_) fun hc66 h => ?_
       ·refine ss <| k64 _ _ <| sr fun _ k67 => bd h fun x68 hx68 h => ya (loadBM (k := 102) agg_124 rfl rfl rfl) <| mv rfl <| mv rfl <| WL.eff (by decide) (Eff.callMut 120 rfl Tryz.func128 nm_128 rfl rfl rfl (w_gfmatrix_Matrix_swap A21 n22 c23 x38 u0 u1 x52 x40 hx68)) ?_
        rintro _ _ ⟨_, ⟨rfl, rfl⟩, rfl⟩
        refine dz k67 <| sr fun _ k69 => bd h fun x70 hx70 h => ya (loadBM (k := 133) agg_124 rfl rfl rfl) <| mv rfl <| mv rfl <| WL.eff (by decide) (Eff.callMut 129 rfl Tryz.func128 nm_128 rfl rfl rfl (w_gfmatrix_Matrix_swap A30 n31 c32 x39 x25.1 x25.2.1 x52 x40 hx70)) ?_
        rintro _ _ ⟨_, ⟨rfl, rfl⟩, rfl⟩
        refine dz k69 <| sr fun _ k71 => ?_
        obtain ⟨x72, hx72, h⟩ := bnd h
        obtain ⟨x73, hx73, h⟩ := bnd h
        obtain ⟨x74, hx74, h⟩ := bnd h
        refine ya (loadBM (k := 102) agg_124 rfl rfl rfl) <| mv rfl <| c0 Tryz.func106 rfl (fun w hb hh => w_gfmatrix_Matrix_row (Mem.snap w) u0 u1 A21 n22 c23 x40 (SlT.slcB (RdH.sn (rO 120 rfl) w hb hh) hx73) hx72) <| mv rfl <| WL.eff (by decide) (Eff.callMut 120 rfl Tryz.func129 nm_129 rfl rfl rfl (w_gfmatrix_scale A21 n22 c23 x68 x72.1 x72.2 x62.1 hx74)) ?_
        rintro _ _ ⟨_, ⟨rfl, rfl⟩, rfl⟩
        refine dz k71 <| sr fun _ k75 => ?_
        obtain ⟨x76, hx76, h⟩ := bnd h
        obtain ⟨x77, hx77, h⟩ := bnd h
        obtain ⟨x78, hx78, h⟩ := bnd h
        refine ya (loadBM (k := 133) agg_124 rfl rfl rfl) <| mv rfl <| c0 Tryz.func106 rfl (fun w hb hh => w_gfmatrix_Matrix_row (Mem.snap w) x25.1 x25.2.1 A30 n31 c32 x40 (SlT.slcB (RdH.sn (rO 129 rfl) w hb hh) hx77) hx76) <| mv rfl <| WL.eff (by decide) (Eff.callMut 129 rfl Tryz.func129 nm_129 rfl rfl rfl (w_gfmatrix_scale A30 n31 c32 x70 x76.1 x76.2 x62.1 hx78)) ?_
        rintro _ _ ⟨_, ⟨rfl, rfl⟩, rfl⟩
        refine dz k75 <| ct (σ := By × By) (fun ⟨x79, x80⟩ => [(1, pv g2), (2, pv g3), (4, I64 u0), (5, pv g33), (35, I64 u0), (36, I64 x40)]) (fun ⟨x79, x80⟩ => [(0, .mem M0), (102, .blk g2 124 [I64 u0, I64 u1, .slice A21 n22 c23]), (103, .blk g3 124 [I64 (0 : Int), I64 (0 : Int), .slice none 0 0]), (120, .own 5 (Lay.sz (BitVec 8)) A21 n22 c23 (cel x79)), (129, .own 5 (Lay.sz (BitVec 8)) A30 n31 c32 (cel x80)), (133, .blk g33 124 [I64 x25.1, I64 x25.2.1, .slice A30 n31 c32])]) (fun ⟨x79, x80⟩ => m_gfmatrix_Invert_j7 x40 (m_gfmatrix_Invert_l2 u0 u1 x25 q41) x79 x80 = some res) (fun _ k81 => ?_) ?_
        ·refine sr fun _ k82 => mv rfl <| mv rfl <| dz k82 <| bl <| lp (τ := By × By × Int) (fun ⟨x83, x84, x85⟩ => [(1, pv g2), (2, pv g3), (4, I64 u0), (5, pv g33), (7, I64 x40), (35, I64 u0), (36, I64 x40), (73, I64 u0), (74, I64 x85)]) (fun ⟨x83, x84, x85⟩ => [(0, .mem M0), (102, .blk g2 124 [I64 u0, I64 u1, .slice A21 n22 c23]), (103, .blk g3 124 [I64 (0 : Int), I64 (0 : Int), .slice none 0 0]), (120, .own 5 (Lay.sz (BitVec 8)) A21 n22 c23 (cel x83)), (129, .own 5 (Lay.sz (BitVec 8)) A30 n31 c32 (cel x84)), (133, .blk g33 124 [I64 x25.1, I64 x25.2.1, .slice A30 n31 c32])]) (fun q86 ⟨x83, x84, x85⟩ => m_gfmatrix_Invert_l8 u0 u1 x25 x40 (m_gfmatrix_Invert_l2 u0 u1 x25 q41) q86 x83 x84 x85 = some res) ⟨x74, x78, (0 : Int)⟩ ?_ (by simp [m_gfmatrix_Invert_l8]) ?_
         ·exact h
         rintro q86 ⟨x83, x84, x85⟩ h _ k87
         unfold m_gfmatrix_Invert_l8 at h
         refine sr fun _ k88 => ya (lss rfl rfl) <| dz k88 <| sq fun _ k89 => cI h rfl (fun hc90 h => ?_) fun hc90 h => ?_
         ·refine ss <| k89 _ _ <| sq fun _ k91 => bl <| sr fun _ k92 => mv rfl <| ak rfl k92 <| sr fun _ k93 => bd h fun x94 hx94 h => ya (loadBM (k := 102) agg_124 rfl rfl rfl) <| mv rfl <| mv rfl <| c0 Tryz.func111 rfl (fun w hb hh => w_gfmatrix_Matrix_at (Mem.snap w) u0 u1 A21 n22 c23 _ (RdH.sn (rO 120 rfl) w hb hh) x85 x40 hx94) <| ak rfl k93 <| sr fun _ k96 => mv rfl <| mv rfl <| ya (neqI rfl rfl) <| dz k96 <| cnn h rfl bne_eq_false_iff_eq.2 bne_iff_ne.2 (fun hc97 h => ?_) fun hc97 h => ?_
          ·refine WC.skip <| bn <| tn <| k91 _ _ <| rg fun _ k98 => bd h fun x99 hx99 h => ya (addC rfl rfl hx99) <| mv rfl <| dz k98 <| tn <| kw (k87 ⟨x83, x84, x99⟩ h)
          refine sd [(102, _), (103, _), (129, _), (133, _)] mixed fun _ k100 => ?_
          obtain ⟨x101, hx101, h⟩ := bnd h
          obtain ⟨x102, hx102, h⟩ := bnd h
          obtain ⟨x103, hx103, h⟩ := bnd h
          obtain ⟨x104, hx104, h⟩ := bnd h
          obtain ⟨x105, hx105, h⟩ := bnd h
          refine du 0 rfl (loadBM (k := 102) agg_124 rfl rfl rfl) <| dm 1 rfl rfl <| du 3 rfl (loadBM (k := 102) agg_124 rfl rfl rfl) <| dm 4 rfl rfl <| dm 6 rfl rfl <| on 2 <| d0 rfl Tryz.func106 rfl (fun w hb hh => w_gfmatrix_Matrix_row (Mem.snap w) u0 u1 A21 n22 c23 x85 (SlT.slcB (RdH.sn (rO 120 rfl) w hb hh) hx102) hx101) <| on 5 <| d0 rfl Tryz.func106 rfl (fun w hb hh => w_gfmatrix_Matrix_row (Mem.snap w) u0 u1 A21 n22 c23 x40 (SlT.slcB (RdH.sn (rO 120 rfl) w hb hh) hx104) hx103) <| on 7 <| WS.eff rfl (by decide) (Eff.callMut 120 rfl Tryz.func130 nm_130 rfl rfl rfl (w_gfmatrix_add A21 n22 c23 x83 x101.1 x101.2 x103.1 x103.2 x94 hx105)) ?_
          rintro _ _ ⟨_, ⟨rfl, rfl⟩, rfl⟩
          refine aq ?_
          refine dd <| k100 _ _ <| rd [(102, _), (103, _), (120, _), (133, _)] mixed fun _ k106 => ?_
          obtain ⟨x107, hx107, h⟩ := bnd h
          obtain ⟨x108, hx108, h⟩ := bnd h
          obtain ⟨x109, hx109, h⟩ := bnd h
          obtain ⟨x110, hx110, h⟩ := bnd h
          obtain ⟨x111, hx111, h⟩ := bnd h
          refine du 0 rfl (loadBM (k := 133) agg_124 rfl rfl rfl) <| dm 1 rfl rfl <| du 3 rfl (loadBM (k := 133) agg_124 rfl rfl rfl) <| dm 4 rfl rfl <| dm 6 rfl rfl <| on 2 <| d0 rfl Tryz.func106 rfl (fun w hb hh => w_gfmatrix_Matrix_row (Mem.snap w) x25.1 x25.2.1 A30 n31 c32 x85 (SlT.slcB (RdH.sn (rO 129 rfl) w hb hh) hx108) hx107) <| on 5 <| d0 rfl Tryz.func106 rfl (fun w hb hh => w_gfmatrix_Matrix_row (Mem.snap w) x25.1 x25.2.1 A30 n31 c32 x40 (SlT.slcB (RdH.sn (rO 129 rfl) w hb hh) hx110) hx109) <| on 7 <| WS.eff rfl (by decide) (Eff.callMut 129 rfl Tryz.func130 nm_130 rfl rfl rfl (w_gfmatrix_add A30 n31 c32 x84 x107.1 x107.2 x109.1 x109.2 x94 hx111)) ?_
          rintro _ _ ⟨_, ⟨rfl, rfl⟩, rfl⟩
          refine aq ?_
          refine dd <| k106 _ _ <| bn <| tn <| k91 _ _ <| rg fun _ k112 => bd h fun x113 hx113 h => ya (addC rfl rfl hx113) <| mv rfl <| dz k112 <| tn <| kw (k87 ⟨x105, x111, x113⟩ h)
         exact xi <| te <| te <| bx <| tn <| kw (k81 ⟨x83, x84⟩ h)
        rintro ⟨x79, x80⟩ h
        unfold m_gfmatrix_Invert_j7 at h
        exact xi <| bo <| te <| te <| bo <| te <| bx <| tn <| kw (k48 ⟨x79, x80⟩ h)
       exact xi <| te <| bx <| tn <| kw (k58 () h)
      rintro _ h
      unfold m_gfmatrix_Invert_j6 at h
      refine rg fun _ k114 => bd h fun x115 hx115 h => mv rfl <| ya (addC rfl rfl hx115) <| ak rfl k114 <| tn <| kw (k54 (x115) h)
     exact xi <| te <| te <| bx <| tn <| kw (k50 () h)
    rintro _ h
    unfold m_gfmatrix_Invert_j4 at h
    refine sr fun _ k116 => ya (build rfl (bu_124_)) <| sb 103 agg_124 rfl rfl rfl <| ak rfl k116 <| re <| br <| tr <| tr <| br <| tr <| QK.scopeR <| QK.nilOwn 217 5 (Lay.sz (BitVec 8)) none ?_
    obtain rfl := si h
    exact rt [217] (ResIs.cellTmpM (k := 103) rfl agg_124 rfl rfl rfl rfl) (Ext.refl _ _) ⟨none, 0, 0, rfl, rfl⟩
   rintro ⟨x46, x47⟩ h
   unfold m_gfmatrix_Invert_j3 at h
   refine rg fun _ k118 => bd h fun x119 hx119 h => ya (addC rfl rfl hx119) <| mv rfl <| dz k118 <| tn <| kw (k42 ⟨x46, x47, x119⟩ h)
  exact xi <| te <| te <| bx <| tn <| kw (k36 x39 h)
 rintro x35 h
 unfold m_gfmatrix_Invert_j1 at h
 refine sr fun _ k120 => ya (loadBM (k := 133) agg_124 rfl rfl rfl) <| sb 103 agg_124 rfl rfl rfl <| ak rfl k120 <| re <| QK.scopeR ?_
 obtain rfl := si h
 exact rt [129] (ResIs.cellTmpM (k := 103) rfl agg_124 rfl rfl rfl rfl) (Ext.refl _ _) ⟨A30, n31, c32, rfl, rfl⟩
theorem w_gfmatrix_Apply (M0 : Mem) (u0 u1 : Int) (A00_2 : Option Addr) (n00_2 c00_2 : Nat) (u2 : By) (hf00_2 : SlT M0 A00_2 n00_2 c00_2 u2) (A01 : Option Addr) (n01 c01 : Nat) (rs01 : List Hdr) (x01 : List By) (hf01 : SlT M0 A01 n01 c01 rs01) (hq01 : Rels ((RelB (α := BitVec 8)) M0) rs01 x01) {res : (List By) × Int} (h : m_gfmatrix_Apply u0 u1 u2 x01 = some res) :
  Fn Tryz.prog 79 #[.agg ([I64 u0, I64 u1, .slice A00_2 n00_2 c00_2] : List Value).toArray, .slice A01 n01 c01] M0 fun r M' es => ∃ (A1 : Option Addr) (n1 c1 : Nat), ∃ rs1 : List Hdr, r = .tuple #[.slice A1 n1 c1, I64 res.2] /\ es = [.own 22 (Lay.sz Hdr) A1 n1 c1 (cel rs1)] /\ Rels ((RelB (α := BitVec 8)) M') rs1 res.1 := by
 refine Fn.intro (N := 78) Tryz.func79 rfl rfl (nle rfl) fun w0 => ?_
 unfold m_gfmatrix_Apply at h
 refine sr fun _ k1 => bb 102 [I64 u0, I64 u1, .slice A00_2 n00_2 c00_2] rfl fun g2 => asn rfl <| ak rfl k1 <| ct (σ := Unit) (fun _ => [(1, .slice A01 n01 c01), (2, pv g2)]) (fun _ => [(0, .mem M0), (102, .blk g2 124 [I64 u0, I64 u1, .slice A00_2 n00_2 c00_2])]) (fun _ => m_gfmatrix_Apply_j0 u0 u1 u2 x01 = some res) (fun _ k3 => ?_) ?_
 ·refine sr fun _ k4 => bd h fun x5 hx5 h => ya (loadBM (k := 102) agg_124 rfl rfl rfl) <| c0 Tryz.func104 rfl (fun w hb hh => w_gfmatrix_Valid (Mem.snap w) u0 u1 A00_2 n00_2 c00_2 _ (sM rfl hf00_2 w hb hh) hx5) <| ya (notB rfl) <| mv rfl <| spn h not_f (fun q => not_t (Bool.eq_false_iff.2 q)) (fun hc7 h => ?_) fun hc7 h => ?_
  ·refine mvg rfl <| yg (lenD (rs := rs01) (xs := x01) (Rels.len hq01) und_30 rfl (mM rfl hf01)) <| yg (fieldAddr Tryz.underlying124 rfl nz_3 rfl rfl) <| yg (loadB (k := 102) scal_3 rfl rfl rfl) <| yg (neqI rfl rfl) <| pf rfl rfl <| dz k4 <| cnn h rfl bne_eq_false_iff_eq.2 bne_iff_ne.2 (fun hc8 h => ?_) fun hc8 h => ?_
   ·exact WC.skip <| tn <| kw (k3 () h)
   refine sr fun _ k9 => asn rfl <| ak rfl k9 <| re <| tr <| QK.nilOwn 110 22 (Lay.sz Hdr) none ?_
   obtain rfl := si h
   exact rt [110] (ResIs.two rfl rfl rfl) (Ext.refl _ _) ⟨none, 0, 0, ([] : List Hdr), rfl, rfl, (Rels.nil (R := (RelB (α := BitVec 8)) M0))⟩
  refine sk <| sk <| sk <| sk <| sk <| pt rfl rfl <| dz k4 <| cdT rfl <| sr fun _ k11 => asn rfl <| ak rfl k11 <| re <| tr <| QK.nilOwn 112 22 (Lay.sz Hdr) none ?_
  obtain rfl := si h
  exact rt [112] (ResIs.two rfl rfl rfl) (Ext.refl _ _) ⟨none, 0, 0, ([] : List Hdr), rfl, rfl, (Rels.nil (R := (RelB (α := BitVec 8)) M0))⟩
 rintro _ h
 unfold m_gfmatrix_Apply_j0 at h
 refine ct (σ := Unit) (fun _ => [(1, .slice A01 n01 c01), (2, pv g2)]) (fun _ => [(0, .mem M0), (102, .blk g2 124 [I64 u0, I64 u1, .slice A00_2 n00_2 c00_2])]) (fun _ => m_gfmatrix_Apply_j1 u0 u1 u2 x01 = some res) (fun _ k13 => ?_) ?_
 ·refine sr fun _ k14 => mv rfl <| ya (lenD (rs := rs01) (xs := x01) (Rels.len hq01) und_30 rfl (mM rfl hf01)) <| mv rfl <| dz k14 <| bl <| lp (τ := Int) (fun x15 => [(1, .slice A01 n01 c01), (2, pv g2), (22, .slice A01 n01 c01), (23, I64 (x01.length : Int)), (24, I64 x15)]) (fun x15 => [(0, .mem M0), (102, .blk g2 124 [I64 u0, I64 u1, .slice A00_2 n00_2 c00_2])]) (fun q16 x15 => m_gfmatrix_Apply_l2 u0 u1 u2 x01 q16 x15 = some res) ((0 : Int)) ?_ (by simp [m_gfmatrix_Apply_l2]) ?_
  ·exact h
  rintro q16 x15 h _ k17
  unfold m_gfmatrix_Apply_l2 at h
  refine sr fun _ k18 => ya (lss rfl rfl) <| dz k18 <| sq fun _ k19 => cI h rfl (fun hc20 h => ?_) fun hc20 h => ?_
  ·refine ss <| k19 _ _ <| sq fun _ k21 => bl <| sr fun _ k22 => ?_
   obtain ⟨x23, hx23, h⟩ := bnd h
   obtain ⟨r_24, hr25, hq26⟩ := Rels.idx hq01 hx23
   refine ya (idxC (xs := rs01) sty_30 rfl rfl (mM rfl hf01) hr25) <| ya (loadC0 (xs := rs01) scal_22 rfl (mM rfl hf01) hr25 rfl) <| ak rfl k22 <| sr fun _ k27 => bd h fun x28 hx28 h => mv rfl <| ya (lenC (xs := x23) und_22 rfl (mM rfl hq26)) <| mv rfl ?_
   obtain ⟨r_29, hr30, hq31⟩ := Rels.idx hq01 hx28
   refine ya (idxC (xs := rs01) sty_30 rfl rfl (mM rfl hf01) hr30) <| ya (loadC0 (xs := rs01) scal_22 rfl (mM rfl hf01) hr30 rfl) <| ya (lenC (xs := x28) und_22 rfl (mM rfl hq31)) <| ya (neqI rfl rfl) <| dz k27 <| cnn h rfl bne_eq_false_iff_eq.2 bne_iff_ne.2 (fun hc32 h => ?_) fun hc32 h => ?_
   ·refine WC.skip <| bn <| tn <| k21 _ _ <| rg fun _ k33 => bd h fun x34 hx34 h => ya (addC rfl rfl hx34) <| mv rfl <| dz k33 <| tn <| kw (k17 (x34) h)
   refine sr fun _ k35 => asn rfl <| ak rfl k35 <| re <| br <| tr <| tr <| br <| tr <| QK.nilOwn 136 22 (Lay.sz Hdr) none ?_
   obtain rfl := si h
   exact rt [136] (ResIs.two rfl rfl rfl) (Ext.refl _ _) ⟨none, 0, 0, ([] : List Hdr), rfl, rfl, (Rels.nil (R := (RelB (α := BitVec 8)) M0))⟩
  exact xi <| te <| te <| bx <| tn <| kw (k13 () h)
 rintro _ h
 unfold m_gfmatrix_Apply_j1 at h
 refine sr fun _ k37 => bd h fun x39 hx39 h => ya (fieldAddr Tryz.underlying124 rfl nz_3 rfl rfl) <| ya (loadB (k := 102) scal_3 rfl rfl rfl) ?_
 obtain ⟨hu40, hq41⟩ := Rels.mks (R := (RelB (α := BitVec 8)) M0) (r := (⟨none, 0, 0⟩ : Hdr)) hx39 RelB.nil
 refine WL.eff (by decide) (Eff.makeC 138 (⟨none, 0, 0⟩ : Hdr) sty_30 rfl rfl rfl rfl rfl rfl hu40) ?_
 rintro _ _ ⟨g38, rfl, rfl⟩
 refine ak rfl k37 <| ct (σ := Mem × (List By) × (List Hdr)) (fun ⟨M42, x43, rs44⟩ => [(8, .slice (some ⟨g38, 0, none⟩) ((List.replicate (u0).toNat (⟨none, 0, 0⟩ : Hdr)).length) ((List.replicate (u0).toNat (⟨none, 0, 0⟩ : Hdr)).length))]) (fun ⟨M42, x43, rs44⟩ => [(0, .mem M42), (138, .own 22 (Lay.sz Hdr) (some ⟨g38, 0, none⟩) ((List.replicate (u0).toNat (⟨none, 0, 0⟩ : Hdr)).length) ((List.replicate (u0).toNat (⟨none, 0, 0⟩ : Hdr)).length) (cel rs44))]) (fun ⟨M42, x43, rs44⟩ => m_gfmatrix_Apply_j3 x43 = some res /\ Ext w0.heap.size M0 M42 /\ Rels ((RelB (α := BitVec 8)) M42) rs44 x43) (fun _ k46 => ?_) ?_
 ·refine sr fun _ k47 => mv rfl <| ya (lenD (rs := (List.replicate (u0).toNat (⟨none, 0, 0⟩ : Hdr))) (xs := x39) (Rels.len hq41) und_30 rfl (rO 138 rfl)) <| mv rfl <| dz k47 <| bl <| lp (τ := Mem × (List By) × (List Hdr) × Int) (fun ⟨M48, x49, rs50, x52⟩ => [(1, .slice A01 n01 c01), (2, pv g2), (8, .slice (some ⟨g38, 0, none⟩) ((List.replicate (u0).toNat (⟨none, 0, 0⟩ : Hdr)).length) ((List.replicate (u0).toNat (⟨none, 0, 0⟩ : Hdr)).length)), (40, I64 (x39.length : Int)), (41, I64 x52)]) (fun ⟨M48, x49, rs50, x52⟩ => [(0, .mem M48), (102, .blk g2 124 [I64 u0, I64 u1, .slice A00_2 n00_2 c00_2]), (138, .own 22 (Lay.sz Hdr) (some ⟨g38, 0, none⟩) ((List.replicate (u0).toNat (⟨none, 0, 0⟩ : Hdr)).length) ((List.replicate (u0).toNat (⟨none, 0, 0⟩ : Hdr)).length) (cel rs50))]) (fun q53 ⟨M48, x49, rs50, x52⟩ => m_gfmatrix_Apply_l4 u0 u1 u2 x01 x39 q53 x49 x52 = some res /\ Ext w0.heap.size M0 M48 /\ Rels ((RelB (α := BitVec 8)) M48) rs50 x49) ⟨M0, x39, (List.replicate (u0).toNat (⟨none, 0, 0⟩ : Hdr)), (0 : Int)⟩ ?_ (by simp [m_gfmatrix_Apply_l4]) ?_
  ·exact ⟨h, (Ext.refl _ _), hq41⟩
  rintro q53 ⟨M48, x49, rs50, x52⟩ ⟨h, hm_M48, hq51⟩ _ k54
  unfold m_gfmatrix_Apply_l4 at h
  refine sr fun _ k55 => ya (lss rfl rfl) <| dz k55 <| sq fun _ k56 => cI h rfl (fun hc57 h => ?_) fun hc57 h => ?_
  ·refine ss <| k56 _ _ <| ct (σ := Mem × (List By) × (List Hdr)) (fun ⟨M58, x59, rs60⟩ => [(1, .slice A01 n01 c01), (2, pv g2), (8, .slice (some ⟨g38, 0, none⟩) ((List.replicate (u0).toNat (⟨none, 0, 0⟩ : Hdr)).length) ((List.replicate (u0).toNat (⟨none, 0, 0⟩ : Hdr)).length)), (40, I64 (x39.length : Int)), (41, I64 x52)]) (fun ⟨M58, x59, rs60⟩ => [(0, .mem M58), (102, .blk g2 124 [I64 u0, I64 u1, .slice A00_2 n00_2 c00_2]), (138, .own 22 (Lay.sz Hdr) (some ⟨g38, 0, none⟩) ((List.replicate (u0).toNat (⟨none, 0, 0⟩ : Hdr)).length) ((List.replicate (u0).toNat (⟨none, 0, 0⟩ : Hdr)).length) (cel rs60))]) (fun ⟨M58, x59, rs60⟩ => m_gfmatrix_Apply_j5 x52 (m_gfmatrix_Apply_l4 u0 u1 u2 x01 x39 q53) x59 = some res /\ Ext w0.heap.size M48 M58 /\ Rels ((RelB (α := BitVec 8)) M58) rs60 x59) (fun _ k62 => ?_) ?_
   ·refine bl <| sr fun _ k63 => mv rfl <| ak rfl k63 <| sr fun _ k64 => ?_
    obtain ⟨x65, hx65, h⟩ := bnd h
    obtain ⟨x70, hx70, h⟩ := bnd h
    obtain ⟨x71, hx71, h⟩ := bnd h
    obtain ⟨x77, hx77, h⟩ := bnd h
    refine mv rfl <| mv rfl <| mv rfl ?_
    obtain ⟨r_66, hr67, hq68⟩ := Rels.idx (Rels.lift hq01 hm_M48) hx65
    refine ya (idxC (xs := rs01) sty_30 rfl rfl (mM rfl (SlRc.lift hf01 hm_M48)) hr67) <| ya (loadC0 (xs := rs01) scal_22 rfl (mM rfl (SlRc.lift hf01 hm_M48)) hr67 rfl) <| ya (lenC (xs := x65) und_22 rfl (mM rfl hq68)) <| WL.eff (by decide) (Eff.makeC 169 0#8 sty_22 rfl rfl rfl rfl rfl rfl hx70) ?_
    rintro _ _ ⟨g69, rfl, rfl⟩
    obtain ⟨r_72, hr73, hq74⟩ := Rels.idx hq51 hx71
    refine ya (idxC (xs := rs50) sty_30 rfl rfl (rO 138 rfl) hr73) <| WL.freeze 169 rfl rfl rfl fun M75 hm_M75 hf76 => ?_
    obtain ⟨hu78, hq79⟩ := Rels.upd (r := (⟨(some ⟨g69, 0, none⟩), x70.length, x70.length⟩ : Hdr)) (Rels.lift hq51 hm_M75) hx77 hf76
    refine WL.eff0 (Eff0.storeC1 138 (xs := rs50) (a' := (⟨(some ⟨g69, 0, none⟩), x70.length, x70.length⟩ : Hdr)) siz_22 rfl rfl rfl rfl rfl rfl hu78) <| dz k64 <| sr fun _ k80 => mv rfl <| ya (lenD (rs := rs01) (xs := x01) (Rels.len (Rels.lift (Rels.lift hq01 hm_M48) hm_M75)) und_30 rfl (mM rfl (SlRc.lift (SlRc.lift hf01 hm_M48) hm_M75))) <| mv rfl <| dz k80 <| bl <| lp (τ := Mem × (List By) × (List Hdr) × Int) (fun ⟨M81, x82, rs83, x85⟩ => [(1, .slice A01 n01 c01), (2, pv g2), (8, .slice (some ⟨g38, 0, none⟩) ((List.replicate (u0).toNat (⟨none, 0, 0⟩ : Hdr)).length) ((List.replicate (u0).toNat (⟨none, 0, 0⟩ : Hdr)).length)), (9, I64 x52), (40, I64 (x39.length : Int)), (41, I64 x52), (52, .slice A01 n01 c01), (53, I64 (x01.length : Int)), (54, I64 x85)]) (fun ⟨M81, x82, rs83, x85⟩ => [(0, .mem M81), (102, .blk g2 124 [I64 u0, I64 u1, .slice A00_2 n00_2 c00_2]), (138, .own 22 (Lay.sz Hdr) (some ⟨g38, 0, none⟩) ((List.replicate (u0).toNat (⟨none, 0, 0⟩ : Hdr)).length) ((List.replicate (u0).toNat (⟨none, 0, 0⟩ : Hdr)).length) (cel rs83))]) (fun q86 ⟨M81, x82, rs83, x85⟩ => m_gfmatrix_Apply_l6 u0 u1 u2 x01 x52 (m_gfmatrix_Apply_l4 u0 u1 u2 x01 x39 q53) q86 x82 x85 = some res /\ Ext w0.heap.size M75 M81 /\ Rels ((RelB (α := BitVec 8)) M81) rs83 x82) ⟨M75, x77, (rs50.set (x52).toNat (⟨(some ⟨g69, 0, none⟩), x70.length, x70.length⟩ : Hdr)), (0 : Int)⟩ ?_ (by simp [m_gfmatrix_Apply_l6]) ?_
    ·exact ⟨h, (Ext.refl _ _), hq79⟩
    rintro q86 ⟨M81, x82, rs83, x85⟩ ⟨h, hm_M81, hq84⟩ _ k87
    unfold m_gfmatrix_Apply_l6 at h
    refine sr fun _ k88 => ya (lss rfl rfl) <| dz k88 <| sq fun _ k89 => cI h rfl (fun hc90 h => ?_) fun hc90 h => ?_
    ·refine ss <| k89 _ _ <| sq fun _ k91 => bl <| sr fun _ k92 => bd h fun x93 hx93 h => mv rfl ?_
     obtain ⟨r_94, hr95, hq96⟩ := Rels.idx (Rels.lift (Rels.lift (Rels.lift hq01 hm_M48) hm_M75) hm_M81) hx93
     refine ya (idxC (xs := rs01) sty_30 rfl rfl (mM rfl (SlRc.lift (SlRc.lift (SlRc.lift hf01 hm_M48) hm_M75) hm_M81)) hr95) <| ya (loadC0 (xs := rs01) scal_22 rfl (mM rfl (SlRc.lift (SlRc.lift (SlRc.lift hf01 hm_M48) hm_M75) hm_M81)) hr95 rfl) <| asn rfl <| ak rfl k92 <| rd [(102, _)] mixed fun _ k97 => ?_
     obtain ⟨x98, hx98, h⟩ := bnd h
     obtain ⟨x102, hx102, h⟩ := bnd h
     obtain ⟨x104, hx104, h⟩ := bnd h
     obtain ⟨x112, hx112, h⟩ := bnd h
     obtain ⟨x118, hx118, h⟩ := bnd h
     refine dm 0 rfl rfl <| dm 1 rfl rfl <| dm 2 rfl rfl <| dm 3 rfl rfl <| dm 6 rfl rfl <| du 7 rfl (loadBM (k := 102) agg_124 rfl rfl rfl) <| dm 8 rfl rfl <| dm 9 rfl rfl <| WD.two 4 10 (by kernel_rfl) ?_ ?_
     ·obtain ⟨r_99, hr100, hq101⟩ := Rels.idx hq84 hx98
      refine dy rfl (idxC (xs := rs83) sty_30 rfl rfl (rO 138 rfl) hr100) <| WD.two 5 10 (by kernel_rfl) ?_ ?_
      ·refine dy rfl (loadC0 (xs := rs83) scal_22 rfl (rO 138 rfl) hr100 rfl) <| on 10 <| d0 rfl Tryz.func111 rfl (fun w hb hh => w_gfmatrix_Matrix_at (Mem.snap w) u0 u1 A00_2 n00_2 c00_2 _ (RdH.sn (mM rfl (SlRc.lift (SlRc.lift (SlRc.lift hf00_2 hm_M48) hm_M75) hm_M81)) w hb hh) x52 x85 hx102) <| on 11 <| WS.eff rfl (by decide) (Eff.callS 208 rfl Tryz.func110 nm_110 rfl rfl (fun w hb hh => w_gf256_MulAdd (Mem.snap w) r_99.A r_99.n r_99.c _ (sM rfl hq101 w hb hh) r_94.A r_94.n r_94.c _ (sM rfl hq96 w hb hh) x102 hx104)) ?_
       rintro _ _ ⟨_, ⟨A109, n110, c111, rfl, rfl⟩, rfl⟩
       refine aq ?_
       refine dm 12 rfl rfl <| du 13 rfl (extract rfl rfl) <| du 14 rfl (extract rfl rfl) <| on 15 ?_
       obtain ⟨r_113, hr114, hq115⟩ := Rels.idx hq84 hx112
       refine dy rfl (idxC (xs := rs83) sty_30 rfl rfl (rO 138 rfl) hr114) <| on 16 <| WS.freeze 208 rfl rfl rfl rfl rfl fun M116 hm_M116 hf117 => ?_
       obtain ⟨hu119, hq120⟩ := Rels.upd (r := (⟨A109, n110, c111⟩ : Hdr)) (Rels.lift hq84 hm_M116) hx118 hf117
       refine WS.eff0 rfl (Eff0.storeC1 138 (xs := rs83) (a' := (⟨A109, n110, c111⟩ : Hdr)) siz_22 rfl rfl rfl rfl rfl rfl hu119) (sc sn) <| dd <| k97 _ _ <| bn <| tn <| k91 _ _ <| rg fun _ k121 => bd h fun x122 hx122 h => ya (addC rfl rfl hx122) <| mv rfl <| dz k121 <| tn <| kw (k87 ⟨M116, x118, (rs83.set (x52).toNat (⟨A109, n110, c111⟩ : Hdr)), x122⟩ ⟨h, (Ext.trans hm_M81 hm_M116), hq120⟩)
      skip
      refine d0 rfl Tryz.func111 rfl (fun w hb hh => w_gfmatrix_Matrix_at (Mem.snap w) u0 u1 A00_2 n00_2 c00_2 _ (RdH.sn (mM rfl (SlRc.lift (SlRc.lift (SlRc.lift hf00_2 hm_M48) hm_M75) hm_M81)) w hb hh) x52 x85 hx102) <| on 5 <| dy rfl (loadC0 (xs := rs83) scal_22 rfl (rO 138 rfl) hr100 rfl) <| on 11 <| WS.eff rfl (by decide) (Eff.callS 208 rfl Tryz.func110 nm_110 rfl rfl (fun w hb hh => w_gf256_MulAdd (Mem.snap w) r_99.A r_99.n r_99.c _ (sM rfl hq101 w hb hh) r_94.A r_94.n r_94.c _ (sM rfl hq96 w hb hh) x102 hx104)) ?_
      rintro _ _ ⟨_, ⟨A109, n110, c111, rfl, rfl⟩, rfl⟩
      refine aq ?_
      refine dm 12 rfl rfl <| du 13 rfl (extract rfl rfl) <| du 14 rfl (extract rfl rfl) <| on 15 ?_
      obtain ⟨r_113, hr114, hq115⟩ := Rels.idx hq84 hx112
      refine dy rfl (idxC (xs := rs83) sty_30 rfl rfl (rO 138 rfl) hr114) <| on 16 <| WS.freeze 208 rfl rfl rfl rfl rfl fun M116 hm_M116 hf117 => ?_
      obtain ⟨hu119, hq120⟩ := Rels.upd (r := (⟨A109, n110, c111⟩ : Hdr)) (Rels.lift hq84 hm_M116) hx118 hf117
      refine WS.eff0 rfl (Eff0.storeC1 138 (xs := rs83) (a' := (⟨A109, n110, c111⟩ : Hdr)) siz_22 rfl rfl rfl rfl rfl rfl hu119) (sc sn) <| dd <| k97 _ _ <| bn <| tn <| k91 _ _ <| rg fun _ k123 => bd h fun x124 hx124 h => ya (addC rfl rfl hx124) <| mv rfl <| dz k123 <| tn <| kw (k87 ⟨M116, x118, (rs83.set (x52).toNat (⟨A109, n110, c111⟩ : Hdr)), x124⟩ ⟨h, (Ext.trans hm_M81 hm_M116), hq120⟩)
     skip
     refine d0 rfl Tryz.func111 rfl (fun w hb hh => w_gfmatrix_Matrix_at (Mem.snap w) u0 u1 A00_2 n00_2 c00_2 _ (RdH.sn (mM rfl (SlRc.lift (SlRc.lift (SlRc.lift hf00_2 hm_M48) hm_M75) hm_M81)) w hb hh) x52 x85 hx102) <| on 4 ?_
     obtain ⟨r_99, hr100, hq101⟩ := Rels.idx hq84 hx98
     refine dy rfl (idxC (xs := rs83) sty_30 rfl rfl (rO 138 rfl) hr100) <| on 5 <| dy rfl (loadC0 (xs := rs83) scal_22 rfl (rO 138 rfl) hr100 rfl) <| on 11 <| WS.eff rfl (by decide) (Eff.callS 208 rfl Tryz.func110 nm_110 rfl rfl (fun w hb hh => w_gf256_MulAdd (Mem.snap w) r_99.A r_99.n r_99.c _ (sM rfl hq101 w hb hh) r_94.A r_94.n r_94.c _ (sM rfl hq96 w hb hh) x102 hx104)) ?_
     rintro _ _ ⟨_, ⟨A109, n110, c111, rfl, rfl⟩, rfl⟩
     refine aq ?_
     refine dm 12 rfl rfl <| du 13 rfl (extract rfl rfl) <| du 14 rfl (extract rfl rfl) <| on 15 ?_
     obtain ⟨r_113, hr114, hq115⟩ := Rels.idx hq84 hx112
     refine dy rfl (idxC (xs := rs83) sty_30 rfl rfl (rO 138 rfl) hr114) <| on 16 <| WS.freeze 208 rfl rfl rfl rfl rfl fun M116 hm_M116 hf117 => ?_
     obtain ⟨hu119, hq120⟩ := Rels.upd (r := (⟨A109, n110, c111⟩ : Hdr)) (Rels.lift hq84 hm_M116) hx118 hf117
     refine WS.eff0 rfl (Eff0.storeC1 138 (xs := rs83) (a' := (⟨A109, n110, c111⟩ : Hdr)) siz_22 rfl rfl rfl rfl rfl rfl hu119) (sc sn) <| dd <| k97 _ _ <| bn <| tn <| k91 _ _ <| rg fun _ k125 => bd h fun x126 hx126 h => ya (addC rfl rfl hx126) <| mv rfl <| dz k125 <| tn <| kw (k87 ⟨M116, x118, (rs83.set (x52).toNat (⟨A109, n110, c111⟩ : Hdr)), x126⟩ ⟨h, (Ext.trans hm_M81 hm_M116), hq120⟩)
    exact xi <| te <| te <| bx <| bn <| tn <| kw (k62 ⟨M81, x82, rs83⟩ ⟨h, (Ext.trans hm_M75 hm_M81), hq84⟩)
   rintro ⟨M58, x59, rs60⟩ ⟨h, hm_M58, hq61⟩
   unfold m_gfmatrix_Apply_j5 at h
   refine rg fun _ k127 => bd h fun x128 hx128 h => ya (addC rfl rfl hx128) <| mv rfl <| dz k127 <| tn <| kw (k54 ⟨M58, x59, rs60, x128⟩ ⟨h, (Ext.trans hm_M48 hm_M58), hq61⟩)
  exact xi <| te <| te <| bx <| tn <| kw (k46 ⟨M48, x49, rs50⟩ ⟨h, hm_M48, hq51⟩)
 rintro ⟨M42, x43, rs44⟩ ⟨h, hm_M42, hq45⟩
 unfold m_gfmatrix_Apply_j3 at h
 refine sr fun _ k129 => mv rfl <| asn rfl <| ak rfl k129 <| re ?_
 obtain rfl := si h
 exact rt [138] (ResIs.two rfl rfl rfl) hm_M42 ⟨(some ⟨g38, 0, none⟩), (List.replicate (u0).toNat (⟨none, 0, 0⟩ : Hdr)).length, (List.replicate (u0).toNat (⟨none, 0, 0⟩ : Hdr)).length, rs44, rfl, rfl, hq45⟩
theorem agg_140 : Agg Tryz.prog 140 3 := ⟨⟨_, Tryz.underlying140, rfl⟩, by kernel_rfl⟩
theorem bu_140_ : Tryz.prog.built 140 [] = some ([I64 (0 : Int), I64 (0 : Int), .slice none 0 0] : List Value).toArray := by kernel_rfl
theorem bu_140_0_1 : ∀ (a0 : Int) (a1 : Int), Tryz.prog.built 140 [(0, I64 a0), (1, I64 a1)] = some ([I64 a0, I64 a1, .slice none 0 0] : List Value).toArray := fun a0 a1 => by kernel_rfl
theorem bu_140_0_1_2 : ∀ (a0 : Int) (a1 : Int) (a2 : Option Addr) (n2 c2 : Nat), Tryz.prog.built 140 [(0, I64 a0), (1, I64 a1), (2, .slice a2 n2 c2)] = some ([I64 a0, I64 a1, .slice a2 n2 c2] : List Value).toArray := fun a0 a1 a2 n2 c2 => by kernel_rfl
theorem nm_120 : (Tryz.f120.name == "runtime.NumGoroutine") = false := by kernel_rfl
theorem nm_122 : (Tryz.f122.name == "runtime.NumGoroutine") = false := by kernel_rfl
theorem zr_140 : (Tryz.prog.info? 140).map (fun i => i.zero.map (·.cells)) = some (some ([I64 (0 : Int), I64 (0 : Int), .slice none 0 0] : List Value).toArray) := by kernel_rfl
theorem w_r03_size (M0 : Mem) (x00 x01 : Int) {res : Bool} (h : m_r03_size x00 x01 = some res) :
  Fn Tryz.prog 116 #[I64 x00, I64 x01] M0 fun r M' es => r = .bool res /\ es = [] := by
 refine Fn.intro (N := 19) Tryz.func116 rfl rfl (nle rfl) fun w0 => ?_
 unfold m_r03_size at h
 refine sr fun _ k1 => ak rfl k1 <| sr fun _ k2 => mv rfl <| ya (geq rfl rfl) <| mv rfl <| spl h decide_eq_true decide_eq_false (fun hc3 h => ?_) fun hc3 h => ?_
 ·refine mvg rfl <| yg (leq rfl rfl) <| pt rfl rfl <| mv rfl <| spl h decide_eq_true decide_eq_false (fun hc4 h => ?_) fun hc4 h => ?_
  ·refine mvg rfl <| yg (geq rfl rfl) <| pt rfl rfl <| mv rfl <| spl h decide_eq_true decide_eq_false (fun hc5 h => ?_) fun hc5 h => ?_
   ·refine mvg rfl <| yg (leq rfl rfl) <| pt rfl rfl <| ak rfl k2 <| re ?_
    obtain rfl := si h
    exact rt0 (ResIs.one rfl rfl)
   refine sk <| sk <| pf rfl rfl <| ak rfl k2 <| re ?_
   obtain rfl := si h
   exact rt0 (ResIs.one rfl rfl)
  refine sk <| sk <| pf rfl rfl <| mv rfl <| sk <| sk <| pf rfl rfl <| ak rfl k2 <| re ?_
  obtain rfl := si h
  exact rt0 (ResIs.one rfl rfl)
 refine sk <| sk <| pf rfl rfl <| mv rfl <| sk <| sk <| pf rfl rfl <| mv rfl <| sk <| sk <| pf rfl rfl <| ak rfl k2 <| re ?_
 obtain rfl := si h
 exact rt0 (ResIs.one rfl rfl)
theorem w_r03_Valid (M0 : Mem) (u0 u1 : Int) (A00_2 : Option Addr) (n00_2 c00_2 : Nat) (u2 : By) (hf00_2 : SlT M0 A00_2 n00_2 c00_2 u2) {res : Bool} (h : m_r03_Valid u0 u1 u2 = some res) :
  Fn Tryz.prog 115 #[.agg ([I64 u0, I64 u1, .slice A00_2 n00_2 c00_2] : List Value).toArray] M0 fun r M' es => r = .bool res /\ es = [] := by
 refine Fn.intro (N := 19) Tryz.func115 rfl rfl (nle rfl) fun w0 => ?_
 unfold m_r03_Valid at h
 refine sr fun _ k1 => bb 102 [I64 u0, I64 u1, .slice A00_2 n00_2 c00_2] rfl fun g2 => ak rfl k1 <| sr fun _ k3 => bd h fun x4 hx4 h => ya (fieldAddr Tryz.underlying140 rfl nz_3 rfl rfl) <| ya (loadB (k := 102) scal_3 rfl rfl rfl) <| ya (fieldAddr Tryz.underlying140 rfl nz_3 rfl rfl) <| ya (loadB (k := 102) scal_3 rfl rfl rfl) <| c0 Tryz.func116 rfl (fun w hb hh => w_r03_size (Mem.snap w) u0 u1 hx4) <| mv rfl <| spl h id Bool.eq_false_iff.2 (fun hc6 h => ?_) fun hc6 h => ?_
 ·obtain ⟨x7, hx7, h⟩ := bnd h
  refine yg (fieldAddr Tryz.underlying140 rfl nz_22 rfl rfl) <| yg (loadB (k := 102) scal_22 rfl rfl rfl) <| yg (lenC (xs := u2) und_22 rfl (mM rfl hf00_2)) <| yg (fieldAddr Tryz.underlying140 rfl nz_3 rfl rfl) <| yg (loadB (k := 102) scal_3 rfl rfl rfl) <| yg (fieldAddr Tryz.underlying140 rfl nz_3 rfl rfl) <| yg (loadB (k := 102) scal_3 rfl rfl rfl) <| yg (mulC rfl rfl hx7) <| yg (eqlI rfl rfl) <| pt rfl rfl <| ak rfl k3 <| re ?_
  obtain rfl := si h
  exact rt0 (ResIs.one rfl rfl)
 refine sk <| sk <| sk <| sk <| sk <| sk <| sk <| sk <| sk <| pf rfl rfl <| ak rfl k3 <| re ?_
 obtain rfl := si h
 exact rt0 (ResIs.one rfl rfl)
theorem w_r03_Identity (M0 : Mem) (x00 : Int) {res : Int × Int × By × Int} (h : m_r03_Identity x00 = some res) :
  Fn Tryz.prog 119 #[I64 x00] M0 fun r M' es => ∃ (A1 : Option Addr) (n1 c1 : Nat), r = .tuple #[.agg ([I64 res.1, I64 res.2.1, .slice A1 n1 c1] : List Value).toArray, I64 res.2.2.2] /\ es = [.own 5 (Lay.sz (BitVec 8)) A1 n1 c1 (cel res.2.2.1)] := by
 refine Fn.intro (N := 32) Tryz.func119 rfl rfl (nle rfl) fun w0 => ?_
 unfold m_r03_Identity at h
 refine sr fun _ k1 => al 102 zr_140 fun g2 => ak rfl k1 <| sq fun _ k3 => sr fun _ k4 => bd h fun x5 hx5 h => mv rfl <| mv rfl <| c0 Tryz.func116 rfl (fun w hb hh => w_r03_size (Mem.snap w) x00 x00 hx5) <| ya (notB rfl) <| dz k4 <| cnn h rfl not_f (fun q => not_t (Bool.eq_false_iff.2 q)) (fun hc7 h => ?_) fun hc7 h => ?_
 ·refine ss <| k3 _ _ <| sr fun _ k8 => ?_
  obtain ⟨x9, hx9, h⟩ := bnd h
  obtain ⟨x11, hx11, h⟩ := bnd h
  refine mv rfl <| mv rfl <| mv rfl <| mv rfl <| ya (mulC rfl rfl hx9) <| WL.eff (by decide) (Eff.makeC 110 0#8 sty_22 rfl rfl rfl rfl rfl rfl hx11) ?_
  rintro _ _ ⟨g10, rfl, rfl⟩
  refine ya (build rfl (bu_140_0_1_2 x00 x00 (some ⟨g10, 0, none⟩) x11.length x11.length)) <| al 112 zr_140 fun g12 => sb 112 agg_140 rfl rfl rfl <| dz k8 <| ct (σ := By) (fun x13 => [(2, pv g2), (4, pv g12)]) (fun x13 => [(0, .mem M0), (102, .blk g2 140 [I64 (0 : Int), I64 (0 : Int), .slice none 0 0]), (110, .own 5 (Lay.sz (BitVec 8)) (some ⟨g10, 0, none⟩) x11.length x11.length (cel x13)), (112, .blk g12 140 [I64 x00, I64 x00, .slice (some ⟨g10, 0, none⟩) x11.length x11.length])]) (fun x13 => m_r03_Identity_j0 x00 x13 = some res) (fun _ k14 => ?_) ?_
  ·refine sr fun _ k15 => ak rfl k15 <| bl <| lp (τ := By × Int) (fun ⟨x16, x17⟩ => [(0, I64 x00), (2, pv g2), (4, pv g12), (5, I64 x17)]) (fun ⟨x16, x17⟩ => [(0, .mem M0), (102, .blk g2 140 [I64 (0 : Int), I64 (0 : Int), .slice none 0 0]), (110, .own 5 (Lay.sz (BitVec 8)) (some ⟨g10, 0, none⟩) x11.length x11.length (cel x16)), (112, .blk g12 140 [I64 x00, I64 x00, .slice (some ⟨g10, 0, none⟩) x11.length x11.length])]) (fun q18 ⟨x16, x17⟩ => m_r03_Identity_l1 x00 q18 x16 x17 = some res) ⟨x11, (0 : Int)⟩ ?_ (by simp [m_r03_Identity_l1]) ?_
   ·exact h
   rintro q18 ⟨x16, x17⟩ h _ k19
   unfold m_r03_Identity_l1 at h
   refine sq fun _ k20 => sr fun _ k21 => mv rfl <| mv rfl <| ya (lss rfl rfl) <| dz k21 <| cI h rfl (fun hc22 h => ?_) fun hc22 h => ?_
   ·refine ss <| k20 _ _ <| sq fun _ k23 => bl <| rg fun _ k24 => ?_
    obtain ⟨x25, hx25, h⟩ := bnd h
    obtain ⟨x26, hx26, h⟩ := bnd h
    obtain ⟨x27, hx27, h⟩ := bnd h
    obtain ⟨x28, hx28, h⟩ := bnd h
    refine ya (fieldAddr Tryz.underlying140 rfl nz_22 rfl rfl) <| ya (loadB (k := 112) scal_22 rfl rfl rfl) <| mv rfl <| mv rfl <| ya (mulC rfl rfl hx25) <| mv rfl <| ya (addC rfl rfl hx26) <| ya (idxC (xs := x16) sty_22 rfl rfl (rO 110 rfl) hx27) <| WL.eff0 (Eff0.storeC1 110 (xs := x16) (a' := 1#8) siz_5 rfl rfl rfl rfl rfl rfl hx28) <| dz k24 <| bn <| tn <| k23 _ _ <| rg fun _ k29 => bd h fun x30 hx30 h => mv rfl <| ya (addC rfl rfl hx30) <| ak rfl k29 <| tn <| kw (k19 ⟨x28, x30⟩ h)
   exact xi <| te <| te <| bx <| tn <| kw (k14 x16 h)
  rintro x13 h
  unfold m_r03_Identity_j0 at h
  refine sr fun _ k31 => ya (loadBM (k := 112) agg_140 rfl rfl rfl) <| sb 102 agg_140 rfl rfl rfl <| ak rfl k31 <| re ?_
  obtain rfl := si h
  exact rt [110] (ResIs.cellTmpM (k := 102) rfl agg_140 rfl rfl rfl rfl) (Ext.refl _ _) ⟨(some ⟨g10, 0, none⟩), x11.length, x11.length, rfl, rfl⟩
 refine sr fun _ k32 => ya (build rfl (bu_140_)) <| sb 102 agg_140 rfl rfl rfl <| ak rfl k32 <| re <| tr <| QK.nilOwn 133 5 (Lay.sz (BitVec 8)) none ?_
 obtain rfl := si h
 exact rt [133] (ResIs.cellTmpM (k := 102) rfl agg_140 rfl rfl rfl rfl) (Ext.refl _ _) ⟨none, 0, 0, rfl, rfl⟩
theorem w_r03_Vandermonde (M0 : Mem) (x00 x01 : Int) {res : Int × Int × By × Int} (h : m_r03_Vandermonde x00 x01 = some res) :
  Fn Tryz.prog 117 #[I64 x00, I64 x01] M0 fun r M' es => ∃ (A1 : Option Addr) (n1 c1 : Nat), r = .tuple #[.agg ([I64 res.1, I64 res.2.1, .slice A1 n1 c1] : List Value).toArray, I64 res.2.2.2] /\ es = [.own 5 (Lay.sz (BitVec 8)) A1 n1 c1 (cel res.2.2.1)] := by
 refine Fn.intro (N := 39) Tryz.func117 rfl rfl (nle rfl) fun w0 => ?_
 unfold m_r03_Vandermonde at h
 refine sr fun _ k1 => al 102 zr_140 fun g2 => ak rfl k1 <| sq fun _ k3 => sr fun _ k4 => bd h fun x5 hx5 h => mv rfl <| mv rfl <| c0 Tryz.func116 rfl (fun w hb hh => w_r03_size (Mem.snap w) x00 x01 hx5) <| ya (notB rfl) <| dz k4 <| cnn h rfl not_f (fun q => not_t (Bool.eq_false_iff.2 q)) (fun hc7 h => ?_) fun hc7 h => ?_
 ·refine ss <| k3 _ _ <| sr fun _ k8 => mv rfl <| mv rfl <| ya (build rfl (bu_140_0_1 x00 x01)) <| al 109 zr_140 fun g9 => sb 109 agg_140 rfl rfl rfl <| dz k8 <| ct (σ := (Option Addr) × Nat × Nat × By) (fun ⟨A12, n13, c14, x15⟩ => [(4, pv g2), (6, pv g9)]) (fun ⟨A12, n13, c14, x15⟩ => [(0, .mem M0), (102, .blk g2 140 [I64 (0 : Int), I64 (0 : Int), .slice none 0 0]), (109, .blk g9 140 [I64 x00, I64 x01, .slice A12 n13 c14]), (111, .own 5 (Lay.sz (BitVec 8)) A12 n13 c14 (cel x15))]) (fun ⟨A12, n13, c14, x15⟩ => m_r03_Vandermonde_j0 x00 x01 x15 = some res) (fun _ k16 => ?_) ?_
  ·refine sr fun _ k17 => ak rfl k17 <| bl <| WC.nilOwn 119 5 (Lay.sz (BitVec 8)) none <| lp (τ := (Option Addr) × Nat × Nat × By × Int) (fun ⟨A20, n21, c22, x23, x24⟩ => [(0, I64 x00), (1, I64 x01), (4, pv g2), (6, pv g9), (7, I64 x24)]) (fun ⟨A20, n21, c22, x23, x24⟩ => [(0, .mem M0), (102, .blk g2 140 [I64 (0 : Int), I64 (0 : Int), .slice none 0 0]), (109, .blk g9 140 [I64 x00, I64 x01, .slice A20 n21 c22]), (119, .own 5 (Lay.sz (BitVec 8)) A20 n21 c22 (cel x23))]) (fun q25 ⟨A20, n21, c22, x23, x24⟩ => m_r03_Vandermonde_l1 x00 x01 q25 x23 x24 = some res) ⟨none, 0, 0, ([] : By), (0 : Int)⟩ ?_ (by simp [m_r03_Vandermonde_l1]) ?_
   ·exact h
   rintro q25 ⟨A20, n21, c22, x23, x24⟩ h _ k26
   unfold m_r03_Vandermonde_l1 at h
   refine sq fun _ k27 => sr fun _ k28 => mv rfl <| mv rfl <| ya (lss rfl rfl) <| dz k28 <| cI h rfl (fun hc29 h => ?_) fun hc29 h => ?_
   ·refine ss <| k27 _ _ <| ct (σ := (Option Addr) × Nat × Nat × By) (fun ⟨A30, n31, c32, x33⟩ => [(0, I64 x00), (1, I64 x01), (4, pv g2), (6, pv g9), (7, I64 x24)]) (fun ⟨A30, n31, c32, x33⟩ => [(0, .mem M0), (102, .blk g2 140 [I64 (0 : Int), I64 (0 : Int), .slice none 0 0]), (109, .blk g9 140 [I64 x00, I64 x01, .slice A30 n31 c32]), (119, .own 5 (Lay.sz (BitVec 8)) A30 n31 c32 (cel x33))]) (fun ⟨A30, n31, c32, x33⟩ => m_r03_Vandermonde_j2 x24 (m_r03_Vandermonde_l1 x00 x01 q25) x33 = some res) (fun _ k34 => ?_) ?_
    ·refine bl <| sr fun _ k35 => ya (Yld.assign (v := U8 1#8) rfl) <| dz k35 <| sr fun _ k36 => ak rfl k36 <| bl <| lp (τ := (Option Addr) × Nat × Nat × By × (BitVec 8) × Int) (fun ⟨A37, n38, c39, x40, x41, x42⟩ => [(0, I64 x00), (1, I64 x01), (4, pv g2), (6, pv g9), (7, I64 x24), (8, U8 x41), (9, I64 x42)]) (fun ⟨A37, n38, c39, x40, x41, x42⟩ => [(0, .mem M0), (102, .blk g2 140 [I64 (0 : Int), I64 (0 : Int), .slice none 0 0]), (109, .blk g9 140 [I64 x00, I64 x01, .slice A37 n38 c39]), (119, .own 5 (Lay.sz (BitVec 8)) A37 n38 c39 (cel x40))]) (fun q43 ⟨A37, n38, c39, x40, x41, x42⟩ => m_r03_Vandermonde_l3 x01 x24 (m_r03_Vandermonde_l1 x00 x01 q25) q43 x40 x41 x42 = some res) ⟨A20, n21, c22, x23, 1#8, (0 : Int)⟩ ?_ (by simp [m_r03_Vandermonde_l3]) ?_
     ·exact h
     rintro q43 ⟨A37, n38, c39, x40, x41, x42⟩ h _ k44
     unfold m_r03_Vandermonde_l3 at h
     refine sq fun _ k45 => sr fun _ k46 => mv rfl <| mv rfl <| ya (lss rfl rfl) <| dz k46 <| cI h rfl (fun hc47 h => ?_) fun hc47 h => ?_
     ·refine ss <| k45 _ _ <| sq fun _ k48 => bl <| sr fun _ k49 => bd h fun x51 hx51 h => ya (fieldAddr Tryz.underlying140 rfl nz_22 rfl rfl) <| ya (loadB (k := 109) scal_22 rfl rfl rfl) <| mv rfl <| WL.eff (by decide) (Eff.buildC 150 ([x41] : By) sty_22 rfl rfl rfl rfl rfl (by decide)) ?_
      rintro _ _ ⟨g50, rfl, rfl⟩
      refine ap 119 (xs := x40) (ys := ([x41] : By)) sty_22 rfl rfl rfl (rO 150 rfl) hx51 fun A52 c53 => ya (fieldAddr Tryz.underlying140 rfl nz_22 rfl rfl) <| WL.eff0 (Eff0.storeB 109 siz_22 rfl rfl rfl rfl (nle rfl)) <| dz k49 <| rg fun _ k54 => bd h fun x55 hx55 h => mv rfl <| mv rfl <| ya (conv_i64_u8 some_3 und_5 rfl) <| c0 Tryz.func144 rfl (fun w hb hh => w_r02_Mul (Mem.snap w) x41 (BitVec.ofInt 8 x24) hx55) <| ak rfl k54 <| bn <| tn <| k48 _ _ <| rg fun _ k57 => bd h fun x58 hx58 h => mv rfl <| ya (addC rfl rfl hx58) <| ak rfl k57 <| tn <| kw (k44 ⟨A52, x51.length, c53, x51, x55, x58⟩ h)
     exact xi <| te <| te <| bx <| bn <| tn <| kw (k34 ⟨A37, n38, c39, x40⟩ h)
    rintro ⟨A30, n31, c32, x33⟩ h
    unfold m_r03_Vandermonde_j2 at h
    refine rg fun _ k59 => bd h fun x60 hx60 h => mv rfl <| ya (addC rfl rfl hx60) <| ak rfl k59 <| tn <| kw (k26 ⟨A30, n31, c32, x33, x60⟩ h)
   exact xi <| te <| te <| bx <| tn <| KK.move 119 111 rfl rfl <| kw (k16 ⟨A20, n21, c22, x23⟩ h)
  rintro ⟨A12, n13, c14, x15⟩ h
  unfold m_r03_Vandermonde_j0 at h
  refine sr fun _ k61 => ya (loadBM (k := 109) agg_140 rfl rfl rfl) <| sb 102 agg_140 rfl rfl rfl <| ak rfl k61 <| re ?_
  obtain rfl := si h
  exact rt [111] (ResIs.cellTmpM (k := 102) rfl agg_140 rfl rfl rfl rfl) (Ext.refl _ _) ⟨A12, n13, c14, rfl, rfl⟩
 refine sr fun _ k62 => ya (build rfl (bu_140_)) <| sb 102 agg_140 rfl rfl rfl <| ak rfl k62 <| re <| tr <| QK.nilOwn 163 5 (Lay.sz (BitVec 8)) none ?_
 obtain rfl := si h
 exact rt [163] (ResIs.cellTmpM (k := 102) rfl agg_140 rfl rfl rfl rfl) (Ext.refl _ _) ⟨none, 0, 0, rfl, rfl⟩
theorem w_r03_Mul (M0 : Mem) (u0 u1 : Int) (A00_2 : Option Addr) (n00_2 c00_2 : Nat) (u2 : By) (hf00_2 : SlT M0 A00_2 n00_2 c00_2 u2) (v0 v1 : Int) (A01_2 : Option Addr) (n01_2 c01_2 : Nat) (v2 : By) (hf01_2 : SlT M0 A01_2 n01_2 c01_2 v2) {res : Int × Int × By × Int} (h : m_r03_Mul u0 u1 u2 v0 v1 v2 = some res) :
  Fn Tryz.prog 118 #[.agg ([I64 u0, I64 u1, .slice A00_2 n00_2 c00_2] : List Value).toArray, .agg ([I64 v0, I64 v1, .slice A01_2 n01_2 c01_2] : List Value).toArray] M0 fun r M' es => ∃ (A1 : Option Addr) (n1 c1 : Nat), r = .tuple #[.agg ([I64 res.1, I64 res.2.1, .slice A1 n1 c1] : List Value).toArray, I64 res.2.2.2] /\ es = [.own 5 (Lay.sz (BitVec 8)) A1 n1 c1 (cel res.2.2.1)] := by
 refine Fn.intro (N := 80) Tryz.func118 rfl rfl (nle rfl) fun w0 => ?_
 unfold m_r03_Mul at h
 refine sr fun _ k1 => bb 102 [I64 u0, I64 u1, .slice A00_2 n00_2 c00_2] rfl fun g2 => bb 103 [I64 v0, I64 v1, .slice A01_2 n01_2 c01_2] rfl fun g3 => al 104 zr_140 fun g4 => ak rfl k1 <| ct (σ := Unit) (fun _ => [(2, pv g2), (3, pv g3), (4, pv g4)]) (fun _ => [(0, .mem M0), (102, .blk g2 140 [I64 u0, I64 u1, .slice A00_2 n00_2 c00_2]), (103, .blk g3 140 [I64 v0, I64 v1, .slice A01_2 n01_2 c01_2]), (104, .blk g4 140 [I64 (0 : Int), I64 (0 : Int), .slice none 0 0])]) (fun _ => m_r03_Mul_j0 u0 u1 u2 v1 v2 = some res) (fun _ k5 => ?_) ?_
 ·refine sr fun _ k6 => bd h fun x7 hx7 h => ya (loadBM (k := 102) agg_140 rfl rfl rfl) <| c0 Tryz.func115 rfl (fun w hb hh => w_r03_Valid (Mem.snap w) u0 u1 A00_2 n00_2 c00_2 _ (sM rfl hf00_2 w hb hh) hx7) <| ya (notB rfl) <| mv rfl <| spn h not_f (fun q => not_t (Bool.eq_false_iff.2 q)) (fun hc9 h => ?_) fun hc9 h => ?_
  ·obtain ⟨x10, hx10, h⟩ := bnd h
   refine yg (loadBM (k := 103) agg_140 rfl rfl rfl) <| c0g Tryz.func115 rfl (fun w hb hh => w_r03_Valid (Mem.snap w) v0 v1 A01_2 n01_2 c01_2 _ (sM rfl hf01_2 w hb hh) hx10) <| yg (notB rfl) <| pf rfl rfl <| mv rfl <| spn h not_f (fun q => not_t (Bool.eq_false_iff.2 q)) (fun hc12 h => ?_) fun hc12 h => ?_
   ·refine yg (fieldAddr Tryz.underlying140 rfl nz_3 rfl rfl) <| yg (loadB (k := 102) scal_3 rfl rfl rfl) <| yg (fieldAddr Tryz.underlying140 rfl nz_3 rfl rfl) <| yg (loadB (k := 103) scal_3 rfl rfl rfl) <| yg (neqI rfl rfl) <| pf rfl rfl <| dz k6 <| cnn h rfl bne_eq_false_iff_eq.2 bne_iff_ne.2 (fun hc13 h => ?_) fun hc13 h => ?_
    ·exact WC.skip <| tn <| kw (k5 () h)
    refine sr fun _ k14 => ya (build rfl (bu_140_)) <| sb 104 agg_140 rfl rfl rfl <| ak rfl k14 <| re <| tr <| QK.nilOwn 115 5 (Lay.sz (BitVec 8)) none ?_
    obtain rfl := si h
    exact rt [115] (ResIs.cellTmpM (k := 104) rfl agg_140 rfl rfl rfl rfl) (Ext.refl _ _) ⟨none, 0, 0, rfl, rfl⟩
   refine sk <| sk <| sk <| sk <| sk <| pt rfl rfl <| dz k6 <| cdT rfl <| sr fun _ k16 => ya (build rfl (bu_140_)) <| sb 104 agg_140 rfl rfl rfl <| ak rfl k16 <| re <| tr <| QK.nilOwn 117 5 (Lay.sz (BitVec 8)) none ?_
   obtain rfl := si h
   exact rt [117] (ResIs.cellTmpM (k := 104) rfl agg_140 rfl rfl rfl rfl) (Ext.refl _ _) ⟨none, 0, 0, rfl, rfl⟩
  refine sk <| sk <| sk <| pt rfl rfl <| mv rfl <| sk <| sk <| sk <| sk <| sk <| pt rfl rfl <| dz k6 <| cdT rfl <| sr fun _ k18 => ya (build rfl (bu_140_)) <| sb 104 agg_140 rfl rfl rfl <| ak rfl k18 <| re <| tr <| QK.nilOwn 119 5 (Lay.sz (BitVec 8)) none ?_
  obtain rfl := si h
  exact rt [119] (ResIs.cellTmpM (k := 104) rfl agg_140 rfl rfl rfl rfl) (Ext.refl _ _) ⟨none, 0, 0, rfl, rfl⟩
 rintro _ h
 unfold m_r03_Mul_j0 at h
 refine sr fun _ k20 => ya (fieldAddr Tryz.underlying140 rfl nz_3 rfl rfl) <| ya (loadB (k := 102) scal_3 rfl rfl rfl) <| ya (fieldAddr Tryz.underlying140 rfl nz_3 rfl rfl) <| ya (loadB (k := 103) scal_3 rfl rfl rfl) <| ya (build rfl (bu_140_0_1 u0 v1)) <| al 121 zr_140 fun g21 => sb 121 agg_140 rfl rfl rfl <| dz k20 <| ct (σ := (Option Addr) × Nat × Nat × By) (fun ⟨A24, n25, c26, x27⟩ => [(4, pv g4), (6, pv g21)]) (fun ⟨A24, n25, c26, x27⟩ => [(0, .mem M0), (104, .blk g4 140 [I64 (0 : Int), I64 (0 : Int), .slice none 0 0]), (121, .blk g21 140 [I64 u0, I64 v1, .slice A24 n25 c26]), (123, .own 5 (Lay.sz (BitVec 8)) A24 n25 c26 (cel x27))]) (fun ⟨A24, n25, c26, x27⟩ => m_r03_Mul_j1 u0 v1 x27 = some res) (fun _ k28 => ?_) ?_
 ·refine sr fun _ k29 => ak rfl k29 <| bl <| WC.nilOwn 131 5 (Lay.sz (BitVec 8)) none <| lp (τ := (Option Addr) × Nat × Nat × By × Int) (fun ⟨A32, n33, c34, x35, x36⟩ => [(2, pv g2), (3, pv g3), (4, pv g4), (6, pv g21), (7, I64 x36)]) (fun ⟨A32, n33, c34, x35, x36⟩ => [(0, .mem M0), (102, .blk g2 140 [I64 u0, I64 u1, .slice A00_2 n00_2 c00_2]), (103, .blk g3 140 [I64 v0, I64 v1, .slice A01_2 n01_2 c01_2]), (104, .blk g4 140 [I64 (0 : Int), I64 (0 : Int), .slice none 0 0]), (121, .blk g21 140 [I64 u0, I64 v1, .slice A32 n33 c34]), (131, .own 5 (Lay.sz (BitVec 8)) A32 n33 c34 (cel x35))]) (fun q37 ⟨A32, n33, c34, x35, x36⟩ => m_r03_Mul_l2 u0 u1 u2 v1 v2 q37 x35 x36 = some res) ⟨none, 0, 0, ([] : By), (0 : Int)⟩ ?_ (by simp [m_r03_Mul_l2]) ?_
  ·exact h
  rintro q37 ⟨A32, n33, c34, x35, x36⟩ h _ k38
  unfold m_r03_Mul_l2 at h
  refine sq fun _ k39 => sr fun _ k40 => mv rfl <| ya (fieldAddr Tryz.underlying140 rfl nz_3 rfl rfl) <| ya (loadB (k := 102) scal_3 rfl rfl rfl) <| ya (lss rfl rfl) <| dz k40 <| cI h rfl (fun hc41 h => ?_) fun hc41 h => ?_
  ·refine ss <| k39 _ _ <| ct (σ := (Option Addr) × Nat × Nat × By) (fun ⟨A42, n43, c44, x45⟩ => [(2, pv g2), (3, pv g3), (4, pv g4), (6, pv g21), (7, I64 x36)]) (fun ⟨A42, n43, c44, x45⟩ => [(0, .mem M0), (102, .blk g2 140 [I64 u0, I64 u1, .slice A00_2 n00_2 c00_2]), (103, .blk g3 140 [I64 v0, I64 v1, .slice A01_2 n01_2 c01_2]), (104, .blk g4 140 [I64 (0 : Int), I64 (0 : Int), .slice none 0 0]), (121, .blk g21 140 [I64 u0, I64 v1, .slice A42 n43 c44]), (131, .own 5 (Lay.sz (BitVec 8)) A42 n43 c44 (cel x45))]) (fun ⟨A42, n43, c44, x45⟩ => m_r03_Mul_j3 x36 (m_r03_Mul_l2 u0 u1 u2 v1 v2 q37) x45 = some res) (fun _ k46 => ?_) ?_
   ·refine bl <| sr fun _ k47 => ak rfl k47 <| bl <| lp (τ := (Option Addr) × Nat × Nat × By × Int) (fun ⟨A48, n49, c50, x51, x52⟩ => [(2, pv g2), (3, pv g3), (4, pv g4), (6, pv g21), (7, I64 x36), (8, I64 x52)]) (fun ⟨A48, n49, c50, x51, x52⟩ => [(0, .mem M0), (102, .blk g2 140 [I64 u0, I64 u1, .slice A00_2 n00_2 c00_2]), (103, .blk g3 140 [I64 v0, I64 v1, .slice A01_2 n01_2 c01_2]), (104, .blk g4 140 [I64 (0 : Int), I64 (0 : Int), .slice none 0 0]), (121, .blk g21 140 [I64 u0, I64 v1, .slice A48 n49 c50]), (131, .own 5 (Lay.sz (BitVec 8)) A48 n49 c50 (cel x51))]) (fun q53 ⟨A48, n49, c50, x51, x52⟩ => m_r03_Mul_l4 u1 u2 v1 v2 x36 (m_r03_Mul_l2 u0 u1 u2 v1 v2 q37) q53 x51 x52 = some res) ⟨A32, n33, c34, x35, (0 : Int)⟩ ?_ (by simp [m_r03_Mul_l4]) ?_
    ·exact h
    rintro q53 ⟨A48, n49, c50, x51, x52⟩ h _ k54
    unfold m_r03_Mul_l4 at h
    refine sq fun _ k55 => sr fun _ k56 => mv rfl <| ya (fieldAddr Tryz.underlying140 rfl nz_3 rfl rfl) <| ya (loadB (k := 103) scal_3 rfl rfl rfl) <| ya (lss rfl rfl) <| dz k56 <| cI h rfl (fun hc57 h => ?_) fun hc57 h => ?_
    ·refine ss <| k55 _ _ <| ct (σ := (Option Addr) × Nat × Nat × By) (fun ⟨A58, n59, c60, x61⟩ => [(2, pv g2), (3, pv g3), (4, pv g4), (6, pv g21), (7, I64 x36), (8, I64 x52)]) (fun ⟨A58, n59, c60, x61⟩ => [(0, .mem M0), (102, .blk g2 140 [I64 u0, I64 u1, .slice A00_2 n00_2 c00_2]), (103, .blk g3 140 [I64 v0, I64 v1, .slice A01_2 n01_2 c01_2]), (104, .blk g4 140 [I64 (0 : Int), I64 (0 : Int), .slice none 0 0]), (121, .blk g21 140 [I64 u0, I64 v1, .slice A58 n59 c60]), (131, .own 5 (Lay.sz (BitVec 8)) A58 n59 c60 (cel x61))]) (fun ⟨A58, n59, c60, x61⟩ => m_r03_Mul_j5 x52 (m_r03_Mul_l4 u1 u2 v1 v2 x36 (m_r03_Mul_l2 u0 u1 u2 v1 v2 q37) q53) x61 = some res) (fun _ k62 => ?_) ?_
     ·refine bl <| sr fun _ k63 => ya (Yld.assign (v := U8 0#8) rfl) <| dz k63 <| ct (σ := (BitVec 8)) (fun x64 => [(2, pv g2), (3, pv g3), (4, pv g4), (6, pv g21), (7, I64 x36), (8, I64 x52), (9, U8 x64)]) (fun x64 => [(0, .mem M0), (102, .blk g2 140 [I64 u0, I64 u1, .slice A00_2 n00_2 c00_2]), (103, .blk g3 140 [I64 v0, I64 v1, .slice A01_2 n01_2 c01_2]), (104, .blk g4 140 [I64 (0 : Int), I64 (0 : Int), .slice none 0 0]), (121, .blk g21 140 [I64 u0, I64 v1, .slice A48 n49 c50]), (131, .own 5 (Lay.sz (BitVec 8)) A48 n49 c50 (cel x51))]) (fun x64 => m_r03_Mul_j6 x51 x52 (m_r03_Mul_l4 u1 u2 v1 v2 x36 (m_r03_Mul_l2 u0 u1 u2 v1 v2 q37) q53) x64 = some res) (fun _ k65 => ?_) ?_
      ·refine sr fun _ k66 => ak rfl k66 <| bl <| lp (τ := (BitVec 8) × Int) (fun ⟨x67, x68⟩ => [(2, pv g2), (3, pv g3), (4, pv g4), (6, pv g21), (7, I64 x36), (8, I64 x52), (9, U8 x67), (10, I64 x68)]) (fun ⟨x67, x68⟩ => [(0, .mem M0), (102, .blk g2 140 [I64 u0, I64 u1, .slice A00_2 n00_2 c00_2]), (103, .blk g3 140 [I64 v0, I64 v1, .slice A01_2 n01_2 c01_2]), (104, .blk g4 140 [I64 (0 : Int), I64 (0 : Int), .slice none 0 0]), (121, .blk g21 140 [I64 u0, I64 v1, .slice A48 n49 c50]), (131, .own 5 (Lay.sz (BitVec 8)) A48 n49 c50 (cel x51))]) (fun q69 ⟨x67, x68⟩ => m_r03_Mul_l7 u1 u2 v1 v2 x36 x51 x52 (m_r03_Mul_l4 u1 u2 v1 v2 x36 (m_r03_Mul_l2 u0 u1 u2 v1 v2 q37) q53) q69 x67 x68 = some res) ⟨0#8, (0 : Int)⟩ ?_ (by simp [m_r03_Mul_l7]) ?_
       ·exact h
       rintro q69 ⟨x67, x68⟩ h _ k70
       unfold m_r03_Mul_l7 at h
       refine sq fun _ k71 => sr fun _ k72 => mv rfl <| ya (fieldAddr Tryz.underlying140 rfl nz_3 rfl rfl) <| ya (loadB (k := 102) scal_3 rfl rfl rfl) <| ya (lss rfl rfl) <| dz k72 <| cI h rfl (fun hc73 h => ?_) fun hc73 h => ?_
       ·refine ss <| k71 _ _ <| sq fun _ k74 => bl <| rd [(0, _), (102, _), (103, _), (104, _), (121, _), (131, _)] mixed fun _ k75 => ?_
        obtain ⟨x76, hx76, h⟩ := bnd h
        obtain ⟨x77, hx77, h⟩ := bnd h
        obtain ⟨x78, hx78, h⟩ := bnd h
        obtain ⟨x79, hx79, h⟩ := bnd h
        obtain ⟨x80, hx80, h⟩ := bnd h
        obtain ⟨x81, hx81, h⟩ := bnd h
        obtain ⟨x82, hx82, h⟩ := bnd h
        refine dm 0 rfl rfl <| du 1 rfl (fieldAddr Tryz.underlying140 rfl nz_22 rfl rfl) <| du 2 rfl (loadB (k := 102) scal_22 rfl rfl rfl) <| dm 3 rfl rfl <| du 4 rfl (fieldAddr Tryz.underlying140 rfl nz_3 rfl rfl) <| du 5 rfl (loadB (k := 102) scal_3 rfl rfl rfl) <| du 6 rfl (mulC rfl rfl hx76) <| dm 7 rfl rfl <| du 8 rfl (addC rfl rfl hx77) <| du 9 rfl (idxC (xs := u2) sty_22 rfl rfl (mM rfl hf00_2) hx78) <| du 10 rfl (loadC0 (xs := u2) scal_5 rfl (mM rfl hf00_2) hx78 rfl) <| du 11 rfl (fieldAddr Tryz.underlying140 rfl nz_22 rfl rfl) <| du 12 rfl (loadB (k := 103) scal_22 rfl rfl rfl) <| dm 13 rfl rfl <| du 14 rfl (fieldAddr Tryz.underlying140 rfl nz_3 rfl rfl) <| du 15 rfl (loadB (k := 103) scal_3 rfl rfl rfl) <| du 16 rfl (mulC rfl rfl hx79) <| dm 17 rfl rfl <| du 18 rfl (addC rfl rfl hx80) <| du 19 rfl (idxC (xs := v2) sty_22 rfl rfl (mM rfl hf01_2) hx81) <| du 20 rfl (loadC0 (xs := v2) scal_5 rfl (mM rfl hf01_2) hx81 rfl) <| on 21 <| d0 rfl Tryz.func144 rfl (fun w hb hh => w_r02_Mul (Mem.snap w) x78 x81 hx82) <| du 22 rfl (xor_u8 (a := x67) (b := x82) rfl rfl) <| du 23 rfl (Yld.assign rfl) <| dd <| k75 _ _ <| bn <| tn <| k74 _ _ <| rg fun _ k84 => bd h fun x85 hx85 h => mv rfl <| ya (addC rfl rfl hx85) <| ak rfl k84 <| tn <| kw (k70 ⟨x67 ^^^ x82, x85⟩ h)
       exact xi <| te <| te <| bx <| tn <| kw (k65 x67 h)
      rintro x64 h
      unfold m_r03_Mul_j6 at h
      refine rg fun _ k86 => bd h fun x88 hx88 h => ya (fieldAddr Tryz.underlying140 rfl nz_22 rfl rfl) <| ya (loadB (k := 121) scal_22 rfl rfl rfl) <| mv rfl <| WL.eff (by decide) (Eff.buildC 187 ([x64] : By) sty_22 rfl rfl rfl rfl rfl (by decide)) ?_
      rintro _ _ ⟨g87, rfl, rfl⟩
      exact ap 131 (xs := x51) (ys := ([x64] : By)) sty_22 rfl rfl rfl (rO 187 rfl) hx88 fun A89 c90 => ya (fieldAddr Tryz.underlying140 rfl nz_22 rfl rfl) <| WL.eff0 (Eff0.storeB 121 siz_22 rfl rfl rfl rfl (nle rfl)) <| dz k86 <| bn <| tn <| kw (k62 ⟨A89, x88.length, c90, x88⟩ h)
     rintro ⟨A58, n59, c60, x61⟩ h
     unfold m_r03_Mul_j5 at h
     refine rg fun _ k91 => bd h fun x92 hx92 h => mv rfl <| ya (addC rfl rfl hx92) <| ak rfl k91 <| tn <| kw (k54 ⟨A58, n59, c60, x61, x92⟩ h)
    exact xi <| te <| te <| bx <| bn <| tn <| kw (k46 ⟨A48, n49, c50, x51⟩ h)
   rintro ⟨A42, n43, c44, x45⟩ h
   unfold m_r03_Mul_j3 at h
   refine rg fun _ k93 => bd h fun x94 hx94 h => mv rfl <| ya (addC rfl rfl hx94) <| ak rfl k93 <| tn <| kw (k38 ⟨A42, n43, c44, x45, x94⟩ h)
  exact xi <| te <| te <| bx <| tn <| KK.move 131 123 rfl rfl <| kw (k28 ⟨A32, n33, c34, x35⟩ h)
 rintro ⟨A24, n25, c26, x27⟩ h
 unfold m_r03_Mul_j1 at h
 refine sr fun _ k95 => ya (loadBM (k := 121) agg_140 rfl rfl rfl) <| sb 104 agg_140 rfl rfl rfl <| ak rfl k95 <| re ?_
 obtain rfl := si h
 exact rt [123] (ResIs.cellTmpM (k := 104) rfl agg_140 rfl rfl rfl rfl) (Ext.refl _ _) ⟨A24, n25, c26, rfl, rfl⟩
theorem w_r03_Pick (M0 : Mem) (u0 u1 : Int) (A00_2 : Option Addr) (n00_2 c00_2 : Nat) (u2 : By) (hf00_2 : SlT M0 A00_2 n00_2 c00_2 u2) (A01 : Option Addr) (n01 c01 : Nat) (x01 : List Int) (hf01 : SlT M0 A01 n01 c01 x01) {res : Int × Int × By × Int} (h : m_r03_Pick u0 u1 u2 x01 = some res) :
  Fn Tryz.prog 88 #[.agg ([I64 u0, I64 u1, .slice A00_2 n00_2 c00_2] : List Value).toArray, .slice A01 n01 c01] M0 fun r M' es => ∃ (A1 : Option Addr) (n1 c1 : Nat), r = .tuple #[.agg ([I64 res.1, I64 res.2.1, .slice A1 n1 c1] : List Value).toArray, I64 res.2.2.2] /\ es = [.own 5 (Lay.sz (BitVec 8)) A1 n1 c1 (cel res.2.2.1)] := by
 refine Fn.intro (N := 69) Tryz.func88 rfl rfl (nle rfl) fun w0 => ?_
 unfold m_r03_Pick at h
 refine sr fun _ k1 => bb 102 [I64 u0, I64 u1, .slice A00_2 n00_2 c00_2] rfl fun g2 => al 103 zr_140 fun g3 => ak rfl k1 <| ct (σ := Unit) (fun _ => [(1, .slice A01 n01 c01), (2, pv g2), (4, pv g3)]) (fun _ => [(0, .mem M0), (102, .blk g2 140 [I64 u0, I64 u1, .slice A00_2 n00_2 c00_2]), (103, .blk g3 140 [I64 (0 : Int), I64 (0 : Int), .slice none 0 0])]) (fun _ => m_r03_Pick_j0 u0 u1 u2 x01 = some res) (fun _ k4 => ?_) ?_
 ·refine sr fun _ k5 => bd h fun x6 hx6 h => ya (loadBM (k := 102) agg_140 rfl rfl rfl) <| c0 Tryz.func115 rfl (fun w hb hh => w_r03_Valid (Mem.snap w) u0 u1 A00_2 n00_2 c00_2 _ (sM rfl hf00_2 w hb hh) hx6) <| ya (notB rfl) <| mv rfl <| spn h not_f (fun q => not_t (Bool.eq_false_iff.2 q)) (fun hc8 h => ?_) fun hc8 h => ?_
  ·obtain ⟨x9, hx9, h⟩ := bnd h
   refine mvg rfl <| yg (lenC (xs := x01) und_45 rfl (mM rfl hf01)) <| yg (fieldAddr Tryz.underlying140 rfl nz_3 rfl rfl) <| yg (loadB (k := 102) scal_3 rfl rfl rfl) <| c0g Tryz.func116 rfl (fun w hb hh => w_r03_size (Mem.snap w) (x01.length : Int) u1 hx9) <| yg (notB rfl) <| pf rfl rfl <| dz k5 <| cnn h rfl not_f (fun q => not_t (Bool.eq_false_iff.2 q)) (fun hc11 h => ?_) fun hc11 h => ?_
   ·exact WC.skip <| tn <| kw (k4 () h)
   refine sr fun _ k12 => ya (build rfl (bu_140_)) <| sb 103 agg_140 rfl rfl rfl <| ak rfl k12 <| re <| tr <| QK.nilOwn 113 5 (Lay.sz (BitVec 8)) none ?_
   obtain rfl := si h
   exact rt [113] (ResIs.cellTmpM (k := 103) rfl agg_140 rfl rfl rfl rfl) (Ext.refl _ _) ⟨none, 0, 0, rfl, rfl⟩
  refine sk <| sk <| sk <| sk <| sk <| sk <| pt rfl rfl <| dz k5 <| cdT rfl <| sr fun _ k14 => ya (build rfl (bu_140_)) <| sb 103 agg_140 rfl rfl rfl <| ak rfl k14 <| re <| tr <| QK.nilOwn 115 5 (Lay.sz (BitVec 8)) none ?_
  obtain rfl := si h
  exact rt [115] (ResIs.cellTmpM (k := 103) rfl agg_140 rfl rfl rfl rfl) (Ext.refl _ _) ⟨none, 0, 0, rfl, rfl⟩
 rintro _ h
 unfold m_r03_Pick_j0 at h
 refine sr fun _ k16 => mv rfl <| ya (lenC (xs := x01) und_45 rfl (mM rfl hf01)) <| ya (fieldAddr Tryz.underlying140 rfl nz_3 rfl rfl) <| ya (loadB (k := 102) scal_3 rfl rfl rfl) <| ya (build rfl (bu_140_0_1 (x01.length : Int) u1)) <| al 117 zr_140 fun g17 => sb 117 agg_140 rfl rfl rfl <| dz k16 <| ct (σ := (Option Addr) × Nat × Nat × By) (fun ⟨A20, n21, c22, x23⟩ => [(4, pv g3), (6, pv g17)]) (fun ⟨A20, n21, c22, x23⟩ => [(0, .mem M0), (103, .blk g3 140 [I64 (0 : Int), I64 (0 : Int), .slice none 0 0]), (117, .blk g17 140 [I64 (x01.length : Int), I64 u1, .slice A20 n21 c22]), (119, .own 5 (Lay.sz (BitVec 8)) A20 n21 c22 (cel x23))]) (fun ⟨A20, n21, c22, x23⟩ => m_r03_Pick_j1 u1 x01 x23 = some res) (fun _ k24 => ?_) ?_
 ·refine sr fun _ k25 => ak rfl k25 <| bl <| WC.nilOwn 127 5 (Lay.sz (BitVec 8)) none <| lp (τ := (Option Addr) × Nat × Nat × By × Int) (fun ⟨A28, n29, c30, x31, x32⟩ => [(1, .slice A01 n01 c01), (2, pv g2), (4, pv g3), (6, pv g17), (7, I64 x32)]) (fun ⟨A28, n29, c30, x31, x32⟩ => [(0, .mem M0), (102, .blk g2 140 [I64 u0, I64 u1, .slice A00_2 n00_2 c00_2]), (103, .blk g3 140 [I64 (0 : Int), I64 (0 : Int), .slice none 0 0]), (117, .blk g17 140 [I64 (x01.length : Int), I64 u1, .slice A28 n29 c30]), (127, .own 5 (Lay.sz (BitVec 8)) A28 n29 c30 (cel x31))]) (fun q33 ⟨A28, n29, c30, x31, x32⟩ => m_r03_Pick_l2 u0 u1 u2 x01 q33 x31 x32 = some res) ⟨none, 0, 0, ([] : By), (0 : Int)⟩ ?_ (by simp [m_r03_Pick_l2]) ?_
  ·exact h
  rintro q33 ⟨A28, n29, c30, x31, x32⟩ h _ k34
  unfold m_r03_Pick_l2 at h
  refine sq fun _ k35 => sr fun _ k36 => mv rfl <| mv rfl <| ya (lenC (xs := x01) und_45 rfl (mM rfl hf01)) <| ya (lss rfl rfl) <| dz k36 <| cI h rfl (fun hc37 h => ?_) fun hc37 h => ?_
  ·refine ss <| k35 _ _ <| sq fun _ k38 => bl <| ct (σ := Unit) (fun _ => [(1, .slice A01 n01 c01), (2, pv g2), (4, pv g3), (6, pv g17), (7, I64 x32)]) (fun _ => [(0, .mem M0), (102, .blk g2 140 [I64 u0, I64 u1, .slice A00_2 n00_2 c00_2]), (103, .blk g3 140 [I64 (0 : Int), I64 (0 : Int), .slice none 0 0]), (117, .blk g17 140 [I64 (x01.length : Int), I64 u1, .slice A28 n29 c30]), (127, .own 5 (Lay.sz (BitVec 8)) A28 n29 c30 (cel x31))]) (fun _ => m_r03_Pick_j3 u1 u2 x01 x31 x32 (m_r03_Pick_l2 u0 u1 u2 x01 q33) = some res) (fun _ k39 => ?_) ?_
   ·refine sd [(0, _), (102, _), (103, _), (117, _), (127, _)] mixed fun _ k40 => ?_
    obtain ⟨x41, hx41, h⟩ := bnd h
    by_cases hc42 : x41 < (0 : Int)
    ·replace h := of_t hc42 h
     refine dm 0 rfl rfl <| dm 1 rfl rfl <| du 2 rfl (idxC (xs := x01) sty_45 rfl rfl (mM rfl hf01) hx41) <| du 3 rfl (loadC0 (xs := x01) scal_3 rfl (mM rfl hf01) hx41 rfl) <| du 4 rfl (lss rfl rfl) <| dm 5 rfl rfl <| WD.new (v' := .bool true) (congrArg Value.bool (decide_eq_true hc42)) <| dw 6 rfl <| dw 7 rfl <| dw 8 rfl <| dw 9 rfl <| dw 10 rfl <| dw 11 rfl <| dw 12 rfl <| du 13 rfl (pickT rfl rfl) <| dd <| k40 _ _ <| cdT rfl <| sr fun _ k43 => ya (build rfl (bu_140_)) <| sb 103 agg_140 rfl rfl rfl <| ak rfl k43 <| re <| tr <| br <| tr <| tr <| br <| tr <| QK.nilOwn 144 5 (Lay.sz (BitVec 8)) none ?_
     obtain rfl := si h
     exact rt [144] (ResIs.cellTmpM (k := 103) rfl agg_140 rfl rfl rfl rfl) (Ext.refl _ _) ⟨none, 0, 0, rfl, rfl⟩
    replace h := of_f hc42 h
    obtain ⟨x45, hx45, h⟩ := bnd h
    refine dm 0 rfl rfl <| dm 1 rfl rfl <| du 2 rfl (idxC (xs := x01) sty_45 rfl rfl (mM rfl hf01) hx41) <| du 3 rfl (loadC0 (xs := x01) scal_3 rfl (mM rfl hf01) hx41 rfl) <| du 4 rfl (lss rfl rfl) <| dm 5 rfl rfl <| WD.new (v' := .bool false) (congrArg Value.bool (decide_eq_false hc42)) <| dv 6 rfl (Yld.move rfl) <| dv 7 rfl (Yld.move rfl) <| dv 8 rfl (idxC (xs := x01) sty_45 rfl rfl (mM rfl hf01) hx45) <| dv 9 rfl (loadC0 (xs := x01) scal_3 rfl (mM rfl hf01) hx45 rfl) <| dv 10 rfl (fieldAddr Tryz.underlying140 rfl nz_3 rfl rfl) <| dv 11 rfl (loadB (k := 102) scal_3 rfl rfl rfl) <| dv 12 rfl (geq rfl rfl) <| du 13 rfl (pickF rfl rfl) <| dd <| k40 _ _ <| cI h rfl (fun hc46 h => ?_) fun hc46 h => ?_
    ·refine sr fun _ k47 => ya (build rfl (bu_140_)) <| sb 103 agg_140 rfl rfl rfl <| ak rfl k47 <| re <| tr <| br <| tr <| tr <| br <| tr <| QK.nilOwn 148 5 (Lay.sz (BitVec 8)) none ?_
     obtain rfl := si h
     exact rt [148] (ResIs.cellTmpM (k := 103) rfl agg_140 rfl rfl rfl rfl) (Ext.refl _ _) ⟨none, 0, 0, rfl, rfl⟩
    exact WC.skip <| tn <| kw (k39 () h)
   rintro _ h
   unfold m_r03_Pick_j3 at h
   refine rd [(0, _), (102, _), (103, _)] mixed fun _ k49 => ?_
   obtain ⟨x50, hx50, h⟩ := bnd h
   obtain ⟨x51, hx51, h⟩ := bnd h
   obtain ⟨x52, hx52, h⟩ := bnd h
   obtain ⟨x53, hx53, h⟩ := bnd h
   obtain ⟨x54, hx54, h⟩ := bnd h
   obtain ⟨x55, hx55, h⟩ := bnd h
   obtain ⟨x56, hx56, h⟩ := bnd h
   refine du 0 rfl (fieldAddr Tryz.underlying140 rfl nz_22 rfl rfl) <| du 2 rfl (fieldAddr Tryz.underlying140 rfl nz_22 rfl rfl) <| du 3 rfl (loadB (k := 102) scal_22 rfl rfl rfl) <| dm 4 rfl rfl <| dm 5 rfl rfl <| du 6 rfl (idxC (xs := x01) sty_45 rfl rfl (mM rfl hf01) hx50) <| du 7 rfl (loadC0 (xs := x01) scal_3 rfl (mM rfl hf01) hx50 rfl) <| du 8 rfl (fieldAddr Tryz.underlying140 rfl nz_3 rfl rfl) <| du 9 rfl (loadB (k := 102) scal_3 rfl rfl rfl) <| du 10 rfl (mulC rfl rfl hx51) <| dm 11 rfl rfl <| dm 12 rfl rfl <| du 13 rfl (idxC (xs := x01) sty_45 rfl rfl (mM rfl hf01) hx52) <| du 14 rfl (loadC0 (xs := x01) scal_3 rfl (mM rfl hf01) hx52 rfl) <| du 15 rfl (addC rfl rfl hx53) <| du 16 rfl (fieldAddr Tryz.underlying140 rfl nz_3 rfl rfl) <| du 17 rfl (loadB (k := 102) scal_3 rfl rfl rfl) <| du 18 rfl (mulC rfl rfl hx54) <| du 19 rfl (sliceLHC (xs := u2) sty_22 rfl rfl rfl (mM rfl hf00_2) hx55) <| on 1 <| dy rfl (loadB (k := 117) scal_22 rfl rfl rfl) <| on 20 <| WS.eff rfl (by decide) (Eff.appendC 127 (xs := x31) (ys := x55) sty_22 rfl rfl rfl (RdT.slc (mM rfl hf00_2) hx55) hx56) ?_
   rintro _ _ ⟨A57, c58, rfl, rfl⟩
   refine aq ?_
   refine du 21 rfl (fieldAddr Tryz.underlying140 rfl nz_22 rfl rfl) <| on 22 <| WS.eff0 rfl (Eff0.storeB 117 siz_22 rfl rfl rfl rfl (nle rfl)) (sc (sc (sc sn))) <| dd <| k49 _ _ <| bn <| tn <| k38 _ _ <| rg fun _ k59 => bd h fun x60 hx60 h => mv rfl <| ya (addC rfl rfl hx60) <| ak rfl k59 <| tn <| kw (k34 ⟨A57, x56.length, c58, x56, x60⟩ h)
  exact xi <| te <| te <| bx <| tn <| KK.move 127 119 rfl rfl <| kw (k24 ⟨A28, n29, c30, x31⟩ h)
 rintro ⟨A20, n21, c22, x23⟩ h
 unfold m_r03_Pick_j1 at h
 refine sr fun _ k61 => ya (loadBM (k := 117) agg_140 rfl rfl rfl) <| sb 103 agg_140 rfl rfl rfl <| ak rfl k61 <| re ?_
 obtain rfl := si h
 exact rt [119] (ResIs.cellTmpM (k := 103) rfl agg_140 rfl rfl rfl rfl) (Ext.refl _ _) ⟨A20, n21, c22, rfl, rfl⟩
theorem w_r03_add (A : Option Addr) (n c : Nat) (x0c : By) (x01 x02 x03 : Int) (x04 : BitVec 8) {res : By} (h : m_r03_add x0c x01 x02 x03 x04 = some res) :
  Mut Tryz.prog 120 #[.slice A n c, I64 x01, I64 x02, I64 x03, U8 x04] 5 (Lay.sz (BitVec 8)) A n c (cel x0c) fun r ds => r = .tuple #[] /\ ds = cel res := by
 refine Mut.intro (N := 36) Tryz.func120 rfl rfl (nle rfl) fun w0 e0 => ?_
 unfold m_r03_add at h
 refine sr fun _ k1 => ak rfl k1 <| bl <| lp (τ := By × Int × Int × (BitVec 8) × Int) (fun ⟨x2, x3, x4, x5, x6⟩ => [(0, .slice A n c), (1, I64 x01), (2, I64 x3), (3, I64 x4), (4, U8 x5), (10, I64 x6)]) (fun ⟨x2, x3, x4, x5, x6⟩ => [(1, e0), (2, .own 5 (Lay.sz (BitVec 8)) A n c (cel x2))]) (fun q7 ⟨x2, x3, x4, x5, x6⟩ => m_r03_add_l0 x01 q7 x2 x3 x4 x5 x6 = some res) ⟨x0c, x02, x03, x04, (0 : Int)⟩ ?_ (by simp [m_r03_add_l0]) ?_
 ·exact h
 rintro q7 ⟨x2, x3, x4, x5, x6⟩ h _ k8
 unfold m_r03_add_l0 at h
 refine sq fun _ k9 => sr fun _ k10 => mv rfl <| mv rfl <| ya (lss rfl rfl) <| dz k10 <| cI h rfl (fun hc11 h => ?_) fun hc11 h => ?_
 ·refine ss <| k9 _ _ <| sq fun _ k12 => bl <| rd [(1, _)] mixed fun _ k13 => ?_
  obtain ⟨x14, hx14, h⟩ := bnd h
  obtain ⟨x15, hx15, h⟩ := bnd h
  obtain ⟨x16, hx16, h⟩ := bnd h
  obtain ⟨x17, hx17, h⟩ := bnd h
  obtain ⟨x18, hx18, h⟩ := bnd h
  obtain ⟨x19, hx19, h⟩ := bnd h
  obtain ⟨x20, hx20, h⟩ := bnd h
  obtain ⟨x22, hx22, h⟩ := bnd h
  obtain ⟨x23, hx23, h⟩ := bnd h
  refine dm 0 rfl rfl <| dm 1 rfl rfl <| dm 2 rfl rfl <| du 3 rfl (mulC rfl rfl hx14) <| dm 4 rfl rfl <| du 5 rfl (addC rfl rfl hx15) <| dm 8 rfl rfl <| dm 9 rfl rfl <| dm 10 rfl rfl <| dm 11 rfl rfl <| du 12 rfl (mulC rfl rfl hx17) <| dm 13 rfl rfl <| du 14 rfl (addC rfl rfl hx18) <| WD.two 6 15 (by kernel_rfl) ?_ ?_
  ·refine dy rfl (idxC (xs := x2) sty_22 rfl rfl (rO 2 rfl) hx16) <| WD.two 7 15 (by kernel_rfl) ?_ ?_
   ·refine dy rfl (loadC0 (xs := x2) scal_5 rfl (rO 2 rfl) hx16 rfl) <| on 15 <| dy rfl (idxC (xs := x2) sty_22 rfl rfl (rO 2 rfl) hx19) <| on 16 <| dy rfl (loadC0 (xs := x2) scal_5 rfl (rO 2 rfl) hx19 rfl) <| on 17 <| d0 rfl Tryz.func144 rfl (fun w hb hh => w_r02_Mul (Mem.snap w) x5 x19 hx20) <| du 18 rfl (xor_u8 (a := x16) (b := x20) rfl rfl) <| on 19 <| dy rfl (idxC (xs := x2) sty_22 rfl rfl (rO 2 rfl) hx22) <| on 20 <| WS.eff0 rfl (Eff0.storeC1 2 (xs := x2) (a' := x16 ^^^ x20) siz_5 rfl rfl rfl rfl rfl rfl hx23) (sc sn) <| dd <| k13 _ _ <| bn <| tn <| k12 _ _ <| rg fun _ k24 => bd h fun x25 hx25 h => mv rfl <| ya (addC rfl rfl hx25) <| ak rfl k24 <| tn <| kw (k8 ⟨x23, x3, x4, x5, x25⟩ h)
   skip
   refine dy rfl (idxC (xs := x2) sty_22 rfl rfl (rO 2 rfl) hx19) <| WD.two 7 16 (by kernel_rfl) ?_ ?_
   ·refine dy rfl (loadC0 (xs := x2) scal_5 rfl (rO 2 rfl) hx16 rfl) <| on 16 <| dy rfl (loadC0 (xs := x2) scal_5 rfl (rO 2 rfl) hx19 rfl) <| on 17 <| d0 rfl Tryz.func144 rfl (fun w hb hh => w_r02_Mul (Mem.snap w) x5 x19 hx20) <| du 18 rfl (xor_u8 (a := x16) (b := x20) rfl rfl) <| on 19 <| dy rfl (idxC (xs := x2) sty_22 rfl rfl (rO 2 rfl) hx22) <| on 20 <| WS.eff0 rfl (Eff0.storeC1 2 (xs := x2) (a' := x16 ^^^ x20) siz_5 rfl rfl rfl rfl rfl rfl hx23) (sc sn) <| dd <| k13 _ _ <| bn <| tn <| k12 _ _ <| rg fun _ k26 => bd h fun x27 hx27 h => mv rfl <| ya (addC rfl rfl hx27) <| ak rfl k26 <| tn <| kw (k8 ⟨x23, x3, x4, x5, x27⟩ h)
   skip
   refine dy rfl (loadC0 (xs := x2) scal_5 rfl (rO 2 rfl) hx19 rfl) <| WD.two 7 17 (by kernel_rfl) ?_ ?_
   ·refine dy rfl (loadC0 (xs := x2) scal_5 rfl (rO 2 rfl) hx16 rfl) <| on 17 <| d0 rfl Tryz.func144 rfl (fun w hb hh => w_r02_Mul (Mem.snap w) x5 x19 hx20) <| du 18 rfl (xor_u8 (a := x16) (b := x20) rfl rfl) <| on 19 <| dy rfl (idxC (xs := x2) sty_22 rfl rfl (rO 2 rfl) hx22) <| on 20 <| WS.eff0 rfl (Eff0.storeC1 2 (xs := x2) (a' := x16 ^^^ x20) siz_5 rfl rfl rfl rfl rfl rfl hx23) (sc sn) <| dd <| k13 _ _ <| bn <| tn <| k12 _ _ <| rg fun _ k28 => bd h fun x29 hx29 h => mv rfl <| ya (addC rfl rfl hx29) <| ak rfl k28 <| tn <| kw (k8 ⟨x23, x3, x4, x5, x29⟩ h)
   skip
   refine d0 rfl Tryz.func144 rfl (fun w hb hh => w_r02_Mul (Mem.snap w) x5 x19 hx20) <| on 7 <| dy rfl (loadC0 (xs := x2) scal_5 rfl (rO 2 rfl) hx16 rfl) <| du 18 rfl (xor_u8 (a := x16) (b := x20) rfl rfl) <| on 19 <| dy rfl (idxC (xs := x2) sty_22 rfl rfl (rO 2 rfl) hx22) <| on 20 <| WS.eff0 rfl (Eff0.storeC1 2 (xs := x2) (a' := x16 ^^^ x20) siz_5 rfl rfl rfl rfl rfl rfl hx23) (sc sn) <| dd <| k13 _ _ <| bn <| tn <| k12 _ _ <| rg fun _ k30 => bd h fun x31 hx31 h => mv rfl <| ya (addC rfl rfl hx31) <| ak rfl k30 <| tn <| kw (k8 ⟨x23, x3, x4, x5, x31⟩ h)
  skip
  refine dy rfl (idxC (xs := x2) sty_22 rfl rfl (rO 2 rfl) hx19) <| WD.two 6 16 (by kernel_rfl) ?_ ?_
  ·refine dy rfl (idxC (xs := x2) sty_22 rfl rfl (rO 2 rfl) hx16) <| WD.two 7 16 (by kernel_rfl) ?_ ?_
   ·refine dy rfl (loadC0 (xs := x2) scal_5 rfl (rO 2 rfl) hx16 rfl) <| on 16 <| dy rfl (loadC0 (xs := x2) scal_5 rfl (rO 2 rfl) hx19 rfl) <| on 17 <| d0 rfl Tryz.func144 rfl (fun w hb hh => w_r02_Mul (Mem.snap w) x5 x19 hx20) <| du 18 rfl (xor_u8 (a := x16) (b := x20) rfl rfl) <| on 19 <| dy rfl (idxC (xs := x2) sty_22 rfl rfl (rO 2 rfl) hx22) <| on 20 <| WS.eff0 rfl (Eff0.storeC1 2 (xs := x2) (a' := x16 ^^^ x20) siz_5 rfl rfl rfl rfl rfl rfl hx23) (sc sn) <| dd <| k13 _ _ <| bn <| tn <| k12 _ _ <| rg fun _ k32 => bd h fun x33 hx33 h => mv rfl <| ya (addC rfl rfl hx33) <| ak rfl k32 <| tn <| kw (k8 ⟨x23, x3, x4, x5, x33⟩ h)
   skip
   refine dy rfl (loadC0 (xs := x2) scal_5 rfl (rO 2 rfl) hx19 rfl) <| WD.two 7 17 (by kernel_rfl) ?_ ?_
   ·refine dy rfl (loadC0 (xs := x2) scal_5 rfl (rO 2 rfl) hx16 rfl) <| on 17 <| d0 rfl Tryz.func144 rfl (fun w hb hh => w_r02_Mul (Mem.snap w) x5 x19 hx20) <| du 18 rfl (xor_u8 (a := x16) (b := x20) rfl rfl) <| on 19 <| dy rfl (idxC (xs := x2) sty_22 rfl rfl (rO 2 rfl) hx22) <| on 20 <| WS.eff0 rfl (Eff0.storeC1 2 (xs := x2) (a' := x16 ^^^ x20) siz_5 rfl rfl rfl rfl rfl rfl hx23) (sc sn) <| dd <| k13 _ _ <| bn <| tn <| k12 _ _ <| rg fun _ k34 => bd h fun x35 hx35 h => mv rfl <| ya (addC rfl rfl hx35) <| ak rfl k34 <| tn <| kw (k8 ⟨x23, x3, x4, x5, x35⟩ h)
   skip
   refine d0 rfl Tryz.func144 rfl (fun w hb hh => w_r02_Mul (Mem.snap w) x5 x19 hx20) <| on 7 <| dy rfl (loadC0 (xs := x2) scal_5 rfl (rO 2 rfl) hx16 rfl) <| du 18 rfl (xor_u8 (a := x16) (b := x20) rfl rfl) <| on 19 <| dy rfl (idxC (xs := x2) sty_22 rfl rfl (rO 2 rfl) hx22) <| on 20 <| WS.eff0 rfl (Eff0.storeC1 2 (xs := x2) (a' := x16 ^^^ x20) siz_5 rfl rfl rfl rfl rfl rfl hx23) (sc sn) <| dd <| k13 _ _ <| bn <| tn <| k12 _ _ <| rg fun _ k36 => bd h fun x37 hx37 h => mv rfl <| ya (addC rfl rfl hx37) <| ak rfl k36 <| tn <| kw (k8 ⟨x23, x3, x4, x5, x37⟩ h)
  skip
  refine dy rfl (loadC0 (xs := x2) scal_5 rfl (rO 2 rfl) hx19 rfl) <| WD.two 6 17 (by kernel_rfl) ?_ ?_
  ·refine dy rfl (idxC (xs := x2) sty_22 rfl rfl (rO 2 rfl) hx16) <| WD.two 7 17 (by kernel_rfl) ?_ ?_
   ·refine dy rfl (loadC0 (xs := x2) scal_5 rfl (rO 2 rfl) hx16 rfl) <| on 17 <| d0 rfl Tryz.func144 rfl (fun w hb hh => w_r02_Mul (Mem.snap w) x5 x19 hx20) <| du 18 rfl (xor_u8 (a := x16) (b := x20) rfl rfl) <| on 19 <| dy rfl (idxC (xs := x2) sty_22 rfl rfl (rO 2 rfl) hx22) <| on 20 <| WS.eff0 rfl (Eff0.storeC1 2 (xs := x2) (a' := x16 ^^^ x20) siz_5 rfl rfl rfl rfl rfl rfl hx23) (sc sn) <| dd <| k13 _ _ <| bn <| tn <| k12 _ _ <| rg fun _ k38 => bd h fun x39 hx39 h => mv rfl <| ya (addC rfl rfl hx39) <| ak rfl k38 <| tn <| kw (k8 ⟨x23, x3, x4, x5, x39⟩ h)
   skip
   refine d0 rfl Tryz.func144 rfl (fun w hb hh => w_r02_Mul (Mem.snap w) x5 x19 hx20) <| on 7 <| dy rfl (loadC0 (xs := x2) scal_5 rfl (rO 2 rfl) hx16 rfl) <| du 18 rfl (xor_u8 (a := x16) (b := x20) rfl rfl) <| on 19 <| dy rfl (idxC (xs := x2) sty_22 rfl rfl (rO 2 rfl) hx22) <| on 20 <| WS.eff0 rfl (Eff0.storeC1 2 (xs := x2) (a' := x16 ^^^ x20) siz_5 rfl rfl rfl rfl rfl rfl hx23) (sc sn) <| dd <| k13 _ _ <| bn <| tn <| k12 _ _ <| rg fun _ k40 => bd h fun x41 hx41 h => mv rfl <| ya (addC rfl rfl hx41) <| ak rfl k40 <| tn <| kw (k8 ⟨x23, x3, x4, x5, x41⟩ h)
  skip
  refine d0 rfl Tryz.func144 rfl (fun w hb hh => w_r02_Mul (Mem.snap w) x5 x19 hx20) <| on 6 <| dy rfl (idxC (xs := x2) sty_22 rfl rfl (rO 2 rfl) hx16) <| on 7 <| dy rfl (loadC0 (xs := x2) scal_5 rfl (rO 2 rfl) hx16 rfl) <| du 18 rfl (xor_u8 (a := x16) (b := x20) rfl rfl) <| on 19 <| dy rfl (idxC (xs := x2) sty_22 rfl rfl (rO 2 rfl) hx22) <| on 20 <| WS.eff0 rfl (Eff0.storeC1 2 (xs := x2) (a' := x16 ^^^ x20) siz_5 rfl rfl rfl rfl rfl rfl hx23) (sc sn) <| dd <| k13 _ _ <| bn <| tn <| k12 _ _ <| rg fun _ k42 => bd h fun x43 hx43 h => mv rfl <| ya (addC rfl rfl hx43) <| ak rfl k42 <| tn <| kw (k8 ⟨x23, x3, x4, x5, x43⟩ h)
 refine xi <| te <| te <| bx ?_
 obtain rfl := si h
 exact Ret.mut (ResIs.zero rfl) (sc (sc sn)) ⟨rfl, rfl⟩
theorem w_r03_Invert (M0 : Mem) (u0 u1 : Int) (A00_2 : Option Addr) (n00_2 c00_2 : Nat) (u2 : By) (hf00_2 : SlT M0 A00_2 n00_2 c00_2 u2) {res : Int × Int × By × Int} (h : m_r03_Invert u0 u1 u2 = some res) :
  Fn Tryz.prog 90 #[.agg ([I64 u0, I64 u1, .slice A00_2 n00_2 c00_2] : List Value).toArray] M0 fun r M' es => ∃ (A1 : Option Addr) (n1 c1 : Nat), r = .tuple #[.agg ([I64 res.1, I64 res.2.1, .slice A1 n1 c1] : List Value).toArray, I64 res.2.2.2] /\ es = [.own 5 (Lay.sz (BitVec 8)) A1 n1 c1 (cel res.2.2.1)] := by
 refine Fn.intro (N := 144) Tryz.func90 rfl rfl (nle rfl) fun w0 => ?_
 unfold m_r03_Invert at h
 refine sr fun _ k1 => bb 102 [I64 u0, I64 u1, .slice A00_2 n00_2 c00_2] rfl fun g2 => al 103 zr_140 fun g3 => ak rfl k1 <| ct (σ := Unit) (fun _ => [(1, pv g2), (2, pv g3)]) (fun _ => [(0, .mem M0), (102, .blk g2 140 [I64 u0, I64 u1, .slice A00_2 n00_2 c00_2]), (103, .blk g3 140 [I64 (0 : Int), I64 (0 : Int), .slice none 0 0])]) (fun _ => m_r03_Invert_j0 u0 u2 = some res) (fun _ k4 => ?_) ?_
 ·refine sr fun _ k5 => bd h fun x6 hx6 h => ya (loadBM (k := 102) agg_140 rfl rfl rfl) <| c0 Tryz.func115 rfl (fun w hb hh => w_r03_Valid (Mem.snap w) u0 u1 A00_2 n00_2 c00_2 _ (sM rfl hf00_2 w hb hh) hx6) <| ya (notB rfl) <| mv rfl <| spn h not_f (fun q => not_t (Bool.eq_false_iff.2 q)) (fun hc8 h => ?_) fun hc8 h => ?_
  ·refine yg (fieldAddr Tryz.underlying140 rfl nz_3 rfl rfl) <| yg (loadB (k := 102) scal_3 rfl rfl rfl) <| yg (fieldAddr Tryz.underlying140 rfl nz_3 rfl rfl) <| yg (loadB (k := 102) scal_3 rfl rfl rfl) <| yg (neqI rfl rfl) <| pf rfl rfl <| dz k5 <| cnn h rfl bne_eq_false_iff_eq.2 bne_iff_ne.2 (fun hc9 h => ?_) fun hc9 h => ?_
   ·exact WC.skip <| tn <| kw (k4 () h)
   refine sr fun _ k10 => ya (build rfl (bu_140_)) <| sb 103 agg_140 rfl rfl rfl <| ak rfl k10 <| re <| tr <| QK.nilOwn 111 5 (Lay.sz (BitVec 8)) none ?_
   obtain rfl := si h
   exact rt [111] (ResIs.cellTmpM (k := 103) rfl agg_140 rfl rfl rfl rfl) (Ext.refl _ _) ⟨none, 0, 0, rfl, rfl⟩
  refine sk <| sk <| sk <| sk <| sk <| pt rfl rfl <| dz k5 <| cdT rfl <| sr fun _ k12 => ya (build rfl (bu_140_)) <| sb 103 agg_140 rfl rfl rfl <| ak rfl k12 <| re <| tr <| QK.nilOwn 113 5 (Lay.sz (BitVec 8)) none ?_
  obtain rfl := si h
  exact rt [113] (ResIs.cellTmpM (k := 103) rfl agg_140 rfl rfl rfl rfl) (Ext.refl _ _) ⟨none, 0, 0, rfl, rfl⟩
 rintro _ h
 unfold m_r03_Invert_j0 at h
 refine sr fun _ k14 => ya (fieldAddr Tryz.underlying140 rfl nz_3 rfl rfl) <| ya (loadB (k := 102) scal_3 rfl rfl rfl) <| ak rfl k14 <| sr fun _ k15 => bd h fun x17 hx17 h => WL.eff (by decide) (Eff.buildC 116 ([] : By) sty_22 rfl rfl rfl rfl rfl (by decide)) ?_
 rintro _ _ ⟨g16, rfl, rfl⟩
 refine ya (fieldAddr Tryz.underlying140 rfl nz_22 rfl rfl) <| ya (loadB (k := 102) scal_22 rfl rfl rfl) <| ap 116 (xs := ([] : By)) (ys := u2) sty_22 rfl rfl rfl (mM rfl hf00_2) hx17 fun A18 c19 => ak rfl k15 <| sr fun _ k20 => bd h fun x21 hx21 h => mv rfl <| c1 125 Tryz.func119 rfl (fun w hb hh => w_r03_Identity (Mem.snap w) u0 hx21) fun A26 n27 c28 => mv rfl <| ya (extract rfl rfl) <| ya (extract rfl rfl) <| al 129 zr_140 fun g29 => sb 129 agg_140 rfl rfl rfl <| ak rfl k20 <| ct (σ := By) (fun x30 => [(2, pv g3), (6, pv g29)]) (fun x30 => [(0, .mem M0), (103, .blk g3 140 [I64 (0 : Int), I64 (0 : Int), .slice none 0 0]), (125, .own 5 (Lay.sz (BitVec 8)) A26 n27 c28 (cel x30)), (129, .blk g29 140 [I64 x21.1, I64 x21.2.1, .slice A26 n27 c28])]) (fun x30 => m_r03_Invert_j1 x21 x30 = some res) (fun _ k31 => ?_) ?_
 ·refine sr fun _ k32 => ak rfl k32 <| bl <| lp (τ := By × By × Int) (fun ⟨x33, x34, x35⟩ => [(2, pv g3), (4, I64 u0), (5, .slice A18 x17.length c19), (6, pv g29), (8, I64 x35)]) (fun ⟨x33, x34, x35⟩ => [(0, .mem M0), (103, .blk g3 140 [I64 (0 : Int), I64 (0 : Int), .slice none 0 0]), (116, .own 5 (Lay.sz (BitVec 8)) A18 x17.length c19 (cel x33)), (125, .own 5 (Lay.sz (BitVec 8)) A26 n27 c28 (cel x34)), (129, .blk g29 140 [I64 x21.1, I64 x21.2.1, .slice A26 n27 c28])]) (fun q36 ⟨x33, x34, x35⟩ => m_r03_Invert_l2 u0 x21 q36 x33 x34 x35 = some res) ⟨x17, x21.2.2.1, (0 : Int)⟩ ?_ (by simp [m_r03_Invert_l2]) ?_
  ·exact h
  rintro q36 ⟨x33, x34, x35⟩ h _ k37
  unfold m_r03_Invert_l2 at h
  refine sq fun _ k38 => sr fun _ k39 => mv rfl <| mv rfl <| ya (lss rfl rfl) <| dz k39 <| cI h rfl (fun hc40 h => ?_) fun hc40 h => ?_
  ·refine ss <| k38 _ _ <| ct (σ := By × By) (fun ⟨x41, x42⟩ => [(2, pv g3), (4, I64 u0), (5, .slice A18 x17.length c19), (6, pv g29), (8, I64 x35)]) (fun ⟨x41, x42⟩ => [(0, .mem M0), (103, .blk g3 140 [I64 (0 : Int), I64 (0 : Int), .slice none 0 0]), (116, .own 5 (Lay.sz (BitVec 8)) A18 x17.length c19 (cel x41)), (125, .own 5 (Lay.sz (BitVec 8)) A26 n27 c28 (cel x42)), (129, .blk g29 140 [I64 x21.1, I64 x21.2.1, .slice A26 n27 c28])]) (fun ⟨x41, x42⟩ => m_r03_Invert_j3 x35 (m_r03_Invert_l2 u0 x21 q36) x41 x42 = some res) (fun _ k43 => ?_) ?_
   ·refine bl <| ct (σ := By × By) (fun ⟨x44, x45⟩ => [(2, pv g3), (4, I64 u0), (5, .slice A18 x17.length c19), (6, pv g29), (8, I64 x35)]) (fun ⟨x44, x45⟩ => [(0, .mem M0), (103, .blk g3 140 [I64 (0 : Int), I64 (0 : Int), .slice none 0 0]), (116, .own 5 (Lay.sz (BitVec 8)) A18 x17.length c19 (cel x44)), (125, .own 5 (Lay.sz (BitVec 8)) A26 n27 c28 (cel x45)), (129, .blk g29 140 [I64 x21.1, I64 x21.2.1, .slice A26 n27 c28])]) (fun ⟨x44, x45⟩ => m_r03_Invert_j4 u0 x35 (m_r03_Invert_l2 u0 x21 q36) x44 x45 = some res) (fun _ k46 => ?_) ?_
    ·refine sr fun _ k47 => ?_
     obtain ⟨x48, hx48, h⟩ := bnd h
     obtain ⟨x49, hx49, h⟩ := bnd h
     obtain ⟨x50, hx50, h⟩ := bnd h
     refine mv rfl <| mv rfl <| mv rfl <| ya (mulC rfl rfl hx48) <| mv rfl <| ya (addC rfl rfl hx49) <| ya (idxC (xs := x33) sty_22 rfl rfl (rO 116 rfl) hx50) <| ya (loadC0 (xs := x33) scal_5 rfl (rO 116 rfl) hx50 rfl) <| ya (eql_u8 (a := x50) (b := 0#8) rfl rfl) <| dz k47 <| cnd h rfl beq_iff_eq.2 beq_eq_false_iff_ne.2 (fun hc51 h => ?_) fun hc51 h => ?_
     ·refine sr fun _ k52 => bd h fun x53 hx53 h => mv rfl <| ya (addC rfl rfl hx53) <| ak rfl k52 <| ct (σ := Int) (fun x54 => [(2, pv g3), (4, I64 u0), (5, .slice A18 x17.length c19), (6, pv g29), (8, I64 x35), (9, I64 x54)]) (fun x54 => [(0, .mem M0), (103, .blk g3 140 [I64 (0 : Int), I64 (0 : Int), .slice none 0 0]), (116, .own 5 (Lay.sz (BitVec 8)) A18 x17.length c19 (cel x33)), (125, .own 5 (Lay.sz (BitVec 8)) A26 n27 c28 (cel x34)), (129, .blk g29 140 [I64 x21.1, I64 x21.2.1, .slice A26 n27 c28])]) (fun x54 => m_r03_Invert_j5 u0 x33 x34 x35 (m_r03_Invert_l2 u0 x21 q36) x54 = some res) (fun _ k55 => ?_) ?_
      ·refine bl <| lp (τ := Int) (fun x56 => [(2, pv g3), (4, I64 u0), (5, .slice A18 x17.length c19), (6, pv g29), (8, I64 x35), (9, I64 x56)]) (fun x56 => [(0, .mem M0), (103, .blk g3 140 [I64 (0 : Int), I64 (0 : Int), .slice none 0 0]), (116, .own 5 (Lay.sz (BitVec 8)) A18 x17.length c19 (cel x33)), (125, .own 5 (Lay.sz (BitVec 8)) A26 n27 c28 (cel x34)), (129, .blk g29 140 [I64 x21.1, I64 x21.2.1, .slice A26 n27 c28])]) (fun q57 x56 => m_r03_Invert_l6 u0 x33 x34 x35 (m_r03_Invert_l2 u0 x21 q36) q57 x56 = some res) (x53) ?_ (by simp [m_r03_Invert_l6]) ?_
       ·exact h
       rintro q57 x56 h _ k58
       unfold m_r03_Invert_l6 at h
       refine sq fun _ k59 => sr fun _ k60 => mv rfl <| mv rfl <| ya (lss rfl rfl) <| mv rfl <| spl h decide_eq_true decide_eq_false (fun hc61 h => ?_) fun hc61 h => ?_
       ·obtain ⟨x62, hx62, h⟩ := bnd h
        obtain ⟨x63, hx63, h⟩ := bnd h
        obtain ⟨x64, hx64, h⟩ := bnd h
        refine mvg rfl <| mvg rfl <| mvg rfl <| yg (mulC rfl rfl hx62) <| mvg rfl <| yg (addC rfl rfl hx63) <| yg (idxC (xs := x33) sty_22 rfl rfl (rO 116 rfl) hx64) <| yg (loadC0 (xs := x33) scal_5 rfl (rO 116 rfl) hx64 rfl) <| yg (eql_u8 (a := x64) (b := 0#8) rfl rfl) <| pt rfl rfl <| dz k60 <| cnd h rfl beq_iff_eq.2 beq_eq_false_iff_ne.2 (fun hc65 h => ?_) fun hc65 h => ?_
        ·refine ss <| k59 _ _ <| bl <| rg fun _ k66 => bd h fun x67 hx67 h => mv rfl <| ya (addC rfl rfl hx67) <| ak rfl k66 <| bn <| tn <| kw (k58 (x67) h)
        exact xi <| te <| te <| bx <| tn <| kw (k55 x56 h)
       exact sk <| sk <| sk <| sk <| sk <| sk <| sk <| sk <| sk <| pf rfl rfl <| dz k60 <| cdF rfl <| xi <| te <| te <| bx <| tn <| kw (k55 x56 h)
      rintro x54 h
      unfold m_r03_Invert_j5 at h
      refine sq fun _ k68 => sr fun _ k69 => mv rfl <| mv rfl <| ya (eqlI rfl rfl) <| dz k69 <| cnd h rfl beq_iff_eq.2 beq_eq_false_iff_ne.2 (fun hc70 h => ?_) fun hc70 h => ?_
      ·refine sr fun _ k71 => ya (build rfl (bu_140_)) <| sb 103 agg_140 rfl rfl rfl <| ak rfl k71 <| re <| tr <| tr <| br <| tr <| tr <| br <| tr <| QK.nilOwn 172 5 (Lay.sz (BitVec 8)) none ?_
       obtain rfl := si h
       exact rt [172] (ResIs.cellTmpM (k := 103) rfl agg_140 rfl rfl rfl rfl) (Ext.refl _ _) ⟨none, 0, 0, rfl, rfl⟩
      refine ss <| k68 _ _ <| sr fun _ k73 => bd h fun x74 hx74 h => mv rfl <| mv rfl <| mv rfl <| mv rfl <| WL.eff (by decide) (Eff.callMut 116 rfl Tryz.func120 nm_120 rfl rfl rfl (w_r03_add A18 x17.length c19 x33 u0 x35 x54 1#8 hx74)) ?_
      rintro _ _ ⟨_, ⟨rfl, rfl⟩, rfl⟩
      refine dz k73 <| rg fun _ k75 => bd h fun x76 hx76 h => ya (fieldAddr Tryz.underlying140 rfl nz_22 rfl rfl) <| ya (loadB (k := 129) scal_22 rfl rfl rfl) <| mv rfl <| mv rfl <| mv rfl <| WL.eff (by decide) (Eff.callMut 125 rfl Tryz.func120 nm_120 rfl rfl rfl (w_r03_add A26 n27 c28 x34 u0 x35 x54 1#8 hx76)) ?_
      rintro _ _ ⟨_, ⟨rfl, rfl⟩, rfl⟩
      exact dz k75 <| tn <| kw (k46 ⟨x74, x76⟩ h)
     exact WC.skip <| tn <| kw (k46 ⟨x33, x34⟩ h)
    rintro ⟨x44, x45⟩ h
    unfold m_r03_Invert_j4 at h
    refine sr fun _ k77 => ?_
    obtain ⟨x78, hx78, h⟩ := bnd h
    obtain ⟨x79, hx79, h⟩ := bnd h
    obtain ⟨x80, hx80, h⟩ := bnd h
    obtain ⟨x81, hx81, h⟩ := bnd h
    refine mv rfl <| mv rfl <| mv rfl <| ya (mulC rfl rfl hx78) <| mv rfl <| ya (addC rfl rfl hx79) <| ya (idxC (xs := x44) sty_22 rfl rfl (rO 116 rfl) hx80) <| ya (loadC0 (xs := x44) scal_5 rfl (rO 116 rfl) hx80 rfl) <| c0 Tryz.func121 rfl (fun w hb hh => w_r02_Inv (Mem.snap w) x80 hx81) <| mv rfl <| ya (extract rfl rfl) <| ya (extract rfl rfl) <| asn rfl <| ak rfl k77 <| sr fun _ k83 => bd h fun x84 hx84 h => ya (fieldAddr Tryz.underlying140 rfl nz_22 rfl rfl) <| ya (loadB (k := 129) scal_22 rfl rfl rfl) <| mv rfl <| mv rfl <| mv rfl <| mv rfl <| ya (xor_u8 (a := x81.1) (b := 1#8) rfl rfl) <| WL.eff (by decide) (Eff.callMut 125 rfl Tryz.func120 nm_120 rfl rfl rfl (w_r03_add A26 n27 c28 x45 u0 x35 x35 (x81.1 ^^^ 1#8) hx84)) ?_
    rintro _ _ ⟨_, ⟨rfl, rfl⟩, rfl⟩
    refine dz k83 <| sr fun _ k85 => bd h fun x86 hx86 h => mv rfl <| mv rfl <| mv rfl <| mv rfl <| mv rfl <| ya (xor_u8 (a := x81.1) (b := 1#8) rfl rfl) <| WL.eff (by decide) (Eff.callMut 116 rfl Tryz.func120 nm_120 rfl rfl rfl (w_r03_add A18 x17.length c19 x44 u0 x35 x35 (x81.1 ^^^ 1#8) hx86)) ?_
    rintro _ _ ⟨_, ⟨rfl, rfl⟩, rfl⟩
    refine dz k85 <| sr fun _ k87 => ak rfl k87 <| bl <| lp (τ := By × By × Int) (fun ⟨x88, x89, x90⟩ => [(2, pv g3), (4, I64 u0), (5, .slice A18 x17.length c19), (6, pv g29), (8, I64 x35), (12, I64 x90)]) (fun ⟨x88, x89, x90⟩ => [(0, .mem M0), (103, .blk g3 140 [I64 (0 : Int), I64 (0 : Int), .slice none 0 0]), (116, .own 5 (Lay.sz (BitVec 8)) A18 x17.length c19 (cel x88)), (125, .own 5 (Lay.sz (BitVec 8)) A26 n27 c28 (cel x89)), (129, .blk g29 140 [I64 x21.1, I64 x21.2.1, .slice A26 n27 c28])]) (fun q91 ⟨x88, x89, x90⟩ => m_r03_Invert_l7 u0 x35 (m_r03_Invert_l2 u0 x21 q36) q91 x88 x89 x90 = some res) ⟨x86, x84, (0 : Int)⟩ ?_ (by simp [m_r03_Invert_l7]) ?_
    ·exact h
    rintro q91 ⟨x88, x89, x90⟩ h _ k92
    unfold m_r03_Invert_l7 at h
    refine sq fun _ k93 => sr fun _ k94 => mv rfl <| mv rfl <| ya (lss rfl rfl) <| dz k94 <| cI h rfl (fun hc95 h => ?_) fun hc95 h => ?_
    ·refine ss <| k93 _ _ <| sq fun _ k96 => bl <| sr fun _ k97 => ?_
     obtain ⟨x98, hx98, h⟩ := bnd h
     obtain ⟨x99, hx99, h⟩ := bnd h
     obtain ⟨x100, hx100, h⟩ := bnd h
     refine mv rfl <| mv rfl <| mv rfl <| ya (mulC rfl rfl hx98) <| mv rfl <| ya (addC rfl rfl hx99) <| ya (idxC (xs := x88) sty_22 rfl rfl (rO 116 rfl) hx100) <| ya (loadC0 (xs := x88) scal_5 rfl (rO 116 rfl) hx100 rfl) <| ak rfl k97 <| sr fun _ k101 => mv rfl <| mv rfl <| ya (neqI rfl rfl) <| mv rfl <| spn h bne_eq_false_iff_eq.2 bne_iff_ne.2 (fun hc102 h => ?_) fun hc102 h => ?_
     ·refine sk <| sk <| pf rfl rfl <| dz k101 <| cdF rfl <| WC.skip <| bn <| tn <| k96 _ _ <| rg fun _ k103 => bd h fun x104 hx104 h => mv rfl <| ya (addC rfl rfl hx104) <| ak rfl k103 <| tn <| kw (k92 ⟨x88, x89, x104⟩ h)
     refine mvg rfl <| yg (neq_u8 (a := x100) (b := 0#8) rfl rfl) <| pt rfl rfl <| dz k101 <| cnn h rfl bne_eq_false_iff_eq.2 bne_iff_ne.2 (fun hc105 h => ?_) fun hc105 h => ?_
     ·refine WC.skip <| bn <| tn <| k96 _ _ <| rg fun _ k106 => bd h fun x107 hx107 h => mv rfl <| ya (addC rfl rfl hx107) <| ak rfl k106 <| tn <| kw (k92 ⟨x88, x89, x107⟩ h)
     refine sr fun _ k108 => bd h fun x109 hx109 h => ya (fieldAddr Tryz.underlying140 rfl nz_22 rfl rfl) <| ya (loadB (k := 129) scal_22 rfl rfl rfl) <| mv rfl <| mv rfl <| mv rfl <| mv rfl <| WL.eff (by decide) (Eff.callMut 125 rfl Tryz.func120 nm_120 rfl rfl rfl (w_r03_add A26 n27 c28 x89 u0 x90 x35 x100 hx109)) ?_
     rintro _ _ ⟨_, ⟨rfl, rfl⟩, rfl⟩
     refine dz k108 <| rg fun _ k110 => bd h fun x111 hx111 h => mv rfl <| mv rfl <| mv rfl <| mv rfl <| mv rfl <| WL.eff (by decide) (Eff.callMut 116 rfl Tryz.func120 nm_120 rfl rfl rfl (w_r03_add A18 x17.length c19 x88 u0 x90 x35 x100 hx111)) ?_
     rintro _ _ ⟨_, ⟨rfl, rfl⟩, rfl⟩
     refine dz k110 <| bn <| tn <| k96 _ _ <| rg fun _ k112 => bd h fun x113 hx113 h => mv rfl <| ya (addC rfl rfl hx113) <| ak rfl k112 <| tn <| kw (k92 ⟨x111, x109, x113⟩ h)
    exact xi <| te <| te <| bx <| bn <| tn <| kw (k43 ⟨x88, x89⟩ h)
   rintro ⟨x41, x42⟩ h
   unfold m_r03_Invert_j3 at h
   refine rg fun _ k114 => bd h fun x115 hx115 h => mv rfl <| ya (addC rfl rfl hx115) <| ak rfl k114 <| tn <| kw (k37 ⟨x41, x42, x115⟩ h)
  exact xi <| te <| te <| bx <| tn <| kw (k31 x34 h)
 rintro x30 h
 unfold m_r03_Invert_j1 at h
 refine sr fun _ k116 => ya (loadBM (k := 129) agg_140 rfl rfl rfl) <| sb 103 agg_140 rfl rfl rfl <| ak rfl k116 <| re ?_
 obtain rfl := si h
 exact rt [125] (ResIs.cellTmpM (k := 103) rfl agg_140 rfl rfl rfl rfl) (Ext.refl _ _) ⟨A26, n27, c28, rfl, rfl⟩
theorem w_r03_Apply (M0 : Mem) (u0 u1 : Int) (A00_2 : Option Addr) (n00_2 c00_2 : Nat) (u2 : By) (hf00_2 : SlT M0 A00_2 n00_2 c00_2 u2) (A01 : Option Addr) (n01 c01 : Nat) (rs01 : List Hdr) (x01 : List By) (hf01 : SlT M0 A01 n01 c01 rs01) (hq01 : Rels ((RelB (α := BitVec 8)) M0) rs01 x01) {res : (List By) × Int} (h : m_r03_Apply u0 u1 u2 x01 = some res) :
  Fn Tryz.prog 91 #[.agg ([I64 u0, I64 u1, .slice A00_2 n00_2 c00_2] : List Value).toArray, .slice A01 n01 c01] M0 fun r M' es => ∃ (A1 : Option Addr) (n1 c1 : Nat), ∃ rs1 : List Hdr, r = .tuple #[.slice A1 n1 c1, I64 res.2] /\ es = [.own 22 (Lay.sz Hdr) A1 n1 c1 (cel rs1)] /\ Rels ((RelB (α := BitVec 8)) M') rs1 res.1 := by
 refine Fn.intro (N := 78) Tryz.func91 rfl rfl (nle rfl) fun w0 => ?_
 unfold m_r03_Apply at h
 refine sr fun _ k1 => bb 102 [I64 u0, I64 u1, .slice A00_2 n00_2 c00_2] rfl fun g2 => asn rfl <| ak rfl k1 <| ct (σ := Unit) (fun _ => [(1, .slice A01 n01 c01), (2, pv g2)]) (fun _ => [(0, .mem M0), (102, .blk g2 140 [I64 u0, I64 u1, .slice A00_2 n00_2 c00_2])]) (fun _ => m_r03_Apply_j0 u0 u1 u2 x01 = some res) (fun _ k3 => ?_) ?_
 ·refine sr fun _ k4 => bd h fun x5 hx5 h => ya (loadBM (k := 102) agg_140 rfl rfl rfl) <| c0 Tryz.func115 rfl (fun w hb hh => w_r03_Valid (Mem.snap w) u0 u1 A00_2 n00_2 c00_2 _ (sM rfl hf00_2 w hb hh) hx5) <| ya (notB rfl) <| mv rfl <| spn h not_f (fun q => not_t (Bool.eq_false_iff.2 q)) (fun hc7 h => ?_) fun hc7 h => ?_
  ·refine mvg rfl <| yg (lenD (rs := rs01) (xs := x01) (Rels.len hq01) und_30 rfl (mM rfl hf01)) <| yg (fieldAddr Tryz.underlying140 rfl nz_3 rfl rfl) <| yg (loadB (k := 102) scal_3 rfl rfl rfl) <| yg (neqI rfl rfl) <| pf rfl rfl <| dz k4 <| cnn h rfl bne_eq_false_iff_eq.2 bne_iff_ne.2 (fun hc8 h => ?_) fun hc8 h => ?_
   ·exact WC.skip <| tn <| kw (k3 () h)
   refine sr fun _ k9 => asn rfl <| ak rfl k9 <| re <| tr <| QK.nilOwn 110 22 (Lay.sz Hdr) none ?_
   obtain rfl := si h
   exact rt [110] (ResIs.two rfl rfl rfl) (Ext.refl _ _) ⟨none, 0, 0, ([] : List Hdr), rfl, rfl, (Rels.nil (R := (RelB (α := BitVec 8)) M0))⟩
  refine sk <| sk <| sk <| sk <| sk <| pt rfl rfl <| dz k4 <| cdT rfl <| sr fun _ k11 => asn rfl <| ak rfl k11 <| re <| tr <| QK.nilOwn 112 22 (Lay.sz Hdr) none ?_
  obtain rfl := si h
  exact rt [112] (ResIs.two rfl rfl rfl) (Ext.refl _ _) ⟨none, 0, 0, ([] : List Hdr), rfl, rfl, (Rels.nil (R := (RelB (α := BitVec 8)) M0))⟩
 rintro _ h
 unfold m_r03_Apply_j0 at h
 refine ct (σ := Unit) (fun _ => [(1, .slice A01 n01 c01), (2, pv g2)]) (fun _ => [(0, .mem M0), (102, .blk g2 140 [I64 u0, I64 u1, .slice A00_2 n00_2 c00_2])]) (fun _ => m_r03_Apply_j1 u0 u1 u2 x01 = some res) (fun _ k13 => ?_) ?_
 ·refine sr fun _ k14 => ak rfl k14 <| bl <| lp (τ := Int) (fun x15 => [(1, .slice A01 n01 c01), (2, pv g2), (6, I64 x15)]) (fun x15 => [(0, .mem M0), (102, .blk g2 140 [I64 u0, I64 u1, .slice A00_2 n00_2 c00_2])]) (fun q16 x15 => m_r03_Apply_l2 u0 u1 u2 x01 q16 x15 = some res) ((0 : Int)) ?_ (by simp [m_r03_Apply_l2]) ?_
  ·exact h
  rintro q16 x15 h _ k17
  unfold m_r03_Apply_l2 at h
  refine sq fun _ k18 => sr fun _ k19 => mv rfl <| mv rfl <| ya (lenD (rs := rs01) (xs := x01) (Rels.len hq01) und_30 rfl (mM rfl hf01)) <| ya (lss rfl rfl) <| dz k19 <| cI h rfl (fun hc20 h => ?_) fun hc20 h => ?_
  ·refine ss <| k18 _ _ <| sq fun _ k21 => bl <| sd [(0, _), (102, _)] mixed fun _ k22 => ?_
   obtain ⟨x23, hx23, h⟩ := bnd h
   obtain ⟨x27, hx27, h⟩ := bnd h
   refine dm 0 rfl rfl <| dm 1 rfl rfl ?_
   obtain ⟨r_24, hr25, hq26⟩ := Rels.idx hq01 hx23
   refine du 2 rfl (idxC (xs := rs01) sty_30 rfl rfl (mM rfl hf01) hr25) <| du 3 rfl (loadC0 (xs := rs01) scal_22 rfl (mM rfl hf01) hr25 rfl) <| du 4 rfl (lenC (xs := x23) und_22 rfl (mM rfl hq26)) <| dm 5 rfl rfl ?_
   obtain ⟨r_28, hr29, hq30⟩ := Rels.idx hq01 hx27
   refine du 6 rfl (idxC (xs := rs01) sty_30 rfl rfl (mM rfl hf01) hr29) <| du 7 rfl (loadC0 (xs := rs01) scal_22 rfl (mM rfl hf01) hr29 rfl) <| du 8 rfl (lenC (xs := x27) und_22 rfl (mM rfl hq30)) <| du 9 rfl (neqI rfl rfl) <| dd <| k22 _ _ <| cnn h rfl bne_eq_false_iff_eq.2 bne_iff_ne.2 (fun hc31 h => ?_) fun hc31 h => ?_
   ·refine WC.skip <| bn <| tn <| k21 _ _ <| rg fun _ k32 => bd h fun x33 hx33 h => mv rfl <| ya (addC rfl rfl hx33) <| ak rfl k32 <| tn <| kw (k17 (x33) h)
   refine sr fun _ k34 => asn rfl <| ak rfl k34 <| re <| br <| tr <| tr <| br <| tr <| QK.nilOwn 135 22 (Lay.sz Hdr) none ?_
   obtain rfl := si h
   exact rt [135] (ResIs.two rfl rfl rfl) (Ext.refl _ _) ⟨none, 0, 0, ([] : List Hdr), rfl, rfl, (Rels.nil (R := (RelB (α := BitVec 8)) M0))⟩
  exact xi <| te <| te <| bx <| tn <| kw (k13 () h)
 rintro _ h
 unfold m_r03_Apply_j1 at h
 refine sr fun _ k36 => ak rfl k36 <| ct (σ := Mem × (Option Addr) × Nat × Nat × (List By) × (List Hdr)) (fun ⟨M37, A40, n41, c42, x43, rs44⟩ => [(7, .slice A40 n41 c42)]) (fun ⟨M37, A40, n41, c42, x43, rs44⟩ => [(0, .mem M37), (139, .own 22 (Lay.sz Hdr) A40 n41 c42 (cel rs44))]) (fun ⟨M37, A40, n41, c42, x43, rs44⟩ => m_r03_Apply_j3 x43 = some res /\ Ext w0.heap.size M0 M37 /\ Rels ((RelB (α := BitVec 8)) M37) rs44 x43) (fun _ k46 => ?_) ?_
 ·refine sr fun _ k47 => ak rfl k47 <| bl <| WC.nilOwn 150 22 (Lay.sz Hdr) none <| lp (τ := Mem × (Option Addr) × Nat × Nat × (List By) × (List Hdr) × Int) (fun ⟨M48, A51, n52, c53, x54, rs55, x57⟩ => [(1, .slice A01 n01 c01), (2, pv g2), (7, .slice A51 n52 c53), (8, I64 x57)]) (fun ⟨M48, A51, n52, c53, x54, rs55, x57⟩ => [(0, .mem M48), (102, .blk g2 140 [I64 u0, I64 u1, .slice A00_2 n00_2 c00_2]), (150, .own 22 (Lay.sz Hdr) A51 n52 c53 (cel rs55))]) (fun q58 ⟨M48, A51, n52, c53, x54, rs55, x57⟩ => m_r03_Apply_l4 u0 u1 u2 x01 q58 x54 x57 = some res /\ Ext w0.heap.size M0 M48 /\ Rels ((RelB (α := BitVec 8)) M48) rs55 x54) ⟨M0, none, 0, 0, ([] : List By), ([] : List Hdr), (0 : Int)⟩ ?_ (by simp [m_r03_Apply_l4]) ?_
  ·exact ⟨h, (Ext.refl _ _), (Rels.nil (R := (RelB (α := BitVec 8)) M0))⟩
  rintro q58 ⟨M48, A51, n52, c53, x54, rs55, x57⟩ ⟨h, hm_M48, hq56⟩ _ k59
  unfold m_r03_Apply_l4 at h
  refine sq fun _ k60 => sr fun _ k61 => mv rfl <| ya (fieldAddr Tryz.underlying140 rfl nz_3 rfl rfl) <| ya (loadB (k := 102) scal_3 rfl rfl rfl) <| ya (lss rfl rfl) <| dz k61 <| cI h rfl (fun hc62 h => ?_) fun hc62 h => ?_
  ·refine ss <| k60 _ _ <| ct (σ := Mem × (Option Addr) × Nat × Nat × (List By) × (List Hdr)) (fun ⟨M63, A64, n65, c66, x67, rs68⟩ => [(1, .slice A01 n01 c01), (2, pv g2), (7, .slice A64 n65 c66), (8, I64 x57)]) (fun ⟨M63, A64, n65, c66, x67, rs68⟩ => [(0, .mem M63), (102, .blk g2 140 [I64 u0, I64 u1, .slice A00_2 n00_2 c00_2]), (150, .own 22 (Lay.sz Hdr) A64 n65 c66 (cel rs68))]) (fun ⟨M63, A64, n65, c66, x67, rs68⟩ => m_r03_Apply_j5 x57 (m_r03_Apply_l4 u0 u1 u2 x01 q58) x67 = some res /\ Ext w0.heap.size M48 M63 /\ Rels ((RelB (α := BitVec 8)) M63) rs68 x67) (fun _ k70 => ?_) ?_
   ·refine bl <| sr fun _ k71 => ?_
    obtain ⟨x72, hx72, h⟩ := bnd h
    obtain ⟨x77, hx77, h⟩ := bnd h
    refine mv rfl ?_
    obtain ⟨r_73, hr74, hq75⟩ := Rels.idx (Rels.lift hq01 hm_M48) hx72
    refine ya (idxC (xs := rs01) sty_30 rfl rfl (mM rfl (SlRc.lift hf01 hm_M48)) hr74) <| ya (loadC0 (xs := rs01) scal_22 rfl (mM rfl (SlRc.lift hf01 hm_M48)) hr74 rfl) <| ya (lenC (xs := x72) und_22 rfl (mM rfl hq75)) <| WL.eff (by decide) (Eff.makeC 176 0#8 sty_22 rfl rfl rfl rfl rfl rfl hx77) ?_
    rintro _ _ ⟨g76, rfl, rfl⟩
    refine ak rfl k71 <| ct (σ := (Option Addr) × Nat × Nat × By) (fun ⟨A80, n81, c82, x83⟩ => [(1, .slice A01 n01 c01), (2, pv g2), (7, .slice A51 n52 c53), (8, I64 x57), (9, .slice A80 n81 c82)]) (fun ⟨A80, n81, c82, x83⟩ => [(0, .mem M48), (102, .blk g2 140 [I64 u0, I64 u1, .slice A00_2 n00_2 c00_2]), (150, .own 22 (Lay.sz Hdr) A51 n52 c53 (cel rs55)), (179, .own 5 (Lay.sz (BitVec 8)) A80 n81 c82 (cel x83))]) (fun ⟨A80, n81, c82, x83⟩ => m_r03_Apply_j6 x54 x57 (m_r03_Apply_l4 u0 u1 u2 x01 q58) x83 = some res) (fun _ k84 => ?_) ?_
    ·refine sr fun _ k85 => ak rfl k85 <| bl <| WC.move 176 187 rfl rfl <| lp (τ := (Option Addr) × Nat × Nat × By × Int) (fun ⟨A88, n89, c90, x91, x92⟩ => [(1, .slice A01 n01 c01), (2, pv g2), (7, .slice A51 n52 c53), (8, I64 x57), (9, .slice A88 n89 c90), (10, I64 x92)]) (fun ⟨A88, n89, c90, x91, x92⟩ => [(0, .mem M48), (102, .blk g2 140 [I64 u0, I64 u1, .slice A00_2 n00_2 c00_2]), (150, .own 22 (Lay.sz Hdr) A51 n52 c53 (cel rs55)), (187, .own 5 (Lay.sz (BitVec 8)) A88 n89 c90 (cel x91))]) (fun q93 ⟨A88, n89, c90, x91, x92⟩ => m_r03_Apply_l7 u1 u2 x01 x54 x57 (m_r03_Apply_l4 u0 u1 u2 x01 q58) q93 x91 x92 = some res) ⟨(some ⟨g76, 0, none⟩), x77.length, x77.length, x77, (0 : Int)⟩ ?_ (by simp [m_r03_Apply_l7]) ?_
     ·exact h
     rintro q93 ⟨A88, n89, c90, x91, x92⟩ h _ k94
     unfold m_r03_Apply_l7 at h
     refine sq fun _ k95 => sr fun _ k96 => mv rfl <| ya (fieldAddr Tryz.underlying140 rfl nz_3 rfl rfl) <| ya (loadB (k := 102) scal_3 rfl rfl rfl) <| ya (lss rfl rfl) <| dz k96 <| cI h rfl (fun hc97 h => ?_) fun hc97 h => ?_
     ·refine ss <| k95 _ _ <| sq fun _ k98 => bl <| rd [(0, _), (102, _), (150, _), (187, _)] mixed fun _ k99 => ?_
      obtain ⟨x100, hx100, h⟩ := bnd h
      obtain ⟨x104, hx104, h⟩ := bnd h
      obtain ⟨x105, hx105, h⟩ := bnd h
      obtain ⟨x106, hx106, h⟩ := bnd h
      obtain ⟨x107, hx107, h⟩ := bnd h
      refine dm 0 rfl rfl <| dm 1 rfl rfl <| dm 2 rfl rfl ?_
      obtain ⟨r_101, hr102, hq103⟩ := Rels.idx (Rels.lift hq01 hm_M48) hx100
      refine du 3 rfl (idxC (xs := rs01) sty_30 rfl rfl (mM rfl (SlRc.lift hf01 hm_M48)) hr102) <| du 4 rfl (loadC0 (xs := rs01) scal_22 rfl (mM rfl (SlRc.lift hf01 hm_M48)) hr102 rfl) <| du 5 rfl (fieldAddr Tryz.underlying140 rfl nz_22 rfl rfl) <| du 6 rfl (loadB (k := 102) scal_22 rfl rfl rfl) <| dm 7 rfl rfl <| du 8 rfl (fieldAddr Tryz.underlying140 rfl nz_3 rfl rfl) <| du 9 rfl (loadB (k := 102) scal_3 rfl rfl rfl) <| du 10 rfl (mulC rfl rfl hx104) <| dm 11 rfl rfl <| du 12 rfl (addC rfl rfl hx105) <| du 13 rfl (idxC (xs := u2) sty_22 rfl rfl (mM rfl (SlRc.lift hf00_2 hm_M48)) hx106) <| du 14 rfl (loadC0 (xs := u2) scal_5 rfl (mM rfl (SlRc.lift hf00_2 hm_M48)) hx106 rfl) <| on 15 <| WS.eff rfl (by decide) (Eff.callS 211 rfl Tryz.func122 nm_122 rfl rfl (fun w hb hh => w_r02_MulAdd (Mem.snap w) A88 n89 c90 _ (RdH.sn (rO 187 rfl) w hb hh) r_101.A r_101.n r_101.c _ (sM rfl hq103 w hb hh) x106 hx107)) ?_
      rintro _ _ ⟨_, ⟨A112, n113, c114, rfl, rfl⟩, rfl⟩
      refine aq ?_
      refine dm 16 rfl rfl <| du 17 rfl (extract rfl rfl) <| du 18 rfl (extract rfl rfl) <| du 19 rfl (Yld.assign rfl) <| dd <| k99 _ _ <| bn <| tn <| k98 _ _ <| rg fun _ k115 => bd h fun x116 hx116 h => mv rfl <| ya (addC rfl rfl hx116) <| ak rfl k115 <| tn <| KK.move 211 187 rfl rfl <| kw (k94 ⟨A112, n113, c114, x107.1, x116⟩ h)
     exact xi <| te <| te <| bx <| tn <| KK.move 187 179 rfl rfl <| kw (k84 ⟨A88, n89, c90, x91⟩ h)
    rintro ⟨A80, n81, c82, x83⟩ h
    unfold m_r03_Apply_j6 at h
    refine rg fun _ k117 => bd h fun x122 hx122 h => mv rfl <| mv rfl <| WL.freeze 179 rfl rfl rfl fun M119 hm_M119 hf120 => ?_
    have hq121 : Rels ((RelB (α := BitVec 8)) M119) ([(⟨A80, n81, c82⟩ : Hdr)] : List Hdr) ([x83] : List By) := (Rels.cons hf120 Rels.nil)
    refine WL.eff (by decide) (Eff.buildC 218 ([(⟨A80, n81, c82⟩ : Hdr)] : List Hdr) sty_30 rfl rfl rfl rfl rfl (by decide)) ?_
    rintro _ _ ⟨g118, rfl, rfl⟩
    obtain ⟨hu125, hq126⟩ := Rels.apd (Rels.lift hq56 hm_M119) hq121 hx122
    exact ap 150 (xs := rs55) (ys := ([(⟨A80, n81, c82⟩ : Hdr)] : List Hdr)) sty_30 rfl rfl rfl (rO 218 rfl) hu125 fun A123 c124 => ak rfl k117 <| bn <| tn <| kw (k70 ⟨M119, A123, (rs55 ++ ([(⟨A80, n81, c82⟩ : Hdr)] : List Hdr)).length, c124, x122, (rs55 ++ ([(⟨A80, n81, c82⟩ : Hdr)] : List Hdr))⟩ ⟨h, hm_M119, hq126⟩)
   rintro ⟨M63, A64, n65, c66, x67, rs68⟩ ⟨h, hm_M63, hq69⟩
   unfold m_r03_Apply_j5 at h
   refine rg fun _ k127 => bd h fun x128 hx128 h => mv rfl <| ya (addC rfl rfl hx128) <| ak rfl k127 <| tn <| kw (k59 ⟨M63, A64, n65, c66, x67, rs68, x128⟩ ⟨h, (Ext.trans hm_M48 hm_M63), hq69⟩)
  exact xi <| te <| te <| bx <| tn <| KK.move 150 139 rfl rfl <| kw (k46 ⟨M48, A51, n52, c53, x54, rs55⟩ ⟨h, hm_M48, hq56⟩)
 rintro ⟨M37, A40, n41, c42, x43, rs44⟩ ⟨h, hm_M37, hq45⟩
 unfold m_r03_Apply_j3 at h
 refine sr fun _ k129 => mv rfl <| asn rfl <| ak rfl k129 <| re ?_
 obtain rfl := si h
 exact rt [139] (ResIs.two rfl rfl rfl) hm_M37 ⟨A40, n41, c42, rs44, rfl, rfl, hq45⟩
theorem und_138 : Tryz.prog.underlying 138 = some (.array 6 4) := by kernel_rfl
theorem und_9 : Tryz.prog.underlying 9 = some .string := by kernel_rfl
theorem und_91 : Tryz.prog.underlying 91 = some (.slice 4) := by kernel_rfl
theorem agg_138 : Agg Tryz.prog 138 6 := ⟨⟨_, Tryz.underlying138, rfl⟩, by kernel_rfl⟩
theorem nm_37 : (Tryz.f37.name == "runtime.NumGoroutine") = false := by kernel_rfl
theorem nm_79 : (Tryz.f79.name == "runtime.NumGoroutine") = false := by kernel_rfl
theorem nm_87 : (Tryz.f87.name == "runtime.NumGoroutine") = false := by kernel_rfl
theorem scal_4 : scal Tryz.prog 4 = true := by kernel_rfl
theorem siz_4 : (Tryz.prog.info? 4).map (·.size) = some 1 := by kernel_rfl
theorem zr_138 : (Tryz.prog.info? 138).map (fun i => i.zero.map (·.cells)) = some (some (cel (List.replicate 6 (false))).toArray) := by kernel_rfl
theorem w_rs_Code (M0 : Mem)  {res : Int × Int × By} (h : m_rs_Code = some res) :
  Fn Tryz.prog 78 #[] M0 fun r M' es => ∃ (A1 : Option Addr) (n1 c1 : Nat), r = .agg ([I64 res.1, I64 res.2.1, .slice A1 n1 c1] : List Value).toArray /\ es = [.own 5 (Lay.sz (BitVec 8)) A1 n1 c1 (cel res.2.2)] := by
 refine Fn.intro (N := 31) Tryz.func78 rfl rfl (nle rfl) fun w0 => ?_
 unfold m_rs_Code at h
 refine sr fun _ k1 => al 102 zr_124 fun g2 => dz k1 <| sr fun _ k3 => bd h fun x4 hx4 h => c1 108 Tryz.func107 rfl (fun w hb hh => w_gfmatrix_Vandermonde (Mem.snap w) (6 : Int) (4 : Int) hx4) fun A9 n10 c11 => mv rfl <| ya (extract rfl rfl) <| ya (extract rfl rfl) <| al 112 zr_124 fun g12 => sb 112 agg_124 rfl rfl rfl <| ak rfl k3 <| sr fun _ k13 => bd h fun x15 hx15 h => ya (loadBM (k := 112) agg_124 rfl rfl rfl) <| WL.eff (by decide) (Eff.buildC 114 ([(0 : Int), (1 : Int), (2 : Int), (3 : Int)] : List Int) sty_45 rfl rfl rfl rfl rfl (by decide)) ?_
 rintro _ _ ⟨g14, rfl, rfl⟩
 refine c1 119 Tryz.func77 rfl (fun w hb hh => w_gfmatrix_Pick (Mem.snap w) x4.1 x4.2.1 A9 n10 c11 _ (RdH.sn (rO 108 rfl) w hb hh) (some ⟨g14, 0, none⟩) (([(0 : Int), (1 : Int), (2 : Int), (3 : Int)] : List Int).length) (([(0 : Int), (1 : Int), (2 : Int), (3 : Int)] : List Int).length) _ (RdH.sn (rO 114 rfl) w hb hh) hx15) fun A20 n21 c22 => mv rfl <| ya (extract rfl rfl) <| ya (extract rfl rfl) <| al 123 zr_124 fun g23 => sb 123 agg_124 rfl rfl rfl <| ak rfl k13 <| sr fun _ k24 => bd h fun x25 hx25 h => ya (loadBM (k := 123) agg_124 rfl rfl rfl) <| c1 129 Tryz.func108 rfl (fun w hb hh => w_gfmatrix_Invert (Mem.snap w) x15.1 x15.2.1 A20 n21 c22 _ (RdH.sn (rO 119 rfl) w hb hh) hx25) fun A30 n31 c32 => mv rfl <| ya (extract rfl rfl) <| ya (extract rfl rfl) <| al 133 zr_124 fun g33 => sb 133 agg_124 rfl rfl rfl <| ak rfl k24 <| sr fun _ k34 => bd h fun x35 hx35 h => ya (loadBM (k := 112) agg_124 rfl rfl rfl) <| ya (loadBM (k := 133) agg_124 rfl rfl rfl) <| c1 139 Tryz.func109 rfl (fun w hb hh => w_gfmatrix_Mul (Mem.snap w) x4.1 x4.2.1 A9 n10 c11 _ (RdH.sn (rO 108 rfl) w hb hh) x25.1 x25.2.1 A30 n31 c32 _ (RdH.sn (rO 129 rfl) w hb hh) hx35) fun A40 n41 c42 => mv rfl <| ya (extract rfl rfl) <| ya (extract rfl rfl) <| al 143 zr_124 fun g43 => sb 143 agg_124 rfl rfl rfl <| ak rfl k34 <| sr fun _ k44 => ya (loadBM (k := 143) agg_124 rfl rfl rfl) <| sb 102 agg_124 rfl rfl rfl <| dz k44 <| re ?_
 obtain rfl := si h
 exact rt [139] (ResIs.cellM (k := 102) rfl agg_124 rfl rfl (rfl)) (Ext.refl _ _) ⟨A40, n41, c42, rfl, rfl⟩
theorem w_rs_restore (M0 : Mem) (A00 : Option Addr) (n00 c00 : Nat) (rs00 : List Hdr) (x00 : List By) (hf00 : SlT M0 A00 n00 c00 rs00) (hq00 : Rels ((RelB (α := BitVec 8)) M0) rs00 x00) (x01 : List Bool) (hl01 : x01.length = 6) {res : (List By)} (h : m_rs_restore x00 x01 = some res) :
  Fn Tryz.prog 87 #[.slice A00 n00 c00, .agg (cel x01).toArray] M0 fun r M' es => ∃ (A1 : Option Addr) (n1 c1 : Nat), ∃ rs1 : List Hdr, r = .slice A1 n1 c1 /\ es = [.own 22 (Lay.sz Hdr) A1 n1 c1 (cel rs1)] /\ Rels ((RelB (α := BitVec 8)) M') rs1 res := by
 refine Fn.intro (N := 66) Tryz.func87 rfl rfl (nle rfl) fun w0 => ?_
 unfold m_rs_restore at h
 refine sr fun _ k1 => bb 102 (cel x01) rfl fun g2 => ak rfl k1 <| sr fun _ k3 => ak rfl k3 <| sr fun _ k4 => ak rfl k4 <| ct (σ := (Option Addr) × Nat × Nat × (List Int) × (Option Addr) × Nat × Nat × (List By) × (List Hdr)) (fun ⟨A7, n8, c9, x10, A13, n14, c15, x16, rs17⟩ => [(5, .slice A7 n8 c9), (6, .slice A13 n14 c15)]) (fun ⟨A7, n8, c9, x10, A13, n14, c15, x16, rs17⟩ => [(0, .mem M0), (106, .own 3 (Lay.sz Int) A7 n8 c9 (cel x10)), (112, .own 22 (Lay.sz Hdr) A13 n14 c15 (cel rs17))]) (fun ⟨A7, n8, c9, x10, A13, n14, c15, x16, rs17⟩ => m_rs_restore_j0 x10 x16 = some res /\ Rels ((RelB (α := BitVec 8)) M0) rs17 x16) (fun _ k19 => ?_) ?_
 ·refine sr fun _ k20 => ya (loadBM (k := 102) agg_138 rfl rfl (cel_len1 rfl hl01)) <| mv rfl <| dz k20 <| bl <| WC.nilOwn 122 3 (Lay.sz Int) none <| WC.nilOwn 128 22 (Lay.sz Hdr) none <| lp (τ := (Option Addr) × Nat × Nat × (List Int) × (Option Addr) × Nat × Nat × (List By) × (List Hdr) × Int) (fun ⟨A23, n24, c25, x26, A29, n30, c31, x32, rs33, x35⟩ => [(0, .slice A00 n00 c00), (5, .slice A23 n24 c25), (6, .slice A29 n30 c31), (18, .agg (cel x01).toArray), (19, I64 x35)]) (fun ⟨A23, n24, c25, x26, A29, n30, c31, x32, rs33, x35⟩ => [(0, .mem M0), (122, .own 3 (Lay.sz Int) A23 n24 c25 (cel x26)), (128, .own 22 (Lay.sz Hdr) A29 n30 c31 (cel rs33))]) (fun q36 ⟨A23, n24, c25, x26, A29, n30, c31, x32, rs33, x35⟩ => m_rs_restore_l1 x00 x01 q36 x26 x32 x35 = some res /\ Rels ((RelB (α := BitVec 8)) M0) rs33 x32) ⟨none, 0, 0, ([] : List Int), none, 0, 0, ([] : List By), ([] : List Hdr), (0 : Int)⟩ ?_ (by simp [m_rs_restore_l1]) ?_
  ·exact ⟨h, (Rels.nil (R := (RelB (α := BitVec 8)) M0))⟩
  rintro q36 ⟨A23, n24, c25, x26, A29, n30, c31, x32, rs33, x35⟩ ⟨h, hq34⟩ _ k37
  unfold m_rs_restore_l1 at h
  refine sr fun _ k38 => ya (lss rfl rfl) <| dz k38 <| sq fun _ k39 => cI h rfl (fun hc40 h => ?_) fun hc40 h => ?_
  ·refine ss <| k39 _ _ <| sq fun _ k41 => bl <| sr fun _ k42 => bd h fun x43 hx43 h => mv rfl <| ya (idxAggC (xs := x01) und_138 siz_4 rfl scal_4 rfl rfl hl01 hx43 rfl) <| asn rfl <| ak rfl k42 <| sr fun _ k44 => mv rfl <| mv rfl <| spl h id Bool.eq_false_iff.2 (fun hc45 h => ?_) fun hc45 h => ?_
   ·refine mvg rfl <| yg (lenC (xs := x26) und_45 rfl (rO 122 rfl)) <| yg (lss rfl rfl) <| pt rfl rfl <| dz k44 <| cI h rfl (fun hc46 h => ?_) fun hc46 h => ?_
    ·refine rd [(0, _)] mixed fun _ k47 => ?_
     obtain ⟨x49, hx49, h⟩ := bnd h
     obtain ⟨x52, hx52, h⟩ := bnd h
     obtain ⟨x58, hx58, h⟩ := bnd h
     refine dm 0 rfl rfl <| dm 1 rfl rfl <| dm 4 rfl rfl <| dm 5 rfl rfl <| dm 6 rfl rfl ?_
     obtain ⟨r_53, hr54, hq55⟩ := Rels.idx hq00 hx52
     refine du 7 rfl (idxC (xs := rs00) sty_30 rfl rfl (mM rfl hf00) hr54) <| du 8 rfl (loadC0 (xs := rs00) scal_22 rfl (mM rfl hf00) hr54 rfl) <| WD.two 2 9 (by kernel_rfl) ?_ ?_
     ·refine WS.eff rfl (by decide) (Eff.buildC 148 ([x35] : List Int) sty_45 rfl rfl rfl rfl rfl (by decide)) ?_
      rintro _ _ ⟨g48, rfl, rfl⟩
      refine aq ?_
      refine WD.two 3 9 (by kernel_rfl) ?_ ?_
      ·refine WS.eff rfl (by decide) (Eff.appendC 122 (xs := x26) (ys := ([x35] : List Int)) sty_45 rfl rfl rfl (rO 148 rfl) hx49) ?_
       rintro _ _ ⟨A50, c51, rfl, rfl⟩
       refine aq ?_
       refine on 9 ?_
       have hq57 : Rels ((RelB (α := BitVec 8)) M0) ([(⟨r_53.A, r_53.n, r_53.c⟩ : Hdr)] : List Hdr) ([x52] : List By) := (Rels.cons hq55 Rels.nil)
       refine WS.eff rfl (by decide) (Eff.buildC 156 ([(⟨r_53.A, r_53.n, r_53.c⟩ : Hdr)] : List Hdr) sty_30 rfl rfl rfl rfl rfl (by decide)) ?_
       rintro _ _ ⟨g56, rfl, rfl⟩
       refine aq ?_
       refine on 10 ?_
       obtain ⟨hu61, hq62⟩ := Rels.apd hq34 hq57 hx58
       refine WS.eff rfl (by decide) (Eff.appendC 128 (xs := rs33) (ys := ([(⟨r_53.A, r_53.n, r_53.c⟩ : Hdr)] : List Hdr)) sty_30 rfl rfl rfl (rO 156 rfl) hu61) ?_
       rintro _ _ ⟨A59, c60, rfl, rfl⟩
       refine aq ?_
       refine du 11 rfl (Yld.assign rfl) <| du 12 rfl (Yld.assign rfl) <| dd <| k47 _ _ <| bn <| tn <| k41 _ _ <| rg fun _ k63 => bd h fun x64 hx64 h => ya (addC rfl rfl hx64) <| mv rfl <| dz k63 <| tn <| kw (k37 ⟨A50, x49.length, c51, x49, A59, (rs33 ++ ([(⟨r_53.A, r_53.n, r_53.c⟩ : Hdr)] : List Hdr)).length, c60, x58, (rs33 ++ ([(⟨r_53.A, r_53.n, r_53.c⟩ : Hdr)] : List Hdr)), x64⟩ ⟨h, hq62⟩)
      skip
      have hq57 : Rels ((RelB (α := BitVec 8)) M0) ([(⟨r_53.A, r_53.n, r_53.c⟩ : Hdr)] : List Hdr) ([x52] : List By) := (Rels.cons hq55 Rels.nil)
      refine WS.eff rfl (by decide) (Eff.buildC 156 ([(⟨r_53.A, r_53.n, r_53.c⟩ : Hdr)] : List Hdr) sty_30 rfl rfl rfl rfl rfl (by decide)) ?_
      rintro _ _ ⟨g56, rfl, rfl⟩
      refine aq ?_
      refine on 3 <| WS.eff rfl (by decide) (Eff.appendC 122 (xs := x26) (ys := ([x35] : List Int)) sty_45 rfl rfl rfl (rO 148 rfl) hx49) ?_
      rintro _ _ ⟨A50, c51, rfl, rfl⟩
      refine aq ?_
      refine on 10 ?_
      obtain ⟨hu61, hq62⟩ := Rels.apd hq34 hq57 hx58
      refine WS.eff rfl (by decide) (Eff.appendC 128 (xs := rs33) (ys := ([(⟨r_53.A, r_53.n, r_53.c⟩ : Hdr)] : List Hdr)) sty_30 rfl rfl rfl (rO 156 rfl) hu61) ?_
      rintro _ _ ⟨A59, c60, rfl, rfl⟩
      refine aq ?_
      refine du 11 rfl (Yld.assign rfl) <| du 12 rfl (Yld.assign rfl) <| dd <| k47 _ _ <| bn <| tn <| k41 _ _ <| rg fun _ k65 => bd h fun x66 hx66 h => ya (addC rfl rfl hx66) <| mv rfl <| dz k65 <| tn <| kw (k37 ⟨A50, x49.length, c51, x49, A59, (rs33 ++ ([(⟨r_53.A, r_53.n, r_53.c⟩ : Hdr)] : List Hdr)).length, c60, x58, (rs33 ++ ([(⟨r_53.A, r_53.n, r_53.c⟩ : Hdr)] : List Hdr)), x66⟩ ⟨h, hq62⟩)
     skip
     have hq57 : Rels ((RelB (α := BitVec 8)) M0) ([(⟨r_53.A, r_53.n, r_53.c⟩ : Hdr)] : List Hdr) ([x52] : List By) := (Rels.cons hq55 Rels.nil)
     refine WS.eff rfl (by decide) (Eff.buildC 156 ([(⟨r_53.A, r_53.n, r_53.c⟩ : Hdr)] : List Hdr) sty_30 rfl rfl rfl rfl rfl (by decide)) ?_
     rintro _ _ ⟨g56, rfl, rfl⟩
     refine aq ?_
     refine on 2 <| WS.eff rfl (by decide) (Eff.buildC 148 ([x35] : List Int) sty_45 rfl rfl rfl rfl rfl (by decide)) ?_
     rintro _ _ ⟨g48, rfl, rfl⟩
     refine aq ?_
     refine on 3 <| WS.eff rfl (by decide) (Eff.appendC 122 (xs := x26) (ys := ([x35] : List Int)) sty_45 rfl rfl rfl (rO 148 rfl) hx49) ?_
     rintro _ _ ⟨A50, c51, rfl, rfl⟩
     refine aq ?_
     refine on 10 ?_
     obtain ⟨hu61, hq62⟩ := Rels.apd hq34 hq57 hx58
     refine WS.eff rfl (by decide) (Eff.appendC 128 (xs := rs33) (ys := ([(⟨r_53.A, r_53.n, r_53.c⟩ : Hdr)] : List Hdr)) sty_30 rfl rfl rfl (rO 156 rfl) hu61) ?_
     rintro _ _ ⟨A59, c60, rfl, rfl⟩
     refine aq ?_
     refine du 11 rfl (Yld.assign rfl) <| du 12 rfl (Yld.assign rfl) <| dd <| k47 _ _ <| bn <| tn <| k41 _ _ <| rg fun _ k67 => bd h fun x68 hx68 h => ya (addC rfl rfl hx68) <| mv rfl <| dz k67 <| tn <| kw (k37 ⟨A50, x49.length, c51, x49, A59, (rs33 ++ ([(⟨r_53.A, r_53.n, r_53.c⟩ : Hdr)] : List Hdr)).length, c60, x58, (rs33 ++ ([(⟨r_53.A, r_53.n, r_53.c⟩ : Hdr)] : List Hdr)), x68⟩ ⟨h, hq62⟩)
    refine WC.skip <| bn <| tn <| k41 _ _ <| rg fun _ k69 => bd h fun x70 hx70 h => ya (addC rfl rfl hx70) <| mv rfl <| dz k69 <| tn <| kw (k37 ⟨A23, n24, c25, x26, A29, n30, c31, x32, rs33, x70⟩ ⟨h, hq34⟩)
   refine sk <| sk <| sk <| pf rfl rfl <| dz k44 <| cdF rfl <| WC.skip <| bn <| tn <| k41 _ _ <| rg fun _ k71 => bd h fun x72 hx72 h => ya (addC rfl rfl hx72) <| mv rfl <| dz k71 <| tn <| kw (k37 ⟨A23, n24, c25, x26, A29, n30, c31, x32, rs33, x72⟩ ⟨h, hq34⟩)
  exact xi <| te <| te <| bx <| tn <| KK.move 122 106 rfl rfl <| KK.move 128 112 rfl rfl <| kw (k19 ⟨A23, n24, c25, x26, A29, n30, c31, x32, rs33⟩ ⟨h, hq34⟩)
 rintro ⟨A7, n8, c9, x10, A13, n14, c15, x16, rs17⟩ ⟨h, hq18⟩
 unfold m_rs_restore_j0 at h
 refine sr fun _ k73 => bd h fun x74 hx74 h => c1 178 Tryz.func78 rfl (fun w hb hh => w_rs_Code (Mem.snap w) hx74) fun A79 n80 c81 => al 182 zr_124 fun g82 => sb 182 agg_124 rfl rfl rfl <| dz k73 <| sr fun _ k83 => bd h fun x84 hx84 h => ya (loadBM (k := 182) agg_124 rfl rfl rfl) <| mv rfl <| c1 188 Tryz.func77 rfl (fun w hb hh => w_gfmatrix_Pick (Mem.snap w) x74.1 x74.2.1 A79 n80 c81 _ (RdH.sn (rO 178 rfl) w hb hh) A7 n8 c9 _ (RdH.sn (rO 106 rfl) w hb hh) hx84) fun A89 n90 c91 => mv rfl <| ya (extract rfl rfl) <| ya (extract rfl rfl) <| al 192 zr_124 fun g92 => sb 192 agg_124 rfl rfl rfl <| ak rfl k83 <| sr fun _ k93 => bd h fun x94 hx94 h => ya (loadBM (k := 192) agg_124 rfl rfl rfl) <| c1 198 Tryz.func108 rfl (fun w hb hh => w_gfmatrix_Invert (Mem.snap w) x84.1 x84.2.1 A89 n90 c91 _ (RdH.sn (rO 188 rfl) w hb hh) hx94) fun A99 n100 c101 => mv rfl <| ya (extract rfl rfl) <| ya (extract rfl rfl) <| al 202 zr_124 fun g102 => sb 202 agg_124 rfl rfl rfl <| ak rfl k93 <| sr fun _ k103 => bd h fun x104 hx104 h => ya (loadBM (k := 182) agg_124 rfl rfl rfl) <| ya (loadBM (k := 202) agg_124 rfl rfl rfl) <| c1 208 Tryz.func109 rfl (fun w hb hh => w_gfmatrix_Mul (Mem.snap w) x74.1 x74.2.1 A79 n80 c81 _ (RdH.sn (rO 178 rfl) w hb hh) x94.1 x94.2.1 A99 n100 c101 _ (RdH.sn (rO 198 rfl) w hb hh) hx104) fun A109 n110 c111 => mv rfl <| ya (extract rfl rfl) <| ya (extract rfl rfl) <| al 212 zr_124 fun g112 => sb 212 agg_124 rfl rfl rfl <| ak rfl k103 <| sr fun _ k113 => bd h fun x114 hx114 h => ya (loadBM (k := 212) agg_124 rfl rfl rfl) <| mv rfl <| WL.freeze 208 rfl rfl rfl fun M126 hm_M126 hf127 => WL.freeze 112 rfl rfl rfl fun M128 hm_M128 hf129 => WL.eff (by decide) (Eff.callM 220 rfl Tryz.func79 nm_79 rfl rfl rfl (w_gfmatrix_Apply _ x104.1 x104.2.1 A109 n110 c111 _ (SlRc.lift hf127 hm_M128) A13 n14 c15 rs17 _ hf129 (Rels.lift (Rels.lift hq18 hm_M126) hm_M128) hx114)) ?_
 rintro _ _ ⟨M130, _, ⟨A131, n132, c133, rs134, rfl, rfl, hq135⟩, hm_M130, rfl⟩
 refine mv rfl <| ya (extract rfl rfl) <| ya (extract rfl rfl) <| asn rfl <| ak rfl k113 <| sr fun _ k136 => mv rfl <| ak rfl k136 <| re ?_
 obtain rfl := si h
 exact rt [220] (ResIs.one rfl rfl) (Ext.trans (Ext.trans hm_M126 hm_M128) hm_M130) ⟨A131, n132, c133, rs134, rfl, rfl, hq135⟩
theorem w_rs_Restore (M0 : Mem) (A00 : Option Addr) (n00 c00 : Nat) (rs00 : List Hdr) (x00 : List By) (hf00 : SlT M0 A00 n00 c00 rs00) (hq00 : Rels ((RelB (α := BitVec 8)) M0) rs00 x00) (A01 : Option Addr) (n01 c01 : Nat) (x01 : List Bool) (hf01 : SlT M0 A01 n01 c01 x01) {res : (List By) × Int} (h : m_rs_Restore x00 x01 = some res) :
  Fn Tryz.prog 45 #[.slice A00 n00 c00, .slice A01 n01 c01] M0 fun r M' es => ∃ (A1 : Option Addr) (n1 c1 : Nat), ∃ rs1 : List Hdr, r = .tuple #[.slice A1 n1 c1, I64 res.2] /\ es = [.own 22 (Lay.sz Hdr) A1 n1 c1 (cel rs1)] /\ Rels ((RelB (α := BitVec 8)) M') rs1 res.1 := by
 refine Fn.intro (N := 51) Tryz.func45 rfl rfl (nle rfl) fun w0 => ?_
 unfold m_rs_Restore at h
 refine sr fun _ k1 => asn rfl <| ak rfl k1 <| ct (σ := Unit) (fun _ => [(0, .slice A00 n00 c00), (1, .slice A01 n01 c01)]) (fun _ => [(0, .mem M0)]) (fun _ => m_rs_Restore_j0 x00 x01 = some res) (fun _ k2 => ?_) ?_
 ·refine sr fun _ k3 => mv rfl <| ya (lenD (rs := rs00) (xs := x00) (Rels.len hq00) und_30 rfl (mM rfl hf00)) <| ya (neqI rfl rfl) <| mv rfl <| spn h bne_eq_false_iff_eq.2 bne_iff_ne.2 (fun hc4 h => ?_) fun hc4 h => ?_
  ·refine mvg rfl <| yg (lenC (xs := x01) und_91 rfl (mM rfl hf01)) <| yg (neqI rfl rfl) <| pf rfl rfl <| dz k3 <| cnn h rfl bne_eq_false_iff_eq.2 bne_iff_ne.2 (fun hc5 h => ?_) fun hc5 h => ?_
   ·exact WC.skip <| tn <| kw (k2 () h)
   refine sr fun _ k6 => asn rfl <| ak rfl k6 <| re <| tr <| QK.nilOwn 107 22 (Lay.sz Hdr) none ?_
   obtain rfl := si h
   exact rt [107] (ResIs.two rfl rfl rfl) (Ext.refl _ _) ⟨none, 0, 0, ([] : List Hdr), rfl, rfl, (Rels.nil (R := (RelB (α := BitVec 8)) M0))⟩
  refine sk <| sk <| sk <| pt rfl rfl <| dz k3 <| cdT rfl <| sr fun _ k8 => asn rfl <| ak rfl k8 <| re <| tr <| QK.nilOwn 109 22 (Lay.sz Hdr) none ?_
  obtain rfl := si h
  exact rt [109] (ResIs.two rfl rfl rfl) (Ext.refl _ _) ⟨none, 0, 0, ([] : List Hdr), rfl, rfl, (Rels.nil (R := (RelB (α := BitVec 8)) M0))⟩
 rintro _ h
 unfold m_rs_Restore_j0 at h
 refine sr fun _ k10 => bd h fun x11 hx11 h => mv rfl <| ya (arrayAtC (xs := x01) und_138 rfl (mM rfl hf01) hx11) <| ya (loadTk (xs := x01) agg_138 rfl (Nat.lt_of_sub_eq_succ rfl) rfl (mM rfl hf01) hx11) <| al 112 zr_138 fun g12 => WL.eff0 (Eff0.storeBAM 112 agg_138 rfl rfl rfl ⟨cel_len1 rfl (tka_len hx11), cel_len1 rfl List.length_replicate⟩ (cel_all _)) <| dz k10 <| sr fun _ k13 => asn rfl <| ak rfl k13 <| ct (σ := Int) (fun x14 => [(0, .slice A00 n00 c00), (6, pv g12), (8, I64 x14)]) (fun x14 => [(0, .mem M0), (112, .blk g12 138 (cel x11))]) (fun x14 => m_rs_Restore_j1 x00 x11 x14 = some res) (fun _ k15 => ?_) ?_
 ·refine sr fun _ k16 => ya (loadBM (k := 112) agg_138 rfl rfl (cel_len1 rfl (tka_len hx11))) <| mv rfl <| dz k16 <| bl <| lp (τ := Int × Int × Int) (fun ⟨x17, x18, x19⟩ => [(0, .slice A00 n00 c00), (6, pv g12), (7, I64 x17), (8, I64 x18), (22, .agg (cel x11).toArray), (23, I64 x19)]) (fun ⟨x17, x18, x19⟩ => [(0, .mem M0), (112, .blk g12 138 (cel x11))]) (fun q20 ⟨x17, x18, x19⟩ => m_rs_Restore_l2 x00 x11 q20 x17 x18 x19 = some res) ⟨(-1 : Int), (0 : Int), (0 : Int)⟩ ?_ (by simp [m_rs_Restore_l2]) ?_
  ·exact h
  rintro q20 ⟨x17, x18, x19⟩ h _ k21
  unfold m_rs_Restore_l2 at h
  refine sr fun _ k22 => ya (lss rfl rfl) <| dz k22 <| sq fun _ k23 => cI h rfl (fun hc24 h => ?_) fun hc24 h => ?_
  ·refine ss <| k23 _ _ <| sq fun _ k25 => bl <| sr fun _ k26 => bd h fun x27 hx27 h => mv rfl <| ya (idxAggC (xs := x11) und_138 siz_4 rfl scal_4 rfl rfl (tka_len hx11) hx27 rfl) <| asn rfl <| ak rfl k26 <| sq fun _ k28 => sr fun _ k29 => mv rfl <| ya (notB rfl) <| dz k29 <| cnn h rfl not_f (fun q => not_t (Bool.eq_false_iff.2 q)) (fun hc30 h => ?_) fun hc30 h => ?_
   ·refine ss <| k28 _ _ <| sq fun _ k31 => sr fun _ k32 => mv rfl <| ya (lss rfl rfl) <| dz k32 <| cI h rfl (fun hc33 h => ?_) fun hc33 h => ?_
    ·refine rg fun _ k34 => mv rfl <| ak rfl k34 <| tn <| k31 _ _ <| sq fun _ k35 => sd [(0, _), (112, _)] mixed fun _ k36 => ?_
     obtain ⟨x37, hx37, h⟩ := bnd h
     obtain ⟨x41, hx41, h⟩ := bnd h
     refine dm 0 rfl rfl <| dm 1 rfl rfl ?_
     obtain ⟨r_38, hr39, hq40⟩ := Rels.idx hq00 hx37
     refine du 2 rfl (idxC (xs := rs00) sty_30 rfl rfl (mM rfl hf00) hr39) <| du 3 rfl (loadC0 (xs := rs00) scal_22 rfl (mM rfl hf00) hr39 rfl) <| du 4 rfl (lenC (xs := x37) und_22 rfl (mM rfl hq40)) <| dm 5 rfl rfl <| dm 6 rfl rfl ?_
     obtain ⟨r_42, hr43, hq44⟩ := Rels.idx hq00 hx41
     refine du 7 rfl (idxC (xs := rs00) sty_30 rfl rfl (mM rfl hf00) hr43) <| du 8 rfl (loadC0 (xs := rs00) scal_22 rfl (mM rfl hf00) hr43 rfl) <| du 9 rfl (lenC (xs := x41) und_22 rfl (mM rfl hq44)) <| du 10 rfl (neqI rfl rfl) <| dd <| k36 _ _ <| cnn h rfl bne_eq_false_iff_eq.2 bne_iff_ne.2 (fun hc45 h => ?_) fun hc45 h => ?_
     ·refine ss <| k35 _ _ <| rg fun _ k46 => bd h fun x47 hx47 h => mv rfl <| ya (addC rfl rfl hx47) <| ak rfl k46 <| bn <| tn <| k25 _ _ <| rg fun _ k48 => bd h fun x49 hx49 h => ya (addC rfl rfl hx49) <| mv rfl <| dz k48 <| tn <| kw (k21 ⟨x19, x47, x49⟩ h)
     refine sr fun _ k50 => asn rfl <| ak rfl k50 <| re <| tr <| br <| tr <| tr <| br <| tr <| QK.nilOwn 151 22 (Lay.sz Hdr) none ?_
     obtain rfl := si h
     exact rt [151] (ResIs.two rfl rfl rfl) (Ext.refl _ _) ⟨none, 0, 0, ([] : List Hdr), rfl, rfl, (Rels.nil (R := (RelB (α := BitVec 8)) M0))⟩
    refine ss <| k31 _ _ <| sq fun _ k52 => sd [(0, _), (112, _)] mixed fun _ k53 => ?_
    obtain ⟨x54, hx54, h⟩ := bnd h
    obtain ⟨x58, hx58, h⟩ := bnd h
    refine dm 0 rfl rfl <| dm 1 rfl rfl ?_
    obtain ⟨r_55, hr56, hq57⟩ := Rels.idx hq00 hx54
    refine du 2 rfl (idxC (xs := rs00) sty_30 rfl rfl (mM rfl hf00) hr56) <| du 3 rfl (loadC0 (xs := rs00) scal_22 rfl (mM rfl hf00) hr56 rfl) <| du 4 rfl (lenC (xs := x54) und_22 rfl (mM rfl hq57)) <| dm 5 rfl rfl <| dm 6 rfl rfl ?_
    obtain ⟨r_59, hr60, hq61⟩ := Rels.idx hq00 hx58
    refine du 7 rfl (idxC (xs := rs00) sty_30 rfl rfl (mM rfl hf00) hr60) <| du 8 rfl (loadC0 (xs := rs00) scal_22 rfl (mM rfl hf00) hr60 rfl) <| du 9 rfl (lenC (xs := x58) und_22 rfl (mM rfl hq61)) <| du 10 rfl (neqI rfl rfl) <| dd <| k53 _ _ <| cnn h rfl bne_eq_false_iff_eq.2 bne_iff_ne.2 (fun hc62 h => ?_) fun hc62 h => ?_
    ·refine ss <| k52 _ _ <| rg fun _ k63 => bd h fun x64 hx64 h => mv rfl <| ya (addC rfl rfl hx64) <| ak rfl k63 <| bn <| tn <| k25 _ _ <| rg fun _ k65 => bd h fun x66 hx66 h => ya (addC rfl rfl hx66) <| mv rfl <| dz k65 <| tn <| kw (k21 ⟨x17, x64, x66⟩ h)
    refine sr fun _ k67 => asn rfl <| ak rfl k67 <| re <| tr <| br <| tr <| tr <| br <| tr <| QK.nilOwn 168 22 (Lay.sz Hdr) none ?_
    obtain rfl := si h
    exact rt [168] (ResIs.two rfl rfl rfl) (Ext.refl _ _) ⟨none, 0, 0, ([] : List Hdr), rfl, rfl, (Rels.nil (R := (RelB (α := BitVec 8)) M0))⟩
   refine xi <| te <| bx <| tn <| k25 _ _ <| rg fun _ k69 => bd h fun x70 hx70 h => ya (addC rfl rfl hx70) <| mv rfl <| dz k69 <| tn <| kw (k21 ⟨x17, x18, x70⟩ h)
  exact xi <| te <| te <| bx <| tn <| kw (k15 x18 h)
 rintro x14 h
 unfold m_rs_Restore_j1 at h
 refine sq fun _ k71 => sr fun _ k72 => mv rfl <| ya (lss rfl rfl) <| dz k72 <| cI h rfl (fun hc73 h => ?_) fun hc73 h => ?_
 ·refine sr fun _ k74 => asn rfl <| ak rfl k74 <| re <| tr <| QK.nilOwn 175 22 (Lay.sz Hdr) none ?_
  obtain rfl := si h
  exact rt [175] (ResIs.two rfl rfl rfl) (Ext.refl _ _) ⟨none, 0, 0, ([] : List Hdr), rfl, rfl, (Rels.nil (R := (RelB (α := BitVec 8)) M0))⟩
 refine ss <| k71 _ _ <| sr fun _ k76 => bd h fun x77 hx77 h => mv rfl <| ya (loadBM (k := 112) agg_138 rfl rfl (cel_len1 rfl (tka_len hx11))) <| WL.eff (by decide) (Eff.callM 183 rfl Tryz.func87 nm_87 rfl rfl rfl (w_rs_restore _ A00 n00 c00 rs00 _ hf00 hq00 x11 (tka_len hx11) hx77)) ?_
 rintro _ _ ⟨M89, _, ⟨A90, n91, c92, rs93, rfl, rfl, hq94⟩, hm_M89, rfl⟩
 refine asn rfl <| ak rfl k76 <| re ?_
 obtain rfl := si h
 exact rt [183] (ResIs.two rfl rfl rfl) hm_M89 ⟨A90, n91, c92, rs93, rfl, rfl, hq94⟩
theorem w_rs_Encode (M0 : Mem) (A00 : Option Addr) (n00 c00 : Nat) (rs00 : List Hdr) (x00 : List By) (hf00 : SlT M0 A00 n00 c00 rs00) (hq00 : Rels ((RelB (α := BitVec 8)) M0) rs00 x00) {res : (List By) × Int} (h : m_rs_Encode x00 = some res) :
  Fn Tryz.prog 37 #[.slice A00 n00 c00] M0 fun r M' es => ∃ (A1 : Option Addr) (n1 c1 : Nat), ∃ rs1 : List Hdr, r = .tuple #[.slice A1 n1 c1, I64 res.2] /\ es = [.own 22 (Lay.sz Hdr) A1 n1 c1 (cel rs1)] /\ Rels ((RelB (α := BitVec 8)) M') rs1 res.1 := by
 refine Fn.intro (N := 20) Tryz.func37 rfl rfl (nle rfl) fun w0 => ?_
 unfold m_rs_Encode at h
 refine sr fun _ k1 => asn rfl <| ak rfl k1 <| sq fun _ k2 => sr fun _ k3 => mv rfl <| ya (lenD (rs := rs00) (xs := x00) (Rels.len hq00) und_30 rfl (mM rfl hf00)) <| ya (neqI rfl rfl) <| dz k3 <| cnn h rfl bne_eq_false_iff_eq.2 bne_iff_ne.2 (fun hc4 h => ?_) fun hc4 h => ?_
 ·refine ss <| k2 _ _ <| sr fun _ k5 => ?_
  obtain ⟨x6, hx6, h⟩ := bnd h
  obtain ⟨x15, hx15, h⟩ := bnd h
  refine c1 110 Tryz.func78 rfl (fun w hb hh => w_rs_Code (Mem.snap w) hx6) fun A11 n12 c13 => WL.eff (by decide) (Eff.buildC 114 ([(4 : Int), (5 : Int)] : List Int) sty_45 rfl rfl rfl rfl rfl (by decide)) ?_
  rintro _ _ ⟨g14, rfl, rfl⟩
  refine c1 119 Tryz.func77 rfl (fun w hb hh => w_gfmatrix_Pick (Mem.snap w) x6.1 x6.2.1 A11 n12 c13 _ (RdH.sn (rO 110 rfl) w hb hh) (some ⟨g14, 0, none⟩) (([(4 : Int), (5 : Int)] : List Int).length) (([(4 : Int), (5 : Int)] : List Int).length) _ (RdH.sn (rO 114 rfl) w hb hh) hx15) fun A20 n21 c22 => mv rfl <| ya (extract rfl rfl) <| ya (extract rfl rfl) <| al 123 zr_124 fun g23 => sb 123 agg_124 rfl rfl rfl <| ak rfl k5 <| sr fun _ k24 => bd h fun x25 hx25 h => ya (loadBM (k := 123) agg_124 rfl rfl rfl) <| mv rfl <| WL.freeze 119 rfl rfl rfl fun M37 hm_M37 hf38 => WL.eff (by decide) (Eff.callM 131 rfl Tryz.func79 nm_79 rfl rfl rfl (w_gfmatrix_Apply _ x15.1 x15.2.1 A20 n21 c22 _ hf38 A00 n00 c00 rs00 _ (SlRc.lift hf00 hm_M37) (Rels.lift hq00 hm_M37) hx25)) ?_
  rintro _ _ ⟨M39, _, ⟨A40, n41, c42, rs43, rfl, rfl, hq44⟩, hm_M39, rfl⟩
  refine ya (extract rfl rfl) <| ya (extract rfl rfl) <| asn rfl <| ak rfl k24 <| re ?_
  obtain rfl := si h
  exact rt [131] (ResIs.two rfl rfl rfl) (Ext.trans hm_M37 hm_M39) ⟨A40, n41, c42, rs43, rfl, rfl, hq44⟩
 refine sr fun _ k45 => asn rfl <| ak rfl k45 <| re <| tr <| QK.nilOwn 146 22 (Lay.sz Hdr) none ?_
 obtain rfl := si h
 exact rt [146] (ResIs.two rfl rfl rfl) (Ext.refl _ _) ⟨none, 0, 0, ([] : List Hdr), rfl, rfl, (Rels.nil (R := (RelB (α := BitVec 8)) M0))⟩
theorem nm_84 : (Tryz.f84.name == "runtime.NumGoroutine") = false := by kernel_rfl
theorem nm_88 : (Tryz.f88.name == "runtime.NumGoroutine") = false := by kernel_rfl
theorem nm_89 : (Tryz.f89.name == "runtime.NumGoroutine") = false := by kernel_rfl
theorem nm_91 : (Tryz.f91.name == "runtime.NumGoroutine") = false := by kernel_rfl
theorem sty_91 : STy Tryz.prog 91 4 (.bool false) 1 1 := STy.of und_91 (by kernel_rfl) rfl
theorem w_r04_Code (M0 : Mem)  {res : Int × Int × By} (h : m_r04_Code = some res) :
  Fn Tryz.prog 89 #[] M0 fun r M' es => ∃ (A1 : Option Addr) (n1 c1 : Nat), r = .agg ([I64 res.1, I64 res.2.1, .slice A1 n1 c1] : List Value).toArray /\ es = [.own 5 (Lay.sz (BitVec 8)) A1 n1 c1 (cel res.2.2)] := by
 refine Fn.intro (N := 31) Tryz.func89 rfl rfl (nle rfl) fun w0 => ?_
 unfold m_r04_Code at h
 refine sr fun _ k1 => al 102 zr_140 fun g2 => dz k1 <| sr fun _ k3 => bd h fun x4 hx4 h => c1 108 Tryz.func117 rfl (fun w hb hh => w_r03_Vandermonde (Mem.snap w) (6 : Int) (4 : Int) hx4) fun A9 n10 c11 => mv rfl <| ya (extract rfl rfl) <| ya (extract rfl rfl) <| al 112 zr_140 fun g12 => sb 112 agg_140 rfl rfl rfl <| ak rfl k3 <| sr fun _ k13 => bd h fun x15 hx15 h => ya (loadBM (k := 112) agg_140 rfl rfl rfl) <| WL.eff (by decide) (Eff.buildC 114 ([(0 : Int), (1 : Int), (2 : Int), (3 : Int)] : List Int) sty_45 rfl rfl rfl rfl rfl (by decide)) ?_
 rintro _ _ ⟨g14, rfl, rfl⟩
 refine c1 119 Tryz.func88 rfl (fun w hb hh => w_r03_Pick (Mem.snap w) x4.1 x4.2.1 A9 n10 c11 _ (RdH.sn (rO 108 rfl) w hb hh) (some ⟨g14, 0, none⟩) (([(0 : Int), (1 : Int), (2 : Int), (3 : Int)] : List Int).length) (([(0 : Int), (1 : Int), (2 : Int), (3 : Int)] : List Int).length) _ (RdH.sn (rO 114 rfl) w hb hh) hx15) fun A20 n21 c22 => mv rfl <| ya (extract rfl rfl) <| ya (extract rfl rfl) <| al 123 zr_140 fun g23 => sb 123 agg_140 rfl rfl rfl <| ak rfl k13 <| sr fun _ k24 => bd h fun x25 hx25 h => ya (loadBM (k := 123) agg_140 rfl rfl rfl) <| c1 129 Tryz.func90 rfl (fun w hb hh => w_r03_Invert (Mem.snap w) x15.1 x15.2.1 A20 n21 c22 _ (RdH.sn (rO 119 rfl) w hb hh) hx25) fun A30 n31 c32 => mv rfl <| ya (extract rfl rfl) <| ya (extract rfl rfl) <| al 133 zr_140 fun g33 => sb 133 agg_140 rfl rfl rfl <| ak rfl k24 <| sr fun _ k34 => bd h fun x35 hx35 h => ya (loadBM (k := 112) agg_140 rfl rfl rfl) <| ya (loadBM (k := 133) agg_140 rfl rfl rfl) <| c1 139 Tryz.func118 rfl (fun w hb hh => w_r03_Mul (Mem.snap w) x4.1 x4.2.1 A9 n10 c11 _ (RdH.sn (rO 108 rfl) w hb hh) x25.1 x25.2.1 A30 n31 c32 _ (RdH.sn (rO 129 rfl) w hb hh) hx35) fun A40 n41 c42 => mv rfl <| ya (extract rfl rfl) <| ya (extract rfl rfl) <| al 143 zr_140 fun g43 => sb 143 agg_140 rfl rfl rfl <| ak rfl k34 <| sr fun _ k44 => ya (loadBM (k := 143) agg_140 rfl rfl rfl) <| sb 102 agg_140 rfl rfl rfl <| dz k44 <| re ?_
 obtain rfl := si h
 exact rt [139] (ResIs.cellM (k := 102) rfl agg_140 rfl rfl (rfl)) (Ext.refl _ _) ⟨A40, n41, c42, rfl, rfl⟩
theorem w_r04_Level (M0 : Mem) (A00 : Option Addr) (n00 c00 : Nat) (rs00 : List Hdr) (x00 : List By) (hf00 : SlT M0 A00 n00 c00 rs00) (hq00 : Rels ((RelB (α := BitVec 8)) M0) rs00 x00) (x01 : Int) {res : Bool} (h : m_r04_Level x00 x01 = some res) :
  Fn Tryz.prog 83 #[.slice A00 n00 c00, I64 x01] M0 fun r M' es => r = .bool res /\ es = [] := by
 refine Fn.intro (N := 25) Tryz.func83 rfl rfl (nle rfl) fun w0 => ?_
 unfold m_r04_Level at h
 refine sr fun _ k1 => ak rfl k1 <| sq fun _ k2 => sr fun _ k3 => mv rfl <| ya (lenD (rs := rs00) (xs := x00) (Rels.len hq00) und_30 rfl (mM rfl hf00)) <| mv rfl <| ya (neqI rfl rfl) <| dz k3 <| cnn h rfl bne_eq_false_iff_eq.2 bne_iff_ne.2 (fun hc4 h => ?_) fun hc4 h => ?_
 ·refine ss <| k2 _ _ <| ct (σ := Unit) (fun _ => []) (fun _ => [(0, .mem M0)]) (fun _ => m_r04_Level_j0 = some res) (fun _ k5 => ?_) ?_
  ·refine sr fun _ k6 => ak rfl k6 <| bl <| lp (τ := Int) (fun x7 => [(0, .slice A00 n00 c00), (1, I64 x01), (5, I64 x7)]) (fun x7 => [(0, .mem M0)]) (fun q8 x7 => m_r04_Level_l1 x00 x01 q8 x7 = some res) ((0 : Int)) ?_ (by simp [m_r04_Level_l1]) ?_
   ·exact h
   rintro q8 x7 h _ k9
   unfold m_r04_Level_l1 at h
   refine sq fun _ k10 => sr fun _ k11 => mv rfl <| mv rfl <| ya (lss rfl rfl) <| dz k11 <| cI h rfl (fun hc12 h => ?_) fun hc12 h => ?_
   ·refine ss <| k10 _ _ <| sq fun _ k13 => bl <| sd [(0, _)] mixed fun _ k14 => ?_
    obtain ⟨x15, hx15, h⟩ := bnd h
    obtain ⟨x19, hx19, h⟩ := bnd h
    refine dm 0 rfl rfl <| dm 1 rfl rfl ?_
    obtain ⟨r_16, hr17, hq18⟩ := Rels.idx hq00 hx15
    refine du 2 rfl (idxC (xs := rs00) sty_30 rfl rfl (mM rfl hf00) hr17) <| du 3 rfl (loadC0 (xs := rs00) scal_22 rfl (mM rfl hf00) hr17 rfl) <| du 4 rfl (lenC (xs := x15) und_22 rfl (mM rfl hq18)) <| dm 5 rfl rfl ?_
    obtain ⟨r_20, hr21, hq22⟩ := Rels.idx hq00 hx19
    refine du 6 rfl (idxC (xs := rs00) sty_30 rfl rfl (mM rfl hf00) hr21) <| du 7 rfl (loadC0 (xs := rs00) scal_22 rfl (mM rfl hf00) hr21 rfl) <| du 8 rfl (lenC (xs := x19) und_22 rfl (mM rfl hq22)) <| du 9 rfl (neqI rfl rfl) <| dd <| k14 _ _ <| cnn h rfl bne_eq_false_iff_eq.2 bne_iff_ne.2 (fun hc23 h => ?_) fun hc23 h => ?_
    ·refine WC.skip <| bn <| tn <| k13 _ _ <| rg fun _ k24 => bd h fun x25 hx25 h => mv rfl <| ya (addC rfl rfl hx25) <| ak rfl k24 <| tn <| kw (k9 (x25) h)
    refine sr fun _ k26 => ak rfl k26 <| re <| br <| tr <| tr <| br <| tr ?_
    obtain rfl := si h
    exact rt0 (ResIs.one rfl rfl)
   exact xi <| te <| te <| bx <| tn <| kw (k5 () h)
  rintro _ h
  unfold m_r04_Level_j0 at h
  refine sr fun _ k27 => ak rfl k27 <| re ?_
  obtain rfl := si h
  exact rt0 (ResIs.one rfl rfl)
 refine sr fun _ k28 => ak rfl k28 <| re <| tr ?_
 obtain rfl := si h
 exact rt0 (ResIs.one rfl rfl)
theorem w_r04_all (M0 : Mem) (A00 : Option Addr) (n00 c00 : Nat) (rs00 : List Hdr) (x00 : List By) (hf00 : SlT M0 A00 n00 c00 rs00) (hq00 : Rels ((RelB (α := BitVec 8)) M0) rs00 x00) {res : (List By)} (h : m_r04_all x00 = some res) :
  Fn Tryz.prog 84 #[.slice A00 n00 c00] M0 fun r M' es => ∃ (A1 : Option Addr) (n1 c1 : Nat), ∃ rs1 : List Hdr, r = .slice A1 n1 c1 /\ es = [.own 22 (Lay.sz Hdr) A1 n1 c1 (cel rs1)] /\ Rels ((RelB (α := BitVec 8)) M') rs1 res := by
 refine Fn.intro (N := 12) Tryz.func84 rfl rfl (nle rfl) fun w0 => ?_
 unfold m_r04_all at h
 refine sr fun _ k1 => ak rfl k1 <| sr fun _ k2 => ?_
 obtain ⟨x3, hx3, h⟩ := bnd h
 obtain ⟨x11, hx11, h⟩ := bnd h
 refine c1 107 Tryz.func89 rfl (fun w hb hh => w_r04_Code (Mem.snap w) hx3) fun A8 n9 c10 => mv rfl <| WL.freeze 107 rfl rfl rfl fun M23 hm_M23 hf24 => WL.eff (by decide) (Eff.callM 117 rfl Tryz.func91 nm_91 rfl rfl rfl (w_r03_Apply _ x3.1 x3.2.1 A8 n9 c10 _ hf24 A00 n00 c00 rs00 _ (SlRc.lift hf00 hm_M23) (Rels.lift hq00 hm_M23) hx11)) ?_
 rintro _ _ ⟨M25, _, ⟨A26, n27, c28, rs29, rfl, rfl, hq30⟩, hm_M25, rfl⟩
 refine mv rfl <| ya (extract rfl rfl) <| ya (extract rfl rfl) <| asn rfl <| ak rfl k2 <| sr fun _ k31 => mv rfl <| ak rfl k31 <| re ?_
 obtain rfl := si h
 exact rt [117] (ResIs.one rfl rfl) (Ext.trans hm_M23 hm_M25) ⟨A26, n27, c28, rs29, rfl, rfl, hq30⟩
theorem w_r04_Restore (M0 : Mem) (A00 : Option Addr) (n00 c00 : Nat) (rs00 : List Hdr) (x00 : List By) (hf00 : SlT M0 A00 n00 c00 rs00) (hq00 : Rels ((RelB (α := BitVec 8)) M0) rs00 x00) (A01 : Option Addr) (n01 c01 : Nat) (x01 : List Bool) (hf01 : SlT M0 A01 n01 c01 x01) {res : (List By) × Int} (h : m_r04_Restore x00 x01 = some res) :
  Fn Tryz.prog 46 #[.slice A00 n00 c00, .slice A01 n01 c01] M0 fun r M' es => ∃ (A1 : Option Addr) (n1 c1 : Nat), ∃ rs1 : List Hdr, r = .tuple #[.slice A1 n1 c1, I64 res.2] /\ es = [.own 22 (Lay.sz Hdr) A1 n1 c1 (cel rs1)] /\ Rels ((RelB (α := BitVec 8)) M') rs1 res.1 := by
 refine Fn.intro (N := 82) Tryz.func46 rfl rfl (nle rfl) fun w0 => ?_
 unfold m_r04_Restore at h
 refine sr fun _ k1 => asn rfl <| ak rfl k1 <| ct (σ := Unit) (fun _ => [(0, .slice A00 n00 c00), (1, .slice A01 n01 c01)]) (fun _ => [(0, .mem M0)]) (fun _ => m_r04_Restore_j0 x00 x01 = some res) (fun _ k2 => ?_) ?_
 ·refine sr fun _ k3 => mv rfl <| ya (lenD (rs := rs00) (xs := x00) (Rels.len hq00) und_30 rfl (mM rfl hf00)) <| ya (neqI rfl rfl) <| mv rfl <| spn h bne_eq_false_iff_eq.2 bne_iff_ne.2 (fun hc4 h => ?_) fun hc4 h => ?_
  ·refine mvg rfl <| yg (lenC (xs := x01) und_91 rfl (mM rfl hf01)) <| yg (neqI rfl rfl) <| pf rfl rfl <| dz k3 <| cnn h rfl bne_eq_false_iff_eq.2 bne_iff_ne.2 (fun hc5 h => ?_) fun hc5 h => ?_
   ·exact WC.skip <| tn <| kw (k2 () h)
   refine sr fun _ k6 => asn rfl <| ak rfl k6 <| re <| tr <| QK.nilOwn 107 22 (Lay.sz Hdr) none ?_
   obtain rfl := si h
   exact rt [107] (ResIs.two rfl rfl rfl) (Ext.refl _ _) ⟨none, 0, 0, ([] : List Hdr), rfl, rfl, (Rels.nil (R := (RelB (α := BitVec 8)) M0))⟩
  refine sk <| sk <| sk <| pt rfl rfl <| dz k3 <| cdT rfl <| sr fun _ k8 => asn rfl <| ak rfl k8 <| re <| tr <| QK.nilOwn 109 22 (Lay.sz Hdr) none ?_
  obtain rfl := si h
  exact rt [109] (ResIs.two rfl rfl rfl) (Ext.refl _ _) ⟨none, 0, 0, ([] : List Hdr), rfl, rfl, (Rels.nil (R := (RelB (α := BitVec 8)) M0))⟩
 rintro _ h
 unfold m_r04_Restore_j0 at h
 refine sr fun _ k10 => ak rfl k10 <| sr fun _ k11 => ak rfl k11 <| ct (σ := (Option Addr) × Nat × Nat × (List Int) × (Option Addr) × Nat × Nat × (List By) × (List Hdr)) (fun ⟨A14, n15, c16, x17, A20, n21, c22, x23, rs24⟩ => [(6, .slice A14 n15 c16), (7, .slice A20 n21 c22)]) (fun ⟨A14, n15, c16, x17, A20, n21, c22, x23, rs24⟩ => [(0, .mem M0), (113, .own 3 (Lay.sz Int) A14 n15 c16 (cel x17)), (119, .own 22 (Lay.sz Hdr) A20 n21 c22 (cel rs24))]) (fun ⟨A14, n15, c16, x17, A20, n21, c22, x23, rs24⟩ => m_r04_Restore_j1 x17 x23 = some res /\ Rels ((RelB (α := BitVec 8)) M0) rs24 x23) (fun _ k26 => ?_) ?_
 ·refine sr fun _ k27 => ak rfl k27 <| bl <| WC.nilOwn 129 3 (Lay.sz Int) none <| WC.nilOwn 135 22 (Lay.sz Hdr) none <| lp (τ := (Option Addr) × Nat × Nat × (List Int) × (Option Addr) × Nat × Nat × (List By) × (List Hdr) × Int) (fun ⟨A30, n31, c32, x33, A36, n37, c38, x39, rs40, x42⟩ => [(0, .slice A00 n00 c00), (1, .slice A01 n01 c01), (6, .slice A30 n31 c32), (7, .slice A36 n37 c38), (8, I64 x42)]) (fun ⟨A30, n31, c32, x33, A36, n37, c38, x39, rs40, x42⟩ => [(0, .mem M0), (129, .own 3 (Lay.sz Int) A30 n31 c32 (cel x33)), (135, .own 22 (Lay.sz Hdr) A36 n37 c38 (cel rs40))]) (fun q43 ⟨A30, n31, c32, x33, A36, n37, c38, x39, rs40, x42⟩ => m_r04_Restore_l2 x00 x01 q43 x33 x39 x42 = some res /\ Rels ((RelB (α := BitVec 8)) M0) rs40 x39) ⟨none, 0, 0, ([] : List Int), none, 0, 0, ([] : List By), ([] : List Hdr), (0 : Int)⟩ ?_ (by simp [m_r04_Restore_l2]) ?_
  ·exact ⟨h, (Rels.nil (R := (RelB (α := BitVec 8)) M0))⟩
  rintro q43 ⟨A30, n31, c32, x33, A36, n37, c38, x39, rs40, x42⟩ ⟨h, hq41⟩ _ k44
  unfold m_r04_Restore_l2 at h
  refine sq fun _ k45 => sr fun _ k46 => mv rfl <| ya (lss rfl rfl) <| dz k46 <| cI h rfl (fun hc47 h => ?_) fun hc47 h => ?_
  ·refine ss <| k45 _ _ <| sq fun _ k48 => bl <| sq fun _ k49 => sr fun _ k50 => bd h fun x51 hx51 h => mv rfl <| mv rfl <| ya (idxC (xs := x01) sty_91 rfl rfl (mM rfl hf01) hx51) <| ya (loadC0 (xs := x01) scal_4 rfl (mM rfl hf01) hx51 rfl) <| ya (notB rfl) <| dz k50 <| cnn h rfl not_f (fun q => not_t (Bool.eq_false_iff.2 q)) (fun hc52 h => ?_) fun hc52 h => ?_
   ·refine ss <| k49 _ _ <| sq fun _ k53 => sd [(0, _), (129, _), (135, _)] mixed fun _ k54 => ?_
    by_cases hc55 : (0 : Int) < (x39.length : Int)
    ·replace h := of_t hc55 h
     obtain ⟨x56, hx56, h⟩ := bnd h
     obtain ⟨x60, hx60, h⟩ := bnd h
     refine dm 0 rfl rfl <| du 1 rfl (lenD (rs := rs40) (xs := x39) (Rels.len hq41) und_30 rfl (rO 135 rfl)) <| du 2 rfl (gtr rfl rfl) <| dm 3 rfl rfl <| WD.new (v' := .bool true) (congrArg Value.bool (decide_eq_true hc55)) <| dv 4 rfl (Yld.move rfl) <| dv 5 rfl (Yld.move rfl) ?_
     obtain ⟨r_57, hr58, hq59⟩ := Rels.idx hq00 hx56
     refine dv 6 rfl (idxC (xs := rs00) sty_30 rfl rfl (mM rfl hf00) hr58) <| dv 7 rfl (loadC0 (xs := rs00) scal_22 rfl (mM rfl hf00) hr58 rfl) <| dv 8 rfl (lenC (xs := x56) und_22 rfl (mM rfl hq59)) <| dv 9 rfl (Yld.move rfl) ?_
     obtain ⟨r_61, hr62, hq63⟩ := Rels.idx hq41 hx60
     refine dv 10 rfl (idxC (xs := rs40) sty_30 rfl rfl (rO 135 rfl) hr62) <| dv 11 rfl (loadC0 (xs := rs40) scal_22 rfl (rO 135 rfl) hr62 rfl) <| dv 12 rfl (lenC (xs := x60) und_22 rfl (mM rfl hq63)) <| dv 13 rfl (neqI rfl rfl) <| du 14 rfl (pickT rfl rfl) <| dd <| k54 _ _ <| cnn h rfl bne_eq_false_iff_eq.2 bne_iff_ne.2 (fun hc64 h => ?_) fun hc64 h => ?_
     ·refine ss <| k53 _ _ <| rd [(0, _)] mixed fun _ k65 => ?_
      obtain ⟨x67, hx67, h⟩ := bnd h
      obtain ⟨x70, hx70, h⟩ := bnd h
      obtain ⟨x76, hx76, h⟩ := bnd h
      refine dm 0 rfl rfl <| dm 1 rfl rfl <| dm 4 rfl rfl <| dm 5 rfl rfl <| dm 6 rfl rfl ?_
      obtain ⟨r_71, hr72, hq73⟩ := Rels.idx hq00 hx70
      refine du 7 rfl (idxC (xs := rs00) sty_30 rfl rfl (mM rfl hf00) hr72) <| du 8 rfl (loadC0 (xs := rs00) scal_22 rfl (mM rfl hf00) hr72 rfl) <| WD.two 2 9 (by kernel_rfl) ?_ ?_
      ·refine WS.eff rfl (by decide) (Eff.buildC 166 ([x42] : List Int) sty_45 rfl rfl rfl rfl rfl (by decide)) ?_
       rintro _ _ ⟨g66, rfl, rfl⟩
       refine aq ?_
       refine WD.two 3 9 (by kernel_rfl) ?_ ?_
       ·refine WS.eff rfl (by decide) (Eff.appendC 129 (xs := x33) (ys := ([x42] : List Int)) sty_45 rfl rfl rfl (rO 166 rfl) hx67) ?_
        rintro _ _ ⟨A68, c69, rfl, rfl⟩
        refine aq ?_
        refine on 9 ?_
        have hq75 : Rels ((RelB (α := BitVec 8)) M0) ([(⟨r_71.A, r_71.n, r_71.c⟩ : Hdr)] : List Hdr) ([x70] : List By) := (Rels.cons hq73 Rels.nil)
        refine WS.eff rfl (by decide) (Eff.buildC 174 ([(⟨r_71.A, r_71.n, r_71.c⟩ : Hdr)] : List Hdr) sty_30 rfl rfl rfl rfl rfl (by decide)) ?_
        rintro _ _ ⟨g74, rfl, rfl⟩
        refine aq ?_
        refine on 10 ?_
        obtain ⟨hu79, hq80⟩ := Rels.apd hq41 hq75 hx76
        refine WS.eff rfl (by decide) (Eff.appendC 135 (xs := rs40) (ys := ([(⟨r_71.A, r_71.n, r_71.c⟩ : Hdr)] : List Hdr)) sty_30 rfl rfl rfl (rO 174 rfl) hu79) ?_
        rintro _ _ ⟨A77, c78, rfl, rfl⟩
        refine aq ?_
        refine du 11 rfl (Yld.assign rfl) <| du 12 rfl (Yld.assign rfl) <| dd <| k65 _ _ <| bn <| tn <| k48 _ _ <| rg fun _ k81 => bd h fun x82 hx82 h => mv rfl <| ya (addC rfl rfl hx82) <| ak rfl k81 <| tn <| kw (k44 ⟨A68, x67.length, c69, x67, A77, (rs40 ++ ([(⟨r_71.A, r_71.n, r_71.c⟩ : Hdr)] : List Hdr)).length, c78, x76, (rs40 ++ ([(⟨r_71.A, r_71.n, r_71.c⟩ : Hdr)] : List Hdr)), x82⟩ ⟨h, hq80⟩)
       skip
       have hq75 : Rels ((RelB (α := BitVec 8)) M0) ([(⟨r_71.A, r_71.n, r_71.c⟩ : Hdr)] : List Hdr) ([x70] : List By) := (Rels.cons hq73 Rels.nil)
       refine WS.eff rfl (by decide) (Eff.buildC 174 ([(⟨r_71.A, r_71.n, r_71.c⟩ : Hdr)] : List Hdr) sty_30 rfl rfl rfl rfl rfl (by decide)) ?_
       rintro _ _ ⟨g74, rfl, rfl⟩
       refine aq ?_
       refine on 3 <| WS.eff rfl (by decide) (Eff.appendC 129 (xs := x33) (ys := ([x42] : List Int)) sty_45 rfl rfl rfl (rO 166 rfl) hx67) ?_
       rintro _ _ ⟨A68, c69, rfl, rfl⟩
       refine aq ?_
       refine on 10 ?_
       obtain ⟨hu79, hq80⟩ := Rels.apd hq41 hq75 hx76
       refine WS.eff rfl (by decide) (Eff.appendC 135 (xs := rs40) (ys := ([(⟨r_71.A, r_71.n, r_71.c⟩ : Hdr)] : List Hdr)) sty_30 rfl rfl rfl (rO 174 rfl) hu79) ?_
       rintro _ _ ⟨A77, c78, rfl, rfl⟩
       refine aq ?_
       refine du 11 rfl (Yld.assign rfl) <| du 12 rfl (Yld.assign rfl) <| dd <| k65 _ _ <| bn <| tn <| k48 _ _ <| rg fun _ k83 => bd h fun x84 hx84 h => mv rfl <| ya (addC rfl rfl hx84) <| ak rfl k83 <| tn <| kw (k44 ⟨A68, x67.length, c69, x67, A77, (rs40 ++ ([(⟨r_71.A, r_71.n, r_71.c⟩ : Hdr)] : List Hdr)).length, c78, x76, (rs40 ++ ([(⟨r_71.A, r_71.n, r_71.c⟩ : Hdr)] : List Hdr)), x84⟩ ⟨h, hq80⟩)
      skip
      have hq75 : Rels ((RelB (α := BitVec 8)) M0) ([(⟨r_71.A, r_71.n, r_71.c⟩ : Hdr)] : List Hdr) ([x70] : List By) := (Rels.cons hq73 Rels.nil)
      refine WS.eff rfl (by decide) (Eff.buildC 174 ([(⟨r_71.A, r_71.n, r_71.c⟩ : Hdr)] : List Hdr) sty_30 rfl rfl rfl rfl rfl (by decide)) ?_
      rintro _ _ ⟨g74, rfl, rfl⟩
      refine aq ?_
      refine on 2 <| WS.eff rfl (by decide) (Eff.buildC 166 ([x42] : List Int) sty_45 rfl rfl rfl rfl rfl (by decide)) ?_
      rintro _ _ ⟨g66, rfl, rfl⟩
      refine aq ?_
      refine on 3 <| WS.eff rfl (by decide) (Eff.appendC 129 (xs := x33) (ys := ([x42] : List Int)) sty_45 rfl rfl rfl (rO 166 rfl) hx67) ?_
      rintro _ _ ⟨A68, c69, rfl, rfl⟩
      refine aq ?_
      refine on 10 ?_
      obtain ⟨hu79, hq80⟩ := Rels.apd hq41 hq75 hx76
      refine WS.eff rfl (by decide) (Eff.appendC 135 (xs := rs40) (ys := ([(⟨r_71.A, r_71.n, r_71.c⟩ : Hdr)] : List Hdr)) sty_30 rfl rfl rfl (rO 174 rfl) hu79) ?_
      rintro _ _ ⟨A77, c78, rfl, rfl⟩
      refine aq ?_
      refine du 11 rfl (Yld.assign rfl) <| du 12 rfl (Yld.assign rfl) <| dd <| k65 _ _ <| bn <| tn <| k48 _ _ <| rg fun _ k85 => bd h fun x86 hx86 h => mv rfl <| ya (addC rfl rfl hx86) <| ak rfl k85 <| tn <| kw (k44 ⟨A68, x67.length, c69, x67, A77, (rs40 ++ ([(⟨r_71.A, r_71.n, r_71.c⟩ : Hdr)] : List Hdr)).length, c78, x76, (rs40 ++ ([(⟨r_71.A, r_71.n, r_71.c⟩ : Hdr)] : List Hdr)), x86⟩ ⟨h, hq80⟩)
     refine sr fun _ k87 => asn rfl <| ak rfl k87 <| re <| tr <| br <| tr <| tr <| br <| tr <| QK.nilOwn 188 22 (Lay.sz Hdr) none ?_
     obtain rfl := si h
     exact rt [188] (ResIs.two rfl rfl rfl) (Ext.refl _ _) ⟨none, 0, 0, ([] : List Hdr), rfl, rfl, (Rels.nil (R := (RelB (α := BitVec 8)) M0))⟩
    replace h := of_f hc55 h
    refine dm 0 rfl rfl <| du 1 rfl (lenD (rs := rs40) (xs := x39) (Rels.len hq41) und_30 rfl (rO 135 rfl)) <| du 2 rfl (gtr rfl rfl) <| dm 3 rfl rfl <| WD.new (v' := .bool false) (congrArg Value.bool (decide_eq_false hc55)) <| dw 4 rfl <| dw 5 rfl <| dw 6 rfl <| dw 7 rfl <| dw 8 rfl <| dw 9 rfl <| dw 10 rfl <| dw 11 rfl <| dw 12 rfl <| dw 13 rfl <| du 14 rfl (pickF rfl rfl) <| dd <| k54 _ _ <| cdF rfl <| ss <| k53 _ _ <| rd [(0, _)] mixed fun _ k89 => ?_
    obtain ⟨x91, hx91, h⟩ := bnd h
    obtain ⟨x94, hx94, h⟩ := bnd h
    obtain ⟨x100, hx100, h⟩ := bnd h
    refine dm 0 rfl rfl <| dm 1 rfl rfl <| dm 4 rfl rfl <| dm 5 rfl rfl <| dm 6 rfl rfl ?_
    obtain ⟨r_95, hr96, hq97⟩ := Rels.idx hq00 hx94
    refine du 7 rfl (idxC (xs := rs00) sty_30 rfl rfl (mM rfl hf00) hr96) <| du 8 rfl (loadC0 (xs := rs00) scal_22 rfl (mM rfl hf00) hr96 rfl) <| WD.two 2 9 (by kernel_rfl) ?_ ?_
    ·refine WS.eff rfl (by decide) (Eff.buildC 190 ([x42] : List Int) sty_45 rfl rfl rfl rfl rfl (by decide)) ?_
     rintro _ _ ⟨g90, rfl, rfl⟩
     refine aq ?_
     refine WD.two 3 9 (by kernel_rfl) ?_ ?_
     ·refine WS.eff rfl (by decide) (Eff.appendC 129 (xs := x33) (ys := ([x42] : List Int)) sty_45 rfl rfl rfl (rO 190 rfl) hx91) ?_
      rintro _ _ ⟨A92, c93, rfl, rfl⟩
      refine aq ?_
      refine on 9 ?_
      have hq99 : Rels ((RelB (α := BitVec 8)) M0) ([(⟨r_95.A, r_95.n, r_95.c⟩ : Hdr)] : List Hdr) ([x94] : List By) := (Rels.cons hq97 Rels.nil)
      refine WS.eff rfl (by decide) (Eff.buildC 198 ([(⟨r_95.A, r_95.n, r_95.c⟩ : Hdr)] : List Hdr) sty_30 rfl rfl rfl rfl rfl (by decide)) ?_
      rintro _ _ ⟨g98, rfl, rfl⟩
      refine aq ?_
      refine on 10 ?_
      obtain ⟨hu103, hq104⟩ := Rels.apd hq41 hq99 hx100
      refine WS.eff rfl (by decide) (Eff.appendC 135 (xs := rs40) (ys := ([(⟨r_95.A, r_95.n, r_95.c⟩ : Hdr)] : List Hdr)) sty_30 rfl rfl rfl (rO 198 rfl) hu103) ?_
      rintro _ _ ⟨A101, c102, rfl, rfl⟩
      refine aq ?_
      refine du 11 rfl (Yld.assign rfl) <| du 12 rfl (Yld.assign rfl) <| dd <| k89 _ _ <| bn <| tn <| k48 _ _ <| rg fun _ k105 => bd h fun x106 hx106 h => mv rfl <| ya (addC rfl rfl hx106) <| ak rfl k105 <| tn <| kw (k44 ⟨A92, x91.length, c93, x91, A101, (rs40 ++ ([(⟨r_95.A, r_95.n, r_95.c⟩ : Hdr)] : List Hdr)).length, c102, x100, (rs40 ++ ([(⟨r_95.A, r_95.n, r_95.c⟩ : Hdr)] : List Hdr)), x106⟩ ⟨h, hq104⟩)
     skip
     have hq99 : Rels ((RelB (α := BitVec 8)) M0) ([(⟨r_95.A, r_95.n, r_95.c⟩ : Hdr)] : List Hdr) ([x94] : List By) := (Rels.cons hq97 Rels.nil)
     refine WS.eff rfl (by decide) (Eff.buildC 198 ([(⟨r_95.A, r_95.n, r_95.c⟩ : Hdr)] : List Hdr) sty_30 rfl rfl rfl rfl rfl (by decide)) ?_
     rintro _ _ ⟨g98, rfl, rfl⟩
     refine aq ?_
     refine on 3 <| WS.eff rfl (by decide) (Eff.appendC 129 (xs := x33) (ys := ([x42] : List Int)) sty_45 rfl rfl rfl (rO 190 rfl) hx91) ?_
     rintro _ _ ⟨A92, c93, rfl, rfl⟩
     refine aq ?_
     refine on 10 ?_
     obtain ⟨hu103, hq104⟩ := Rels.apd hq41 hq99 hx100
     refine WS.eff rfl (by decide) (Eff.appendC 135 (xs := rs40) (ys := ([(⟨r_95.A, r_95.n, r_95.c⟩ : Hdr)] : List Hdr)) sty_30 rfl rfl rfl (rO 198 rfl) hu103) ?_
     rintro _ _ ⟨A101, c102, rfl, rfl⟩
     refine aq ?_
     refine du 11 rfl (Yld.assign rfl) <| du 12 rfl (Yld.assign rfl) <| dd <| k89 _ _ <| bn <| tn <| k48 _ _ <| rg fun _ k107 => bd h fun x108 hx108 h => mv rfl <| ya (addC rfl rfl hx108) <| ak rfl k107 <| tn <| kw (k44 ⟨A92, x91.length, c93, x91, A101, (rs40 ++ ([(⟨r_95.A, r_95.n, r_95.c⟩ : Hdr)] : List Hdr)).length, c102, x100, (rs40 ++ ([(⟨r_95.A, r_95.n, r_95.c⟩ : Hdr)] : List Hdr)), x108⟩ ⟨h, hq104⟩)
    skip
    have hq99 : Rels ((RelB (α := BitVec 8)) M0) ([(⟨r_95.A, r_95.n, r_95.c⟩ : Hdr)] : List Hdr) ([x94] : List By) := (Rels.cons hq97 Rels.nil)
    refine WS.eff rfl (by decide) (Eff.buildC 198 ([(⟨r_95.A, r_95.n, r_95.c⟩ : Hdr)] : List Hdr) sty_30 rfl rfl rfl rfl rfl (by decide)) ?_
    rintro _ _ ⟨g98, rfl, rfl⟩
    refine aq ?_
    refine on 2 <| WS.eff rfl (by decide) (Eff.buildC 190 ([x42] : List Int) sty_45 rfl rfl rfl rfl rfl (by decide)) ?_
    rintro _ _ ⟨g90, rfl, rfl⟩
    refine aq ?_
    refine on 3 <| WS.eff rfl (by decide) (Eff.appendC 129 (xs := x33) (ys := ([x42] : List Int)) sty_45 rfl rfl rfl (rO 190 rfl) hx91) ?_
    rintro _ _ ⟨A92, c93, rfl, rfl⟩
    refine aq ?_
    refine on 10 ?_
    obtain ⟨hu103, hq104⟩ := Rels.apd hq41 hq99 hx100
    refine WS.eff rfl (by decide) (Eff.appendC 135 (xs := rs40) (ys := ([(⟨r_95.A, r_95.n, r_95.c⟩ : Hdr)] : List Hdr)) sty_30 rfl rfl rfl (rO 198 rfl) hu103) ?_
    rintro _ _ ⟨A101, c102, rfl, rfl⟩
    refine aq ?_
    refine du 11 rfl (Yld.assign rfl) <| du 12 rfl (Yld.assign rfl) <| dd <| k89 _ _ <| bn <| tn <| k48 _ _ <| rg fun _ k109 => bd h fun x110 hx110 h => mv rfl <| ya (addC rfl rfl hx110) <| ak rfl k109 <| tn <| kw (k44 ⟨A92, x91.length, c93, x91, A101, (rs40 ++ ([(⟨r_95.A, r_95.n, r_95.c⟩ : Hdr)] : List Hdr)).length, c102, x100, (rs40 ++ ([(⟨r_95.A, r_95.n, r_95.c⟩ : Hdr)] : List Hdr)), x110⟩ ⟨h, hq104⟩)
   refine xi <| te <| bx <| tn <| k48 _ _ <| rg fun _ k111 => bd h fun x112 hx112 h => mv rfl <| ya (addC rfl rfl hx112) <| ak rfl k111 <| tn <| kw (k44 ⟨A30, n31, c32, x33, A36, n37, c38, x39, rs40, x112⟩ ⟨h, hq41⟩)
  exact xi <| te <| te <| bx <| tn <| KK.move 129 113 rfl rfl <| KK.move 135 119 rfl rfl <| kw (k26 ⟨A30, n31, c32, x33, A36, n37, c38, x39, rs40⟩ ⟨h, hq41⟩)
 rintro ⟨A14, n15, c16, x17, A20, n21, c22, x23, rs24⟩ ⟨h, hq25⟩
 unfold m_r04_Restore_j1 at h
 refine sq fun _ k113 => sr fun _ k114 => mv rfl <| ya (lenC (xs := x17) und_45 rfl (rO 113 rfl)) <| ya (lss rfl rfl) <| dz k114 <| cI h rfl (fun hc115 h => ?_) fun hc115 h => ?_
 ·refine sr fun _ k116 => asn rfl <| ak rfl k116 <| re <| tr <| QK.nilOwn 217 22 (Lay.sz Hdr) none ?_
  obtain rfl := si h
  exact rt [217] (ResIs.two rfl rfl rfl) (Ext.refl _ _) ⟨none, 0, 0, ([] : List Hdr), rfl, rfl, (Rels.nil (R := (RelB (α := BitVec 8)) M0))⟩
 refine ss <| k113 _ _ <| ctd [(0, _), (113, _), (119, _)] (σ := Nat × Int × Int × (Option Addr) × Nat × Nat × By) (fun ⟨g118, x119, x120, A123, n124, c125, x126⟩ => [(7, .slice A20 n21 c22), (9, pv g118)]) (fun ⟨g118, x119, x120, A123, n124, c125, x126⟩ => [(0, .mem M0), (119, .own 22 (Lay.sz Hdr) A20 n21 c22 (cel rs24)), (218, .blk g118 140 [I64 x119, I64 x120, .slice A123 n124 c125]), (222, .own 5 (Lay.sz (BitVec 8)) A123 n124 c125 (cel x126))]) (fun ⟨g118, x119, x120, A123, n124, c125, x126⟩ => m_r04_Restore_j3 x23 x119 x120 x126 = some res) mixed (fun _ k127 => ?_) ?_
 ·obtain ⟨x129, hx129, h⟩ := bnd h
  obtain ⟨x137, hx137, h⟩ := bnd h
  obtain ⟨x138, hx138, h⟩ := bnd h
  refine dm 1 rfl rfl <| du 2 rfl (sliceHC (xs := x17) sty_45 rfl rfl (rO 113 rfl) hx137) <| WD.two 0 7 (by kernel_rfl) ?_ ?_
  ·refine WS.eff rfl (by decide) (Eff.callS 233 rfl Tryz.func89 nm_89 rfl rfl (fun w hb hh => w_r04_Code (Mem.snap w) hx129)) ?_
   rintro _ _ ⟨_, ⟨A134, n135, c136, rfl, rfl⟩, rfl⟩
   refine aq ?_
   refine WD.two 3 7 (by kernel_rfl) ?_ ?_
   ·refine WS.eff rfl (by decide) (Eff.callS 242 rfl Tryz.func88 nm_88 rfl rfl (fun w hb hh => w_r03_Pick (Mem.snap w) x129.1 x129.2.1 A134 n135 c136 _ (RdH.sn (rO 233 rfl) w hb hh) A14 x137.length c16 _ (RdH.sn (RdT.slc0 (rO 113 rfl) hx137) w hb hh) hx138)) ?_
    rintro _ _ ⟨_, ⟨A143, n144, c145, rfl, rfl⟩, rfl⟩
    refine aq ?_
    refine dm 4 rfl rfl <| du 5 rfl (extract rfl rfl) <| du 6 rfl (extract rfl rfl) <| on 7 <| WS.eff rfl (by decide) (Eff.alloc 246 rfl zr_140) ?_
    rintro _ _ ⟨g146, rfl, rfl⟩
    refine aq ?_
    exact on 8 <| ds 246 rfl agg_140 rfl rfl rfl <| du 9 rfl (Yld.assign rfl) <| WD.done (by kernel_rfl) <| KK.move 246 218 rfl rfl <| KK.move 242 222 rfl rfl <| kw (k127 ⟨g146, x138.1, x138.2.1, A143, n144, c145, x138.2.2.1⟩ h)
   skip
   refine WS.eff rfl (by decide) (Eff.alloc 246 rfl zr_140) ?_
   rintro _ _ ⟨g146, rfl, rfl⟩
   refine aq ?_
   refine on 3 <| WS.eff rfl (by decide) (Eff.callS 242 rfl Tryz.func88 nm_88 rfl rfl (fun w hb hh => w_r03_Pick (Mem.snap w) x129.1 x129.2.1 A134 n135 c136 _ (RdH.sn (rO 233 rfl) w hb hh) A14 x137.length c16 _ (RdH.sn (RdT.slc0 (rO 113 rfl) hx137) w hb hh) hx138)) ?_
   rintro _ _ ⟨_, ⟨A143, n144, c145, rfl, rfl⟩, rfl⟩
   refine aq ?_
   exact dm 4 rfl rfl <| du 5 rfl (extract rfl rfl) <| du 6 rfl (extract rfl rfl) <| on 8 <| ds 246 rfl agg_140 rfl rfl rfl <| du 9 rfl (Yld.assign rfl) <| WD.done (by kernel_rfl) <| KK.move 246 218 rfl rfl <| KK.move 242 222 rfl rfl <| kw (k127 ⟨g146, x138.1, x138.2.1, A143, n144, c145, x138.2.2.1⟩ h)
  skip
  refine WS.eff rfl (by decide) (Eff.alloc 246 rfl zr_140) ?_
  rintro _ _ ⟨g146, rfl, rfl⟩
  refine aq ?_
  refine on 0 <| WS.eff rfl (by decide) (Eff.callS 233 rfl Tryz.func89 nm_89 rfl rfl (fun w hb hh => w_r04_Code (Mem.snap w) hx129)) ?_
  rintro _ _ ⟨_, ⟨A134, n135, c136, rfl, rfl⟩, rfl⟩
  refine aq ?_
  refine on 3 <| WS.eff rfl (by decide) (Eff.callS 242 rfl Tryz.func88 nm_88 rfl rfl (fun w hb hh => w_r03_Pick (Mem.snap w) x129.1 x129.2.1 A134 n135 c136 _ (RdH.sn (rO 233 rfl) w hb hh) A14 x137.length c16 _ (RdH.sn (RdT.slc0 (rO 113 rfl) hx137) w hb hh) hx138)) ?_
  rintro _ _ ⟨_, ⟨A143, n144, c145, rfl, rfl⟩, rfl⟩
  refine aq ?_
  exact dm 4 rfl rfl <| du 5 rfl (extract rfl rfl) <| du 6 rfl (extract rfl rfl) <| on 8 <| ds 246 rfl agg_140 rfl rfl rfl <| du 9 rfl (Yld.assign rfl) <| WD.done (by kernel_rfl) <| KK.move 246 218 rfl rfl <| KK.move 242 222 rfl rfl <| kw (k127 ⟨g146, x138.1, x138.2.1, A143, n144, c145, x138.2.2.1⟩ h)
 rintro ⟨g118, x119, x120, A123, n124, c125, x126⟩ h
 unfold m_r04_Restore_j3 at h
 refine sr fun _ k147 => bd h fun x148 hx148 h => ya (loadBM (k := 218) agg_140 rfl rfl rfl) <| c1 252 Tryz.func90 rfl (fun w hb hh => w_r03_Invert (Mem.snap w) x119 x120 A123 n124 c125 _ (RdH.sn (rO 222 rfl) w hb hh) hx148) fun A153 n154 c155 => mv rfl <| ya (extract rfl rfl) <| ya (extract rfl rfl) <| al 256 zr_140 fun g156 => sb 256 agg_140 rfl rfl rfl <| ak rfl k147 <| sd [(218, _), (222, _), (256, _)] mixed fun _ k157 => ?_
 obtain ⟨x158, hx158, h⟩ := bnd h
 obtain ⟨x162, hx162, h⟩ := bnd h
 refine du 0 rfl (loadBM (k := 256) agg_140 rfl rfl rfl) <| dm 1 rfl rfl <| on 2 ?_
 obtain ⟨rs159, hs160, hq161⟩ := Rels.slc hq25 hx158
 refine dy rfl (sliceHC (xs := rs24) sty_30 rfl rfl (rO 119 rfl) hs160) <| on 3 <| WS.freeze 252 rfl rfl rfl rfl rfl fun M174 hm_M174 hf175 => WS.freeze 119 rfl rfl rfl rfl rfl fun M176 hm_M176 hf177 => WS.eff rfl (by decide) (Eff.callM 268 rfl Tryz.func91 nm_91 rfl rfl rfl (w_r03_Apply _ x148.1 x148.2.1 A153 n154 c155 _ (SlRc.lift hf175 hm_M176) A20 rs159.length c22 rs159 _ (SlT.slc0 hf177 hs160) (Rels.lift (Rels.lift hq161 hm_M174) hm_M176) hx162)) ?_
 rintro _ _ ⟨M178, _, ⟨A179, n180, c181, rs182, rfl, rfl, hq183⟩, hm_M178, rfl⟩
 refine aq ?_
 refine dm 4 rfl rfl <| du 5 rfl (extract rfl rfl) <| du 6 rfl (extract rfl rfl) <| du 7 rfl (Yld.assign rfl) <| du 8 rfl (Yld.assign rfl) <| dd <| k157 _ _ <| sr fun _ k184 => bd h fun x185 hx185 h => mv rfl <| WL.freeze 268 rfl rfl rfl fun M197 hm_M197 hf198 => WL.eff (by decide) (Eff.callM 291 rfl Tryz.func84 nm_84 rfl rfl rfl (w_r04_all _ A179 n180 c181 rs182 _ hf198 (Rels.lift hq183 hm_M197) hx185)) ?_
 rintro _ _ ⟨M199, _, ⟨A200, n201, c202, rs203, rfl, rfl, hq204⟩, hm_M199, rfl⟩
 refine asn rfl <| ak rfl k184 <| re ?_
 obtain rfl := si h
 exact rt [291] (ResIs.two rfl rfl rfl) (Ext.trans (Ext.trans (Ext.trans (Ext.trans hm_M174 hm_M176) hm_M178) hm_M197) hm_M199) ⟨A200, n201, c202, rs203, rfl, rfl, hq204⟩
end Go.Proofs.YthjnhlmfcejhkaaGreat
