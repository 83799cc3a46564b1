/- A part of the proof. Conditions: as each theorem says. -/
import Derived.Test.YthjnhlmfcejhkaaGreatWkp
import Derived.Test.YthjnhlmfcejhkaaGreatMdr
import Derived.Test.YthjnhlmfcejhkaaGreatLw
namespace Go.Proofs.YthjnhlmfcejhkaaGreat
set_option maxRecDepth 10000
open Go Go.RowKit Yld
set_option linter.unusedVariables false
theorem und_135 : Tryz.prog.underlying 135 = some (.map 3 4) := by kernel_rfl
theorem bu_34_0_1_3 : ∀ (a0_0 : Int) (a0_1 : Int) (a0_2 : Int) (a1 : Int) (a3 : Option Addr) (n3 c3 : Nat), Tryz.prog.built 34 [(0, .agg ([I64 a0_0, I64 a0_1, I64 a0_2] : List Value).toArray), (1, I64 a1), (3, .slice a3 n3 c3)] = some ([I64 a0_0, I64 a0_1, I64 a0_2, I64 a1, U32 0#32, U32 0#32, U32 0#32, U32 0#32, U32 0#32, U32 0#32, .slice a3 n3 c3] : List Value).toArray := fun a0_0 a0_1 a0_2 a1 a3 n3 c3 => by kernel_rfl
theorem nm_35 : (Tryz.f35.name == "runtime.NumGoroutine") = false := by kernel_rfl
theorem nm_36 : (Tryz.f36.name == "runtime.NumGoroutine") = false := by kernel_rfl
theorem nm_38 : (Tryz.f38.name == "runtime.NumGoroutine") = false := by kernel_rfl
theorem nm_45 : (Tryz.f45.name == "runtime.NumGoroutine") = false := by kernel_rfl
theorem nm_86 : (Tryz.f86.name == "runtime.NumGoroutine") = false := by kernel_rfl
theorem w_shards_Make (M0 : Mem) (A00 : Option Addr) (n00 c00 : Nat) (x00 : By) (hf00 : SlT M0 A00 n00 c00 x00) (v0 v1 v2 : Int) (A02 : Option Addr) (n02 c02 : Nat) (x02 : List Sapi_Item) (hf02 : SlT M0 A02 n02 c02 x02) {res : (List By) × Int × Int × Int × Int × (BitVec 32) × (BitVec 32) × (BitVec 32) × (BitVec 32) × (BitVec 32) × (BitVec 32) × (List Sapi_Item) × Int} (h : m_shards_Make x00 v0 v1 v2 x02 = some res) :
  Fn Tryz.prog 11 #[.slice A00 n00 c00, .agg ([I64 v0, I64 v1, I64 v2] : List Value).toArray, .slice A02 n02 c02] M0 fun r M' es => ∃ (A1 : Option Addr) (n1 c1 : Nat), ∃ rs1 : List Hdr, ∃ (A2 : Option Addr) (n2 c2 : Nat), r = .tuple #[.slice A1 n1 c1, .agg ([I64 res.2.1, I64 res.2.2.1, I64 res.2.2.2.1, I64 res.2.2.2.2.1, U32 res.2.2.2.2.2.1, U32 res.2.2.2.2.2.2.1, U32 res.2.2.2.2.2.2.2.1, U32 res.2.2.2.2.2.2.2.2.1, U32 res.2.2.2.2.2.2.2.2.2.1, U32 res.2.2.2.2.2.2.2.2.2.2.1, .slice A2 n2 c2] : List Value).toArray, I64 res.2.2.2.2.2.2.2.2.2.2.2.2] /\ es = [.own 22 (Lay.sz Hdr) A1 n1 c1 (cel rs1), .own 59 (Lay.sz Sapi_Item) A2 n2 c2 (cel res.2.2.2.2.2.2.2.2.2.2.2.1)] /\ Rels ((RelB (α := BitVec 8)) M') rs1 res.1 := by
 refine Fn.intro (N := 53) Tryz.func11 rfl rfl (nle rfl) fun w0 => ?_
 unfold m_shards_Make at h
 refine sr fun _ k1 => bb 102 [I64 v0, I64 v1, I64 v2] rfl fun g2 => asn rfl <| al 103 zr_34 fun g3 => ak rfl k1 <| ctd [(0, _), (102, _), (103, _)] (σ := Nat × (Option Addr) × Nat × Nat × (List Sapi_Item)) (fun ⟨g4, A7, n8, c9, x10⟩ => [(0, .slice A00 n00 c00), (7, pv g3), (9, pv g4)]) (fun ⟨g4, A7, n8, c9, x10⟩ => [(0, .mem M0), (103, .blk g3 34 [I64 (0 : Int), I64 (0 : Int), I64 (0 : Int), I64 (0 : Int), U32 0#32, U32 0#32, U32 0#32, U32 0#32, U32 0#32, U32 0#32, .slice none 0 0]), (104, .blk g4 34 [I64 v0, I64 v1, I64 v2, I64 (x00.length : Int), U32 0#32, U32 0#32, U32 0#32, U32 0#32, U32 0#32, U32 0#32, .slice A7 n8 c9]), (106, .own 59 (Lay.sz Sapi_Item) A7 n8 c9 (cel x10))]) (fun ⟨g4, A7, n8, c9, x10⟩ => m_shards_Make_j0 x00 v0 v1 v2 x10 = some res) mixed (fun _ k11 => ?_) ?_
 ·obtain ⟨x13, hx13, h⟩ := bnd h
  refine du 0 rfl (loadBM (k := 102) agg_24 rfl rfl rfl) <| dm 1 rfl rfl <| du 2 rfl (lenC (xs := x00) und_22 rfl (mM rfl hf00)) <| dm 3 rfl rfl <| WD.two 4 6 (by kernel_rfl) ?_ ?_
  ·refine WS.eff rfl (by decide) (Eff.callS 117 rfl Tryz.func35 nm_35 rfl rfl (fun w hb hh => w_slices_Clone_api_Item_api_Item (Mem.snap w) A02 n02 c02 _ (sM rfl hf02 w hb hh) hx13)) ?_
   rintro _ _ ⟨_, ⟨A18, n19, c20, rfl, rfl⟩, rfl⟩
   refine aq ?_
   refine du 5 rfl (build rfl (bu_34_0_1_3 v0 v1 v2 (x00.length : Int) A18 n19 c20)) <| on 6 <| WS.eff rfl (by decide) (Eff.alloc 121 rfl zr_34) ?_
   rintro _ _ ⟨g21, rfl, rfl⟩
   refine aq ?_
   exact on 7 <| ds 121 rfl agg_34 rfl rfl rfl <| WD.done (by kernel_rfl) <| KK.move 121 104 rfl rfl <| KK.move 117 106 rfl rfl <| kw (k11 ⟨g21, A18, n19, c20, x13⟩ h)
  skip
  refine WS.eff rfl (by decide) (Eff.alloc 121 rfl zr_34) ?_
  rintro _ _ ⟨g21, rfl, rfl⟩
  refine aq ?_
  refine on 4 <| WS.eff rfl (by decide) (Eff.callS 117 rfl Tryz.func35 nm_35 rfl rfl (fun w hb hh => w_slices_Clone_api_Item_api_Item (Mem.snap w) A02 n02 c02 _ (sM rfl hf02 w hb hh) hx13)) ?_
  rintro _ _ ⟨_, ⟨A18, n19, c20, rfl, rfl⟩, rfl⟩
  refine aq ?_
  exact du 5 rfl (build rfl (bu_34_0_1_3 v0 v1 v2 (x00.length : Int) A18 n19 c20)) <| on 7 <| ds 121 rfl agg_34 rfl rfl rfl <| WD.done (by kernel_rfl) <| KK.move 121 104 rfl rfl <| KK.move 117 106 rfl rfl <| kw (k11 ⟨g21, A18, n19, c20, x13⟩ h)
 rintro ⟨g4, A7, n8, c9, x10⟩ h
 unfold m_shards_Make_j0 at h
 refine sq fun _ k22 => sr fun _ k23 => bd h fun x24 hx24 h => ya (loadBM (k := 104) agg_34 rfl rfl rfl) <| c0 Tryz.func24 rfl (fun w hb hh => w_shards_Valid (Mem.snap w) v0 v1 v2 (x00.length : Int) 0#32 0#32 0#32 0#32 0#32 0#32 A7 n8 c9 _ (RdH.sn (rO 106 rfl) w hb hh) hx24) <| ya (notB rfl) <| dz k23 <| cnn h rfl not_f (fun q => not_t (Bool.eq_false_iff.2 q)) (fun hc26 h => ?_) fun hc26 h => ?_
 ·refine ss <| k22 _ _ <| sr fun _ k27 => bd h fun x28 hx28 h => mv rfl <| WL.eff (by decide) (Eff.callM 134 rfl Tryz.func36 nm_36 rfl rfl rfl (w_stripe_Split _ A00 n00 c00 _ hf00 hx28)) ?_
  rintro _ _ ⟨M40, _, ⟨A41, n42, c43, rs44, rfl, rfl, hq45⟩, hm_M40, rfl⟩
  refine ak rfl k27 <| sr fun _ k46 => bd h fun x47 hx47 h => mv rfl <| WL.freeze 134 rfl rfl rfl fun M59 hm_M59 hf60 => WL.eff (by decide) (Eff.callM 153 rfl Tryz.func37 nm_37 rfl rfl rfl (w_rs_Encode _ A41 n42 c43 rs44 _ hf60 (Rels.lift hq45 hm_M59) hx47)) ?_
  rintro _ _ ⟨M61, _, ⟨A62, n63, c64, rs65, rfl, rfl, hq66⟩, hm_M61, rfl⟩
  refine mv rfl <| ya (extract rfl rfl) <| ya (extract rfl rfl) <| asn rfl <| ak rfl k46 <| sr fun _ k67 => bd h fun x72 hx72 h => mv rfl <| mv rfl <| WL.freeze 153 rfl rfl rfl fun M69 hm_M69 hf70 => ?_
  have hq71 : Rels ((RelL (RelB (α := BitVec 8))) M69) ([(⟨A41, n42, c43⟩ : Hdr), (⟨A62, n63, c64⟩ : Hdr)] : List Hdr) ([x28, x47.1] : List (List By)) := (Rels.cons ⟨rs44, (SlRc.lift (SlRc.lift hf60 hm_M61) hm_M69), (Rels.lift (Rels.lift (Rels.lift hq45 hm_M59) hm_M61) hm_M69)⟩ (Rels.cons ⟨rs65, hf70, (Rels.lift hq66 hm_M69)⟩ Rels.nil))
  refine WL.eff (by decide) (Eff.buildC 168 ([(⟨A41, n42, c43⟩ : Hdr), (⟨A62, n63, c64⟩ : Hdr)] : List Hdr) sty_49 rfl rfl rfl rfl rfl (by decide)) ?_
  rintro _ _ ⟨g68, rfl, rfl⟩
  refine WL.freeze 168 rfl rfl rfl fun M84 hm_M84 hf85 => WL.eff (by decide) (Eff.callM 178 rfl Tryz.func38 nm_38 rfl rfl rfl (w_slices_Concat_byte_byte _ (some ⟨g68, 0, none⟩) (([(⟨A41, n42, c43⟩ : Hdr), (⟨A62, n63, c64⟩ : Hdr)] : List Hdr).length) (([(⟨A41, n42, c43⟩ : Hdr), (⟨A62, n63, c64⟩ : Hdr)] : List Hdr).length) ([(⟨A41, n42, c43⟩ : Hdr), (⟨A62, n63, c64⟩ : Hdr)] : List Hdr) _ hf85 (Rels.lift hq71 hm_M84) hx72)) ?_
  rintro _ _ ⟨M86, _, ⟨A87, n88, c89, rs90, rfl, rfl, hq91⟩, hm_M86, rfl⟩
  refine ak rfl k67 <| ct (σ := (BitVec 32) × (BitVec 32) × (BitVec 32) × (BitVec 32) × (BitVec 32) × (BitVec 32)) (fun ⟨x92, x93, x94, x95, x96, x97⟩ => [(7, pv g3), (9, pv g4), (12, I64 x47.2), (13, .slice A87 n88 c89)]) (fun ⟨x92, x93, x94, x95, x96, x97⟩ => [(0, .mem M86), (103, .blk g3 34 [I64 (0 : Int), I64 (0 : Int), I64 (0 : Int), I64 (0 : Int), U32 0#32, U32 0#32, U32 0#32, U32 0#32, U32 0#32, U32 0#32, .slice none 0 0]), (104, .blk g4 34 [I64 v0, I64 v1, I64 v2, I64 (x00.length : Int), U32 x92, U32 x93, U32 x94, U32 x95, U32 x96, U32 x97, .slice A7 n8 c9]), (106, .own 59 (Lay.sz Sapi_Item) A7 n8 c9 (cel x10)), (178, .own 22 (Lay.sz Hdr) A87 n88 c89 (cel rs90))]) (fun ⟨x92, x93, x94, x95, x96, x97⟩ => m_shards_Make_j1 x00 v0 v1 v2 x10 x47 x72 x92 x93 x94 x95 x96 x97 = some res) (fun _ k98 => ?_) ?_
  ·refine sr fun _ k99 => mv rfl <| ya (lenD (rs := rs90) (xs := x72) (Rels.len hq91) und_30 rfl (rO 178 rfl)) <| mv rfl <| dz k99 <| bl <| lp (τ := (BitVec 32) × (BitVec 32) × (BitVec 32) × (BitVec 32) × (BitVec 32) × (BitVec 32) × Int) (fun ⟨x100, x101, x102, x103, x104, x105, x106⟩ => [(7, pv g3), (9, pv g4), (12, I64 x47.2), (13, .slice A87 n88 c89), (37, .slice A87 n88 c89), (38, I64 (x72.length : Int)), (39, I64 x106)]) (fun ⟨x100, x101, x102, x103, x104, x105, x106⟩ => [(0, .mem M86), (103, .blk g3 34 [I64 (0 : Int), I64 (0 : Int), I64 (0 : Int), I64 (0 : Int), U32 0#32, U32 0#32, U32 0#32, U32 0#32, U32 0#32, U32 0#32, .slice none 0 0]), (104, .blk g4 34 [I64 v0, I64 v1, I64 v2, I64 (x00.length : Int), U32 x100, U32 x101, U32 x102, U32 x103, U32 x104, U32 x105, .slice A7 n8 c9]), (106, .own 59 (Lay.sz Sapi_Item) A7 n8 c9 (cel x10)), (178, .own 22 (Lay.sz Hdr) A87 n88 c89 (cel rs90))]) (fun q107 ⟨x100, x101, x102, x103, x104, x105, x106⟩ => m_shards_Make_l2 x00 v0 v1 v2 x10 x47 x72 q107 x100 x101 x102 x103 x104 x105 x106 = some res) ⟨0#32, 0#32, 0#32, 0#32, 0#32, 0#32, (0 : Int)⟩ ?_ (by simp [m_shards_Make_l2]) ?_
   ·exact h
   rintro q107 ⟨x100, x101, x102, x103, x104, x105, x106⟩ h _ k108
   unfold m_shards_Make_l2 at h
   refine sr fun _ k109 => ya (lss rfl rfl) <| dz k109 <| sq fun _ k110 => cI h rfl (fun hc111 h => ?_) fun hc111 h => ?_
   ·refine ss <| k110 _ _ <| sq fun _ k112 => bl <| sr fun _ k113 => bd h fun x114 hx114 h => mv rfl ?_
    obtain ⟨r_115, hr116, hq117⟩ := Rels.idx hq91 hx114
    refine ya (idxC (xs := rs90) sty_30 rfl rfl (rO 178 rfl) hr116) <| ya (loadC0 (xs := rs90) scal_22 rfl (rO 178 rfl) hr116 rfl) <| asn rfl <| ak rfl k113 <| rg fun _ k118 => ?_
    obtain ⟨x119, hx119, h⟩ := bnd h
    obtain ⟨x121, hx121, h⟩ := bnd h
    obtain ⟨x122, hx122, h⟩ := bnd h
    refine mv rfl <| mv rfl <| c0 Tryz.func39 rfl (fun w hb hh => w_crc32c_Sum (Mem.snap w) r_115.A r_115.n r_115.c _ (sM rfl hq117 w hb hh) hx119) <| ya (fieldAddr Tryz.underlying34 rfl nz_32 rfl rfl) <| ya (idxArrF (xs := ([x100, x101, x102, x103, x104, x105] : List (BitVec 32))) und_32 rfl rfl rfl rfl hx121) <| WL.eff0 (Eff0.storeArrF 104 (xs := ([x100, x101, x102, x103, x104, x105] : List (BitVec 32))) (pre := [I64 v0, I64 v1, I64 v2, I64 (x00.length : Int)]) (post := [.slice A7 n8 c9]) (zs := [(x122.getD 0 0#32), (x122.getD 1 0#32), (x122.getD 2 0#32), (x122.getD 3 0#32), (x122.getD 4 0#32), (x122.getD 5 0#32)]) (cs := [I64 v0, I64 v1, I64 v2, I64 (x00.length : Int), U32 (x122.getD 0 0#32), U32 (x122.getD 1 0#32), U32 (x122.getD 2 0#32), U32 (x122.getD 3 0#32), U32 (x122.getD 4 0#32), U32 (x122.getD 5 0#32), .slice A7 n8 c9]) (a' := x119) siz_31 rfl rfl rfl rfl rfl rfl rfl hx122 (eta_getD 0#32 (upd_len hx122 rfl)) rfl) <| dz k118 <| bn <| tn <| k112 _ _ <| rg fun _ k123 => bd h fun x124 hx124 h => ya (addC rfl rfl hx124) <| mv rfl <| dz k123 <| tn <| kw (k108 ⟨(x122.getD 0 0#32), (x122.getD 1 0#32), (x122.getD 2 0#32), (x122.getD 3 0#32), (x122.getD 4 0#32), (x122.getD 5 0#32), x124⟩ h)
   exact xi <| te <| te <| bx <| tn <| kw (k98 ⟨x100, x101, x102, x103, x104, x105⟩ h)
  rintro ⟨x92, x93, x94, x95, x96, x97⟩ h
  unfold m_shards_Make_j1 at h
  refine sd [(0, _), (104, _), (106, _), (178, _)] mixed fun _ k125 => ?_
  refine dm 0 rfl rfl <| du 1 rfl (loadBM (k := 104) agg_34 rfl rfl rfl) <| dm 2 rfl rfl <| du 3 rfl (Yld.assign rfl) <| on 4 <| ds 103 rfl agg_34 rfl rfl rfl <| du 5 rfl (Yld.assign rfl) <| dd <| k125 _ _ <| re ?_
  obtain rfl := si h
  exact rt [178, 106] (ResIs.tmpCellTmpM (k := 103) rfl agg_34 rfl rfl rfl rfl rfl) (Ext.trans (Ext.trans (Ext.trans (Ext.trans (Ext.trans hm_M40 hm_M59) hm_M61) hm_M69) hm_M84) hm_M86) ⟨A87, n88, c89, rs90, A7, n8, c9, rfl, rfl, hq91⟩
 refine sr fun _ k126 => ya (build rfl (bu_34_)) <| asn rfl <| sb 103 agg_34 rfl rfl rfl <| ak rfl k126 <| re <| tr <| QK.nilOwn 227 22 (Lay.sz Hdr) none <| QK.nilOwn 228 59 (Lay.sz Sapi_Item) none ?_
 obtain rfl := si h
 exact rt [227, 228] (ResIs.tmpCellTmpM (k := 103) rfl agg_34 rfl rfl rfl rfl rfl) (Ext.refl _ _) ⟨none, 0, 0, ([] : List Hdr), none, 0, 0, rfl, rfl, (Rels.nil (R := (RelB (α := BitVec 8)) M0))⟩
theorem w_shards_Head_good (M0 : Mem) (u0 u1 u2 u3 : Int) (u4 u5 u6 u7 u8 u9 : BitVec 32) (A00_10 : Option Addr) (n00_10 c00_10 : Nat) (u10 : List Sapi_Item) (hf00_10 : SlT M0 A00_10 n00_10 c00_10 u10) (x01 : Int) (A02 : Option Addr) (n02 c02 : Nat) (x02 : By) (hf02 : SlT M0 A02 n02 c02 x02) {res : Bool} (h : m_shards_Head_good u0 u1 u2 u3 u4 u5 u6 u7 u8 u9 u10 x01 x02 = some res) :
  Fn Tryz.prog 47 #[.agg ([I64 u0, I64 u1, I64 u2, I64 u3, U32 u4, U32 u5, U32 u6, U32 u7, U32 u8, U32 u9, .slice A00_10 n00_10 c00_10] : List Value).toArray, I64 x01, .slice A02 n02 c02] M0 fun r M' es => r = .bool res /\ es = [] := by
 refine Fn.intro (N := 22) Tryz.func47 rfl rfl (nle rfl) fun w0 => ?_
 unfold m_shards_Head_good at h
 refine sr fun _ k1 => bb 102 [I64 u0, I64 u1, I64 u2, I64 u3, U32 u4, U32 u5, U32 u6, U32 u7, U32 u8, U32 u9, .slice A00_10 n00_10 c00_10] rfl fun g2 => ak rfl k1 <| sd [(0, _), (102, _)] mixed fun _ k3 => ?_
 obtain ⟨x4, hx4, h⟩ := bnd h
 by_cases hc6 : (x02.length : Int) = x4
 ·replace h := of_t hc6 h
  obtain ⟨x7, hx7, h⟩ := bnd h
  obtain ⟨x9, hx9, h⟩ := bnd h
  obtain ⟨x10, hx10, h⟩ := bnd h
  refine dm 0 rfl rfl <| du 1 rfl (lenC (xs := x02) und_22 rfl (mM rfl hf02)) <| du 2 rfl (fieldAddr Tryz.underlying34 rfl nz_2 rfl rfl) <| du 3 rfl (loadB (k := 102) scal_2 rfl rfl rfl) <| on 4 <| d0 rfl Tryz.func68 rfl (fun w hb hh => w_stripe_Size (Mem.snap w) u3 hx4) <| du 5 rfl (eqlI rfl rfl) <| dm 6 rfl rfl <| WD.new (v' := .bool true) (congrArg Value.bool (beq_iff_eq.2 hc6)) <| dv 7 rfl (Yld.move rfl) <| dv 9 rfl (Yld.move rfl) <| dv 10 rfl (fieldAddr Tryz.underlying34 rfl nz_32 rfl rfl) <| dv 11 rfl (idxArrF (xs := ([u4, u5, u6, u7, u8, u9] : List (BitVec 32))) und_32 rfl rfl rfl rfl hx9) <| dv 12 rfl (loadArrF (xs := ([u4, u5, u6, u7, u8, u9] : List (BitVec 32))) (pre := [I64 u0, I64 u1, I64 u2, I64 u3]) (post := [.slice A00_10 n00_10 c00_10]) (k := 102) scal_31 rfl rfl rfl hx10 rfl) <| on 8 <| WS.effG rfl (by decide) rfl (Eff.callS 108 rfl Tryz.func39 nm_39 rfl rfl (fun w hb hh => w_crc32c_Sum (Mem.snap w) A02 n02 c02 _ (sM rfl hf02 w hb hh) hx7)) ?_
  rintro _ _ ⟨_, ⟨rfl, rfl⟩, rfl⟩
  refine aq ?_
  refine dv 13 rfl (eql_u32 (a := x7) (b := x10) rfl rfl) <| du 14 rfl (pickT rfl rfl) <| du 15 rfl (Yld.assign rfl) <| dd <| k3 _ _ <| re ?_
  obtain rfl := si h
  exact rt0 (ResIs.one rfl rfl)
 replace h := of_f hc6 h
 refine dm 0 rfl rfl <| du 1 rfl (lenC (xs := x02) und_22 rfl (mM rfl hf02)) <| du 2 rfl (fieldAddr Tryz.underlying34 rfl nz_2 rfl rfl) <| du 3 rfl (loadB (k := 102) scal_2 rfl rfl rfl) <| on 4 <| d0 rfl Tryz.func68 rfl (fun w hb hh => w_stripe_Size (Mem.snap w) u3 hx4) <| du 5 rfl (eqlI rfl rfl) <| dm 6 rfl rfl <| WD.new (v' := .bool false) (congrArg Value.bool (beq_eq_false_iff_ne.2 hc6)) <| dw 7 rfl <| dw 8 rfl <| dw 9 rfl <| dw 10 rfl <| dw 11 rfl <| dw 12 rfl <| dw 13 rfl <| du 14 rfl (pickF rfl rfl) <| du 15 rfl (Yld.assign rfl) <| dd <| k3 _ _ <| re ?_
 obtain rfl := si h
 exact rt0 (ResIs.one rfl rfl)
theorem w_shards_Head_damaged (M0 : Mem) (u0 u1 u2 u3 : Int) (u4 u5 u6 u7 u8 u9 : BitVec 32) (A00_10 : Option Addr) (n00_10 c00_10 : Nat) (u10 : List Sapi_Item) (hf00_10 : SlT M0 A00_10 n00_10 c00_10 u10) (A01 : Option Addr) (n01 c01 : Nat) (rs01 : List Hdr) (x01 : List By) (hf01 : SlT M0 A01 n01 c01 rs01) (hq01 : Rels ((RelB (α := BitVec 8)) M0) rs01 x01) {res : (List Int)} (h : m_shards_Head_damaged u0 u1 u2 u3 u4 u5 u6 u7 u8 u9 u10 x01 = some res) :
  Fn Tryz.prog 44 #[.agg ([I64 u0, I64 u1, I64 u2, I64 u3, U32 u4, U32 u5, U32 u6, U32 u7, U32 u8, U32 u9, .slice A00_10 n00_10 c00_10] : List Value).toArray, .slice A01 n01 c01] M0 fun r M' es => ∃ (A1 : Option Addr) (n1 c1 : Nat), r = .slice A1 n1 c1 /\ es = [.own 3 (Lay.sz Int) A1 n1 c1 (cel res)] := by
 refine Fn.intro (N := 42) Tryz.func44 rfl rfl (nle rfl) fun w0 => ?_
 unfold m_shards_Head_damaged at h
 refine sr fun _ k1 => bb 102 [I64 u0, I64 u1, I64 u2, I64 u3, U32 u4, U32 u5, U32 u6, U32 u7, U32 u8, U32 u9, .slice A00_10 n00_10 c00_10] rfl fun g2 => ak rfl k1 <| sr fun _ k3 => WL.eff (by decide) (Eff.makeMap 104 rfl) ?_
 rintro _ _ ⟨g4, rfl, rfl⟩
 refine ak rfl k3 <| ct (σ := (List MapEntry) × Nat × (List (Int × Bool))) (fun ⟨es5, cl6, x7⟩ => [(5, .map (some g4))]) (fun ⟨es5, cl6, x7⟩ => [(0, .mem M0), (104, .obj g4 (.map es5.toArray cl6))]) (fun ⟨es5, cl6, x7⟩ => m_shards_Head_damaged_j0 x7 = some res /\ MapT Value.bool es5 cl6 x7) (fun _ k9 => ?_) ?_
 ·refine sr fun _ k10 => mv rfl <| ya (lenD (rs := rs01) (xs := x01) (Rels.len hq01) und_30 rfl (mM rfl hf01)) <| mv rfl <| dz k10 <| bl <| lp (τ := (List MapEntry) × Nat × (List (Int × Bool)) × Int) (fun ⟨es11, cl12, x13, x15⟩ => [(2, pv g2), (5, .map (some g4)), (12, .slice A01 n01 c01), (13, I64 (x01.length : Int)), (14, I64 x15)]) (fun ⟨es11, cl12, x13, x15⟩ => [(0, .mem M0), (102, .blk g2 34 [I64 u0, I64 u1, I64 u2, I64 u3, U32 u4, U32 u5, U32 u6, U32 u7, U32 u8, U32 u9, .slice A00_10 n00_10 c00_10]), (104, .obj g4 (.map es11.toArray cl12))]) (fun q16 ⟨es11, cl12, x13, x15⟩ => m_shards_Head_damaged_l1 u0 u1 u10 u2 u3 u4 u5 u6 u7 u8 u9 x01 q16 x13 x15 = some res /\ MapT Value.bool es11 cl12 x13) ⟨([] : List MapEntry), 0, ([] : List (Int × Bool)), (0 : Int)⟩ ?_ (by simp [m_shards_Head_damaged_l1]) ?_
  ·exact ⟨h, MapT.nil⟩
  rintro q16 ⟨es11, cl12, x13, x15⟩ ⟨h, hmr14⟩ _ k17
  unfold m_shards_Head_damaged_l1 at h
  refine sr fun _ k18 => ya (lss rfl rfl) <| dz k18 <| sq fun _ k19 => cI h rfl (fun hc20 h => ?_) fun hc20 h => ?_
  ·refine ss <| k19 _ _ <| sq fun _ k21 => bl <| sr fun _ k22 => bd h fun x23 hx23 h => mv rfl ?_
   obtain ⟨r_24, hr25, hq26⟩ := Rels.idx hq01 hx23
   refine ya (idxC (xs := rs01) sty_30 rfl rfl (mM rfl hf01) hr25) <| ya (loadC0 (xs := rs01) scal_22 rfl (mM rfl hf01) hr25 rfl) <| asn rfl <| ak rfl k22 <| rg fun _ k27 => bd h fun x28 hx28 h => mv rfl <| mv rfl <| ya (loadBM (k := 102) agg_34 rfl rfl rfl) <| mv rfl <| mv rfl <| c0 Tryz.func47 rfl (fun w hb hh => w_shards_Head_good (Mem.snap w) u0 u1 u2 u3 u4 u5 u6 u7 u8 u9 A00_10 n00_10 c00_10 _ (sM rfl hf00_10 w hb hh) x15 r_24.A r_24.n r_24.c _ (sM rfl hq26 w hb hh) hx28) <| WL.eff0R (Eff0R.mapUpdT 104 (ev := Value.bool) (m := x13) (q := x15) (v := x28) und_135 und_3 rfl rfl rfl rfl hmr14) ?_
   rintro _ ⟨es30, cl31, hmr32, rfl⟩
   refine dz k27 <| bn <| tn <| k21 _ _ <| rg fun _ k33 => bd h fun x34 hx34 h => ya (addC rfl rfl hx34) <| mv rfl <| dz k33 <| tn <| kw (k17 ⟨es30, cl31, (mset x13 x15 x28), x34⟩ ⟨h, hmr32⟩)
  exact xi <| te <| te <| bx <| tn <| kw (k9 ⟨es11, cl12, x13⟩ ⟨h, hmr14⟩)
 rintro ⟨es5, cl6, x7⟩ ⟨h, hmr8⟩
 unfold m_shards_Head_damaged_j0 at h
 refine sr fun _ k35 => ak rfl k35 <| ct (σ := (Option Addr) × Nat × Nat × (List Int)) (fun ⟨A38, n39, c40, x41⟩ => [(8, .slice A38 n39 c40)]) (fun ⟨A38, n39, c40, x41⟩ => [(0, .mem M0), (137, .own 3 (Lay.sz Int) A38 n39 c40 (cel x41))]) (fun ⟨A38, n39, c40, x41⟩ => m_shards_Head_damaged_j2 x41 = some res) (fun _ k42 => ?_) ?_
 ·refine sr fun _ k43 => mv rfl <| WL.eff (by decide) (Eff.rangeM 104 144 und_135 rfl rfl rfl) ?_
  rintro _ _ ⟨g44, rfl, rfl⟩
  refine dz k43 <| bl <| WC.nilOwn 146 3 (Lay.sz Int) none ?_
  have hu57 := mrangeK_some h
  refine WC.loop (σ := (Option Addr) × Nat × Nat × (List Int) × (Array Nat) × (List (Int × Bool))) (fun ⟨A47, n48, c49, x50, es51, x52⟩ => [(8, .slice A47 n48 c49), (27, pv g44)]) (fun ⟨A47, n48, c49, x50, es51, x52⟩ => [(0, .mem M0), (104, .obj g4 (.map es5.toArray cl6)), (144, .obj g44 (.mapIter (some g4) cl6 es51 cl6)), (146, .own 3 (Lay.sz Int) A47 n48 c49 (cel x50))]) (fun ⟨A47, n48, c49, x50, es51, x52⟩ => (∀ l : List (Int × Bool), l.Perm x52 -> (mfold (fun x60 => fun x50 => if x60.2 = true then some (x50) else (apd 8 x50 ([x60.1] : List Int)).bind fun x76 => some (x76)) l x50).bind (fun x50 => m_shards_Head_damaged_j2 x50) = some res) /\ ItR es5 x7 es51 x52) (fun ⟨A47, n48, c49, x50, es51, x52⟩ => x52.length) ⟨none, 0, 0, ([] : List Int), #[], x7⟩ ?_ (sc (sc sn)) (sc (sc (sc (sc sn)))) ?_
  ·exact ⟨hu57, (ItR.start hmr8)⟩
  rintro ⟨A47, n48, c49, x50, es51, x52⟩ ⟨hu57, hmr53⟩ K58 k58
  refine sr fun _ k59 => WL.nextM 104 144 (by decide) rfl rfl rfl hmr8 hmr53 (fun hx66 => ?_) (fun x60 x61 es62 hu63 hmr64 hs65 => ?_)
  ·subst hx66
   have h := mfoldK_done hu57
   exact ya (extract rfl rfl) <| dz k59 <| sq fun _ k67 => cdF rfl <| xi <| te <| te <| bx <| tn <| KK.move 146 137 rfl rfl <| kw (k42 ⟨A47, n48, c49, x50⟩ h)
  obtain ⟨q68, h, hu69⟩ := mfoldK_next hu57 hu63
  refine ya (extract rfl rfl) <| dz k59 <| sq fun _ k70 => cdT rfl <| ss <| k70 _ _ <| bl <| sr fun _ k71 => ya (entryM 104 144 rfl rfl rfl hmr8 hs65) <| ya (extract rfl rfl) <| ya (extract rfl rfl) <| asn rfl <| ak rfl k71 <| sr fun _ k72 => mv rfl <| ya (notB rfl) <| dz k72 <| cnn h rfl not_f (fun q => not_t (Bool.eq_false_iff.2 q)) (fun hc73 h => ?_) fun hc73 h => ?_
  ·refine WC.skip <| bn <| tn ?_
   obtain rfl := Option.some.inj h
   refine k58 ⟨A47, n48, c49, x50, es62, x61⟩ _ _ ?_ (perm_lt hu63) (sc (sc sn)) (sc (sc (sc (sc sn))))
   exact ⟨hu69, hmr64⟩
  refine rg fun _ k74 => bd h fun x76 hx76 h => mv rfl <| mv rfl <| WL.eff (by decide) (Eff.buildC 175 ([x60.1] : List Int) sty_45 rfl rfl rfl rfl rfl (by decide)) ?_
  rintro _ _ ⟨g75, rfl, rfl⟩
  refine ap 146 (xs := x50) (ys := ([x60.1] : List Int)) sty_45 rfl rfl rfl (rO 175 rfl) hx76 fun A77 c78 => ak rfl k74 <| bn <| tn ?_
  obtain rfl := Option.some.inj h
  refine k58 ⟨A77, x76.length, c78, x76, es62, x61⟩ _ _ ?_ (perm_lt hu63) (sc (sc sn)) (sc (sc (sc (sc sn))))
  exact ⟨hu69, hmr64⟩
 rintro ⟨A38, n39, c40, x41⟩ h
 unfold m_shards_Head_damaged_j2 at h
 refine sr fun _ k79 => bd h fun x80 hx80 h => mv rfl <| WL.eff (by decide) (Eff.callMut 137 rfl Tryz.func86 nm_86 rfl rfl rfl (w_sort A38 n39 c40 x41 hx80)) ?_
 rintro _ _ ⟨_, ⟨rfl, rfl⟩, rfl⟩
 refine dz k79 <| sr fun _ k81 => mv rfl <| ak rfl k81 <| re ?_
 obtain rfl := si h
 exact rt [137] (ResIs.one rfl rfl) (Ext.refl _ _) ⟨A38, n39, c40, rfl, rfl⟩
theorem w_shards_Rebuild (M0 : Mem) (u0 u1 u2 u3 : Int) (u4 u5 u6 u7 u8 u9 : BitVec 32) (A00_10 : Option Addr) (n00_10 c00_10 : Nat) (u10 : List Sapi_Item) (hf00_10 : SlT M0 A00_10 n00_10 c00_10 u10) (A01 : Option Addr) (n01 c01 : Nat) (rs01 : List Hdr) (x01 : List By) (hf01 : SlT M0 A01 n01 c01 rs01) (hq01 : Rels ((RelB (α := BitVec 8)) M0) rs01 x01) {res : (List By) × (List Int) × Int} (h : m_shards_Rebuild u0 u1 u2 u3 u4 u5 u6 u7 u8 u9 u10 x01 = some res) :
  Fn Tryz.prog 17 #[.agg ([I64 u0, I64 u1, I64 u2, I64 u3, U32 u4, U32 u5, U32 u6, U32 u7, U32 u8, U32 u9, .slice A00_10 n00_10 c00_10] : List Value).toArray, .slice A01 n01 c01] M0 fun r M' es => ∃ (A1 : Option Addr) (n1 c1 : Nat), ∃ rs1 : List Hdr, ∃ (A2 : Option Addr) (n2 c2 : Nat), r = .tuple #[.slice A1 n1 c1, .slice A2 n2 c2, I64 res.2.2] /\ es = [.own 22 (Lay.sz Hdr) A1 n1 c1 (cel rs1), .own 3 (Lay.sz Int) A2 n2 c2 (cel res.2.1)] /\ Rels ((RelB (α := BitVec 8)) M') rs1 res.1 := by
 refine Fn.intro (N := 51) Tryz.func17 rfl rfl (nle rfl) fun w0 => ?_
 unfold m_shards_Rebuild at h
 refine sr fun _ k1 => bb 102 [I64 u0, I64 u1, I64 u2, I64 u3, U32 u4, U32 u5, U32 u6, U32 u7, U32 u8, U32 u9, .slice A00_10 n00_10 c00_10] rfl fun g2 => asn rfl <| asn rfl <| ak rfl k1 <| ct (σ := Unit) (fun _ => [(1, .slice A01 n01 c01), (2, pv g2)]) (fun _ => [(0, .mem M0), (102, .blk g2 34 [I64 u0, I64 u1, I64 u2, I64 u3, U32 u4, U32 u5, U32 u6, U32 u7, U32 u8, U32 u9, .slice A00_10 n00_10 c00_10])]) (fun _ => m_shards_Rebuild_j0 u0 u1 u10 u2 u3 u4 u5 u6 u7 u8 u9 x01 = some res) (fun _ k3 => ?_) ?_
 ·refine sr fun _ k4 => bd h fun x5 hx5 h => ya (loadBM (k := 102) agg_34 rfl rfl rfl) <| c0 Tryz.func24 rfl (fun w hb hh => w_shards_Valid (Mem.snap w) u0 u1 u2 u3 u4 u5 u6 u7 u8 u9 A00_10 n00_10 c00_10 _ (sM rfl hf00_10 w hb hh) hx5) <| ya (notB rfl) <| mv rfl <| spn h not_f (fun q => not_t (Bool.eq_false_iff.2 q)) (fun hc7 h => ?_) fun hc7 h => ?_
  ·refine mvg rfl <| yg (lenD (rs := rs01) (xs := x01) (Rels.len hq01) und_30 rfl (mM rfl hf01)) <| yg (neqI rfl rfl) <| pf rfl rfl <| dz k4 <| cnn h rfl bne_eq_false_iff_eq.2 bne_iff_ne.2 (fun hc8 h => ?_) fun hc8 h => ?_
   ·exact WC.skip <| tn <| kw (k3 () h)
   refine sr fun _ k9 => asn rfl <| asn rfl <| ak rfl k9 <| re <| tr <| QK.nilOwn 110 22 (Lay.sz Hdr) none <| QK.nilOwn 111 3 (Lay.sz Int) none ?_
   obtain rfl := si h
   exact rt [110, 111] (ResIs.three rfl rfl rfl rfl) (Ext.refl _ _) ⟨none, 0, 0, ([] : List Hdr), none, 0, 0, rfl, rfl, (Rels.nil (R := (RelB (α := BitVec 8)) M0))⟩
  refine sk <| sk <| sk <| pt rfl rfl <| dz k4 <| cdT rfl <| sr fun _ k12 => asn rfl <| asn rfl <| ak rfl k12 <| re <| tr <| QK.nilOwn 113 22 (Lay.sz Hdr) none <| QK.nilOwn 114 3 (Lay.sz Int) none ?_
  obtain rfl := si h
  exact rt [113, 114] (ResIs.three rfl rfl rfl rfl) (Ext.refl _ _) ⟨none, 0, 0, ([] : List Hdr), none, 0, 0, rfl, rfl, (Rels.nil (R := (RelB (α := BitVec 8)) M0))⟩
 rintro _ h
 unfold m_shards_Rebuild_j0 at h
 refine sr fun _ k15 => bd h fun x16 hx16 h => ya (loadBM (k := 102) agg_34 rfl rfl rfl) <| mv rfl <| c1 120 Tryz.func44 rfl (fun w hb hh => w_shards_Head_damaged (Mem.snap w) u0 u1 u2 u3 u4 u5 u6 u7 u8 u9 A00_10 n00_10 c00_10 _ (sM rfl hf00_10 w hb hh) A01 n01 c01 rs01 _ (sM rfl hf01 w hb hh) (Rels.sn hq01 (hh.sat 0 _ rfl)) hx16) fun A21 n22 c23 => ak rfl k15 <| sr fun _ k24 => WL.eff (by decide) (Eff.buildC 125 ([true, true, true, true, true, true] : List Bool) sty_91 rfl rfl rfl rfl rfl (by decide)) ?_
 rintro _ _ ⟨g25, rfl, rfl⟩
 refine ak rfl k24 <| ct (σ := (List Bool)) (fun x26 => [(1, .slice A01 n01 c01), (2, pv g2), (7, .slice A21 n22 c23), (8, .slice (some ⟨g25, 0, none⟩) (([true, true, true, true, true, true] : List Bool).length) (([true, true, true, true, true, true] : List Bool).length))]) (fun x26 => [(0, .mem M0), (102, .blk g2 34 [I64 u0, I64 u1, I64 u2, I64 u3, U32 u4, U32 u5, U32 u6, U32 u7, U32 u8, U32 u9, .slice A00_10 n00_10 c00_10]), (120, .own 3 (Lay.sz Int) A21 n22 c23 (cel x16)), (125, .own 4 (Lay.sz Bool) (some ⟨g25, 0, none⟩) (([true, true, true, true, true, true] : List Bool).length) (([true, true, true, true, true, true] : List Bool).length) (cel x26))]) (fun x26 => m_shards_Rebuild_j1 u0 u1 u10 u2 u3 u4 u5 u6 u7 u8 u9 x01 x16 x26 = some res) (fun _ k27 => ?_) ?_
 ·refine sr fun _ k28 => mv rfl <| ya (lenC (xs := x16) und_45 rfl (rO 120 rfl)) <| mv rfl <| dz k28 <| bl <| lp (τ := (List Bool) × Int) (fun ⟨x29, x30⟩ => [(1, .slice A01 n01 c01), (2, pv g2), (7, .slice A21 n22 c23), (8, .slice (some ⟨g25, 0, none⟩) (([true, true, true, true, true, true] : List Bool).length) (([true, true, true, true, true, true] : List Bool).length)), (25, .slice A21 n22 c23), (26, I64 (x16.length : Int)), (27, I64 x30)]) (fun ⟨x29, x30⟩ => [(0, .mem M0), (102, .blk g2 34 [I64 u0, I64 u1, I64 u2, I64 u3, U32 u4, U32 u5, U32 u6, U32 u7, U32 u8, U32 u9, .slice A00_10 n00_10 c00_10]), (120, .own 3 (Lay.sz Int) A21 n22 c23 (cel x16)), (125, .own 4 (Lay.sz Bool) (some ⟨g25, 0, none⟩) (([true, true, true, true, true, true] : List Bool).length) (([true, true, true, true, true, true] : List Bool).length) (cel x29))]) (fun q31 ⟨x29, x30⟩ => m_shards_Rebuild_l2 u0 u1 u10 u2 u3 u4 u5 u6 u7 u8 u9 x01 x16 q31 x29 x30 = some res) ⟨([true, true, true, true, true, true] : List Bool), (0 : Int)⟩ ?_ (by simp [m_shards_Rebuild_l2]) ?_
  ·exact h
  rintro q31 ⟨x29, x30⟩ h _ k32
  unfold m_shards_Rebuild_l2 at h
  refine sr fun _ k33 => ya (lss rfl rfl) <| dz k33 <| sq fun _ k34 => cI h rfl (fun hc35 h => ?_) fun hc35 h => ?_
  ·refine ss <| k34 _ _ <| sq fun _ k36 => bl <| sr fun _ k37 => bd h fun x38 hx38 h => ya (idxC (xs := x16) sty_45 rfl rfl (rO 120 rfl) hx38) <| ya (loadC0 (xs := x16) scal_3 rfl (rO 120 rfl) hx38 rfl) <| ak rfl k37 <| rg fun _ k39 => ?_
   obtain ⟨x40, hx40, h⟩ := bnd h
   obtain ⟨x41, hx41, h⟩ := bnd h
   refine mv rfl <| mv rfl <| ya (idxC (xs := x29) sty_91 rfl rfl (rO 125 rfl) hx40) <| WL.eff0 (Eff0.storeC1 125 (xs := x29) (a' := false) siz_4 rfl rfl rfl rfl rfl rfl hx41) <| dz k39 <| bn <| tn <| k36 _ _ <| rg fun _ k42 => bd h fun x43 hx43 h => ya (addC rfl rfl hx43) <| mv rfl <| dz k42 <| tn <| kw (k32 ⟨x41, x43⟩ h)
  exact xi <| te <| te <| bx <| tn <| kw (k27 x29 h)
 rintro x26 h
 unfold m_shards_Rebuild_j1 at h
 refine sr fun _ k44 => bd h fun x45 hx45 h => mv rfl <| mv rfl <| WL.freeze 125 rfl rfl rfl fun M57 hm_M57 hf58 => WL.eff (by decide) (Eff.callM 151 rfl Tryz.func45 nm_45 rfl rfl rfl (w_rs_Restore _ A01 n01 c01 rs01 _ (SlRc.lift hf01 hm_M57) (Rels.lift hq01 hm_M57) (some ⟨g25, 0, none⟩) (([true, true, true, true, true, true] : List Bool).length) (([true, true, true, true, true, true] : List Bool).length) _ hf58 hx45)) ?_
 rintro _ _ ⟨M59, _, ⟨A60, n61, c62, rs63, rfl, rfl, hq64⟩, hm_M59, rfl⟩
 refine mv rfl <| ya (extract rfl rfl) <| ya (extract rfl rfl) <| asn rfl <| ak rfl k44 <| sq fun _ k65 => sr fun _ k66 => mv rfl <| ya (neqI rfl rfl) <| dz k66 <| cnn h rfl bne_eq_false_iff_eq.2 bne_iff_ne.2 (fun hc67 h => ?_) fun hc67 h => ?_
 ·refine ss <| k65 _ _ <| sq fun _ k68 => sr fun _ k69 => bd h fun x70 hx70 h => ya (loadBM (k := 102) agg_34 rfl rfl rfl) <| mv rfl <| c1 174 Tryz.func44 rfl (fun w hb hh => w_shards_Head_damaged (Mem.snap w) u0 u1 u2 u3 u4 u5 u6 u7 u8 u9 A00_10 n00_10 c00_10 _ (RdH.sn (mM rfl (SlRc.lift (SlRc.lift hf00_10 hm_M57) hm_M59)) w hb hh) A60 n61 c62 rs63 _ (RdH.sn (rO 151 rfl) w hb hh) (Rels.sn hq64 (hh.sat 0 _ rfl)) hx70) fun A75 n76 c77 => ya (lenC (xs := x70) und_45 rfl (rO 174 rfl)) <| ya (gtr rfl rfl) <| dz k69 <| cI h rfl (fun hc78 h => ?_) fun hc78 h => ?_
  ·refine sr fun _ k79 => asn rfl <| asn rfl <| ak rfl k79 <| re <| tr <| QK.nilOwn 180 22 (Lay.sz Hdr) none <| QK.nilOwn 181 3 (Lay.sz Int) none ?_
   obtain rfl := si h
   exact rt [180, 181] (ResIs.three rfl rfl rfl rfl) (Ext.trans hm_M57 hm_M59) ⟨none, 0, 0, ([] : List Hdr), none, 0, 0, rfl, rfl, (Rels.nil (R := (RelB (α := BitVec 8)) M59))⟩
  refine ss <| k68 _ _ <| sr fun _ k82 => mv rfl <| mv rfl <| asn rfl <| asn rfl <| ak rfl k82 <| re ?_
  obtain rfl := si h
  exact rt [151, 120] (ResIs.three rfl rfl rfl rfl) (Ext.trans hm_M57 hm_M59) ⟨A60, n61, c62, rs63, A21, n22, c23, rfl, rfl, hq64⟩
 refine sr fun _ k83 => mv rfl <| asn rfl <| asn rfl <| ak rfl k83 <| re <| tr <| QK.nilOwn 184 22 (Lay.sz Hdr) none <| QK.nilOwn 185 3 (Lay.sz Int) none ?_
 obtain rfl := si h
 exact rt [184, 185] (ResIs.three rfl rfl rfl rfl) (Ext.trans hm_M57 hm_M59) ⟨none, 0, 0, ([] : List Hdr), none, 0, 0, rfl, rfl, (Rels.nil (R := (RelB (α := BitVec 8)) M59))⟩
end Go.Proofs.YthjnhlmfcejhkaaGreat
