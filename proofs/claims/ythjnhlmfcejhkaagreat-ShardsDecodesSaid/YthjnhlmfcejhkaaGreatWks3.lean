/- A part of the proof. Conditions: as each theorem says. -/
import Derived.Test.YthjnhlmfcejhkaaGreatWkr
import Derived.Test.YthjnhlmfcejhkaaGreatMds3
namespace Go.Proofs.YthjnhlmfcejhkaaGreat
set_option maxRecDepth 10000
open Go Go.RowKit Yld
set_option linter.unusedVariables false
theorem nm_12 : (Tryz.f12.name == "runtime.NumGoroutine") = false := by kernel_rfl
theorem nm_14 : (Tryz.f14.name == "runtime.NumGoroutine") = false := by kernel_rfl
theorem nm_15 : (Tryz.f15.name == "runtime.NumGoroutine") = false := by kernel_rfl
theorem w_law17_ShardsDecodes (M0 : Mem) (A00 : Option Addr) (n00 c00 : Nat) (x00 : By) (hf00 : SlT M0 A00 n00 c00 x00) (A01 : Option Addr) (n01 c01 : Nat) (rs01 : List Rapi_Needle) (x01 : List Sapi_Needle) (hf01 : SlT M0 A01 n01 c01 rs01) (hq01 : Rels (rel_api_Needle M0) rs01 x01) (x02 : Int) (x03 : BitVec 8) (x04 : Bool) {res : Bool} (h : m_law17_ShardsDecodes x00 x01 x02 x03 x04 = some res) :
  Fn Tryz.prog 6 #[.slice A00 n00 c00, .slice A01 n01 c01, I64 x02, U8 x03, .bool x04] M0 fun r M' es => r = .bool res /\ es = [] := by
 refine Fn.intro (N := 118) Tryz.func6 rfl rfl (nle rfl) fun w0 => ?_
 unfold m_law17_ShardsDecodes at h
 refine sr fun _ k1 => ak rfl k1 <| ct (σ := (Option Addr) × Nat × Nat × By × Int × (BitVec 8) × Bool) (fun ⟨A2, n3, c4, x5, x7, x8, x9⟩ => [(0, .slice A2 n3 c4), (1, .slice A01 n01 c01), (2, I64 x7), (3, U8 x8), (4, .bool x9)]) (fun ⟨A2, n3, c4, x5, x7, x8, x9⟩ => [(0, .mem M0)]) (fun ⟨A2, n3, c4, x5, x7, x8, x9⟩ => m_law17_ShardsDecodes_j0 x01 x5 x7 x8 x9 = some res /\ SlT M0 A2 n3 c4 x5) (fun _ k10 => ?_) ?_
 ·refine sr fun _ k11 => mv rfl <| ya (lenC (xs := x00) und_22 rfl (mM rfl hf00)) <| ya (gtr rfl rfl) <| dz k11 <| cI h rfl (fun hc12 h => ?_) fun hc12 h => ?_
  ·refine rg fun _ k13 => bd h fun x14 hx14 h => mv rfl <| ya (sliceHC (xs := x00) sty_22 rfl rfl (mM rfl hf00) hx14) <| ak rfl k13 <| tn <| kw (k10 ⟨A00, x14.length, c00, x14, x02, x03, x04⟩ ⟨h, (SlT.slc0 hf00 hx14)⟩)
  exact WC.skip <| tn <| kw (k10 ⟨A00, n00, c00, x00, x02, x03, x04⟩ ⟨h, hf00⟩)
 rintro ⟨A2, n3, c4, x5, x7, x8, x9⟩ ⟨h, hf6⟩
 unfold m_law17_ShardsDecodes_j0 at h
 refine sr fun _ k15 => bd h fun x16 hx16 h => mv rfl <| WL.eff (by decide) (Eff.callM 124 rfl Tryz.func10 nm_10 rfl rfl rfl (w_law17_file _ A01 n01 c01 rs01 _ hf01 hq01 hx16)) ?_
 rintro _ _ ⟨M32, _, ⟨A33, n34, c35, A37, n38, c39, rfl, rfl, hf36⟩, hm_M32, rfl⟩
 refine mv rfl <| ya (extract rfl rfl) <| ya (extract rfl rfl) <| ya (extract rfl rfl) <| al 140 zr_24 fun g40 => asn rfl <| sb 140 agg_24 rfl rfl rfl <| ak rfl k15 <| sr fun _ k41 => bd h fun x42 hx42 h => mv rfl <| ya (loadBM (k := 140) agg_24 rfl rfl rfl) <| mv rfl <| WL.freeze 124 rfl rfl rfl fun M61 hm_M61 hf62 => WL.eff (by decide) (Eff.callM 151 rfl Tryz.func12 nm_12 rfl rfl rfl (w_r17_Make _ A33 n34 c35 _ (SlRc.lift hf36 hm_M61) x16.2.1 x16.2.2.1 x16.2.2.2.1 A37 n38 c39 _ hf62 hx42)) ?_
 rintro _ _ ⟨M63, _, ⟨A64, n65, c66, rs67, A69, n70, c71, rfl, rfl, hq68⟩, hm_M63, rfl⟩
 refine mv rfl <| ya (extract rfl rfl) <| ya (extract rfl rfl) <| ya (extract rfl rfl) <| al 172 zr_38 fun g72 => asn rfl <| sb 172 agg_38 rfl rfl rfl <| ak rfl k41 <| sr fun _ k73 => bd h fun x74 hx74 h => ya (loadBM (k := 172) agg_38 rfl rfl rfl) <| c1 178 Tryz.func23 rfl (fun w hb hh => w_r17_Encode (Mem.snap w) x42.2.1 x42.2.2.1 x42.2.2.2.1 x42.2.2.2.2.1 x42.2.2.2.2.2.1 x42.2.2.2.2.2.2.1 x42.2.2.2.2.2.2.2.1 x42.2.2.2.2.2.2.2.2.1 x42.2.2.2.2.2.2.2.2.2.1 x42.2.2.2.2.2.2.2.2.2.2.1 A69 n70 c71 _ (RdH.sn (rO 152 rfl) w hb hh) hx74) fun A79 n80 c81 => mv rfl <| ya (extract rfl rfl) <| ya (extract rfl rfl) <| asn rfl <| ak rfl k73 <| sr fun _ k82 => bd h fun x84 hx84 h => WL.eff (by decide) (Eff.buildC 183 ([] : By) sty_22 rfl rfl rfl rfl rfl (by decide)) ?_
 rintro _ _ ⟨g83, rfl, rfl⟩
 refine mv rfl <| ap 183 (xs := ([] : By)) (ys := x74.1) sty_22 rfl rfl rfl (rO 178 rfl) hx84 fun A85 c86 => ak rfl k82 <| sr fun _ k87 => mv rfl <| ya (lenC (xs := x84) und_22 rfl (rO 183 rfl)) <| ak rfl k87 <| sr fun _ k88 => ?_
 obtain ⟨x89, hx89, h⟩ := bnd h
 obtain ⟨x90, hx90, h⟩ := bnd h
 obtain ⟨x91, hx91, h⟩ := bnd h
 refine mv rfl <| mv rfl <| ya (remC rfl rfl hx89) <| mv rfl <| ya (addC rfl rfl hx90) <| mv rfl <| ya (remC rfl rfl hx91) <| ak rfl k88 <| sr fun _ k92 => ?_
 obtain ⟨x93, hx93, h⟩ := bnd h
 obtain ⟨x94, hx94, h⟩ := bnd h
 refine mv rfl <| mv rfl <| mv rfl <| ya (idxC (xs := x84) sty_22 rfl rfl (rO 183 rfl) hx93) <| WL.eff0 (Eff0.storeC1 183 (xs := x84) (a' := x8) siz_5 rfl rfl rfl rfl rfl rfl hx94) <| dz k92 <| ct (σ := By) (fun x95 => [(0, .slice A2 n3 c4), (17, .slice A79 n80 c81), (19, .slice A85 x84.length c86), (21, I64 x91)]) (fun x95 => [(0, .mem M63), (178, .own 5 (Lay.sz (BitVec 8)) A79 n80 c81 (cel x74.1)), (183, .own 5 (Lay.sz (BitVec 8)) A85 x84.length c86 (cel x95))]) (fun x95 => m_law17_ShardsDecodes_j1 x5 x74 x91 x95 = some res) (fun _ k96 => ?_) ?_
 ·refine sr fun _ k97 => mv rfl <| dz k97 <| cnd h rfl id Bool.eq_false_iff.2 (fun hc98 h => ?_) fun hc98 h => ?_
  ·refine rd [(0, _), (140, _), (151, _), (152, _), (172, _), (178, _)] mixed fun _ k99 => ?_
   obtain ⟨x100, hx100, h⟩ := bnd h
   obtain ⟨x101, hx101, h⟩ := bnd h
   obtain ⟨x102, hx102, h⟩ := bnd h
   obtain ⟨x103, hx103, h⟩ := bnd h
   obtain ⟨x104, hx104, h⟩ := bnd h
   refine dm 0 rfl rfl <| dm 1 rfl rfl <| du 2 rfl (subC rfl rfl hx100) <| dm 4 rfl rfl <| dm 5 rfl rfl <| du 6 rfl (subC rfl rfl hx102) <| WD.two 3 7 (by kernel_rfl) ?_ ?_
   ·refine dy rfl (sliceLC (xs := x94) sty_22 rfl rfl (rO 183 rfl) hx101) <| on 7 <| dy rfl (sliceHC (xs := x94) sty_22 rfl rfl (rO 183 rfl) hx103) <| on 8 <| WS.eff rfl (by decide) (Eff.callS 208 rfl Tryz.func26 nm_26 rfl rfl (fun w hb hh => w_r06_Check (Mem.snap w) A85 x103.length c86 _ (RdH.sn (RdT.slc0 (rO 183 rfl) hx103) w hb hh) hx104)) ?_
    rintro _ _ ⟨_, ⟨A109, n110, c111, rfl, rfl⟩, rfl⟩
    refine aq ?_
    refine on 9 <| WS.eff rfl (by decide) (Eff.copyS 183 (lo := x100) (hi := (x94.length : Int)) (xs := x94) (bs := x101) (ys := x104) sty_22 rfl rfl hx101 rfl rfl (rO 208 rfl)) ?_
    rintro _ _ ⟨rfl, rfl⟩
    refine aq ?_
    exact dd <| k99 _ _ <| tn <| kw (k96 (cpy x94 (x100).toNat ((x94.length : Int)).toNat x104) h)
   skip
   refine dy rfl (sliceHC (xs := x94) sty_22 rfl rfl (rO 183 rfl) hx103) <| WD.two 3 8 (by kernel_rfl) ?_ ?_
   ·refine dy rfl (sliceLC (xs := x94) sty_22 rfl rfl (rO 183 rfl) hx101) <| on 8 <| WS.eff rfl (by decide) (Eff.callS 208 rfl Tryz.func26 nm_26 rfl rfl (fun w hb hh => w_r06_Check (Mem.snap w) A85 x103.length c86 _ (RdH.sn (RdT.slc0 (rO 183 rfl) hx103) w hb hh) hx104)) ?_
    rintro _ _ ⟨_, ⟨A109, n110, c111, rfl, rfl⟩, rfl⟩
    refine aq ?_
    refine on 9 <| WS.eff rfl (by decide) (Eff.copyS 183 (lo := x100) (hi := (x94.length : Int)) (xs := x94) (bs := x101) (ys := x104) sty_22 rfl rfl hx101 rfl rfl (rO 208 rfl)) ?_
    rintro _ _ ⟨rfl, rfl⟩
    refine aq ?_
    exact dd <| k99 _ _ <| tn <| kw (k96 (cpy x94 (x100).toNat ((x94.length : Int)).toNat x104) h)
   skip
   refine WS.eff rfl (by decide) (Eff.callS 208 rfl Tryz.func26 nm_26 rfl rfl (fun w hb hh => w_r06_Check (Mem.snap w) A85 x103.length c86 _ (RdH.sn (RdT.slc0 (rO 183 rfl) hx103) w hb hh) hx104)) ?_
   rintro _ _ ⟨_, ⟨A109, n110, c111, rfl, rfl⟩, rfl⟩
   refine aq ?_
   refine on 3 <| dy rfl (sliceLC (xs := x94) sty_22 rfl rfl (rO 183 rfl) hx101) <| on 9 <| WS.eff rfl (by decide) (Eff.copyS 183 (lo := x100) (hi := (x94.length : Int)) (xs := x94) (bs := x101) (ys := x104) sty_22 rfl rfl hx101 rfl rfl (rO 208 rfl)) ?_
   rintro _ _ ⟨rfl, rfl⟩
   refine aq ?_
   exact dd <| k99 _ _ <| tn <| kw (k96 (cpy x94 (x100).toNat ((x94.length : Int)).toNat x104) h)
  exact WC.skip <| tn <| kw (k96 x94 h)
 rintro x95 h
 unfold m_law17_ShardsDecodes_j1 at h
 refine ct (σ := Mem) (fun M112 => []) (fun M112 => [(0, .mem M112)]) (fun M112 => m_law17_ShardsDecodes_j2 = some res /\ Ext w0.heap.size M63 M112) (fun _ k113 => ?_) ?_
 ·refine sd [(0, _), (178, _), (183, _)] mixed fun _ k114 => ?_
  obtain ⟨x115, hx115, h⟩ := bnd h
  obtain ⟨x117, hx117, h⟩ := bnd h
  obtain ⟨x120, hx120, h⟩ := bnd h
  refine dm 0 rfl rfl <| dm 1 rfl rfl <| dm 2 rfl rfl <| dm 3 rfl rfl <| dm 4 rfl rfl <| du 5 rfl (sliceHC (xs := x74.1) sty_22 rfl rfl (rO 178 rfl) hx115) <| dm 7 rfl rfl <| dm 9 rfl rfl <| dm 13 rfl rfl <| on 6 <| WS.eff rfl (by decide) (Eff.buildC 216 ([] : By) sty_22 rfl rfl rfl rfl rfl (by decide)) ?_
  rintro _ _ ⟨g116, rfl, rfl⟩
  refine aq ?_
  refine on 8 <| WS.eff rfl (by decide) (Eff.appendC 216 (xs := ([] : By)) (ys := x74.1) sty_22 rfl rfl rfl (rO 178 rfl) hx117) ?_
  rintro _ _ ⟨A118, c119, rfl, rfl⟩
  refine aq ?_
  refine on 10 <| WS.eff rfl (by decide) (Eff.appendC 216 (xs := x117) (ys := x5) sty_22 rfl rfl rfl (mM rfl (SlRc.lift (SlRc.lift (SlRc.lift hf6 hm_M32) hm_M61) hm_M63)) hx120) ?_
  rintro _ _ ⟨A121, c122, rfl, rfl⟩
  refine aq ?_
  refine on 11 <| WS.eff rfl (by decide) (Eff.buildC 223 ([(⟨A2, n3, c4⟩ : Hdr), (⟨A79, n80, c81⟩ : Hdr), (⟨A85, x84.length, c86⟩ : Hdr), (⟨A79, x115.length, c81⟩ : Hdr), (⟨A121, x120.length, c122⟩ : Hdr)] : List Hdr) sty_30 rfl rfl rfl rfl rfl (by decide)) ?_
  rintro _ _ ⟨g123, rfl, rfl⟩
  refine aq ?_
  refine on 12 <| dy rfl (lenD (rs := ([(⟨A2, n3, c4⟩ : Hdr), (⟨A79, n80, c81⟩ : Hdr), (⟨A85, x84.length, c86⟩ : Hdr), (⟨A79, x115.length, c81⟩ : Hdr), (⟨A121, x120.length, c122⟩ : Hdr)] : List Hdr)) (xs := ([x5, x74.1, x95, x115, x120] : List By)) rfl und_30 rfl (rO 223 rfl)) <| WD.done (by kernel_rfl) <| KK.freeze 178 rfl rfl rfl fun M124 hm_M124 hf125 => KK.freeze 183 rfl rfl rfl fun M126 hm_M126 hf127 => KK.freeze 216 rfl rfl rfl fun M128 hm_M128 hf129 => ?_
  have hq130 : Rels ((RelB (α := BitVec 8)) M128) ([(⟨A2, n3, c4⟩ : Hdr), (⟨A79, n80, c81⟩ : Hdr), (⟨A85, x84.length, c86⟩ : Hdr), (⟨A79, x115.length, c81⟩ : Hdr), (⟨A121, x120.length, c122⟩ : Hdr)] : List Hdr) ([x5, x74.1, x95, x115, x120] : List By) := (Rels.cons (SlRc.lift (SlRc.lift (SlRc.lift (SlRc.lift (SlRc.lift (SlRc.lift hf6 hm_M32) hm_M61) hm_M63) hm_M124) hm_M126) hm_M128) (Rels.cons (SlRc.lift (SlRc.lift hf125 hm_M126) hm_M128) (Rels.cons (SlRc.lift hf127 hm_M128) (Rels.cons (SlT.slc0 (SlRc.lift (SlRc.lift hf125 hm_M126) hm_M128) hx115) (Rels.cons hf129 Rels.nil)))))
  refine k114 _ _ <| bl <| lp (τ := Mem × Int) (fun ⟨M131, x132⟩ => [(90, .slice (some ⟨g123, 0, none⟩) (([(⟨A2, n3, c4⟩ : Hdr), (⟨A79, n80, c81⟩ : Hdr), (⟨A85, x84.length, c86⟩ : Hdr), (⟨A79, x115.length, c81⟩ : Hdr), (⟨A121, x120.length, c122⟩ : Hdr)] : List Hdr).length) (([(⟨A2, n3, c4⟩ : Hdr), (⟨A79, n80, c81⟩ : Hdr), (⟨A85, x84.length, c86⟩ : Hdr), (⟨A79, x115.length, c81⟩ : Hdr), (⟨A121, x120.length, c122⟩ : Hdr)] : List Hdr).length)), (91, I64 (([x5, x74.1, x95, x115, x120] : List By).length : Int)), (92, I64 x132)]) (fun ⟨M131, x132⟩ => [(0, .mem M131), (223, .own 22 (Lay.sz Hdr) (some ⟨g123, 0, none⟩) (([(⟨A2, n3, c4⟩ : Hdr), (⟨A79, n80, c81⟩ : Hdr), (⟨A85, x84.length, c86⟩ : Hdr), (⟨A79, x115.length, c81⟩ : Hdr), (⟨A121, x120.length, c122⟩ : Hdr)] : List Hdr).length) (([(⟨A2, n3, c4⟩ : Hdr), (⟨A79, n80, c81⟩ : Hdr), (⟨A85, x84.length, c86⟩ : Hdr), (⟨A79, x115.length, c81⟩ : Hdr), (⟨A121, x120.length, c122⟩ : Hdr)] : List Hdr).length) (cel ([(⟨A2, n3, c4⟩ : Hdr), (⟨A79, n80, c81⟩ : Hdr), (⟨A85, x84.length, c86⟩ : Hdr), (⟨A79, x115.length, c81⟩ : Hdr), (⟨A121, x120.length, c122⟩ : Hdr)] : List Hdr)))]) (fun q133 ⟨M131, x132⟩ => m_law17_ShardsDecodes_l3 x5 x74 x95 x115 x120 q133 x132 = some res /\ Ext w0.heap.size M128 M131) ⟨M128, (0 : Int)⟩ ?_ (by simp [m_law17_ShardsDecodes_l3]) ?_
  ·exact ⟨h, (Ext.refl _ _)⟩
  rintro q133 ⟨M131, x132⟩ ⟨h, hm_M131⟩ _ k134
  unfold m_law17_ShardsDecodes_l3 at h
  refine sr fun _ k135 => ya (lss rfl rfl) <| dz k135 <| sq fun _ k136 => cI h rfl (fun hc137 h => ?_) fun hc137 h => ?_
  ·refine ss <| k136 _ _ <| sq fun _ k138 => bl <| sr fun _ k139 => ?_
   obtain ⟨x140, hx140, h⟩ := bnd h
   obtain ⟨r_141, hr142, hq143⟩ := Rels.idx (Rels.lift hq130 hm_M131) hx140
   refine ya (idxC (xs := ([(⟨A2, n3, c4⟩ : Hdr), (⟨A79, n80, c81⟩ : Hdr), (⟨A85, x84.length, c86⟩ : Hdr), (⟨A79, x115.length, c81⟩ : Hdr), (⟨A121, x120.length, c122⟩ : Hdr)] : List Hdr)) sty_30 rfl rfl (rO 223 rfl) hr142) <| ya (loadC0 (xs := ([(⟨A2, n3, c4⟩ : Hdr), (⟨A79, n80, c81⟩ : Hdr), (⟨A85, x84.length, c86⟩ : Hdr), (⟨A79, x115.length, c81⟩ : Hdr), (⟨A121, x120.length, c122⟩ : Hdr)] : List Hdr)) scal_22 rfl (rO 223 rfl) hr142 rfl) <| ak rfl k139 <| sr fun _ k144 => bd h fun x145 hx145 h => mv rfl <| c1 249 Tryz.func27 rfl (fun w hb hh => w_shards_Decode (Mem.snap w) r_141.A r_141.n r_141.c _ (sM rfl hq143 w hb hh) hx145) fun A150 n151 c152 => mv rfl <| ya (extract rfl rfl) <| ya (extract rfl rfl) <| al 253 zr_34 fun g153 => sb 253 agg_34 rfl rfl rfl <| ak rfl k144 <| sr fun _ k154 => bd h fun x155 hx155 h => mv rfl <| c1 259 Tryz.func28 rfl (fun w hb hh => w_r17_Decode (Mem.snap w) r_141.A r_141.n r_141.c _ (sM rfl hq143 w hb hh) hx155) fun A160 n161 c162 => mv rfl <| ya (extract rfl rfl) <| ya (extract rfl rfl) <| al 263 zr_38 fun g163 => sb 263 agg_38 rfl rfl rfl <| ak rfl k154 <| sd [(223, _), (253, _), (259, _), (263, _)] mixed fun _ k164 => ?_
   by_cases hc165 : x145.2.2.2.2.2.2.2.2.2.2.2 = x155.2.2.2.2.2.2.2.2.2.2.2
   ·replace h := of_t hc165 h
    obtain ⟨x166, hx166, h⟩ := bnd h
    obtain ⟨x182, hx182, h⟩ := bnd h
    refine dm 0 rfl rfl <| dm 1 rfl rfl <| du 2 rfl (neqI rfl rfl) <| dm 3 rfl rfl <| WD.new (v' := .bool false) (congrArg Value.bool (bne_eq_false_iff_eq.2 hc165)) <| dv 4 rfl (loadBM (k := 253) agg_34 rfl rfl rfl) <| dv 6 rfl (loadBM (k := 263) agg_38 rfl rfl rfl) <| on 5 <| WS.freeze 249 rfl rfl rfl rfl rfl fun M176 hm_M176 hf177 => WS.effG rfl (by decide) rfl (Eff.callQ 271 rfl Tryz.func15 nm_15 rfl rfl rfl (w_law17_told _ x145.1 x145.2.1 x145.2.2.1 x145.2.2.2.1 x145.2.2.2.2.1 x145.2.2.2.2.2.1 x145.2.2.2.2.2.2.1 x145.2.2.2.2.2.2.2.1 x145.2.2.2.2.2.2.2.2.1 x145.2.2.2.2.2.2.2.2.2.1 A150 n151 c152 _ hf177 hx166)) ?_
    rintro _ _ ⟨_, ⟨A178, n179, c180, rfl, rfl, hf181⟩, rfl⟩
    refine aq ?_
    refine on 7 <| WS.effG rfl (by decide) rfl (Eff.callS 283 rfl Tryz.func14 nm_14 rfl rfl (fun w hb hh => w_r17_Same (Mem.snap w) x166.1 x166.2.1 x166.2.2.1 x166.2.2.2.1 x166.2.2.2.2.1 x166.2.2.2.2.2.1 x166.2.2.2.2.2.2.1 x166.2.2.2.2.2.2.2.1 x166.2.2.2.2.2.2.2.2.1 x166.2.2.2.2.2.2.2.2.2.1 A178 n179 c180 _ (sM rfl hf181 w hb hh) x155.1 x155.2.1 x155.2.2.1 x155.2.2.2.1 x155.2.2.2.2.1 x155.2.2.2.2.2.1 x155.2.2.2.2.2.2.1 x155.2.2.2.2.2.2.2.1 x155.2.2.2.2.2.2.2.2.1 x155.2.2.2.2.2.2.2.2.2.1 A160 n161 c162 _ (RdH.sn (rO 259 rfl) w hb hh) hx182)) ?_
    rintro _ _ ⟨_, ⟨rfl, rfl⟩, rfl⟩
    refine aq ?_
    refine dv 8 rfl (notB rfl) <| du 9 rfl (pickF rfl rfl) <| dd <| k164 _ _ <| cnn h rfl not_f (fun q => not_t (Bool.eq_false_iff.2 q)) (fun hc184 h => ?_) fun hc184 h => ?_
    ·refine WC.skip <| bn <| tn <| k138 _ _ <| rg fun _ k185 => bd h fun x186 hx186 h => ya (addC rfl rfl hx186) <| mv rfl <| dz k185 <| tn <| kw (k134 ⟨M176, x186⟩ ⟨h, (Ext.trans hm_M131 hm_M176)⟩)
    refine sr fun _ k187 => ak rfl k187 <| re <| br <| tr <| tr <| br <| tr ?_
    obtain rfl := si h
    exact rt [] (ResIs.one rfl rfl) (Ext.trans (Ext.trans (Ext.trans (Ext.trans (Ext.trans (Ext.trans (Ext.trans hm_M32 hm_M61) hm_M63) hm_M124) hm_M126) hm_M128) hm_M131) hm_M176) ⟨rfl, rfl⟩
   replace h := of_f hc165 h
   refine dm 0 rfl rfl <| dm 1 rfl rfl <| du 2 rfl (neqI rfl rfl) <| dm 3 rfl rfl <| WD.new (v' := .bool true) (congrArg Value.bool (bne_iff_ne.2 hc165)) <| dw 4 rfl <| dw 5 rfl <| dw 6 rfl <| dw 7 rfl <| dw 8 rfl <| du 9 rfl (pickT rfl rfl) <| dd <| k164 _ _ <| cdT rfl <| sr fun _ k188 => ak rfl k188 <| re <| br <| tr <| tr <| br <| tr ?_
   obtain rfl := si h
   exact rt [] (ResIs.one rfl rfl) (Ext.trans (Ext.trans (Ext.trans (Ext.trans (Ext.trans (Ext.trans hm_M32 hm_M61) hm_M63) hm_M124) hm_M126) hm_M128) hm_M131) ⟨rfl, rfl⟩
  exact xi <| te <| te <| bx <| tn <| kw (k113 M131 ⟨h, (Ext.trans (Ext.trans (Ext.trans hm_M124 hm_M126) hm_M128) hm_M131)⟩)
 rintro M112 ⟨h, hm_M112⟩
 unfold m_law17_ShardsDecodes_j2 at h
 refine sr fun _ k189 => bd h fun x190 hx190 h => c0 Tryz.func9 rfl (fun w hb hh => w_law17_awake (Mem.snap w) hx190) <| ak rfl k189 <| re ?_
 obtain rfl := si h
 exact rt [] (ResIs.one rfl rfl) (Ext.trans (Ext.trans (Ext.trans hm_M32 hm_M61) hm_M63) hm_M112) ⟨rfl, rfl⟩
end Go.Proofs.YthjnhlmfcejhkaaGreat
