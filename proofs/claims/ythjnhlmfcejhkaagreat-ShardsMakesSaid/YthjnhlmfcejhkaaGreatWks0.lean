/- A part of the proof. Conditions: as each theorem says. -/
import Derived.Test.YthjnhlmfcejhkaaGreatWkr
import Derived.Test.YthjnhlmfcejhkaaGreatMds0
namespace Go.Proofs.YthjnhlmfcejhkaaGreat
set_option maxRecDepth 10000
open Go Go.RowKit Yld
set_option linter.unusedVariables false
theorem nm_12 : (Tryz.f12.name == "runtime.NumGoroutine") = false := by kernel_rfl
theorem nm_13 : (Tryz.f13.name == "runtime.NumGoroutine") = false := by kernel_rfl
theorem nm_14 : (Tryz.f14.name == "runtime.NumGoroutine") = false := by kernel_rfl
theorem nm_15 : (Tryz.f15.name == "runtime.NumGoroutine") = false := by kernel_rfl
theorem w_law17_ShardsMakes (M0 : Mem) (A00 : Option Addr) (n00 c00 : Nat) (x00 : By) (hf00 : SlT M0 A00 n00 c00 x00) (v0 v1 v2 : Int) (A02 : Option Addr) (n02 c02 : Nat) (x02 : List Sapi_Item) (hf02 : SlT M0 A02 n02 c02 x02) (A03 : Option Addr) (n03 c03 : Nat) (rs03 : List Rapi_Needle) (x03 : List Sapi_Needle) (hf03 : SlT M0 A03 n03 c03 rs03) (hq03 : Rels (rel_api_Needle M0) rs03 x03) {res : Bool} (h : m_law17_ShardsMakes x00 v0 v1 v2 x02 x03 = some res) :
  Fn Tryz.prog 3 #[.slice A00 n00 c00, .agg ([I64 v0, I64 v1, I64 v2] : List Value).toArray, .slice A02 n02 c02, .slice A03 n03 c03] M0 fun r M' es => r = .bool res /\ es = [] := by
 refine Fn.intro (N := 87) Tryz.func3 rfl rfl (nle rfl) fun w0 => ?_
 unfold m_law17_ShardsMakes at h
 refine sr fun _ k1 => bb 102 [I64 v0, I64 v1, I64 v2] rfl fun g2 => ak rfl k1 <| ct (σ := (Option Addr) × Nat × Nat × (List Sapi_Needle) × (List Rapi_Needle)) (fun ⟨A3, n4, c5, x6, rs8⟩ => [(0, .slice A00 n00 c00), (2, .slice A02 n02 c02), (3, .slice A3 n4 c5), (5, pv g2)]) (fun ⟨A3, n4, c5, x6, rs8⟩ => [(0, .mem M0), (102, .blk g2 24 [I64 v0, I64 v1, I64 v2])]) (fun ⟨A3, n4, c5, x6, rs8⟩ => m_law17_ShardsMakes_j0 x00 v0 v1 v2 x02 x6 = some res /\ SlT M0 A3 n4 c5 rs8 /\ Rels (rel_api_Needle M0) rs8 x6) (fun _ k10 => ?_) ?_
 ·refine sr fun _ k11 => mv rfl <| ya (lenC (xs := x00) und_22 rfl (mM rfl hf00)) <| ya (gtr rfl rfl) <| mv rfl <| spl h decide_eq_true decide_eq_false (fun hc12 h => ?_) fun hc12 h => ?_
  ·refine sk <| sk <| sk <| pt rfl rfl <| dz k11 <| cdT rfl <| sr fun _ k13 => bd h fun x14 hx14 h => c0 Tryz.func9 rfl (fun w hb hh => w_law17_awake (Mem.snap w) hx14) <| ak rfl k13 <| re <| tr ?_
   obtain rfl := si h
   exact rt0 (ResIs.one rfl rfl)
  refine mvg rfl <| yg (lenC (xs := x02) und_25 rfl (mM rfl hf02)) <| yg (gtr rfl rfl) <| pf rfl rfl <| dz k11 <| cI h rfl (fun hc16 h => ?_) fun hc16 h => ?_
  ·refine sr fun _ k17 => bd h fun x18 hx18 h => c0 Tryz.func9 rfl (fun w hb hh => w_law17_awake (Mem.snap w) hx18) <| ak rfl k17 <| re <| tr ?_
   obtain rfl := si h
   exact rt0 (ResIs.one rfl rfl)
  exact WC.skip <| tn <| kw (k10 ⟨A03, n03, c03, x03, rs03⟩ ⟨h, hf03, hq03⟩)
 rintro ⟨A3, n4, c5, x6, rs8⟩ ⟨h, hf7, hq9⟩
 unfold m_law17_ShardsMakes_j0 at h
 refine sr fun _ k20 => bd h fun x21 hx21 h => mv rfl <| WL.eff (by decide) (Eff.callM 129 rfl Tryz.func10 nm_10 rfl rfl rfl (w_law17_file _ A3 n4 c5 rs8 _ hf7 hq9 hx21)) ?_
 rintro _ _ ⟨M37, _, ⟨A38, n39, c40, A42, n43, c44, rfl, rfl, hf41⟩, hm_M37, rfl⟩
 refine mv rfl <| ya (extract rfl rfl) <| ya (extract rfl rfl) <| ya (extract rfl rfl) <| al 145 zr_24 fun g45 => asn rfl <| sb 145 agg_24 rfl rfl rfl <| ak rfl k20 <| ct (σ := Mem) (fun M46 => []) (fun M46 => [(0, .mem M46)]) (fun M46 => m_law17_ShardsMakes_j1 = some res /\ Ext w0.heap.size M37 M46) (fun _ k47 => ?_) ?_
 ·refine sr fun _ k48 => ak rfl k48 <| bl <| WC.freeze 129 rfl rfl rfl fun M59 hm_M59 hf60 => lp (τ := Mem × (Option Addr) × Nat × Nat × (List Sapi_Item) × Int) (fun ⟨M51, A52, n53, c54, x55, x57⟩ => [(0, .slice A00 n00 c00), (2, .slice A02 n02 c02), (5, pv g2), (9, .slice A38 n39 c40), (10, pv g45), (11, .slice A52 n53 c54), (12, I64 x57)]) (fun ⟨M51, A52, n53, c54, x55, x57⟩ => [(0, .mem M51), (102, .blk g2 24 [I64 v0, I64 v1, I64 v2]), (145, .blk g45 24 [I64 x21.2.1, I64 x21.2.2.1, I64 x21.2.2.2.1])]) (fun q58 ⟨M51, A52, n53, c54, x55, x57⟩ => m_law17_ShardsMakes_l2 x00 v0 v1 v2 x02 x21 q58 x55 x57 = some res /\ Ext w0.heap.size M37 M51 /\ SlT M51 A52 n53 c54 x55) ⟨M59, A42, n43, c44, x21.2.2.2.2, (0 : Int)⟩ ?_ (by simp [m_law17_ShardsMakes_l2]) ?_
  ·exact ⟨h, hm_M59, hf60⟩
  rintro q58 ⟨M51, A52, n53, c54, x55, x57⟩ ⟨h, hm_M51, hf56⟩ _ k61
  unfold m_law17_ShardsMakes_l2 at h
  refine sq fun _ k62 => sr fun _ k63 => mv rfl <| ya (lss rfl rfl) <| dz k63 <| cI h rfl (fun hc64 h => ?_) fun hc64 h => ?_
  ·refine ss <| k62 _ _ <| sq fun _ k65 => bl <| sd [(0, _), (102, _), (145, _)] mixed fun _ k66 => ?_
   refine dm 0 rfl rfl <| du 1 rfl (loadBM (k := 145) agg_24 rfl rfl rfl) <| dm 2 rfl rfl <| on 3 <| WS.eff rfl (by decide) (Eff.alloc 167 rfl zr_24) ?_
   rintro _ _ ⟨g67, rfl, rfl⟩
   refine aq ?_
   refine du 4 rfl (Yld.assign rfl) <| on 5 <| ds 167 rfl agg_24 rfl rfl rfl <| du 6 rfl (Yld.assign rfl) <| dd <| k66 _ _ <| ct (σ := (Option Addr) × Nat × Nat × By × Int × Int × Int × (Option Addr) × Nat × Nat × (List Sapi_Item)) (fun ⟨A68, n69, c70, x71, x73, x74, x75, A76, n77, c78, x79⟩ => [(0, .slice A00 n00 c00), (2, .slice A02 n02 c02), (5, pv g2), (9, .slice A38 n39 c40), (10, pv g45), (11, .slice A52 n53 c54), (12, I64 x57), (13, .slice A68 n69 c70), (14, pv g67), (15, .slice A76 n77 c78)]) (fun ⟨A68, n69, c70, x71, x73, x74, x75, A76, n77, c78, x79⟩ => [(0, .mem M51), (102, .blk g2 24 [I64 v0, I64 v1, I64 v2]), (145, .blk g45 24 [I64 x21.2.1, I64 x21.2.2.1, I64 x21.2.2.2.1]), (167, .blk g67 24 [I64 x73, I64 x74, I64 x75])]) (fun ⟨A68, n69, c70, x71, x73, x74, x75, A76, n77, c78, x79⟩ => m_law17_ShardsMakes_j3 x55 x57 (m_law17_ShardsMakes_l2 x00 v0 v1 v2 x02 x21 q58) x71 x73 x74 x75 x79 = some res /\ SlT M51 A68 n69 c70 x71 /\ SlT M51 A76 n77 c78 x79) (fun _ k81 => ?_) ?_
   ·refine sr fun _ k82 => mv rfl <| dz k82 <| bl <| sr fun _ k83 => ya (eqlI rfl rfl) <| ak rfl k83 <| cnd h rfl beq_iff_eq.2 beq_eq_false_iff_ne.2 (fun hc84 h => ?_) fun hc84 h => ?_
    ·exact rg fun _ k85 => mv rfl <| ak rfl k85 <| bn <| tn <| kw (k81 ⟨A00, n00, c00, x00, x21.2.1, x21.2.2.1, x21.2.2.2.1, A52, n53, c54, x55⟩ ⟨h, (SlRc.lift (SlRc.lift hf00 hm_M37) hm_M51), hf56⟩)
    refine sr fun _ k86 => ya (eqlI rfl rfl) <| ak rfl k86 <| cnd h rfl beq_iff_eq.2 beq_eq_false_iff_ne.2 (fun hc87 h => ?_) fun hc87 h => ?_
    ·exact rg fun _ k88 => ya (loadBM (k := 102) agg_24 rfl rfl rfl) <| sb 167 agg_24 rfl rfl rfl <| dz k88 <| bn <| tn <| kw (k81 ⟨A38, n39, c40, x21.1, v0, v1, v2, A52, n53, c54, x55⟩ ⟨h, (SlRc.lift hf41 hm_M51), hf56⟩)
    refine sr fun _ k89 => ya (eqlI rfl rfl) <| ak rfl k89 <| cnd h rfl beq_iff_eq.2 beq_eq_false_iff_ne.2 (fun hc90 h => ?_) fun hc90 h => ?_
    ·exact rg fun _ k91 => mv rfl <| ak rfl k91 <| bn <| tn <| kw (k81 ⟨A38, n39, c40, x21.1, x21.2.1, x21.2.2.1, x21.2.2.2.1, A02, n02, c02, x02⟩ ⟨h, (SlRc.lift hf41 hm_M51), (SlRc.lift (SlRc.lift hf02 hm_M37) hm_M51)⟩)
    exact WC.skip <| bn <| tn <| kw (k81 ⟨A38, n39, c40, x21.1, x21.2.1, x21.2.2.1, x21.2.2.2.1, A52, n53, c54, x55⟩ ⟨h, (SlRc.lift hf41 hm_M51), hf56⟩)
   rintro ⟨A68, n69, c70, x71, x73, x74, x75, A76, n77, c78, x79⟩ ⟨h, hf72, hf80⟩
   unfold m_law17_ShardsMakes_j3 at h
   refine sr fun _ k92 => bd h fun x93 hx93 h => mv rfl <| ya (loadBM (k := 167) agg_24 rfl rfl rfl) <| mv rfl <| WL.eff (by decide) (Eff.callM 202 rfl Tryz.func11 nm_11 rfl rfl rfl (w_shards_Make _ A68 n69 c70 _ hf72 x73 x74 x75 A76 n77 c78 _ hf80 hx93)) ?_
   rintro _ _ ⟨M112, _, ⟨A113, n114, c115, rs116, A118, n119, c120, rfl, rfl, hq117⟩, hm_M112, rfl⟩
   refine mv rfl <| ya (extract rfl rfl) <| ya (extract rfl rfl) <| ya (extract rfl rfl) <| al 221 zr_34 fun g121 => asn rfl <| sb 221 agg_34 rfl rfl rfl <| ak rfl k92 <| sr fun _ k122 => bd h fun x123 hx123 h => mv rfl <| ya (loadBM (k := 167) agg_24 rfl rfl rfl) <| mv rfl <| WL.eff (by decide) (Eff.callM 232 rfl Tryz.func12 nm_12 rfl rfl rfl (w_r17_Make _ A68 n69 c70 _ (SlRc.lift hf72 hm_M112) x73 x74 x75 A76 n77 c78 _ (SlRc.lift hf80 hm_M112) hx123)) ?_
   rintro _ _ ⟨M142, _, ⟨A143, n144, c145, rs146, A148, n149, c150, rfl, rfl, hq147⟩, hm_M142, rfl⟩
   refine mv rfl <| ya (extract rfl rfl) <| ya (extract rfl rfl) <| ya (extract rfl rfl) <| al 251 zr_38 fun g151 => asn rfl <| sb 251 agg_38 rfl rfl rfl <| ak rfl k122 <| sd [(102, _), (145, _), (167, _), (202, _), (221, _), (232, _), (233, _), (251, _)] mixed fun _ k152 => ?_
   by_cases hc153 : x93.2.2.2.2.2.2.2.2.2.2.2.2 = x123.2.2.2.2.2.2.2.2.2.2.2.2
   ·replace h := of_t hc153 h
    obtain ⟨x154, hx154, h⟩ := bnd h
    by_cases hc156 : x154 = true
    ·replace h := of_t hc156 h
     obtain ⟨x157, hx157, h⟩ := bnd h
     obtain ⟨x173, hx173, h⟩ := bnd h
     refine dm 0 rfl rfl <| dm 1 rfl rfl <| du 2 rfl (neqI rfl rfl) <| dm 3 rfl rfl <| WD.new (v' := .bool false) (congrArg Value.bool (bne_eq_false_iff_eq.2 hc153)) <| dv 4 rfl (Yld.move rfl) <| dv 5 rfl (Yld.move rfl) <| on 6 <| WS.effG rfl (by decide) rfl (Eff.callS 255 rfl Tryz.func13 nm_13 rfl rfl (fun w hb hh => w_r03_SameRows (Mem.snap w) A113 n114 c115 rs116 _ (RdH.sn (rO 202 rfl) w hb hh) (Rels.sn (Rels.lift hq117 hm_M142) (hh.sat 0 _ rfl)) A143 n144 c145 rs146 _ (RdH.sn (rO 232 rfl) w hb hh) (Rels.sn hq147 (hh.sat 0 _ rfl)) hx154)) ?_
     rintro _ _ ⟨_, ⟨rfl, rfl⟩, rfl⟩
     refine aq ?_
     refine dv 7 rfl (notB rfl) <| du 8 rfl (pickF rfl rfl) <| dm 9 rfl rfl <| WD.new (v' := .bool false) (congrArg Value.bool (not_f hc156)) <| dv 10 rfl (loadBM (k := 221) agg_34 rfl rfl rfl) <| dv 12 rfl (loadBM (k := 251) agg_38 rfl rfl rfl) <| on 11 <| WS.freeze 203 rfl rfl rfl rfl rfl fun M167 hm_M167 hf168 => WS.effG rfl (by decide) rfl (Eff.callQ 262 rfl Tryz.func15 nm_15 rfl rfl rfl (w_law17_told _ x93.2.1 x93.2.2.1 x93.2.2.2.1 x93.2.2.2.2.1 x93.2.2.2.2.2.1 x93.2.2.2.2.2.2.1 x93.2.2.2.2.2.2.2.1 x93.2.2.2.2.2.2.2.2.1 x93.2.2.2.2.2.2.2.2.2.1 x93.2.2.2.2.2.2.2.2.2.2.1 A118 n119 c120 _ hf168 hx157)) ?_
     rintro _ _ ⟨_, ⟨A169, n170, c171, rfl, rfl, hf172⟩, rfl⟩
     refine aq ?_
     refine on 13 <| WS.effG rfl (by decide) rfl (Eff.callS 274 rfl Tryz.func14 nm_14 rfl rfl (fun w hb hh => w_r17_Same (Mem.snap w) x157.1 x157.2.1 x157.2.2.1 x157.2.2.2.1 x157.2.2.2.2.1 x157.2.2.2.2.2.1 x157.2.2.2.2.2.2.1 x157.2.2.2.2.2.2.2.1 x157.2.2.2.2.2.2.2.2.1 x157.2.2.2.2.2.2.2.2.2.1 A169 n170 c171 _ (sM rfl hf172 w hb hh) x123.2.1 x123.2.2.1 x123.2.2.2.1 x123.2.2.2.2.1 x123.2.2.2.2.2.1 x123.2.2.2.2.2.2.1 x123.2.2.2.2.2.2.2.1 x123.2.2.2.2.2.2.2.2.1 x123.2.2.2.2.2.2.2.2.2.1 x123.2.2.2.2.2.2.2.2.2.2.1 A148 n149 c150 _ (RdH.sn (rO 233 rfl) w hb hh) hx173)) ?_
     rintro _ _ ⟨_, ⟨rfl, rfl⟩, rfl⟩
     refine aq ?_
     refine dv 14 rfl (notB rfl) <| du 15 rfl (pickF rfl rfl) <| dd <| k152 _ _ <| cnn h rfl not_f (fun q => not_t (Bool.eq_false_iff.2 q)) (fun hc175 h => ?_) fun hc175 h => ?_
     ·refine WC.skip <| bn <| tn <| k65 _ _ <| rg fun _ k176 => bd h fun x177 hx177 h => mv rfl <| ya (addC rfl rfl hx177) <| ak rfl k176 <| tn <| kw (k61 ⟨M167, A52, n53, c54, x55, x177⟩ ⟨h, (Ext.trans (Ext.trans (Ext.trans hm_M51 hm_M112) hm_M142) hm_M167), (SlRc.lift (SlRc.lift (SlRc.lift hf56 hm_M112) hm_M142) hm_M167)⟩)
     refine sr fun _ k178 => ak rfl k178 <| re <| br <| tr <| tr <| br <| tr ?_
     obtain rfl := si h
     exact rt [] (ResIs.one rfl rfl) (Ext.trans (Ext.trans (Ext.trans (Ext.trans hm_M37 hm_M51) hm_M112) hm_M142) hm_M167) ⟨rfl, rfl⟩
    replace h := of_f hc156 h
    refine dm 0 rfl rfl <| dm 1 rfl rfl <| du 2 rfl (neqI rfl rfl) <| dm 3 rfl rfl <| WD.new (v' := .bool false) (congrArg Value.bool (bne_eq_false_iff_eq.2 hc153)) <| dv 4 rfl (Yld.move rfl) <| dv 5 rfl (Yld.move rfl) <| on 6 <| WS.effG rfl (by decide) rfl (Eff.callS 255 rfl Tryz.func13 nm_13 rfl rfl (fun w hb hh => w_r03_SameRows (Mem.snap w) A113 n114 c115 rs116 _ (RdH.sn (rO 202 rfl) w hb hh) (Rels.sn (Rels.lift hq117 hm_M142) (hh.sat 0 _ rfl)) A143 n144 c145 rs146 _ (RdH.sn (rO 232 rfl) w hb hh) (Rels.sn hq147 (hh.sat 0 _ rfl)) hx154)) ?_
    rintro _ _ ⟨_, ⟨rfl, rfl⟩, rfl⟩
    refine aq ?_
    refine dv 7 rfl (notB rfl) <| du 8 rfl (pickF rfl rfl) <| dm 9 rfl rfl <| WD.new (v' := .bool true) (congrArg Value.bool (not_t (Bool.eq_false_iff.2 hc156))) <| dw 10 rfl <| dw 11 rfl <| dw 12 rfl <| dw 13 rfl <| dw 14 rfl <| du 15 rfl (pickT rfl rfl) <| dd <| k152 _ _ <| cdT rfl <| sr fun _ k179 => ak rfl k179 <| re <| br <| tr <| tr <| br <| tr ?_
    obtain rfl := si h
    exact rt [] (ResIs.one rfl rfl) (Ext.trans (Ext.trans (Ext.trans hm_M37 hm_M51) hm_M112) hm_M142) ⟨rfl, rfl⟩
   replace h := of_f hc153 h
   refine dm 0 rfl rfl <| dm 1 rfl rfl <| du 2 rfl (neqI rfl rfl) <| dm 3 rfl rfl <| WD.new (v' := .bool true) (congrArg Value.bool (bne_iff_ne.2 hc153)) <| dw 4 rfl <| dw 5 rfl <| dw 6 rfl <| dw 7 rfl <| du 8 rfl (pickT rfl rfl) <| dm 9 rfl rfl <| dw 10 rfl <| dw 11 rfl <| dw 12 rfl <| dw 13 rfl <| dw 14 rfl <| du 15 rfl (pickT rfl rfl) <| dd <| k152 _ _ <| cdT rfl <| sr fun _ k180 => ak rfl k180 <| re <| br <| tr <| tr <| br <| tr ?_
   obtain rfl := si h
   exact rt [] (ResIs.one rfl rfl) (Ext.trans (Ext.trans (Ext.trans hm_M37 hm_M51) hm_M112) hm_M142) ⟨rfl, rfl⟩
  exact xi <| te <| te <| bx <| tn <| kw (k47 M51 ⟨h, hm_M51⟩)
 rintro M46 ⟨h, hm_M46⟩
 unfold m_law17_ShardsMakes_j1 at h
 refine sr fun _ k181 => bd h fun x182 hx182 h => c0 Tryz.func9 rfl (fun w hb hh => w_law17_awake (Mem.snap w) hx182) <| ak rfl k181 <| re ?_
 obtain rfl := si h
 exact rt [] (ResIs.one rfl rfl) (Ext.trans hm_M37 hm_M46) ⟨rfl, rfl⟩
end Go.Proofs.YthjnhlmfcejhkaaGreat
