/- A part of the proof. Conditions: as each theorem says. -/
import Derived.Test.YthjnhlmfcejhkaaGreatWkr
import Derived.Test.YthjnhlmfcejhkaaGreatMds4
namespace Go.Proofs.YthjnhlmfcejhkaaGreat
set_option maxRecDepth 10000
open Go Go.RowKit Yld
set_option linter.unusedVariables false
theorem w_law17_ShardsBursts (M0 : Mem) (A00 : Option Addr) (n00 c00 : Nat) (rs00 : List Rapi_Needle) (x00 : List Sapi_Needle) (hf00 : SlT M0 A00 n00 c00 rs00) (hq00 : Rels (rel_api_Needle M0) rs00 x00) (x01 : Int) (x02 : BitVec 32) {res : Bool} (h : m_law17_ShardsBursts x00 x01 x02 = some res) :
  Fn Tryz.prog 7 #[.slice A00 n00 c00, I64 x01, U32 x02] M0 fun r M' es => r = .bool res /\ es = [] := by
 refine Fn.intro (N := 121) Tryz.func7 rfl rfl (nle rfl) fun w0 => ?_
 unfold m_law17_ShardsBursts at h
 refine sr fun _ k1 => ak rfl k1 <| sr fun _ k2 => bd h fun x3 hx3 h => mv rfl <| WL.eff (by decide) (Eff.callM 111 rfl Tryz.func10 nm_10 rfl rfl rfl (w_law17_file _ A00 n00 c00 rs00 _ hf00 hq00 hx3)) ?_
 rintro _ _ ⟨M19, _, ⟨A20, n21, c22, A24, n25, c26, rfl, rfl, hf23⟩, hm_M19, rfl⟩
 refine mv rfl <| ya (extract rfl rfl) <| ya (extract rfl rfl) <| ya (extract rfl rfl) <| al 127 zr_24 fun g27 => asn rfl <| sb 127 agg_24 rfl rfl rfl <| ak rfl k2 <| sr fun _ k28 => bd h fun x29 hx29 h => mv rfl <| ya (loadBM (k := 127) agg_24 rfl rfl rfl) <| mv rfl <| WL.freeze 111 rfl rfl rfl fun M48 hm_M48 hf49 => WL.eff (by decide) (Eff.callM 138 rfl Tryz.func11 nm_11 rfl rfl rfl (w_shards_Make _ A20 n21 c22 _ (SlRc.lift hf23 hm_M48) x3.2.1 x3.2.2.1 x3.2.2.2.1 A24 n25 c26 _ hf49 hx29)) ?_
 rintro _ _ ⟨M50, _, ⟨A51, n52, c53, rs54, A56, n57, c58, rfl, rfl, hq55⟩, hm_M50, rfl⟩
 refine mv rfl <| ya (extract rfl rfl) <| ya (extract rfl rfl) <| ya (extract rfl rfl) <| al 159 zr_34 fun g59 => asn rfl <| sb 159 agg_34 rfl rfl rfl <| ak rfl k28 <| sr fun _ k60 => bd h fun x61 hx61 h => ya (loadBM (k := 159) agg_34 rfl rfl rfl) <| c1 165 Tryz.func22 rfl (fun w hb hh => w_shards_Encode (Mem.snap w) x29.2.1 x29.2.2.1 x29.2.2.2.1 x29.2.2.2.2.1 x29.2.2.2.2.2.1 x29.2.2.2.2.2.2.1 x29.2.2.2.2.2.2.2.1 x29.2.2.2.2.2.2.2.2.1 x29.2.2.2.2.2.2.2.2.2.1 x29.2.2.2.2.2.2.2.2.2.2.1 A56 n57 c58 _ (RdH.sn (rO 139 rfl) w hb hh) hx61) fun A66 n67 c68 => mv rfl <| ya (extract rfl rfl) <| ya (extract rfl rfl) <| asn rfl <| ak rfl k60 <| ct (σ := Unit) (fun _ => [(1, I64 x01), (2, U32 x02), (13, .slice A66 n67 c68)]) (fun _ => [(0, .mem M50), (165, .own 5 (Lay.sz (BitVec 8)) A66 n67 c68 (cel x61.1))]) (fun _ => m_law17_ShardsBursts_j0 x01 x02 x61 = some res) (fun _ k69 => ?_) ?_
 ·refine sr fun _ k70 => mv rfl <| ya (neqI rfl rfl) <| mv rfl <| spn h bne_eq_false_iff_eq.2 bne_iff_ne.2 (fun hc71 h => ?_) fun hc71 h => ?_
  ·refine mvg rfl <| yg (neqI rfl rfl) <| pf rfl rfl <| mv rfl <| spn h bne_eq_false_iff_eq.2 bne_iff_ne.2 (fun hc72 h => ?_) fun hc72 h => ?_
   ·refine mvg rfl <| yg (lenC (xs := x61.1) und_22 rfl (rO 165 rfl)) <| yg (lss rfl rfl) <| pf rfl rfl <| dz k70 <| cI h rfl (fun hc73 h => ?_) fun hc73 h => ?_
    ·refine sr fun _ k74 => ak rfl k74 <| re <| tr ?_
     obtain rfl := si h
     exact rt [] (ResIs.one rfl rfl) (Ext.trans (Ext.trans hm_M19 hm_M48) hm_M50) ⟨rfl, rfl⟩
    exact WC.skip <| tn <| kw (k69 () h)
   refine sk <| sk <| sk <| pt rfl rfl <| dz k70 <| cdT rfl <| sr fun _ k75 => ak rfl k75 <| re <| tr ?_
   obtain rfl := si h
   exact rt [] (ResIs.one rfl rfl) (Ext.trans (Ext.trans hm_M19 hm_M48) hm_M50) ⟨rfl, rfl⟩
  refine sk <| sk <| pt rfl rfl <| mv rfl <| sk <| sk <| sk <| pt rfl rfl <| dz k70 <| cdT rfl <| sr fun _ k76 => ak rfl k76 <| re <| tr ?_
  obtain rfl := si h
  exact rt [] (ResIs.one rfl rfl) (Ext.trans (Ext.trans hm_M19 hm_M48) hm_M50) ⟨rfl, rfl⟩
 rintro _ h
 unfold m_law17_ShardsBursts_j0 at h
 refine sr fun _ k77 => bd h fun x78 hx78 h => mv rfl <| ya (lenC (xs := x61.1) und_22 rfl (rO 165 rfl)) <| ya (mulC rfl rfl hx78) <| ak rfl k77 <| sr fun _ k79 => ?_
 obtain ⟨x80, hx80, h⟩ := bnd h
 obtain ⟨x81, hx81, h⟩ := bnd h
 obtain ⟨x82, hx82, h⟩ := bnd h
 refine mv rfl <| mv rfl <| ya (remC rfl rfl hx80) <| mv rfl <| ya (addC rfl rfl hx81) <| mv rfl <| ya (remC rfl rfl hx82) <| ak rfl k79 <| sr fun _ k83 => bd h fun x85 hx85 h => WL.eff (by decide) (Eff.buildC 184 ([] : By) sty_22 rfl rfl rfl rfl rfl (by decide)) ?_
 rintro _ _ ⟨g84, rfl, rfl⟩
 refine mv rfl <| ap 184 (xs := ([] : By)) (ys := x61.1) sty_22 rfl rfl rfl (rO 165 rfl) hx85 fun A86 c87 => ak rfl k83 <| ct (σ := By) (fun x88 => [(13, .slice A66 n67 c68), (17, .slice A86 x85.length c87)]) (fun x88 => [(0, .mem M50), (165, .own 5 (Lay.sz (BitVec 8)) A66 n67 c68 (cel x61.1)), (184, .own 5 (Lay.sz (BitVec 8)) A86 x85.length c87 (cel x88))]) (fun x88 => m_law17_ShardsBursts_j1 x61 x88 = some res) (fun _ k89 => ?_) ?_
 ·refine sr fun _ k90 => ak rfl k90 <| bl <| lp (τ := By × Int) (fun ⟨x91, x92⟩ => [(2, U32 x02), (13, .slice A66 n67 c68), (15, I64 x78), (16, I64 x82), (17, .slice A86 x85.length c87), (18, I64 x92)]) (fun ⟨x91, x92⟩ => [(0, .mem M50), (165, .own 5 (Lay.sz (BitVec 8)) A66 n67 c68 (cel x61.1)), (184, .own 5 (Lay.sz (BitVec 8)) A86 x85.length c87 (cel x91))]) (fun q93 ⟨x91, x92⟩ => m_law17_ShardsBursts_l2 x02 x61 x78 x82 q93 x91 x92 = some res) ⟨x85, (0 : Int)⟩ ?_ (by simp [m_law17_ShardsBursts_l2]) ?_
  ·exact h
  rintro q93 ⟨x91, x92⟩ h _ k94
  unfold m_law17_ShardsBursts_l2 at h
  refine ct (σ := Unit) (fun _ => [(2, U32 x02), (13, .slice A66 n67 c68), (15, I64 x78), (16, I64 x82), (17, .slice A86 x85.length c87), (18, I64 x92)]) (fun _ => [(0, .mem M50), (165, .own 5 (Lay.sz (BitVec 8)) A66 n67 c68 (cel x61.1)), (184, .own 5 (Lay.sz (BitVec 8)) A86 x85.length c87 (cel x91))]) (fun _ => m_law17_ShardsBursts_j3 x02 x82 x91 x92 (m_law17_ShardsBursts_l2 x02 x61 x78 x82 q93) = some res) (fun _ k95 => ?_) ?_
  ·refine sr fun _ k96 => mv rfl <| ya (lss rfl rfl) <| mv rfl <| spl h decide_eq_true decide_eq_false (fun hc97 h => ?_) fun hc97 h => ?_
   ·obtain ⟨x98, hx98, h⟩ := bnd h
    refine mvg rfl <| mvg rfl <| yg (addC rfl rfl hx98) <| mvg rfl <| yg (lss rfl rfl) <| pt rfl rfl <| dz k96 <| cI h rfl (fun hc99 h => ?_) fun hc99 h => ?_
    ·exact WC.skip <| tn <| kw (k95 () h)
    exact xi <| te <| te <| bx <| tn <| kw (k89 x91 h)
   exact sk <| sk <| sk <| sk <| sk <| pf rfl rfl <| dz k96 <| cdF rfl <| xi <| te <| te <| bx <| tn <| kw (k89 x91 h)
  rintro _ h
  unfold m_law17_ShardsBursts_j3 at h
  refine sq fun _ k100 => bl <| rg fun _ k101 => ?_
  obtain ⟨x102, hx102, h⟩ := bnd h
  obtain ⟨x103, hx103, h⟩ := bnd h
  obtain ⟨x104, hx104, h⟩ := bnd h
  obtain ⟨x105, hx105, h⟩ := bnd h
  obtain ⟨x106, hx106, h⟩ := bnd h
  obtain ⟨x107, hx107, h⟩ := bnd h
  obtain ⟨x108, hx108, h⟩ := bnd h
  refine mv rfl <| mv rfl <| mv rfl <| ya (addC rfl rfl hx102) <| ya (quoC rfl rfl hx103) <| ya (idxC (xs := x91) sty_22 rfl rfl (rO 184 rfl) hx104) <| ya (loadC0 (xs := x91) scal_5 rfl (rO 184 rfl) hx104 rfl) <| mv rfl <| mv rfl <| ya (conv_i64_u64 some_3 und_47 rfl) <| ya (shrU_u32 (a := x02) (m := (BitVec.ofInt 64 x92).toNat) rfl rfl) <| ya (and_u32 (a := (x02 >>> (BitVec.ofInt 64 x92).toNat)) (b := 1#32) rfl rfl) <| mv rfl <| mv rfl <| ya (addC rfl rfl hx105) <| ya (remC rfl rfl hx106) <| ya (conv_i64_u64 some_3 und_47 rfl) <| ya (shlU_u32 (a := ((x02 >>> (BitVec.ofInt 64 x92).toNat) &&& 1#32)) (m := (BitVec.ofInt 64 x106).toNat) rfl rfl) <| ya (conv_u32_u8 (a := (((x02 >>> (BitVec.ofInt 64 x92).toNat) &&& 1#32) <<< (BitVec.ofInt 64 x106).toNat)) some_31 und_5 rfl) <| ya (xor_u8 (a := x104) (b := ((((x02 >>> (BitVec.ofInt 64 x92).toNat) &&& 1#32) <<< (BitVec.ofInt 64 x106).toNat).setWidth 8)) rfl rfl) <| ya (idxC (xs := x91) sty_22 rfl rfl (rO 184 rfl) hx107) <| WL.eff0 (Eff0.storeC1 184 (xs := x91) (a' := x104 ^^^ ((((x02 >>> (BitVec.ofInt 64 x92).toNat) &&& 1#32) <<< (BitVec.ofInt 64 x106).toNat).setWidth 8)) siz_5 rfl rfl rfl rfl rfl rfl hx108) <| dz k101 <| bn <| tn <| k100 _ _ <| rg fun _ k109 => bd h fun x110 hx110 h => mv rfl <| ya (addC rfl rfl hx110) <| ak rfl k109 <| tn <| kw (k94 ⟨x108, x110⟩ h)
 rintro x88 h
 unfold m_law17_ShardsBursts_j1 at h
 refine sq fun _ k111 => sd [(0, _), (165, _), (184, _)] mixed fun _ k112 => ?_
 by_cases hc113 : x88 = x61.1
 ·replace h := of_t hc113 h
  refine dm 0 rfl rfl <| du 1 rfl (b2sC (xs := x88) und_22 und_5 und_9 rfl (rO 184 rfl)) <| dm 2 rfl rfl <| du 3 rfl (b2sC (xs := x61.1) und_22 und_5 und_9 rfl (rO 165 rfl)) <| du 4 rfl (eqlStr (a := x88) (b := x61.1) rfl rfl) <| dm 5 rfl rfl <| WD.new (v' := .bool true) (congrArg Value.bool (beq_iff_eq.2 hc113)) <| dw 6 rfl <| dw 7 rfl <| dw 8 rfl <| dw 9 rfl <| dw 10 rfl <| dw 11 rfl <| dw 12 rfl <| du 13 rfl (pickT rfl rfl) <| dd <| k112 _ _ <| cdT rfl <| sr fun _ k114 => bd h fun x115 hx115 h => c0 Tryz.func9 rfl (fun w hb hh => w_law17_awake (Mem.snap w) hx115) <| ak rfl k114 <| re <| tr ?_
  obtain rfl := si h
  exact rt [] (ResIs.one rfl rfl) (Ext.trans (Ext.trans hm_M19 hm_M48) hm_M50) ⟨rfl, rfl⟩
 replace h := of_f hc113 h
 obtain ⟨x117, hx117, h⟩ := bnd h
 obtain ⟨x118, hx118, h⟩ := bnd h
 refine dm 0 rfl rfl <| du 1 rfl (b2sC (xs := x88) und_22 und_5 und_9 rfl (rO 184 rfl)) <| dm 2 rfl rfl <| du 3 rfl (b2sC (xs := x61.1) und_22 und_5 und_9 rfl (rO 165 rfl)) <| du 4 rfl (eqlStr (a := x88) (b := x61.1) rfl rfl) <| dm 5 rfl rfl <| WD.new (v' := .bool false) (congrArg Value.bool (beq_eq_false_iff_ne.2 hc113)) <| dv 6 rfl (Yld.move rfl) <| dv 7 rfl (sliceLHC (xs := x88) sty_22 rfl rfl rfl (rO 184 rfl) hx117) <| dv 8 rfl (b2sC (xs := x117) und_22 und_5 und_9 rfl (RdT.slc (rO 184 rfl) hx117)) <| dv 9 rfl (Yld.move rfl) <| dv 10 rfl (sliceLHC (xs := x61.1) sty_22 rfl rfl rfl (rO 165 rfl) hx118) <| dv 11 rfl (b2sC (xs := x118) und_22 und_5 und_9 rfl (RdT.slc (rO 165 rfl) hx118)) <| dv 12 rfl (neqStr (a := x117) (b := x118) rfl rfl) <| du 13 rfl (pickF rfl rfl) <| dd <| k112 _ _ <| cnn h rfl neq_of_eq neq_of_ne (fun hc119 h => ?_) fun hc119 h => ?_
 ·refine ss <| k111 _ _ <| sr fun _ k120 => bd h fun x121 hx121 h => mv rfl <| c1 225 Tryz.func27 rfl (fun w hb hh => w_shards_Decode (Mem.snap w) A86 x85.length c87 _ (RdH.sn (rO 184 rfl) w hb hh) hx121) fun A126 n127 c128 => mv rfl <| ya (extract rfl rfl) <| ya (extract rfl rfl) <| al 229 zr_34 fun g129 => sb 229 agg_34 rfl rfl rfl <| ak rfl k120 <| sr fun _ k130 => mv rfl <| ya (neqI rfl rfl) <| mv rfl <| spn h bne_eq_false_iff_eq.2 bne_iff_ne.2 (fun hc131 h => ?_) fun hc131 h => ?_
  ·refine sk <| pf rfl rfl <| ak rfl k130 <| re ?_
   obtain rfl := si h
   exact rt [] (ResIs.one rfl rfl) (Ext.trans (Ext.trans hm_M19 hm_M48) hm_M50) ⟨rfl, rfl⟩
  obtain ⟨x132, hx132, h⟩ := bnd h
  refine c0g Tryz.func9 rfl (fun w hb hh => w_law17_awake (Mem.snap w) hx132) <| pt rfl rfl <| ak rfl k130 <| re ?_
  obtain rfl := si h
  exact rt [] (ResIs.one rfl rfl) (Ext.trans (Ext.trans hm_M19 hm_M48) hm_M50) ⟨rfl, rfl⟩
 refine sr fun _ k134 => bd h fun x135 hx135 h => c0 Tryz.func9 rfl (fun w hb hh => w_law17_awake (Mem.snap w) hx135) <| ak rfl k134 <| re <| tr ?_
 obtain rfl := si h
 exact rt [] (ResIs.one rfl rfl) (Ext.trans (Ext.trans hm_M19 hm_M48) hm_M50) ⟨rfl, rfl⟩
end Go.Proofs.YthjnhlmfcejhkaaGreat
