/- A part of the proof. Conditions: as each theorem says. -/
import Derived.Test.YthjnhlmfcejhkaaWkr
import Derived.Test.YthjnhlmfcejhkaaMds6
namespace Go.Proofs.Ythjnhlmfcejhkaa
set_option maxRecDepth 10000
open Go Go.RowKit Yld
set_option linter.unusedVariables false
theorem w_law17_ShardsAnyFour (M0 : Mem) (A00 : Option Addr) (n00 c00 : Nat) (rs00 : List Rapi_Needle) (x00 : List Sapi_Needle) (hf00 : SlT M0 A00 n00 c00 rs00) (hq00 : Rels (rel_api_Needle M0) rs00 x00) (x01 x02 : Int) (x03 : Bool) (x04 : Int) (x05 : BitVec 32) {res : Bool} (h : m_law17_ShardsAnyFour x00 x01 x02 x03 x04 x05 = some res) :
  Fn Try.prog 3 #[.slice A00 n00 c00, I64 x01, I64 x02, .bool x03, I64 x04, U32 x05] M0 fun r M' es => r = .bool res /\ es = [] := by
 refine Fn.intro (N := 185) Try.func3 rfl rfl (nle rfl) fun w0 => ?_
 unfold m_law17_ShardsAnyFour at h
 refine sr fun _ k1 => ak rfl k1 <| sr fun _ k2 => bd h fun x3 hx3 h => mv rfl <| WL.eff (by decide) (Eff.callM 111 rfl Try.func4 nm_4 rfl rfl rfl (w_law17_file _ A00 n00 c00 rs00 _ hf00 hq00 hx3)) ?_
 rintro _ _ ⟨M19, _, ⟨A20, n21, c22, A24, n25, c26, rfl, rfl, hf23⟩, hm_M19, rfl⟩
 refine mv rfl <| ya (extract rfl rfl) <| ya (extract rfl rfl) <| ya (extract rfl rfl) <| al 127 zr_26 fun g27 => asn rfl <| sb 127 agg_26 rfl rfl rfl <| ak rfl k2 <| sr fun _ k28 => bd h fun x29 hx29 h => mv rfl <| ya (loadBM (k := 127) agg_26 rfl rfl rfl) <| mv rfl <| WL.freeze 111 rfl rfl rfl fun M48 hm_M48 hf49 => WL.eff (by decide) (Eff.callM 138 rfl Try.func5 nm_5 rfl rfl rfl (w_shards_Make _ A20 n21 c22 _ (SlRc.lift hf23 hm_M48) x3.2.1 x3.2.2.1 x3.2.2.2.1 A24 n25 c26 _ hf49 hx29)) ?_
 rintro _ _ ⟨M50, _, ⟨A51, n52, c53, rs54, A56, n57, c58, rfl, rfl, hq55⟩, hm_M50, rfl⟩
 refine mv rfl <| ya (extract rfl rfl) <| ya (extract rfl rfl) <| ya (extract rfl rfl) <| al 159 zr_33 fun g59 => asn rfl <| sb 159 agg_33 rfl rfl rfl <| ak rfl k28 <| ct (σ := Unit) (fun _ => [(1, I64 x01), (2, I64 x02), (3, .bool x03), (4, I64 x04), (5, U32 x05), (16, .slice A51 n52 c53), (17, pv g59)]) (fun _ => [(0, .mem M50), (138, .own 24 (Lay.sz Hdr) A51 n52 c53 (cel rs54)), (139, .own 56 (Lay.sz Sapi_Item) A56 n57 c58 (cel x29.2.2.2.2.2.2.2.2.2.2.2.1)), (159, .blk g59 33 [I64 x29.2.1, I64 x29.2.2.1, I64 x29.2.2.2.1, I64 x29.2.2.2.2.1, U32 x29.2.2.2.2.2.1, U32 x29.2.2.2.2.2.2.1, U32 x29.2.2.2.2.2.2.2.1, U32 x29.2.2.2.2.2.2.2.2.1, U32 x29.2.2.2.2.2.2.2.2.2.1, U32 x29.2.2.2.2.2.2.2.2.2.2.1, .slice A56 n57 c58])]) (fun _ => m_law17_ShardsAnyFour_j0 x01 x02 x03 x04 x05 x29 = some res) (fun _ k60 => ?_) ?_
 ·refine sr fun _ k61 => mv rfl <| ya (neqI rfl rfl) <| mv rfl <| spn h bne_eq_false_iff_eq.2 bne_iff_ne.2 (fun hc62 h => ?_) fun hc62 h => ?_
  ·refine mvg rfl <| yg (lenD (rs := rs54) (xs := x29.1) (Rels.len hq55) und_30 rfl (rO 138 rfl)) <| yg (neqI rfl rfl) <| pf rfl rfl <| dz k61 <| cnn h rfl bne_eq_false_iff_eq.2 bne_iff_ne.2 (fun hc63 h => ?_) fun hc63 h => ?_
   ·exact WC.skip <| tn <| kw (k60 () h)
   refine sr fun _ k64 => ak rfl k64 <| re <| tr ?_
   obtain rfl := si h
   exact rt [] (ResIs.one rfl rfl) (Ext.trans (Ext.trans hm_M19 hm_M48) hm_M50) ⟨rfl, rfl⟩
  refine sk <| sk <| sk <| pt rfl rfl <| dz k61 <| cdT rfl <| sr fun _ k65 => ak rfl k65 <| re <| tr ?_
  obtain rfl := si h
  exact rt [] (ResIs.one rfl rfl) (Ext.trans (Ext.trans hm_M19 hm_M48) hm_M50) ⟨rfl, rfl⟩
 rintro _ h
 unfold m_law17_ShardsAnyFour_j0 at h
 refine sr fun _ k66 => ?_
 obtain ⟨x67, hx67, h⟩ := bnd h
 obtain ⟨x68, hx68, h⟩ := bnd h
 obtain ⟨x69, hx69, h⟩ := bnd h
 refine mv rfl <| ya (remC rfl rfl hx67) <| ya (addC rfl rfl hx68) <| ya (remC rfl rfl hx69) <| ak rfl k66 <| sr fun _ k70 => ?_
 obtain ⟨x71, hx71, h⟩ := bnd h
 obtain ⟨x72, hx72, h⟩ := bnd h
 obtain ⟨x73, hx73, h⟩ := bnd h
 refine mv rfl <| ya (remC rfl rfl hx71) <| ya (addC rfl rfl hx72) <| ya (remC rfl rfl hx73) <| ak rfl k70 <| sr fun _ k74 => ?_
 obtain ⟨x77, hx77, h⟩ := bnd h
 have hq76 : Rels ((RelB (α := BitVec 8)) M50) ([] : List Hdr) ([] : List By) := Rels.nil
 refine WL.eff (by decide) (Eff.buildC 175 ([] : List Hdr) sty_30 rfl rfl rfl rfl rfl (by decide)) ?_
 rintro _ _ ⟨g75, rfl, rfl⟩
 refine mv rfl ?_
 obtain ⟨hu80, hq81⟩ := Rels.apd hq76 hq55 hx77
 refine ap 175 (xs := ([] : List Hdr)) (ys := rs54) sty_30 rfl rfl rfl (rO 138 rfl) hu80 fun A78 c79 => ak rfl k74 <| sr fun _ k82 => ?_
 obtain ⟨x83, hx83, h⟩ := bnd h
 obtain ⟨x87, hx87, h⟩ := bnd h
 refine mv rfl <| mv rfl ?_
 obtain ⟨r_84, hr85, hq86⟩ := Rels.idx hq81 hx83
 refine ya (idxC (xs := (([] : List Hdr) ++ rs54)) sty_30 rfl rfl (rO 175 rfl) hr85) ?_
 obtain ⟨hu88, hq89⟩ := Rels.upd (r := (⟨none, 0, 0⟩ : Hdr)) hq81 hx87 SlT.nil
 refine WL.eff0 (Eff0.storeC1 175 (xs := (([] : List Hdr) ++ rs54)) (a' := (⟨none, 0, 0⟩ : Hdr)) siz_24 rfl rfl rfl rfl rfl rfl hu88) <| dz k82 <| ct (σ := Mem × (List By) × (List Hdr)) (fun ⟨M90, x91, rs92⟩ => [(16, .slice A51 n52 c53), (17, pv g59), (19, I64 x69), (20, I64 x73), (21, .slice A78 ((([] : List Hdr) ++ rs54).length) c79)]) (fun ⟨M90, x91, rs92⟩ => [(0, .mem M90), (138, .own 24 (Lay.sz Hdr) A51 n52 c53 (cel rs54)), (139, .own 56 (Lay.sz Sapi_Item) A56 n57 c58 (cel x29.2.2.2.2.2.2.2.2.2.2.2.1)), (159, .blk g59 33 [I64 x29.2.1, I64 x29.2.2.1, I64 x29.2.2.2.1, I64 x29.2.2.2.2.1, U32 x29.2.2.2.2.2.1, U32 x29.2.2.2.2.2.2.1, U32 x29.2.2.2.2.2.2.2.1, U32 x29.2.2.2.2.2.2.2.2.1, U32 x29.2.2.2.2.2.2.2.2.2.1, U32 x29.2.2.2.2.2.2.2.2.2.2.1, .slice A56 n57 c58]), (175, .own 24 (Lay.sz Hdr) A78 ((([] : List Hdr) ++ rs54).length) c79 (cel rs92))]) (fun ⟨M90, x91, rs92⟩ => m_law17_ShardsAnyFour_j1 x29 x69 x73 x91 = some res /\ Ext w0.heap.size M50 M90 /\ Rels ((RelB (α := BitVec 8)) M90) rs92 x91) (fun _ k94 => ?_) ?_
 ·refine sr fun _ k95 => mv rfl <| ya (notB rfl) <| dz k95 <| cnn h rfl not_f (fun q => not_t (Bool.eq_false_iff.2 q)) (fun hc96 h => ?_) fun hc96 h => ?_
  ·refine rg fun _ k97 => ?_
   obtain ⟨x98, hx98, h⟩ := bnd h
   obtain ⟨x102, hx102, h⟩ := bnd h
   refine mv rfl <| mv rfl ?_
   obtain ⟨r_99, hr100, hq101⟩ := Rels.idx hq89 hx98
   refine ya (idxC (xs := ((([] : List Hdr) ++ rs54).set (x69).toNat (⟨none, 0, 0⟩ : Hdr))) sty_30 rfl rfl (rO 175 rfl) hr100) ?_
   obtain ⟨hu103, hq104⟩ := Rels.upd (r := (⟨none, 0, 0⟩ : Hdr)) hq89 hx102 SlT.nil
   exact WL.eff0 (Eff0.storeC1 175 (xs := ((([] : List Hdr) ++ rs54).set (x69).toNat (⟨none, 0, 0⟩ : Hdr))) (a' := (⟨none, 0, 0⟩ : Hdr)) siz_24 rfl rfl rfl rfl rfl rfl hu103) <| dz k97 <| tn <| kw (k94 ⟨M50, x102, (((([] : List Hdr) ++ rs54).set (x69).toNat (⟨none, 0, 0⟩ : Hdr)).set (x73).toNat (⟨none, 0, 0⟩ : Hdr))⟩ ⟨h, (Ext.refl _ _), hq104⟩)
  refine sr fun _ k105 => ?_
  obtain ⟨x107, hx107, h⟩ := bnd h
  obtain ⟨x111, hx111, h⟩ := bnd h
  refine WL.eff (by decide) (Eff.buildC 206 ([] : By) sty_24 rfl rfl rfl rfl rfl (by decide)) ?_
  rintro _ _ ⟨g106, rfl, rfl⟩
  refine mv rfl <| mv rfl ?_
  obtain ⟨r_108, hr109, hq110⟩ := Rels.idx hq55 hx107
  refine ya (idxC (xs := rs54) sty_30 rfl rfl (rO 138 rfl) hr109) <| ya (loadC0 (xs := rs54) scal_24 rfl (rO 138 rfl) hr109 rfl) <| ap 206 (xs := ([] : By)) (ys := x107) sty_24 rfl rfl rfl (mM rfl hq110) hx111 fun A112 c113 => ak rfl k105 <| sr fun _ k114 => bd h fun x115 hx115 h => mv rfl <| ya (lenC (xs := x111) und_24 rfl (rO 206 rfl)) <| ya (mulC rfl rfl hx115) <| ak rfl k114 <| sq fun _ k116 => sr fun _ k117 => mv rfl <| ya (eqlI rfl rfl) <| dz k117 <| cnd h rfl beq_iff_eq.2 beq_eq_false_iff_ne.2 (fun hc118 h => ?_) fun hc118 h => ?_
  ·refine sr fun _ k119 => ak rfl k119 <| re <| tr <| tr ?_
   obtain rfl := si h
   exact rt [] (ResIs.one rfl rfl) (Ext.trans (Ext.trans hm_M19 hm_M48) hm_M50) ⟨rfl, rfl⟩
  refine ss <| k116 _ _ <| sr fun _ k120 => ?_
  obtain ⟨x121, hx121, h⟩ := bnd h
  obtain ⟨x122, hx122, h⟩ := bnd h
  obtain ⟨x123, hx123, h⟩ := bnd h
  refine mv rfl <| mv rfl <| ya (remC rfl rfl hx121) <| mv rfl <| ya (addC rfl rfl hx122) <| mv rfl <| ya (remC rfl rfl hx123) <| ak rfl k120 <| ct (σ := By) (fun x124 => [(16, .slice A51 n52 c53), (17, pv g59), (19, I64 x69), (20, I64 x73), (21, .slice A78 ((([] : List Hdr) ++ rs54).length) c79), (22, .slice A112 x111.length c113)]) (fun x124 => [(0, .mem M50), (138, .own 24 (Lay.sz Hdr) A51 n52 c53 (cel rs54)), (139, .own 56 (Lay.sz Sapi_Item) A56 n57 c58 (cel x29.2.2.2.2.2.2.2.2.2.2.2.1)), (159, .blk g59 33 [I64 x29.2.1, I64 x29.2.2.1, I64 x29.2.2.2.1, I64 x29.2.2.2.2.1, U32 x29.2.2.2.2.2.1, U32 x29.2.2.2.2.2.2.1, U32 x29.2.2.2.2.2.2.2.1, U32 x29.2.2.2.2.2.2.2.2.1, U32 x29.2.2.2.2.2.2.2.2.2.1, U32 x29.2.2.2.2.2.2.2.2.2.2.1, .slice A56 n57 c58]), (175, .own 24 (Lay.sz Hdr) A78 ((([] : List Hdr) ++ rs54).length) c79 (cel ((([] : List Hdr) ++ rs54).set (x69).toNat (⟨none, 0, 0⟩ : Hdr)))), (206, .own 5 (Lay.sz (BitVec 8)) A112 x111.length c113 (cel x124))]) (fun x124 => m_law17_ShardsAnyFour_j2 x29 x69 x73 x87 x124 = some res) (fun _ k125 => ?_) ?_
  ·refine sr fun _ k126 => ak rfl k126 <| bl <| lp (τ := By × Int) (fun ⟨x127, x128⟩ => [(5, U32 x05), (16, .slice A51 n52 c53), (17, pv g59), (19, I64 x69), (20, I64 x73), (21, .slice A78 ((([] : List Hdr) ++ rs54).length) c79), (22, .slice A112 x111.length c113), (23, I64 x115), (24, I64 x123), (25, I64 x128)]) (fun ⟨x127, x128⟩ => [(0, .mem M50), (138, .own 24 (Lay.sz Hdr) A51 n52 c53 (cel rs54)), (139, .own 56 (Lay.sz Sapi_Item) A56 n57 c58 (cel x29.2.2.2.2.2.2.2.2.2.2.2.1)), (159, .blk g59 33 [I64 x29.2.1, I64 x29.2.2.1, I64 x29.2.2.2.1, I64 x29.2.2.2.2.1, U32 x29.2.2.2.2.2.1, U32 x29.2.2.2.2.2.2.1, U32 x29.2.2.2.2.2.2.2.1, U32 x29.2.2.2.2.2.2.2.2.1, U32 x29.2.2.2.2.2.2.2.2.2.1, U32 x29.2.2.2.2.2.2.2.2.2.2.1, .slice A56 n57 c58]), (175, .own 24 (Lay.sz Hdr) A78 ((([] : List Hdr) ++ rs54).length) c79 (cel ((([] : List Hdr) ++ rs54).set (x69).toNat (⟨none, 0, 0⟩ : Hdr)))), (206, .own 5 (Lay.sz (BitVec 8)) A112 x111.length c113 (cel x127))]) (fun q129 ⟨x127, x128⟩ => m_law17_ShardsAnyFour_l3 x05 x29 x69 x73 x87 x115 x123 q129 x127 x128 = some res) ⟨x111, (0 : Int)⟩ ?_ (by simp [m_law17_ShardsAnyFour_l3]) ?_
   ·exact h
   rintro q129 ⟨x127, x128⟩ h _ k130
   unfold m_law17_ShardsAnyFour_l3 at h
   refine ct (σ := Unit) (fun _ => [(5, U32 x05), (16, .slice A51 n52 c53), (17, pv g59), (19, I64 x69), (20, I64 x73), (21, .slice A78 ((([] : List Hdr) ++ rs54).length) c79), (22, .slice A112 x111.length c113), (23, I64 x115), (24, I64 x123), (25, I64 x128)]) (fun _ => [(0, .mem M50), (138, .own 24 (Lay.sz Hdr) A51 n52 c53 (cel rs54)), (139, .own 56 (Lay.sz Sapi_Item) A56 n57 c58 (cel x29.2.2.2.2.2.2.2.2.2.2.2.1)), (159, .blk g59 33 [I64 x29.2.1, I64 x29.2.2.1, I64 x29.2.2.2.1, I64 x29.2.2.2.2.1, U32 x29.2.2.2.2.2.1, U32 x29.2.2.2.2.2.2.1, U32 x29.2.2.2.2.2.2.2.1, U32 x29.2.2.2.2.2.2.2.2.1, U32 x29.2.2.2.2.2.2.2.2.2.1, U32 x29.2.2.2.2.2.2.2.2.2.2.1, .slice A56 n57 c58]), (175, .own 24 (Lay.sz Hdr) A78 ((([] : List Hdr) ++ rs54).length) c79 (cel ((([] : List Hdr) ++ rs54).set (x69).toNat (⟨none, 0, 0⟩ : Hdr)))), (206, .own 5 (Lay.sz (BitVec 8)) A112 x111.length c113 (cel x127))]) (fun _ => m_law17_ShardsAnyFour_j4 x05 x123 x127 x128 (m_law17_ShardsAnyFour_l3 x05 x29 x69 x73 x87 x115 x123 q129) = some res) (fun _ k131 => ?_) ?_
   ·refine sr fun _ k132 => mv rfl <| ya (lss rfl rfl) <| mv rfl <| spl h decide_eq_true decide_eq_false (fun hc133 h => ?_) fun hc133 h => ?_
    ·obtain ⟨x134, hx134, h⟩ := bnd h
     refine mvg rfl <| mvg rfl <| yg (addC rfl rfl hx134) <| mvg rfl <| yg (lss rfl rfl) <| pt rfl rfl <| dz k132 <| cI h rfl (fun hc135 h => ?_) fun hc135 h => ?_
     ·exact WC.skip <| tn <| kw (k131 () h)
     exact xi <| te <| te <| bx <| tn <| kw (k125 x127 h)
    exact sk <| sk <| sk <| sk <| sk <| pf rfl rfl <| dz k132 <| cdF rfl <| xi <| te <| te <| bx <| tn <| kw (k125 x127 h)
   rintro _ h
   unfold m_law17_ShardsAnyFour_j4 at h
   refine sq fun _ k136 => bl <| rg fun _ k137 => ?_
   obtain ⟨x138, hx138, h⟩ := bnd h
   obtain ⟨x139, hx139, h⟩ := bnd h
   obtain ⟨x140, hx140, h⟩ := bnd h
   obtain ⟨x141, hx141, h⟩ := bnd h
   obtain ⟨x142, hx142, h⟩ := bnd h
   obtain ⟨x143, hx143, h⟩ := bnd h
   obtain ⟨x144, hx144, h⟩ := bnd h
   refine mv rfl <| mv rfl <| mv rfl <| ya (addC rfl rfl hx138) <| ya (quoC rfl rfl hx139) <| ya (idxC (xs := x127) sty_24 rfl rfl (rO 206 rfl) hx140) <| ya (loadC0 (xs := x127) scal_5 rfl (rO 206 rfl) hx140 rfl) <| mv rfl <| ya (or_u32 (a := x05) (b := 1#32) rfl rfl) <| mv rfl <| ya (conv_i64_u64 some_3 und_37 rfl) <| ya (shrU_u32 (a := (x05 ||| 1#32)) (m := (BitVec.ofInt 64 x128).toNat) rfl rfl) <| ya (and_u32 (a := ((x05 ||| 1#32) >>> (BitVec.ofInt 64 x128).toNat)) (b := 1#32) rfl rfl) <| mv rfl <| mv rfl <| ya (addC rfl rfl hx141) <| ya (remC rfl rfl hx142) <| ya (conv_i64_u64 some_3 und_37 rfl) <| ya (shlU_u32 (a := (((x05 ||| 1#32) >>> (BitVec.ofInt 64 x128).toNat) &&& 1#32)) (m := (BitVec.ofInt 64 x142).toNat) rfl rfl) <| ya (conv_u32_u8 (a := ((((x05 ||| 1#32) >>> (BitVec.ofInt 64 x128).toNat) &&& 1#32) <<< (BitVec.ofInt 64 x142).toNat)) some_23 und_5 rfl) <| ya (xor_u8 (a := x140) (b := (((((x05 ||| 1#32) >>> (BitVec.ofInt 64 x128).toNat) &&& 1#32) <<< (BitVec.ofInt 64 x142).toNat).setWidth 8)) rfl rfl) <| ya (idxC (xs := x127) sty_24 rfl rfl (rO 206 rfl) hx143) <| WL.eff0 (Eff0.storeC1 206 (xs := x127) (a' := x140 ^^^ (((((x05 ||| 1#32) >>> (BitVec.ofInt 64 x128).toNat) &&& 1#32) <<< (BitVec.ofInt 64 x142).toNat).setWidth 8)) siz_5 rfl rfl rfl rfl rfl rfl hx144) <| dz k137 <| bn <| tn <| k136 _ _ <| rg fun _ k145 => bd h fun x146 hx146 h => mv rfl <| ya (addC rfl rfl hx146) <| ak rfl k145 <| tn <| kw (k130 ⟨x144, x146⟩ h)
  rintro x124 h
  unfold m_law17_ShardsAnyFour_j2 at h
  refine sr fun _ k147 => mv rfl <| mv rfl <| ya (neqI rfl rfl) <| dz k147 <| cnn h rfl bne_eq_false_iff_eq.2 bne_iff_ne.2 (fun hc148 h => ?_) fun hc148 h => ?_
  ·exact WC.skip <| tn <| kw (k94 ⟨M50, x87, ((([] : List Hdr) ++ rs54).set (x69).toNat (⟨none, 0, 0⟩ : Hdr))⟩ ⟨h, (Ext.refl _ _), hq89⟩)
  refine rg fun _ k149 => ?_
  obtain ⟨x150, hx150, h⟩ := bnd h
  obtain ⟨x156, hx156, h⟩ := bnd h
  refine mv rfl <| mv rfl <| mv rfl ?_
  obtain ⟨r_151, hr152, hq153⟩ := Rels.idx hq89 hx150
  refine ya (idxC (xs := ((([] : List Hdr) ++ rs54).set (x69).toNat (⟨none, 0, 0⟩ : Hdr))) sty_30 rfl rfl (rO 175 rfl) hr152) <| WL.freeze 206 rfl rfl rfl fun M154 hm_M154 hf155 => ?_
  obtain ⟨hu157, hq158⟩ := Rels.upd (r := (⟨A112, x111.length, c113⟩ : Hdr)) (Rels.lift hq89 hm_M154) hx156 hf155
  exact WL.eff0 (Eff0.storeC1 175 (xs := ((([] : List Hdr) ++ rs54).set (x69).toNat (⟨none, 0, 0⟩ : Hdr))) (a' := (⟨A112, x111.length, c113⟩ : Hdr)) siz_24 rfl rfl rfl rfl rfl rfl hu157) <| dz k149 <| tn <| kw (k94 ⟨M154, x156, (((([] : List Hdr) ++ rs54).set (x69).toNat (⟨none, 0, 0⟩ : Hdr)).set (x73).toNat (⟨A112, x111.length, c113⟩ : Hdr))⟩ ⟨h, hm_M154, hq158⟩)
 rintro ⟨M90, x91, rs92⟩ ⟨h, hm_M90, hq93⟩
 unfold m_law17_ShardsAnyFour_j1 at h
 refine sr fun _ k159 => bd h fun x160 hx160 h => ya (loadBM (k := 159) agg_33 rfl rfl rfl) <| mv rfl <| WL.freeze 139 rfl rfl rfl fun M179 hm_M179 hf180 => WL.freeze 175 rfl rfl rfl fun M181 hm_M181 hf182 => WL.eff (by decide) (Eff.callM 269 rfl Try.func6 nm_6 rfl rfl rfl (w_shards_Rebuild _ x29.2.1 x29.2.2.1 x29.2.2.2.1 x29.2.2.2.2.1 x29.2.2.2.2.2.1 x29.2.2.2.2.2.2.1 x29.2.2.2.2.2.2.2.1 x29.2.2.2.2.2.2.2.2.1 x29.2.2.2.2.2.2.2.2.2.1 x29.2.2.2.2.2.2.2.2.2.2.1 A56 n57 c58 _ (SlRc.lift hf180 hm_M181) A78 ((([] : List Hdr) ++ rs54).length) c79 rs92 _ hf182 (Rels.lift (Rels.lift hq93 hm_M179) hm_M181) hx160)) ?_
 rintro _ _ ⟨M183, _, ⟨A184, n185, c186, rs187, A189, n190, c191, rfl, rfl, hq188⟩, hm_M183, rfl⟩
 refine mv rfl <| ya (extract rfl rfl) <| ya (extract rfl rfl) <| ya (extract rfl rfl) <| asn rfl <| asn rfl <| ak rfl k159 <| sr fun _ k192 => ak rfl k192 <| ct (σ := Int) (fun x193 => [(16, .slice A51 n52 c53), (19, I64 x69), (20, I64 x73), (26, .slice A184 n185 c186), (27, .slice A189 n190 c191), (28, I64 x160.2.2), (29, I64 x193)]) (fun x193 => [(0, .mem M183), (138, .own 24 (Lay.sz Hdr) A51 n52 c53 (cel rs54)), (269, .own 24 (Lay.sz Hdr) A184 n185 c186 (cel rs187)), (270, .own 3 (Lay.sz Int) A189 n190 c191 (cel x160.2.1))]) (fun x193 => m_law17_ShardsAnyFour_j5 x29 x69 x73 x160 x193 = some res) (fun _ k194 => ?_) ?_
 ·refine sr fun _ k195 => mv rfl <| mv rfl <| ya (eqlI rfl rfl) <| dz k195 <| cnd h rfl beq_iff_eq.2 beq_eq_false_iff_ne.2 (fun hc196 h => ?_) fun hc196 h => ?_
  ·exact rg fun _ k197 => ak rfl k197 <| tn <| kw (k194 (1 : Int) h)
  exact WC.skip <| tn <| kw (k194 (2 : Int) h)
 rintro x193 h
 unfold m_law17_ShardsAnyFour_j5 at h
 refine ct (σ := Unit) (fun _ => [(19, I64 x69), (20, I64 x73), (27, .slice A189 n190 c191), (29, I64 x193)]) (fun _ => [(0, .mem M183), (270, .own 3 (Lay.sz Int) A189 n190 c191 (cel x160.2.1))]) (fun _ => m_law17_ShardsAnyFour_j6 x69 x73 x160 x193 = some res) (fun _ k198 => ?_) ?_
 ·refine sr fun _ k199 => mv rfl <| ya (neqI rfl rfl) <| mv rfl <| spn h bne_eq_false_iff_eq.2 bne_iff_ne.2 (fun hc200 h => ?_) fun hc200 h => ?_
  ·obtain ⟨x201, hx201, h⟩ := bnd h
   refine mvg rfl <| mvg rfl <| c0g Try.func7 rfl (fun w hb hh => w_r03_SameRows (Mem.snap w) A184 n185 c186 rs187 _ (RdH.sn (rO 269 rfl) w hb hh) (Rels.sn hq188 (hh.sat 0 _ rfl)) A51 n52 c53 rs54 _ (RdH.sn (rO 138 rfl) w hb hh) (Rels.sn (Rels.lift (Rels.lift (Rels.lift (Rels.lift hq55 hm_M90) hm_M179) hm_M181) hm_M183) (hh.sat 0 _ rfl)) hx201) <| yg (notB rfl) <| pf rfl rfl <| mv rfl <| spn h not_f (fun q => not_t (Bool.eq_false_iff.2 q)) (fun hc203 h => ?_) fun hc203 h => ?_
   ·refine mvg rfl <| yg (lenC (xs := x160.2.1) und_38 rfl (rO 270 rfl)) <| mvg rfl <| yg (neqI rfl rfl) <| pf rfl rfl <| dz k199 <| cnn h rfl bne_eq_false_iff_eq.2 bne_iff_ne.2 (fun hc204 h => ?_) fun hc204 h => ?_
    ·exact WC.skip <| tn <| kw (k198 () h)
    refine sr fun _ k205 => ak rfl k205 <| re <| tr ?_
    obtain rfl := si h
    exact rt [] (ResIs.one rfl rfl) (Ext.trans (Ext.trans (Ext.trans (Ext.trans (Ext.trans (Ext.trans hm_M19 hm_M48) hm_M50) hm_M90) hm_M179) hm_M181) hm_M183) ⟨rfl, rfl⟩
   refine sk <| sk <| sk <| sk <| pt rfl rfl <| dz k199 <| cdT rfl <| sr fun _ k206 => ak rfl k206 <| re <| tr ?_
   obtain rfl := si h
   exact rt [] (ResIs.one rfl rfl) (Ext.trans (Ext.trans (Ext.trans (Ext.trans (Ext.trans (Ext.trans hm_M19 hm_M48) hm_M50) hm_M90) hm_M179) hm_M181) hm_M183) ⟨rfl, rfl⟩
  refine sk <| sk <| sk <| sk <| pt rfl rfl <| mv rfl <| sk <| sk <| sk <| sk <| pt rfl rfl <| dz k199 <| cdT rfl <| sr fun _ k207 => ak rfl k207 <| re <| tr ?_
  obtain rfl := si h
  exact rt [] (ResIs.one rfl rfl) (Ext.trans (Ext.trans (Ext.trans (Ext.trans (Ext.trans (Ext.trans hm_M19 hm_M48) hm_M50) hm_M90) hm_M179) hm_M181) hm_M183) ⟨rfl, rfl⟩
 rintro _ h
 unfold m_law17_ShardsAnyFour_j6 at h
 refine sr fun _ k208 => bd h fun x209 hx209 h => mv rfl <| ya (idxC (xs := x160.2.1) sty_38 rfl rfl (rO 270 rfl) hx209) <| ya (loadC0 (xs := x160.2.1) scal_3 rfl (rO 270 rfl) hx209 rfl) <| mv rfl <| ya (eqlI rfl rfl) <| mv rfl <| spl h beq_iff_eq.2 beq_eq_false_iff_ne.2 (fun hc210 h => ?_) fun hc210 h => ?_
 ·obtain ⟨x211, hx211, h⟩ := bnd h
  obtain ⟨x212, hx212, h⟩ := bnd h
  refine sk <| sk <| sk <| sk <| sk <| pt rfl rfl <| mv rfl <| mvg rfl <| mvg rfl <| yg (subC rfl rfl hx211) <| yg (idxC (xs := x160.2.1) sty_38 rfl rfl (rO 270 rfl) hx212) <| yg (loadC0 (xs := x160.2.1) scal_3 rfl (rO 270 rfl) hx212 rfl) <| mvg rfl <| yg (eqlI rfl rfl) <| mvg rfl <| spl h beq_iff_eq.2 beq_eq_false_iff_ne.2 (fun hc213 h => ?_) fun hc213 h => ?_
  ·obtain ⟨x214, hx214, h⟩ := bnd h
   refine sk <| sk <| sk <| sk <| sk <| sk <| sk <| yg (pickT rfl rfl) <| pt rfl rfl <| mv rfl <| c0g Try.func8 rfl (fun w hb hh => w_law17_awake (Mem.snap w) hx214) <| pt rfl rfl <| ak rfl k208 <| re ?_
   obtain rfl := si h
   exact rt [] (ResIs.one rfl rfl) (Ext.trans (Ext.trans (Ext.trans (Ext.trans (Ext.trans (Ext.trans hm_M19 hm_M48) hm_M50) hm_M90) hm_M179) hm_M181) hm_M183) ⟨rfl, rfl⟩
  obtain ⟨x216, hx216, h⟩ := bnd h
  obtain ⟨x217, hx217, h⟩ := bnd h
  refine mvg rfl <| mvg rfl <| yg (subC rfl rfl hx216) <| yg (idxC (xs := x160.2.1) sty_38 rfl rfl (rO 270 rfl) hx217) <| yg (loadC0 (xs := x160.2.1) scal_3 rfl (rO 270 rfl) hx217 rfl) <| mvg rfl <| yg (eqlI rfl rfl) <| yg (pickF rfl rfl) <| pt rfl rfl <| mv rfl <| spl h beq_iff_eq.2 beq_eq_false_iff_ne.2 (fun hc218 h => ?_) fun hc218 h => ?_
  ·obtain ⟨x219, hx219, h⟩ := bnd h
   refine c0g Try.func8 rfl (fun w hb hh => w_law17_awake (Mem.snap w) hx219) <| pt rfl rfl <| ak rfl k208 <| re ?_
   obtain rfl := si h
   exact rt [] (ResIs.one rfl rfl) (Ext.trans (Ext.trans (Ext.trans (Ext.trans (Ext.trans (Ext.trans hm_M19 hm_M48) hm_M50) hm_M90) hm_M179) hm_M181) hm_M183) ⟨rfl, rfl⟩
  refine sk <| pf rfl rfl <| ak rfl k208 <| re ?_
  obtain rfl := si h
  exact rt [] (ResIs.one rfl rfl) (Ext.trans (Ext.trans (Ext.trans (Ext.trans (Ext.trans (Ext.trans hm_M19 hm_M48) hm_M50) hm_M90) hm_M179) hm_M181) hm_M183) ⟨rfl, rfl⟩
 obtain ⟨x221, hx221, h⟩ := bnd h
 refine mvg rfl <| yg (idxC (xs := x160.2.1) sty_38 rfl rfl (rO 270 rfl) hx221) <| yg (loadC0 (xs := x160.2.1) scal_3 rfl (rO 270 rfl) hx221 rfl) <| mvg rfl <| yg (eqlI rfl rfl) <| pf rfl rfl <| mv rfl <| spl h beq_iff_eq.2 beq_eq_false_iff_ne.2 (fun hc222 h => ?_) fun hc222 h => ?_
 ·obtain ⟨x223, hx223, h⟩ := bnd h
  obtain ⟨x224, hx224, h⟩ := bnd h
  refine mvg rfl <| mvg rfl <| yg (subC rfl rfl hx223) <| yg (idxC (xs := x160.2.1) sty_38 rfl rfl (rO 270 rfl) hx224) <| yg (loadC0 (xs := x160.2.1) scal_3 rfl (rO 270 rfl) hx224 rfl) <| mvg rfl <| yg (eqlI rfl rfl) <| mvg rfl <| spl h beq_iff_eq.2 beq_eq_false_iff_ne.2 (fun hc225 h => ?_) fun hc225 h => ?_
  ·obtain ⟨x226, hx226, h⟩ := bnd h
   refine sk <| sk <| sk <| sk <| sk <| sk <| sk <| yg (pickT rfl rfl) <| pt rfl rfl <| mv rfl <| c0g Try.func8 rfl (fun w hb hh => w_law17_awake (Mem.snap w) hx226) <| pt rfl rfl <| ak rfl k208 <| re ?_
   obtain rfl := si h
   exact rt [] (ResIs.one rfl rfl) (Ext.trans (Ext.trans (Ext.trans (Ext.trans (Ext.trans (Ext.trans hm_M19 hm_M48) hm_M50) hm_M90) hm_M179) hm_M181) hm_M183) ⟨rfl, rfl⟩
  obtain ⟨x228, hx228, h⟩ := bnd h
  obtain ⟨x229, hx229, h⟩ := bnd h
  refine mvg rfl <| mvg rfl <| yg (subC rfl rfl hx228) <| yg (idxC (xs := x160.2.1) sty_38 rfl rfl (rO 270 rfl) hx229) <| yg (loadC0 (xs := x160.2.1) scal_3 rfl (rO 270 rfl) hx229 rfl) <| mvg rfl <| yg (eqlI rfl rfl) <| yg (pickF rfl rfl) <| pt rfl rfl <| mv rfl <| spl h beq_iff_eq.2 beq_eq_false_iff_ne.2 (fun hc230 h => ?_) fun hc230 h => ?_
  ·obtain ⟨x231, hx231, h⟩ := bnd h
   refine c0g Try.func8 rfl (fun w hb hh => w_law17_awake (Mem.snap w) hx231) <| pt rfl rfl <| ak rfl k208 <| re ?_
   obtain rfl := si h
   exact rt [] (ResIs.one rfl rfl) (Ext.trans (Ext.trans (Ext.trans (Ext.trans (Ext.trans (Ext.trans hm_M19 hm_M48) hm_M50) hm_M90) hm_M179) hm_M181) hm_M183) ⟨rfl, rfl⟩
  refine sk <| pf rfl rfl <| ak rfl k208 <| re ?_
  obtain rfl := si h
  exact rt [] (ResIs.one rfl rfl) (Ext.trans (Ext.trans (Ext.trans (Ext.trans (Ext.trans (Ext.trans hm_M19 hm_M48) hm_M50) hm_M90) hm_M179) hm_M181) hm_M183) ⟨rfl, rfl⟩
 refine sk <| sk <| sk <| sk <| sk <| sk <| sk <| sk <| WL.skipU (by decide) rfl <| WL.skipU (by decide) rfl <| WL.skipU (by decide) rfl <| WL.skipU (by decide) rfl <| WL.skipU (by decide) rfl <| WL.skipU (by decide) rfl <| WL.skipU (by decide) rfl <| sk <| pf rfl rfl <| mv rfl <| sk <| pf rfl rfl <| ak rfl k208 <| re ?_
 obtain rfl := si h
 exact rt [] (ResIs.one rfl rfl) (Ext.trans (Ext.trans (Ext.trans (Ext.trans (Ext.trans (Ext.trans hm_M19 hm_M48) hm_M50) hm_M90) hm_M179) hm_M181) hm_M183) ⟨rfl, rfl⟩
end Go.Proofs.Ythjnhlmfcejhkaa
