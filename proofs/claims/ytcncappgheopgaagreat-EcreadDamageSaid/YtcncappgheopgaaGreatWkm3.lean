/- A part of the proof. Conditions: as each theorem says. -/
import Derived.Test.YtcncappgheopgaaGreatWkl
import Derived.Test.YtcncappgheopgaaGreatMdm3
namespace Go.Proofs.YtcncappgheopgaaGreat
set_option maxRecDepth 10000
open Go Go.RowKit Yld
set_option linter.unusedVariables false
theorem agg_57 : Agg Tryz.prog 57 5 := ⟨⟨_, Tryz.underlying57, rfl⟩, by kernel_rfl⟩
theorem nm_10 : (Tryz.f10.name == "runtime.NumGoroutine") = false := by kernel_rfl
theorem nm_13 : (Tryz.f13.name == "runtime.NumGoroutine") = false := by kernel_rfl
theorem nz_29 : (Tryz.prog.info? 29).map (fun i => decide (i.size = 0)) = some false := by kernel_rfl
theorem nz_36 : (Tryz.prog.info? 36).map (fun i => decide (i.size = 0)) = some false := by kernel_rfl
theorem scal_36 : scal Tryz.prog 36 = true := by kernel_rfl
theorem zr_57 : (Tryz.prog.info? 57).map (fun i => i.zero.map (·.cells)) = some (some ([I64 (0 : Int), U64 0#64, U32 0#32, .bool false, .slice none 0 0] : List Value).toArray) := by kernel_rfl
theorem w_law18_EcreadDamage (M0 : Mem) (A00 : Option Addr) (n00 c00 : Nat) (rs00 : List Rapi_Needle) (x00 : List Sapi_Needle) (hf00 : SlT M0 A00 n00 c00 rs00) (hq00 : Rels (rel_api_Needle M0) rs00 x00) (x01 x02 : Int) (x03 : Bool) (A04 : Option Addr) (n04 c04 : Nat) (x04 : By) (hf04 : SlT M0 A04 n04 c04 x04) {res : Bool} (h : m_law18_EcreadDamage x00 x01 x02 x03 x04 = some res) :
  Fn Tryz.prog 5 #[.slice A00 n00 c00, I64 x01, I64 x02, .bool x03, .slice A04 n04 c04] M0 fun r M' es => r = .bool res /\ es = [] := by
 refine Fn.intro (N := 155) Tryz.func5 rfl rfl (nle rfl) fun w0 => ?_
 unfold m_law18_EcreadDamage at h
 refine sr fun _ k1 => ak rfl k1 <| sr fun _ k2 => bd h fun x3 hx3 h => mv rfl <| WL.eff (by decide) (Eff.callM 121 rfl Tryz.func10 nm_10 rfl rfl rfl (w_law18_made _ A00 n00 c00 rs00 _ hf00 hq00 hx3)) ?_
 rintro _ _ ⟨M41, _, ⟨A42, n43, c44, A46, n47, c48, rs49, A51, n52, c53, A54, n55, c56, rs57, rfl, rfl, hf45, hq50, hq58⟩, hm_M41, rfl⟩
 refine al 159 zr_38 fun g59 => sb 159 agg_38 rfl rfl rfl <| dz k2 <| sr fun _ k60 => ?_
 obtain ⟨x61, hx61, h⟩ := bnd h
 obtain ⟨x62, hx62, h⟩ := bnd h
 obtain ⟨x63, hx63, h⟩ := bnd h
 refine mv rfl <| ya (remC rfl rfl hx61) <| ya (addC rfl rfl hx62) <| ya (remC rfl rfl hx63) <| ak rfl k60 <| sr fun _ k64 => ?_
 obtain ⟨x65, hx65, h⟩ := bnd h
 obtain ⟨x66, hx66, h⟩ := bnd h
 obtain ⟨x67, hx67, h⟩ := bnd h
 refine mv rfl <| ya (remC rfl rfl hx65) <| ya (addC rfl rfl hx66) <| ya (remC rfl rfl hx67) <| ak rfl k64 <| sr fun _ k68 => ?_
 obtain ⟨x71, hx71, h⟩ := bnd h
 obtain ⟨x76, hx76, h⟩ := bnd h
 have hq70 : Rels ((RelB (α := BitVec 8)) M41) ([] : List Hdr) ([] : List By) := Rels.nil
 refine WL.eff (by decide) (Eff.buildC 169 ([] : List Hdr) sty_29 rfl rfl rfl rfl rfl (by decide)) ?_
 rintro _ _ ⟨g69, rfl, rfl⟩
 refine ya (fieldAddr Tryz.underlying38 rfl nz_29 rfl rfl) <| ya (loadB (k := 159) scal_29 rfl rfl rfl) ?_
 obtain ⟨hu74, hq75⟩ := Rels.apd hq70 hq58 hx71
 refine ap 169 (xs := ([] : List Hdr)) (ys := rs57) sty_29 rfl rfl rfl (rO 123 rfl) hu74 fun A72 c73 => c1 180 Tryz.func15 rfl (fun w hb hh => w_law18_all (Mem.snap w) hx76) fun A81 n82 c83 => asn rfl <| ak rfl k68 <| ct (σ := Mem × (List By) × (List Hdr)) (fun ⟨M84, x85, rs86⟩ => [(3, .bool x03), (11, pv g59), (13, I64 x67), (14, .slice A72 ((([] : List Hdr) ++ rs57).length) c73), (15, .slice A81 n82 c83)]) (fun ⟨M84, x85, rs86⟩ => [(0, .mem M84), (121, .own 57 (Lay.sz Rneedlestoreref09_Record) A46 n47 c48 (cel rs49)), (122, .own 59 (Lay.sz Sapi_Item) A51 n52 c53 (cel x3.2.2.2.2.2.2.2.2.2.2.2.2.1)), (123, .own 35 (Lay.sz Hdr) A54 n55 c56 (cel rs57)), (159, .blk g59 38 [.slice A42 n43 c44, .slice A46 n47 c48, I64 x3.2.2.1, I64 x3.2.2.2.1, I64 x3.2.2.2.2.1, I64 x3.2.2.2.2.2.1, U32 x3.2.2.2.2.2.2.1, U32 x3.2.2.2.2.2.2.2.1, U32 x3.2.2.2.2.2.2.2.2.1, U32 x3.2.2.2.2.2.2.2.2.2.1, U32 x3.2.2.2.2.2.2.2.2.2.2.1, U32 x3.2.2.2.2.2.2.2.2.2.2.2.1, .slice A51 n52 c53, .slice A54 n55 c56]), (169, .own 35 (Lay.sz Hdr) A72 ((([] : List Hdr) ++ rs57).length) c73 (cel rs86)), (180, .own 4 (Lay.sz Bool) A81 n82 c83 (cel x76))]) (fun ⟨M84, x85, rs86⟩ => m_law18_EcreadDamage_j0 x03 x3 x67 x76 x85 = some res /\ Ext w0.heap.size M41 M84 /\ Rels ((RelB (α := BitVec 8)) M84) rs86 x85) (fun _ k88 => ?_) ?_
 ·refine sr fun _ k89 => mv rfl <| mv rfl <| WL.eff (by decide) (Eff.buildC 190 ([x63, x67] : List Int) sty_32 rfl rfl rfl rfl rfl (by decide)) ?_
  rintro _ _ ⟨g90, rfl, rfl⟩
  refine ya (lenC (xs := ([x63, x67] : List Int)) und_32 rfl (rO 190 rfl)) <| mv rfl <| dz k89 <| bl <| lp (τ := Mem × (List By) × (List Hdr) × Int) (fun ⟨M91, x92, rs93, x95⟩ => [(3, .bool x03), (4, .slice A04 n04 c04), (11, pv g59), (13, I64 x67), (14, .slice A72 ((([] : List Hdr) ++ rs57).length) c73), (15, .slice A81 n82 c83), (45, .slice (some ⟨g90, 0, none⟩) (([x63, x67] : List Int).length) (([x63, x67] : List Int).length)), (46, I64 (([x63, x67] : List Int).length : Int)), (47, I64 x95)]) (fun ⟨M91, x92, rs93, x95⟩ => [(0, .mem M91), (121, .own 57 (Lay.sz Rneedlestoreref09_Record) A46 n47 c48 (cel rs49)), (122, .own 59 (Lay.sz Sapi_Item) A51 n52 c53 (cel x3.2.2.2.2.2.2.2.2.2.2.2.2.1)), (123, .own 35 (Lay.sz Hdr) A54 n55 c56 (cel rs57)), (159, .blk g59 38 [.slice A42 n43 c44, .slice A46 n47 c48, I64 x3.2.2.1, I64 x3.2.2.2.1, I64 x3.2.2.2.2.1, I64 x3.2.2.2.2.2.1, U32 x3.2.2.2.2.2.2.1, U32 x3.2.2.2.2.2.2.2.1, U32 x3.2.2.2.2.2.2.2.2.1, U32 x3.2.2.2.2.2.2.2.2.2.1, U32 x3.2.2.2.2.2.2.2.2.2.2.1, U32 x3.2.2.2.2.2.2.2.2.2.2.2.1, .slice A51 n52 c53, .slice A54 n55 c56]), (169, .own 35 (Lay.sz Hdr) A72 ((([] : List Hdr) ++ rs57).length) c73 (cel rs93)), (180, .own 4 (Lay.sz Bool) A81 n82 c83 (cel x76)), (190, .own 3 (Lay.sz Int) (some ⟨g90, 0, none⟩) (([x63, x67] : List Int).length) (([x63, x67] : List Int).length) (cel ([x63, x67] : List Int)))]) (fun q96 ⟨M91, x92, rs93, x95⟩ => m_law18_EcreadDamage_l1 x03 x04 x3 x63 x67 x76 q96 x92 x95 = some res /\ Ext w0.heap.size M41 M91 /\ Rels ((RelB (α := BitVec 8)) M91) rs93 x92) ⟨M41, x71, (([] : List Hdr) ++ rs57), (0 : Int)⟩ ?_ (by simp [m_law18_EcreadDamage_l1]) ?_
  ·exact ⟨h, (Ext.refl _ _), hq75⟩
  rintro q96 ⟨M91, x92, rs93, x95⟩ ⟨h, hm_M91, hq94⟩ _ k97
  unfold m_law18_EcreadDamage_l1 at h
  refine sr fun _ k98 => ya (lss rfl rfl) <| dz k98 <| sq fun _ k99 => cI h rfl (fun hc100 h => ?_) fun hc100 h => ?_
  ·refine ss <| k99 _ _ <| ct (σ := Mem × (List By) × (List Hdr)) (fun ⟨M101, x102, rs103⟩ => [(3, .bool x03), (4, .slice A04 n04 c04), (11, pv g59), (13, I64 x67), (14, .slice A72 ((([] : List Hdr) ++ rs57).length) c73), (15, .slice A81 n82 c83), (45, .slice (some ⟨g90, 0, none⟩) (([x63, x67] : List Int).length) (([x63, x67] : List Int).length)), (46, I64 (([x63, x67] : List Int).length : Int)), (47, I64 x95)]) (fun ⟨M101, x102, rs103⟩ => [(0, .mem M101), (121, .own 57 (Lay.sz Rneedlestoreref09_Record) A46 n47 c48 (cel rs49)), (122, .own 59 (Lay.sz Sapi_Item) A51 n52 c53 (cel x3.2.2.2.2.2.2.2.2.2.2.2.2.1)), (123, .own 35 (Lay.sz Hdr) A54 n55 c56 (cel rs57)), (159, .blk g59 38 [.slice A42 n43 c44, .slice A46 n47 c48, I64 x3.2.2.1, I64 x3.2.2.2.1, I64 x3.2.2.2.2.1, I64 x3.2.2.2.2.2.1, U32 x3.2.2.2.2.2.2.1, U32 x3.2.2.2.2.2.2.2.1, U32 x3.2.2.2.2.2.2.2.2.1, U32 x3.2.2.2.2.2.2.2.2.2.1, U32 x3.2.2.2.2.2.2.2.2.2.2.1, U32 x3.2.2.2.2.2.2.2.2.2.2.2.1, .slice A51 n52 c53, .slice A54 n55 c56]), (169, .own 35 (Lay.sz Hdr) A72 ((([] : List Hdr) ++ rs57).length) c73 (cel rs103)), (180, .own 4 (Lay.sz Bool) A81 n82 c83 (cel x76)), (190, .own 3 (Lay.sz Int) (some ⟨g90, 0, none⟩) (([x63, x67] : List Int).length) (([x63, x67] : List Int).length) (cel ([x63, x67] : List Int)))]) (fun ⟨M101, x102, rs103⟩ => m_law18_EcreadDamage_j2 x95 (m_law18_EcreadDamage_l1 x03 x04 x3 x63 x67 x76 q96) x102 = some res /\ Ext w0.heap.size M91 M101 /\ Rels ((RelB (α := BitVec 8)) M101) rs103 x102) (fun _ k105 => ?_) ?_
   ·refine bl <| sr fun _ k106 => bd h fun x107 hx107 h => ya (idxC (xs := ([x63, x67] : List Int)) sty_32 rfl rfl (rO 190 rfl) hx107) <| ya (loadC0 (xs := ([x63, x67] : List Int)) scal_3 rfl (rO 190 rfl) hx107 rfl) <| ak rfl k106 <| sr fun _ k108 => ?_
    obtain ⟨x110, hx110, h⟩ := bnd h
    obtain ⟨x114, hx114, h⟩ := bnd h
    refine WL.eff (by decide) (Eff.buildC 209 ([] : By) sty_35 rfl rfl rfl rfl rfl (by decide)) ?_
    rintro _ _ ⟨g109, rfl, rfl⟩
    refine mv rfl <| mv rfl ?_
    obtain ⟨r_111, hr112, hq113⟩ := Rels.idx hq94 hx110
    refine ya (idxC (xs := rs93) sty_29 rfl rfl (rO 169 rfl) hr112) <| ya (loadC0 (xs := rs93) scal_35 rfl (rO 169 rfl) hr112 rfl) <| ap 209 (xs := ([] : By)) (ys := x110) sty_35 rfl rfl rfl (mM rfl hq113) hx114 fun A115 c116 => ak rfl k108 <| ct (σ := By) (fun x117 => [(3, .bool x03), (4, .slice A04 n04 c04), (11, pv g59), (13, I64 x67), (14, .slice A72 ((([] : List Hdr) ++ rs57).length) c73), (15, .slice A81 n82 c83), (17, I64 x107), (18, .slice A115 x114.length c116), (45, .slice (some ⟨g90, 0, none⟩) (([x63, x67] : List Int).length) (([x63, x67] : List Int).length)), (46, I64 (([x63, x67] : List Int).length : Int)), (47, I64 x95)]) (fun x117 => [(0, .mem M91), (121, .own 57 (Lay.sz Rneedlestoreref09_Record) A46 n47 c48 (cel rs49)), (122, .own 59 (Lay.sz Sapi_Item) A51 n52 c53 (cel x3.2.2.2.2.2.2.2.2.2.2.2.2.1)), (123, .own 35 (Lay.sz Hdr) A54 n55 c56 (cel rs57)), (159, .blk g59 38 [.slice A42 n43 c44, .slice A46 n47 c48, I64 x3.2.2.1, I64 x3.2.2.2.1, I64 x3.2.2.2.2.1, I64 x3.2.2.2.2.2.1, U32 x3.2.2.2.2.2.2.1, U32 x3.2.2.2.2.2.2.2.1, U32 x3.2.2.2.2.2.2.2.2.1, U32 x3.2.2.2.2.2.2.2.2.2.1, U32 x3.2.2.2.2.2.2.2.2.2.2.1, U32 x3.2.2.2.2.2.2.2.2.2.2.2.1, .slice A51 n52 c53, .slice A54 n55 c56]), (169, .own 35 (Lay.sz Hdr) A72 ((([] : List Hdr) ++ rs57).length) c73 (cel rs93)), (180, .own 4 (Lay.sz Bool) A81 n82 c83 (cel x76)), (190, .own 3 (Lay.sz Int) (some ⟨g90, 0, none⟩) (([x63, x67] : List Int).length) (([x63, x67] : List Int).length) (cel ([x63, x67] : List Int))), (209, .own 5 (Lay.sz (BitVec 8)) A115 x114.length c116 (cel x117))]) (fun x117 => m_law18_EcreadDamage_j3 x92 x95 x107 (m_law18_EcreadDamage_l1 x03 x04 x3 x63 x67 x76 q96) x117 = some res) (fun _ k118 => ?_) ?_
    ·refine sr fun _ k119 => ak rfl k119 <| bl <| lp (τ := By × Int) (fun ⟨x120, x121⟩ => [(3, .bool x03), (4, .slice A04 n04 c04), (11, pv g59), (13, I64 x67), (14, .slice A72 ((([] : List Hdr) ++ rs57).length) c73), (15, .slice A81 n82 c83), (17, I64 x107), (18, .slice A115 x114.length c116), (19, I64 x121), (45, .slice (some ⟨g90, 0, none⟩) (([x63, x67] : List Int).length) (([x63, x67] : List Int).length)), (46, I64 (([x63, x67] : List Int).length : Int)), (47, I64 x95)]) (fun ⟨x120, x121⟩ => [(0, .mem M91), (121, .own 57 (Lay.sz Rneedlestoreref09_Record) A46 n47 c48 (cel rs49)), (122, .own 59 (Lay.sz Sapi_Item) A51 n52 c53 (cel x3.2.2.2.2.2.2.2.2.2.2.2.2.1)), (123, .own 35 (Lay.sz Hdr) A54 n55 c56 (cel rs57)), (159, .blk g59 38 [.slice A42 n43 c44, .slice A46 n47 c48, I64 x3.2.2.1, I64 x3.2.2.2.1, I64 x3.2.2.2.2.1, I64 x3.2.2.2.2.2.1, U32 x3.2.2.2.2.2.2.1, U32 x3.2.2.2.2.2.2.2.1, U32 x3.2.2.2.2.2.2.2.2.1, U32 x3.2.2.2.2.2.2.2.2.2.1, U32 x3.2.2.2.2.2.2.2.2.2.2.1, U32 x3.2.2.2.2.2.2.2.2.2.2.2.1, .slice A51 n52 c53, .slice A54 n55 c56]), (169, .own 35 (Lay.sz Hdr) A72 ((([] : List Hdr) ++ rs57).length) c73 (cel rs93)), (180, .own 4 (Lay.sz Bool) A81 n82 c83 (cel x76)), (190, .own 3 (Lay.sz Int) (some ⟨g90, 0, none⟩) (([x63, x67] : List Int).length) (([x63, x67] : List Int).length) (cel ([x63, x67] : List Int))), (209, .own 5 (Lay.sz (BitVec 8)) A115 x114.length c116 (cel x120))]) (fun q122 ⟨x120, x121⟩ => m_law18_EcreadDamage_l4 x04 x92 x95 x107 (m_law18_EcreadDamage_l1 x03 x04 x3 x63 x67 x76 q96) q122 x120 x121 = some res) ⟨x114, (0 : Int)⟩ ?_ (by simp [m_law18_EcreadDamage_l4]) ?_
     ·exact h
     rintro q122 ⟨x120, x121⟩ h _ k123
     unfold m_law18_EcreadDamage_l4 at h
     refine sq fun _ k124 => sr fun _ k125 => mv rfl <| mv rfl <| ya (lenC (xs := x120) und_35 rfl (rO 209 rfl)) <| ya (lss rfl rfl) <| mv rfl <| spl h decide_eq_true decide_eq_false (fun hc126 h => ?_) fun hc126 h => ?_
     ·refine mvg rfl <| mvg rfl <| yg (lenC (xs := x04) und_35 rfl (mM rfl (SlRc.lift (SlRc.lift hf04 hm_M41) hm_M91))) <| yg (lss rfl rfl) <| pt rfl rfl <| dz k125 <| cI h rfl (fun hc127 h => ?_) fun hc127 h => ?_
      ·refine ss <| k124 _ _ <| sq fun _ k128 => bl <| rd [(0, _), (121, _), (122, _), (123, _), (159, _), (169, _), (180, _), (190, _)] mixed fun _ k129 => ?_
       obtain ⟨x130, hx130, h⟩ := bnd h
       obtain ⟨x131, hx131, h⟩ := bnd h
       obtain ⟨x132, hx132, h⟩ := bnd h
       obtain ⟨x133, hx133, h⟩ := bnd h
       refine dm 0 rfl rfl <| dm 1 rfl rfl <| dm 4 rfl rfl <| dm 5 rfl rfl <| du 6 rfl (idxC (xs := x04) sty_35 rfl rfl (mM rfl (SlRc.lift (SlRc.lift hf04 hm_M41) hm_M91)) hx131) <| du 7 rfl (loadC0 (xs := x04) scal_5 rfl (mM rfl (SlRc.lift (SlRc.lift hf04 hm_M41) hm_M91)) hx131 rfl) <| on 2 <| dy rfl (idxC (xs := x120) sty_35 rfl rfl (rO 209 rfl) hx130) <| on 3 <| dy rfl (loadC0 (xs := x120) scal_5 rfl (rO 209 rfl) hx130 rfl) <| du 8 rfl (xor_u8 (a := x130) (b := x131) rfl rfl) <| on 9 <| dy rfl (idxC (xs := x120) sty_35 rfl rfl (rO 209 rfl) hx132) <| on 10 <| WS.eff0 rfl (Eff0.storeC1 209 (xs := x120) (a' := x130 ^^^ x131) siz_5 rfl rfl rfl rfl rfl rfl hx133) (sc (sc (sc (sc (sc (sc (sc (sc sn)))))))) <| dd <| k129 _ _ <| bn <| tn <| k128 _ _ <| rg fun _ k134 => bd h fun x135 hx135 h => mv rfl <| ya (addC rfl rfl hx135) <| ak rfl k134 <| tn <| kw (k123 ⟨x133, x135⟩ h)
      exact xi <| te <| te <| bx <| tn <| kw (k118 x120 h)
     exact sk <| sk <| sk <| sk <| pf rfl rfl <| dz k125 <| cdF rfl <| xi <| te <| te <| bx <| tn <| kw (k118 x120 h)
    rintro x117 h
    unfold m_law18_EcreadDamage_j3 at h
    refine rg fun _ k136 => ?_
    obtain ⟨x137, hx137, h⟩ := bnd h
    obtain ⟨x143, hx143, h⟩ := bnd h
    refine mv rfl <| mv rfl <| mv rfl ?_
    obtain ⟨r_138, hr139, hq140⟩ := Rels.idx hq94 hx137
    refine ya (idxC (xs := rs93) sty_29 rfl rfl (rO 169 rfl) hr139) <| WL.freeze 209 rfl rfl rfl fun M141 hm_M141 hf142 => ?_
    obtain ⟨hu144, hq145⟩ := Rels.upd (r := (⟨A115, x114.length, c116⟩ : Hdr)) (Rels.lift hq94 hm_M141) hx143 hf142
    exact WL.eff0 (Eff0.storeC1 169 (xs := rs93) (a' := (⟨A115, x114.length, c116⟩ : Hdr)) siz_35 rfl rfl rfl rfl rfl rfl hu144) <| dz k136 <| bn <| tn <| kw (k105 ⟨M141, x143, (rs93.set (x107).toNat (⟨A115, x114.length, c116⟩ : Hdr))⟩ ⟨h, hm_M141, hq145⟩)
   rintro ⟨M101, x102, rs103⟩ ⟨h, hm_M101, hq104⟩
   unfold m_law18_EcreadDamage_j2 at h
   refine rg fun _ k146 => bd h fun x147 hx147 h => ya (addC rfl rfl hx147) <| mv rfl <| dz k146 <| tn <| kw (k97 ⟨M101, x102, rs103, x147⟩ ⟨h, (Ext.trans hm_M91 hm_M101), hq104⟩)
  exact xi <| te <| te <| bx <| tn <| kw (k88 ⟨M91, x92, rs93⟩ ⟨h, hm_M91, hq94⟩)
 rintro ⟨M84, x85, rs86⟩ ⟨h, hm_M84, hq87⟩
 unfold m_law18_EcreadDamage_j0 at h
 refine ct (σ := (List Bool)) (fun x148 => [(11, pv g59), (14, .slice A72 ((([] : List Hdr) ++ rs57).length) c73), (15, .slice A81 n82 c83)]) (fun x148 => [(0, .mem M84), (121, .own 57 (Lay.sz Rneedlestoreref09_Record) A46 n47 c48 (cel rs49)), (122, .own 59 (Lay.sz Sapi_Item) A51 n52 c53 (cel x3.2.2.2.2.2.2.2.2.2.2.2.2.1)), (123, .own 35 (Lay.sz Hdr) A54 n55 c56 (cel rs57)), (159, .blk g59 38 [.slice A42 n43 c44, .slice A46 n47 c48, I64 x3.2.2.1, I64 x3.2.2.2.1, I64 x3.2.2.2.2.1, I64 x3.2.2.2.2.2.1, U32 x3.2.2.2.2.2.2.1, U32 x3.2.2.2.2.2.2.2.1, U32 x3.2.2.2.2.2.2.2.2.1, U32 x3.2.2.2.2.2.2.2.2.2.1, U32 x3.2.2.2.2.2.2.2.2.2.2.1, U32 x3.2.2.2.2.2.2.2.2.2.2.2.1, .slice A51 n52 c53, .slice A54 n55 c56]), (169, .own 35 (Lay.sz Hdr) A72 ((([] : List Hdr) ++ rs57).length) c73 (cel rs86)), (180, .own 4 (Lay.sz Bool) A81 n82 c83 (cel x148))]) (fun x148 => m_law18_EcreadDamage_j5 x3 x85 x148 = some res) (fun _ k149 => ?_) ?_
 ·refine sr fun _ k150 => mv rfl <| dz k150 <| cnd h rfl id Bool.eq_false_iff.2 (fun hc151 h => ?_) fun hc151 h => ?_
  ·refine rg fun _ k152 => ?_
   obtain ⟨x153, hx153, h⟩ := bnd h
   obtain ⟨x154, hx154, h⟩ := bnd h
   exact mv rfl <| mv rfl <| ya (idxC (xs := x76) sty_30 rfl rfl (rO 180 rfl) hx153) <| WL.eff0 (Eff0.storeC1 180 (xs := x76) (a' := false) siz_4 rfl rfl rfl rfl rfl rfl hx154) <| dz k152 <| tn <| kw (k149 x154 h)
  exact WC.skip <| tn <| kw (k149 x76 h)
 rintro x148 h
 unfold m_law18_EcreadDamage_j5 at h
 refine ct (σ := Mem) (fun M155 => []) (fun M155 => [(0, .mem M155)]) (fun M155 => m_law18_EcreadDamage_j6 = some res /\ Ext w0.heap.size M84 M155) (fun _ k156 => ?_) ?_
 ·refine sr fun _ k157 => ya (fieldAddr Tryz.underlying38 rfl nz_36 rfl rfl) <| ya (loadB (k := 159) scal_36 rfl rfl rfl) <| ya (lenD (rs := rs49) (xs := x3.2.1) (Rels.len (Rels.lift hq50 hm_M84)) und_36 rfl (rO 121 rfl)) <| mv rfl <| dz k157 <| bl <| WC.freeze 122 rfl rfl rfl fun M168 hm_M168 hf169 => lp (τ := Mem × (Option Addr) × Nat × Nat × (List Sapi_Item) × Int) (fun ⟨M160, A161, n162, c163, x164, x166⟩ => [(11, pv g59), (14, .slice A72 ((([] : List Hdr) ++ rs57).length) c73), (15, .slice A81 n82 c83), (89, .slice A46 n47 c48), (90, I64 (x3.2.1.length : Int)), (91, I64 x166)]) (fun ⟨M160, A161, n162, c163, x164, x166⟩ => [(0, .mem M160), (121, .own 57 (Lay.sz Rneedlestoreref09_Record) A46 n47 c48 (cel rs49)), (123, .own 35 (Lay.sz Hdr) A54 n55 c56 (cel rs57)), (159, .blk g59 38 [.slice A42 n43 c44, .slice A46 n47 c48, I64 x3.2.2.1, I64 x3.2.2.2.1, I64 x3.2.2.2.2.1, I64 x3.2.2.2.2.2.1, U32 x3.2.2.2.2.2.2.1, U32 x3.2.2.2.2.2.2.2.1, U32 x3.2.2.2.2.2.2.2.2.1, U32 x3.2.2.2.2.2.2.2.2.2.1, U32 x3.2.2.2.2.2.2.2.2.2.2.1, U32 x3.2.2.2.2.2.2.2.2.2.2.2.1, .slice A161 n162 c163, .slice A54 n55 c56]), (169, .own 35 (Lay.sz Hdr) A72 ((([] : List Hdr) ++ rs57).length) c73 (cel rs86)), (180, .own 4 (Lay.sz Bool) A81 n82 c83 (cel x148))]) (fun q167 ⟨M160, A161, n162, c163, x164, x166⟩ => m_law18_EcreadDamage_l7 x3 x85 x148 q167 x164 x166 = some res /\ Ext w0.heap.size M84 M160 /\ SlT M160 A161 n162 c163 x164) ⟨M168, A51, n52, c53, x3.2.2.2.2.2.2.2.2.2.2.2.2.1, (0 : Int)⟩ ?_ (by simp [m_law18_EcreadDamage_l7]) ?_
  ·exact ⟨h, hm_M168, hf169⟩
  rintro q167 ⟨M160, A161, n162, c163, x164, x166⟩ ⟨h, hm_M160, hf165⟩ _ k170
  unfold m_law18_EcreadDamage_l7 at h
  refine sr fun _ k171 => ya (lss rfl rfl) <| dz k171 <| sq fun _ k172 => cI h rfl (fun hc173 h => ?_) fun hc173 h => ?_
  ·refine ss <| k172 _ _ <| ct (σ := Mem) (fun M174 => [(11, pv g59), (14, .slice A72 ((([] : List Hdr) ++ rs57).length) c73), (15, .slice A81 n82 c83), (89, .slice A46 n47 c48), (90, I64 (x3.2.1.length : Int)), (91, I64 x166)]) (fun M174 => [(0, .mem M174), (121, .own 57 (Lay.sz Rneedlestoreref09_Record) A46 n47 c48 (cel rs49)), (123, .own 35 (Lay.sz Hdr) A54 n55 c56 (cel rs57)), (159, .blk g59 38 [.slice A42 n43 c44, .slice A46 n47 c48, I64 x3.2.2.1, I64 x3.2.2.2.1, I64 x3.2.2.2.2.1, I64 x3.2.2.2.2.2.1, U32 x3.2.2.2.2.2.2.1, U32 x3.2.2.2.2.2.2.2.1, U32 x3.2.2.2.2.2.2.2.2.1, U32 x3.2.2.2.2.2.2.2.2.2.1, U32 x3.2.2.2.2.2.2.2.2.2.2.1, U32 x3.2.2.2.2.2.2.2.2.2.2.2.1, .slice A161 n162 c163, .slice A54 n55 c56]), (169, .own 35 (Lay.sz Hdr) A72 ((([] : List Hdr) ++ rs57).length) c73 (cel rs86)), (180, .own 4 (Lay.sz Bool) A81 n82 c83 (cel x148))]) (fun M174 => m_law18_EcreadDamage_j8 x164 x166 (m_law18_EcreadDamage_l7 x3 x85 x148 q167) = some res /\ Ext w0.heap.size M160 M174) (fun _ k175 => ?_) ?_
   ·refine bl <| sr fun _ k176 => ?_
    obtain ⟨x177, hx177, h⟩ := bnd h
    obtain ⟨⟨_, r_178_0⟩, hr179, rfl, hq180_0⟩ := Rels.idx (Rels.lift (Rels.lift hq50 hm_M84) hm_M160) hx177
    refine ya (idxC (xs := rs49) sty_36 rfl rfl (rO 121 rfl) hr179) <| ya (loadA (xs := rs49) agg_57 rfl (rO 121 rfl) hr179 rfl) <| al 281 zr_57 fun g181 => sb 281 agg_57 rfl rfl rfl <| dz k176 <| sr fun _ k182 => ya (fieldAddr Tryz.underlying57 rfl nz_55 rfl rfl) <| ya (fieldAddr Tryz.underlying55 rfl nz_53 rfl rfl) <| ya (loadB (k := 281) scal_53 rfl rfl rfl) <| ya (fieldAddr Tryz.underlying57 rfl nz_55 rfl rfl) <| ya (fieldAddr Tryz.underlying55 rfl nz_24 rfl rfl) <| ya (loadB (k := 281) scal_24 rfl rfl rfl) <| ya (fieldAddr Tryz.underlying57 rfl nz_2 rfl rfl) <| ya (loadB (k := 281) scal_2 rfl rfl rfl) <| ya (fieldAddr Tryz.underlying57 rfl nz_55 rfl rfl) <| ya (fieldAddr Tryz.underlying55 rfl nz_35 rfl rfl) <| ya (loadB (k := 281) scal_35 rfl rfl rfl) <| ya (lenC (xs := x177.fNeedle.fData) und_35 rfl (mM rfl hq180_0)) <| ya (build rfl (bu_59_0_1_2_3 x177.fNeedle.fKey x177.fNeedle.fCookie x177.fOff (x177.fNeedle.fData.length : Int))) <| al 283 zr_59 fun g183 => sb 283 agg_59 rfl rfl rfl <| dz k182 <| sr fun _ k184 => ak rfl k184 <| ct (σ := Bool) (fun x185 => [(11, pv g59), (14, .slice A72 ((([] : List Hdr) ++ rs57).length) c73), (15, .slice A81 n82 c83), (21, pv g181), (22, pv g183), (23, .bool x185), (89, .slice A46 n47 c48), (90, I64 (x3.2.1.length : Int)), (91, I64 x166)]) (fun x185 => [(0, .mem M160), (121, .own 57 (Lay.sz Rneedlestoreref09_Record) A46 n47 c48 (cel rs49)), (123, .own 35 (Lay.sz Hdr) A54 n55 c56 (cel rs57)), (159, .blk g59 38 [.slice A42 n43 c44, .slice A46 n47 c48, I64 x3.2.2.1, I64 x3.2.2.2.1, I64 x3.2.2.2.2.1, I64 x3.2.2.2.2.2.1, U32 x3.2.2.2.2.2.2.1, U32 x3.2.2.2.2.2.2.2.1, U32 x3.2.2.2.2.2.2.2.2.1, U32 x3.2.2.2.2.2.2.2.2.2.1, U32 x3.2.2.2.2.2.2.2.2.2.2.1, U32 x3.2.2.2.2.2.2.2.2.2.2.2.1, .slice A161 n162 c163, .slice A54 n55 c56]), (169, .own 35 (Lay.sz Hdr) A72 ((([] : List Hdr) ++ rs57).length) c73 (cel rs86)), (180, .own 4 (Lay.sz Bool) A81 n82 c83 (cel x148)), (281, .blk g181 57 [I64 x177.fOff, U64 x177.fNeedle.fKey, U32 x177.fNeedle.fCookie, .bool x177.fNeedle.fDeleted, .slice r_178_0.A r_178_0.n r_178_0.c]), (283, .blk g183 59 [U64 x177.fNeedle.fKey, U32 x177.fNeedle.fCookie, I64 x177.fOff, I64 (x177.fNeedle.fData.length : Int)])]) (fun x185 => m_law18_EcreadDamage_j9 x3 x85 x148 x164 x166 x177 (m_law18_EcreadDamage_l7 x3 x85 x148 q167) x185 = some res) (fun _ k186 => ?_) ?_
    ·refine sr fun _ k187 => ya (fieldAddr Tryz.underlying38 rfl nz_28 rfl rfl) <| ya (fieldAddr Tryz.underlying28 rfl nz_26 rfl rfl) <| ya (loadB (k := 159) scal_26 rfl rfl rfl) <| ya (lenC (xs := x164) und_26 rfl (mM rfl hf165)) <| mv rfl <| dz k187 <| bl <| lp (τ := Bool × Int) (fun ⟨x188, x189⟩ => [(11, pv g59), (14, .slice A72 ((([] : List Hdr) ++ rs57).length) c73), (15, .slice A81 n82 c83), (21, pv g181), (22, pv g183), (23, .bool x188), (89, .slice A46 n47 c48), (90, I64 (x3.2.1.length : Int)), (91, I64 x166), (110, .slice A161 n162 c163), (111, I64 (x164.length : Int)), (112, I64 x189)]) (fun ⟨x188, x189⟩ => [(0, .mem M160), (121, .own 57 (Lay.sz Rneedlestoreref09_Record) A46 n47 c48 (cel rs49)), (123, .own 35 (Lay.sz Hdr) A54 n55 c56 (cel rs57)), (159, .blk g59 38 [.slice A42 n43 c44, .slice A46 n47 c48, I64 x3.2.2.1, I64 x3.2.2.2.1, I64 x3.2.2.2.2.1, I64 x3.2.2.2.2.2.1, U32 x3.2.2.2.2.2.2.1, U32 x3.2.2.2.2.2.2.2.1, U32 x3.2.2.2.2.2.2.2.2.1, U32 x3.2.2.2.2.2.2.2.2.2.1, U32 x3.2.2.2.2.2.2.2.2.2.2.1, U32 x3.2.2.2.2.2.2.2.2.2.2.2.1, .slice A161 n162 c163, .slice A54 n55 c56]), (169, .own 35 (Lay.sz Hdr) A72 ((([] : List Hdr) ++ rs57).length) c73 (cel rs86)), (180, .own 4 (Lay.sz Bool) A81 n82 c83 (cel x148)), (281, .blk g181 57 [I64 x177.fOff, U64 x177.fNeedle.fKey, U32 x177.fNeedle.fCookie, .bool x177.fNeedle.fDeleted, .slice r_178_0.A r_178_0.n r_178_0.c]), (283, .blk g183 59 [U64 x177.fNeedle.fKey, U32 x177.fNeedle.fCookie, I64 x177.fOff, I64 (x177.fNeedle.fData.length : Int)])]) (fun q190 ⟨x188, x189⟩ => m_law18_EcreadDamage_l10 x3 x85 x148 x164 x166 x177 (m_law18_EcreadDamage_l7 x3 x85 x148 q167) q190 x188 x189 = some res) ⟨false, (0 : Int)⟩ ?_ (by simp [m_law18_EcreadDamage_l10]) ?_
     ·exact h
     rintro q190 ⟨x188, x189⟩ h _ k191
     unfold m_law18_EcreadDamage_l10 at h
     refine sr fun _ k192 => ya (lss rfl rfl) <| dz k192 <| sq fun _ k193 => cI h rfl (fun hc194 h => ?_) fun hc194 h => ?_
     ·refine ss <| k193 _ _ <| sq fun _ k195 => bl <| sr fun _ k196 => bd h fun x197 hx197 h => ya (idxC (xs := x164) sty_26 rfl rfl (mM rfl hf165) hx197) <| ya (loadA (xs := x164) agg_59 rfl (mM rfl hf165) hx197 rfl) <| al 298 zr_59 fun g198 => sb 298 agg_59 rfl rfl rfl <| dz k196 <| rg fun _ k199 => mv rfl <| mv rfl <| spl h id Bool.eq_false_iff.2 (fun hc200 h => ?_) fun hc200 h => ?_
      ·refine sk <| sk <| sk <| pt rfl rfl <| ak rfl k199 <| bn <| tn <| k195 _ _ <| rg fun _ k201 => bd h fun x202 hx202 h => ya (addC rfl rfl hx202) <| mv rfl <| dz k201 <| tn <| kw (k191 ⟨true, x202⟩ h)
      refine yg (loadBM (k := 298) agg_59 rfl rfl rfl) <| yg (loadBM (k := 283) agg_59 rfl rfl rfl) <| yg (eqlA (zeqs_59 x197.fKey x177.fNeedle.fKey x197.fCookie x177.fNeedle.fCookie x197.fOff x177.fOff x197.fSize (x177.fNeedle.fData.length : Int)) rfl rfl) <| pf rfl rfl <| ak rfl k199 <| bn <| tn <| k195 _ _ <| rg fun _ k203 => bd h fun x204 hx204 h => ya (addC rfl rfl hx204) <| mv rfl <| dz k203 <| tn <| kw (k191 ⟨(decide (x197.fKey = x177.fNeedle.fKey /\ x197.fCookie = x177.fNeedle.fCookie /\ x197.fOff = x177.fOff /\ x197.fSize = (x177.fNeedle.fData.length : Int) /\ True)), x204⟩ h)
     exact xi <| te <| te <| bx <| tn <| kw (k186 x188 h)
    rintro x185 h
    unfold m_law18_EcreadDamage_j9 at h
    refine ct (σ := Unit) (fun _ => [(11, pv g59), (14, .slice A72 ((([] : List Hdr) ++ rs57).length) c73), (15, .slice A81 n82 c83), (21, pv g181), (22, pv g183), (89, .slice A46 n47 c48), (90, I64 (x3.2.1.length : Int)), (91, I64 x166)]) (fun _ => [(0, .mem M160), (121, .own 57 (Lay.sz Rneedlestoreref09_Record) A46 n47 c48 (cel rs49)), (123, .own 35 (Lay.sz Hdr) A54 n55 c56 (cel rs57)), (159, .blk g59 38 [.slice A42 n43 c44, .slice A46 n47 c48, I64 x3.2.2.1, I64 x3.2.2.2.1, I64 x3.2.2.2.2.1, I64 x3.2.2.2.2.2.1, U32 x3.2.2.2.2.2.2.1, U32 x3.2.2.2.2.2.2.2.1, U32 x3.2.2.2.2.2.2.2.2.1, U32 x3.2.2.2.2.2.2.2.2.2.1, U32 x3.2.2.2.2.2.2.2.2.2.2.1, U32 x3.2.2.2.2.2.2.2.2.2.2.2.1, .slice A161 n162 c163, .slice A54 n55 c56]), (169, .own 35 (Lay.sz Hdr) A72 ((([] : List Hdr) ++ rs57).length) c73 (cel rs86)), (180, .own 4 (Lay.sz Bool) A81 n82 c83 (cel x148)), (281, .blk g181 57 [I64 x177.fOff, U64 x177.fNeedle.fKey, U32 x177.fNeedle.fCookie, .bool x177.fNeedle.fDeleted, .slice r_178_0.A r_178_0.n r_178_0.c]), (283, .blk g183 59 [U64 x177.fNeedle.fKey, U32 x177.fNeedle.fCookie, I64 x177.fOff, I64 (x177.fNeedle.fData.length : Int)])]) (fun _ => m_law18_EcreadDamage_j11 x3 x85 x148 x164 x166 x177 (m_law18_EcreadDamage_l7 x3 x85 x148 q167) = some res) (fun _ k205 => ?_) ?_
    ·refine sr fun _ k206 => mv rfl <| ya (notB rfl) <| mv rfl <| spn h not_f (fun q => not_t (Bool.eq_false_iff.2 q)) (fun hc207 h => ?_) fun hc207 h => ?_
     ·obtain ⟨x208, hx208, h⟩ := bnd h
      refine yg (loadBM (k := 159) agg_38 rfl rfl rfl) <| mvg rfl <| mvg rfl <| yg (loadBM (k := 283) agg_59 rfl rfl rfl) <| yg (fieldAddr Tryz.underlying57 rfl nz_55 rfl rfl) <| yg (loadBP (k := 281) (us := [U64 x177.fNeedle.fKey, U32 x177.fNeedle.fCookie, .bool x177.fNeedle.fDeleted, .slice r_178_0.A r_178_0.n r_178_0.c]) agg_55 rfl rfl rfl rfl) <| c0g Tryz.func17 rfl (fun w hb hh => w_law18_collides (Mem.snap w) A42 n43 c44 _ (RdH.sn (mM rfl (SlRc.lift (SlRc.lift hf45 hm_M84) hm_M160)) w hb hh) A46 n47 c48 rs49 _ (RdH.sn (rO 121 rfl) w hb hh) (Rels.sn (Rels.lift (Rels.lift hq50 hm_M84) hm_M160) (hh.sat 0 _ rfl)) x3.2.2.1 x3.2.2.2.1 x3.2.2.2.2.1 x3.2.2.2.2.2.1 x3.2.2.2.2.2.2.1 x3.2.2.2.2.2.2.2.1 x3.2.2.2.2.2.2.2.2.1 x3.2.2.2.2.2.2.2.2.2.1 x3.2.2.2.2.2.2.2.2.2.2.1 x3.2.2.2.2.2.2.2.2.2.2.2.1 A161 n162 c163 _ (sM rfl hf165 w hb hh) A54 n55 c56 rs57 _ (RdH.sn (rO 123 rfl) w hb hh) (Rels.sn (Rels.lift (Rels.lift hq58 hm_M84) hm_M160) (hh.sat 0 _ rfl)) A72 ((([] : List Hdr) ++ rs57).length) c73 rs86 _ (RdH.sn (rO 169 rfl) w hb hh) (Rels.sn (Rels.lift hq87 hm_M160) (hh.sat 0 _ rfl)) A81 n82 c83 _ (RdH.sn (rO 180 rfl) w hb hh) x177.fNeedle.fKey x177.fNeedle.fCookie x177.fOff (x177.fNeedle.fData.length : Int) x177.fNeedle.fKey x177.fNeedle.fCookie x177.fNeedle.fDeleted r_178_0.A r_178_0.n r_178_0.c _ (sM rfl hq180_0 w hb hh) hx208) <| pf rfl rfl <| dz k206 <| cnd h rfl id Bool.eq_false_iff.2 (fun hc210 h => ?_) fun hc210 h => ?_
      ·exact xi <| te <| bx <| tn <| kw (k175 M160 ⟨h, (Ext.refl _ _)⟩)
      exact WC.skip <| tn <| kw (k205 () h)
     exact sk <| sk <| sk <| sk <| sk <| sk <| sk <| pt rfl rfl <| dz k206 <| cdT rfl <| xi <| te <| bx <| tn <| kw (k175 M160 ⟨h, (Ext.refl _ _)⟩)
    rintro _ h
    unfold m_law18_EcreadDamage_j11 at h
    refine sd [(159, _), (169, _), (180, _), (281, _), (283, _)] mixed fun _ k211 => ?_
    obtain ⟨x212, hx212, h⟩ := bnd h
    obtain ⟨x227, hx227, h⟩ := bnd h
    refine du 0 rfl (fieldAddr Tryz.underlying38 rfl nz_28 rfl rfl) <| du 1 rfl (loadBP (k := 159) (us := [I64 x3.2.2.1, I64 x3.2.2.2.1, I64 x3.2.2.2.2.1, I64 x3.2.2.2.2.2.1, U32 x3.2.2.2.2.2.2.1, U32 x3.2.2.2.2.2.2.2.1, U32 x3.2.2.2.2.2.2.2.2.1, U32 x3.2.2.2.2.2.2.2.2.2.1, U32 x3.2.2.2.2.2.2.2.2.2.2.1, U32 x3.2.2.2.2.2.2.2.2.2.2.2.1, .slice A161 n162 c163]) agg_28 rfl rfl rfl rfl) <| dm 3 rfl rfl <| dm 4 rfl rfl <| du 5 rfl (loadBM (k := 283) agg_59 rfl rfl rfl) <| WD.two 2 10 (by kernel_rfl) ?_ ?_
    ·refine WS.eff rfl (by decide) (Eff.callM 317 rfl Tryz.func13 nm_13 rfl rfl rfl (w_law18_given _ x3.2.2.1 x3.2.2.2.1 x3.2.2.2.2.1 x3.2.2.2.2.2.1 x3.2.2.2.2.2.2.1 x3.2.2.2.2.2.2.2.1 x3.2.2.2.2.2.2.2.2.1 x3.2.2.2.2.2.2.2.2.2.1 x3.2.2.2.2.2.2.2.2.2.2.1 x3.2.2.2.2.2.2.2.2.2.2.2.1 A161 n162 c163 _ hf165 hx212)) ?_
     rintro _ _ ⟨M222, _, ⟨A223, n224, c225, rfl, rfl, hf226⟩, hm_M222, rfl⟩
     refine aq ?_
     refine WD.two 6 10 (by kernel_rfl) ?_ ?_
     ·refine WS.eff rfl (by decide) (Eff.callS 331 rfl Tryz.func18 nm_18 rfl rfl (fun w hb hh => w_ecread_Read (Mem.snap w) x212.1 x212.2.1 x212.2.2.1 x212.2.2.2.1 x212.2.2.2.2.1 x212.2.2.2.2.2.1 x212.2.2.2.2.2.2.1 x212.2.2.2.2.2.2.2.1 x212.2.2.2.2.2.2.2.2.1 x212.2.2.2.2.2.2.2.2.2.1 A223 n224 c225 _ (sM rfl hf226 w hb hh) A72 ((([] : List Hdr) ++ rs57).length) c73 rs86 _ (RdH.sn (rO 169 rfl) w hb hh) (Rels.sn (Rels.lift (Rels.lift hq87 hm_M160) hm_M222) (hh.sat 0 _ rfl)) A81 n82 c83 _ (RdH.sn (rO 180 rfl) w hb hh) x177.fNeedle.fKey x177.fNeedle.fCookie x177.fOff (x177.fNeedle.fData.length : Int) hx227)) ?_
      rintro _ _ ⟨_, ⟨A232, n233, c234, rfl, rfl⟩, rfl⟩
      refine aq ?_
      refine dm 7 rfl rfl <| du 8 rfl (extract rfl rfl) <| du 9 rfl (extract rfl rfl) <| on 10 <| WS.eff rfl (by decide) (Eff.alloc 335 rfl zr_55) ?_
      rintro _ _ ⟨g235, rfl, rfl⟩
      refine aq ?_
      refine on 11 <| ds 335 rfl agg_55 rfl rfl rfl <| du 12 rfl (Yld.assign rfl) <| dd <| k211 _ _ <| sr fun _ k236 => mv rfl <| ya (neqI rfl rfl) <| mv rfl <| spn h bne_eq_false_iff_eq.2 bne_iff_ne.2 (fun hc237 h => ?_) fun hc237 h => ?_
      ·obtain ⟨x238, hx238, h⟩ := bnd h
       refine yg (loadBM (k := 335) agg_55 rfl rfl rfl) <| yg (fieldAddr Tryz.underlying57 rfl nz_55 rfl rfl) <| yg (loadBP (k := 281) (us := [U64 x177.fNeedle.fKey, U32 x177.fNeedle.fCookie, .bool x177.fNeedle.fDeleted, .slice r_178_0.A r_178_0.n r_178_0.c]) agg_55 rfl rfl rfl rfl) <| c0g Tryz.func19 rfl (fun w hb hh => w_r06_Same (Mem.snap w) x227.1 x227.2.1 x227.2.2.1 A232 n233 c234 _ (RdH.sn (rO 331 rfl) w hb hh) x177.fNeedle.fKey x177.fNeedle.fCookie x177.fNeedle.fDeleted r_178_0.A r_178_0.n r_178_0.c _ (RdH.sn (mM rfl (SlRc.lift hq180_0 hm_M222)) w hb hh) hx238) <| yg (notB rfl) <| pf rfl rfl <| dz k236 <| cnn h rfl not_f (fun q => not_t (Bool.eq_false_iff.2 q)) (fun hc240 h => ?_) fun hc240 h => ?_
       ·exact WC.skip <| bn <| tn <| kw (k175 M222 ⟨h, hm_M222⟩)
       refine sr fun _ k241 => ak rfl k241 <| re <| br <| tr <| tr <| br <| tr ?_
       obtain rfl := si h
       exact rt [] (ResIs.one rfl rfl) (Ext.trans (Ext.trans (Ext.trans hm_M41 hm_M84) hm_M160) hm_M222) ⟨rfl, rfl⟩
      refine sk <| sk <| sk <| sk <| sk <| pt rfl rfl <| dz k236 <| cdT rfl <| sr fun _ k242 => ak rfl k242 <| re <| br <| tr <| tr <| br <| tr ?_
      obtain rfl := si h
      exact rt [] (ResIs.one rfl rfl) (Ext.trans (Ext.trans (Ext.trans hm_M41 hm_M84) hm_M160) hm_M222) ⟨rfl, rfl⟩
     skip
     refine WS.eff rfl (by decide) (Eff.alloc 335 rfl zr_55) ?_
     rintro _ _ ⟨g235, rfl, rfl⟩
     refine aq ?_
     refine on 6 <| WS.eff rfl (by decide) (Eff.callS 331 rfl Tryz.func18 nm_18 rfl rfl (fun w hb hh => w_ecread_Read (Mem.snap w) x212.1 x212.2.1 x212.2.2.1 x212.2.2.2.1 x212.2.2.2.2.1 x212.2.2.2.2.2.1 x212.2.2.2.2.2.2.1 x212.2.2.2.2.2.2.2.1 x212.2.2.2.2.2.2.2.2.1 x212.2.2.2.2.2.2.2.2.2.1 A223 n224 c225 _ (sM rfl hf226 w hb hh) A72 ((([] : List Hdr) ++ rs57).length) c73 rs86 _ (RdH.sn (rO 169 rfl) w hb hh) (Rels.sn (Rels.lift (Rels.lift hq87 hm_M160) hm_M222) (hh.sat 0 _ rfl)) A81 n82 c83 _ (RdH.sn (rO 180 rfl) w hb hh) x177.fNeedle.fKey x177.fNeedle.fCookie x177.fOff (x177.fNeedle.fData.length : Int) hx227)) ?_
     rintro _ _ ⟨_, ⟨A232, n233, c234, rfl, rfl⟩, rfl⟩
     refine aq ?_
     refine dm 7 rfl rfl <| du 8 rfl (extract rfl rfl) <| du 9 rfl (extract rfl rfl) <| on 11 <| ds 335 rfl agg_55 rfl rfl rfl <| du 12 rfl (Yld.assign rfl) <| dd <| k211 _ _ <| sr fun _ k243 => mv rfl <| ya (neqI rfl rfl) <| mv rfl <| spn h bne_eq_false_iff_eq.2 bne_iff_ne.2 (fun hc244 h => ?_) fun hc244 h => ?_
     ·obtain ⟨x245, hx245, h⟩ := bnd h
      refine yg (loadBM (k := 335) agg_55 rfl rfl rfl) <| yg (fieldAddr Tryz.underlying57 rfl nz_55 rfl rfl) <| yg (loadBP (k := 281) (us := [U64 x177.fNeedle.fKey, U32 x177.fNeedle.fCookie, .bool x177.fNeedle.fDeleted, .slice r_178_0.A r_178_0.n r_178_0.c]) agg_55 rfl rfl rfl rfl) <| c0g Tryz.func19 rfl (fun w hb hh => w_r06_Same (Mem.snap w) x227.1 x227.2.1 x227.2.2.1 A232 n233 c234 _ (RdH.sn (rO 331 rfl) w hb hh) x177.fNeedle.fKey x177.fNeedle.fCookie x177.fNeedle.fDeleted r_178_0.A r_178_0.n r_178_0.c _ (RdH.sn (mM rfl (SlRc.lift hq180_0 hm_M222)) w hb hh) hx245) <| yg (notB rfl) <| pf rfl rfl <| dz k243 <| cnn h rfl not_f (fun q => not_t (Bool.eq_false_iff.2 q)) (fun hc247 h => ?_) fun hc247 h => ?_
      ·exact WC.skip <| bn <| tn <| kw (k175 M222 ⟨h, hm_M222⟩)
      refine sr fun _ k248 => ak rfl k248 <| re <| br <| tr <| tr <| br <| tr ?_
      obtain rfl := si h
      exact rt [] (ResIs.one rfl rfl) (Ext.trans (Ext.trans (Ext.trans hm_M41 hm_M84) hm_M160) hm_M222) ⟨rfl, rfl⟩
     refine sk <| sk <| sk <| sk <| sk <| pt rfl rfl <| dz k243 <| cdT rfl <| sr fun _ k249 => ak rfl k249 <| re <| br <| tr <| tr <| br <| tr ?_
     obtain rfl := si h
     exact rt [] (ResIs.one rfl rfl) (Ext.trans (Ext.trans (Ext.trans hm_M41 hm_M84) hm_M160) hm_M222) ⟨rfl, rfl⟩
    skip
    refine WS.eff rfl (by decide) (Eff.alloc 335 rfl zr_55) ?_
    rintro _ _ ⟨g235, rfl, rfl⟩
    refine aq ?_
    refine on 2 <| WS.eff rfl (by decide) (Eff.callM 317 rfl Tryz.func13 nm_13 rfl rfl rfl (w_law18_given _ x3.2.2.1 x3.2.2.2.1 x3.2.2.2.2.1 x3.2.2.2.2.2.1 x3.2.2.2.2.2.2.1 x3.2.2.2.2.2.2.2.1 x3.2.2.2.2.2.2.2.2.1 x3.2.2.2.2.2.2.2.2.2.1 x3.2.2.2.2.2.2.2.2.2.2.1 x3.2.2.2.2.2.2.2.2.2.2.2.1 A161 n162 c163 _ hf165 hx212)) ?_
    rintro _ _ ⟨M222, _, ⟨A223, n224, c225, rfl, rfl, hf226⟩, hm_M222, rfl⟩
    refine aq ?_
    refine on 6 <| WS.eff rfl (by decide) (Eff.callS 331 rfl Tryz.func18 nm_18 rfl rfl (fun w hb hh => w_ecread_Read (Mem.snap w) x212.1 x212.2.1 x212.2.2.1 x212.2.2.2.1 x212.2.2.2.2.1 x212.2.2.2.2.2.1 x212.2.2.2.2.2.2.1 x212.2.2.2.2.2.2.2.1 x212.2.2.2.2.2.2.2.2.1 x212.2.2.2.2.2.2.2.2.2.1 A223 n224 c225 _ (sM rfl hf226 w hb hh) A72 ((([] : List Hdr) ++ rs57).length) c73 rs86 _ (RdH.sn (rO 169 rfl) w hb hh) (Rels.sn (Rels.lift (Rels.lift hq87 hm_M160) hm_M222) (hh.sat 0 _ rfl)) A81 n82 c83 _ (RdH.sn (rO 180 rfl) w hb hh) x177.fNeedle.fKey x177.fNeedle.fCookie x177.fOff (x177.fNeedle.fData.length : Int) hx227)) ?_
    rintro _ _ ⟨_, ⟨A232, n233, c234, rfl, rfl⟩, rfl⟩
    refine aq ?_
    refine dm 7 rfl rfl <| du 8 rfl (extract rfl rfl) <| du 9 rfl (extract rfl rfl) <| on 11 <| ds 335 rfl agg_55 rfl rfl rfl <| du 12 rfl (Yld.assign rfl) <| dd <| k211 _ _ <| sr fun _ k250 => mv rfl <| ya (neqI rfl rfl) <| mv rfl <| spn h bne_eq_false_iff_eq.2 bne_iff_ne.2 (fun hc251 h => ?_) fun hc251 h => ?_
    ·obtain ⟨x252, hx252, h⟩ := bnd h
     refine yg (loadBM (k := 335) agg_55 rfl rfl rfl) <| yg (fieldAddr Tryz.underlying57 rfl nz_55 rfl rfl) <| yg (loadBP (k := 281) (us := [U64 x177.fNeedle.fKey, U32 x177.fNeedle.fCookie, .bool x177.fNeedle.fDeleted, .slice r_178_0.A r_178_0.n r_178_0.c]) agg_55 rfl rfl rfl rfl) <| c0g Tryz.func19 rfl (fun w hb hh => w_r06_Same (Mem.snap w) x227.1 x227.2.1 x227.2.2.1 A232 n233 c234 _ (RdH.sn (rO 331 rfl) w hb hh) x177.fNeedle.fKey x177.fNeedle.fCookie x177.fNeedle.fDeleted r_178_0.A r_178_0.n r_178_0.c _ (RdH.sn (mM rfl (SlRc.lift hq180_0 hm_M222)) w hb hh) hx252) <| yg (notB rfl) <| pf rfl rfl <| dz k250 <| cnn h rfl not_f (fun q => not_t (Bool.eq_false_iff.2 q)) (fun hc254 h => ?_) fun hc254 h => ?_
     ·exact WC.skip <| bn <| tn <| kw (k175 M222 ⟨h, hm_M222⟩)
     refine sr fun _ k255 => ak rfl k255 <| re <| br <| tr <| tr <| br <| tr ?_
     obtain rfl := si h
     exact rt [] (ResIs.one rfl rfl) (Ext.trans (Ext.trans (Ext.trans hm_M41 hm_M84) hm_M160) hm_M222) ⟨rfl, rfl⟩
    refine sk <| sk <| sk <| sk <| sk <| pt rfl rfl <| dz k250 <| cdT rfl <| sr fun _ k256 => ak rfl k256 <| re <| br <| tr <| tr <| br <| tr ?_
    obtain rfl := si h
    exact rt [] (ResIs.one rfl rfl) (Ext.trans (Ext.trans (Ext.trans hm_M41 hm_M84) hm_M160) hm_M222) ⟨rfl, rfl⟩
   rintro M174 ⟨h, hm_M174⟩
   unfold m_law18_EcreadDamage_j8 at h
   refine rg fun _ k257 => bd h fun x258 hx258 h => ya (addC rfl rfl hx258) <| mv rfl <| dz k257 <| tn <| kw (k170 ⟨M174, A161, n162, c163, x164, x258⟩ ⟨h, (Ext.trans hm_M160 hm_M174), (SlRc.lift hf165 hm_M174)⟩)
  exact xi <| te <| te <| bx <| tn <| kw (k156 M160 ⟨h, hm_M160⟩)
 rintro M155 ⟨h, hm_M155⟩
 unfold m_law18_EcreadDamage_j6 at h
 refine sr fun _ k259 => bd h fun x260 hx260 h => c0 Tryz.func9 rfl (fun w hb hh => w_law18_awake (Mem.snap w) hx260) <| ak rfl k259 <| re ?_
 obtain rfl := si h
 exact rt [] (ResIs.one rfl rfl) (Ext.trans (Ext.trans hm_M41 hm_M84) hm_M155) ⟨rfl, rfl⟩
end Go.Proofs.YtcncappgheopgaaGreat
