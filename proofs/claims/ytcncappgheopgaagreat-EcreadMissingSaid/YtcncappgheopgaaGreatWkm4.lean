/-
 Walks (m4): what a function's model gives, the function returns. Printed by a program of ours (vcm.py) from the function's operations. Conditions: as each theorem says.
-/
import Derived.Test.YtcncappgheopgaaGreatWkl
import Derived.Test.YtcncappgheopgaaGreatMdm4
namespace Go.Proofs.YtcncappgheopgaaGreat
open Go Go.RowKit
set_option linter.unusedVariables false
theorem agg_57 : Agg Tryz.prog 57 5 := ⟨⟨_, Tryz.underlying57, rfl⟩, by kernel_rfl⟩
theorem nm_10 : (Tryz.f10.name == "runtime.NumGoroutine") = false := by kernel_rfl
theorem nm_13 : (Tryz.f13.name == "runtime.NumGoroutine") = false := by kernel_rfl
theorem nz_29 : (Tryz.prog.info? 29).map (fun i => decide (i.size = 0)) = some false := by kernel_rfl
theorem nz_36 : (Tryz.prog.info? 36).map (fun i => decide (i.size = 0)) = some false := by kernel_rfl
theorem scal_36 : scal Tryz.prog 36 = true := by kernel_rfl
theorem zr_57 : (Tryz.prog.info? 57).map (fun i => i.zero.map (·.cells)) = some (some ([I64 (0 : Int), U64 0#64, U32 0#32, .bool false, .slice none 0 0] : List Value).toArray) := by kernel_rfl
set_option maxRecDepth 10000 in
theorem w_law18_EcreadMissing (M0 : Mem) (A00 : Option Addr) (n00 c00 : Nat) (rs00 : List Rapi_Needle) (x00 : List (Sapi_Needle)) (hf00 : SlT M0 A00 n00 c00 rs00) (hq00 : Rels (rel_api_Needle M0) rs00 x00) (x01 : Int) {res : Bool} (h : m_law18_EcreadMissing x00 x01 = some res) :
  Fn Tryz.prog 6 #[.slice A00 n00 c00, I64 x01] M0 fun r M' es => r = .bool res ∧ es = [] := by
 refine Fn.intro (N := 148) Tryz.func6 rfl rfl (Nat.le_of_ble_eq_true rfl) fun w0 => ?_
 unfold m_law18_EcreadMissing at h
 refine sr fun _ k1 => asn rfl <| dn <| k1 _ _ <| sr fun _ k2 => ?_
 obtain ⟨x3, hx3, h⟩ := bnd h
 refine mv rfl <| WL.eff (by decide) (Eff.callM 121 rfl Tryz.func10 nm_10 rfl rfl rfl (w_law18_made _ A00 n00 c00 rs00 _ hf00 hq00 hx3)) ?_
 rintro _ _ ⟨M41, _, ⟨A42, n43, c44, A46, n47, c48, rs49, A51, n52, c53, A54, n55, c56, rs57, rfl, rfl, hf45, hq50, hq58⟩, hm_M41, rfl⟩
 refine al 159 zr_38 fun g59 => sb 159 agg_38 rfl rfl rfl <| dn <| k2 _ _ <| sr fun _ k60 => ?_
 obtain ⟨x62, hx62, h⟩ := bnd h
 refine WL.eff (by decide) (Eff.makeC 161 false sty_30 rfl rfl rfl rfl rfl rfl hx62) ?_
 rintro _ _ ⟨g61, rfl, rfl⟩
 refine asn rfl <| dn <| k60 _ _ <| sr fun _ k63 => asn rfl <| dn <| k63 _ _ <| ct (σ := (List (Bool)) × Int) (fun ⟨x64, x65⟩ => [(5, .pointer (some ⟨g59, 0, none⟩)), (6, .slice (some ⟨g61, 0, none⟩) x62.length x62.length), (7, I64 x65)]) (fun ⟨x64, x65⟩ => [(0, .mem M41), (121, .own 57 (Lay.sz Rneedlestoreref09_Record) A46 n47 c48 (cel rs49)), (122, .own 59 (Lay.sz Sapi_Item) A51 n52 c53 (cel x3.2.2.2.2.2.2.2.2.2.2.2.2.1)), (123, .own 35 (Lay.sz Hdr) A54 n55 c56 (cel rs57)), (159, .blk g59 38 [.slice A42 n43 c44, .slice A46 n47 c48, I64 x3.2.2.1, I64 x3.2.2.2.1, I64 x3.2.2.2.2.1, I64 x3.2.2.2.2.2.1, U32 x3.2.2.2.2.2.2.1, U32 x3.2.2.2.2.2.2.2.1, U32 x3.2.2.2.2.2.2.2.2.1, U32 x3.2.2.2.2.2.2.2.2.2.1, U32 x3.2.2.2.2.2.2.2.2.2.2.1, U32 x3.2.2.2.2.2.2.2.2.2.2.2.1, .slice A51 n52 c53, .slice A54 n55 c56]), (161, .own 4 (Lay.sz Bool) (some ⟨g61, 0, none⟩) x62.length x62.length (cel x64))]) (fun ⟨x64, x65⟩ => m_law18_EcreadMissing_j0 x3 x64 x65 = some res) (fun _ k66 => ?_) ?_
 ·
  refine sr fun _ k67 => mv rfl <| ya (Yld.lenC (xs := x62) und_30 rfl (RdH.own (k := 161) rfl)) <| mv rfl <| dn <| k67 _ _ <| bl <| lp (τ := (List (Bool)) × Int × Int) (fun ⟨x68, x69, x70⟩ => [(1, I64 x01), (5, .pointer (some ⟨g59, 0, none⟩)), (6, .slice (some ⟨g61, 0, none⟩) x62.length x62.length), (7, I64 x69), (26, I64 (x62.length : Int)), (27, I64 x70)]) (fun ⟨x68, x69, x70⟩ => [(0, .mem M41), (121, .own 57 (Lay.sz Rneedlestoreref09_Record) A46 n47 c48 (cel rs49)), (122, .own 59 (Lay.sz Sapi_Item) A51 n52 c53 (cel x3.2.2.2.2.2.2.2.2.2.2.2.2.1)), (123, .own 35 (Lay.sz Hdr) A54 n55 c56 (cel rs57)), (159, .blk g59 38 [.slice A42 n43 c44, .slice A46 n47 c48, I64 x3.2.2.1, I64 x3.2.2.2.1, I64 x3.2.2.2.2.1, I64 x3.2.2.2.2.2.1, U32 x3.2.2.2.2.2.2.1, U32 x3.2.2.2.2.2.2.2.1, U32 x3.2.2.2.2.2.2.2.2.1, U32 x3.2.2.2.2.2.2.2.2.2.1, U32 x3.2.2.2.2.2.2.2.2.2.2.1, U32 x3.2.2.2.2.2.2.2.2.2.2.2.1, .slice A51 n52 c53, .slice A54 n55 c56]), (161, .own 4 (Lay.sz Bool) (some ⟨g61, 0, none⟩) x62.length x62.length (cel x68))]) (fun q71 ⟨x68, x69, x70⟩ => m_law18_EcreadMissing_l1 x01 x3 x62 q71 x68 x69 x70 = some res) ⟨x62, (0 : Int), (0 : Int)⟩ ?_ (by simp [m_law18_EcreadMissing_l1]) ?_
  ·
   exact h
  rintro q71 ⟨x68, x69, x70⟩ h _ k72
  unfold m_law18_EcreadMissing_l1 at h
  refine sr fun _ k73 => ya (Yld.lss rfl rfl) <| dn <| k73 _ _ <| sq fun _ k74 => cnd h rfl decide_eq_true decide_eq_false (fun hc75 h => ?_) fun hc75 h => ?_
  ·
   refine ss <| k74 _ _ <| sq fun _ k76 => bl <| sr fun _ k77 => mv rfl <| asn rfl <| dn <| k77 _ _ <| sr fun _ k78 => ?_
   obtain ⟨x79, hx79, h⟩ := bnd h
   obtain ⟨x80, hx80, h⟩ := bnd h
   obtain ⟨x81, hx81, h⟩ := bnd h
   refine mv rfl <| mv rfl <| mv rfl <| mv rfl <| ya (Yld.conv_i64_u64 some_3 und_66 rfl) <| ya (Yld.shrC rfl rfl hx79) <| ya (Yld.andC rfl rfl) <| ya (Yld.eqlI rfl rfl) <| ya (Yld.idxC (xs := x68) sty_30 rfl rfl (RdH.own (k := 161) rfl) hx80) <| WL.eff0 (Eff0.storeC1 161 (xs := x68) (a' := ((andi x79 (1 : Int)) == (1 : Int))) siz_4 rfl rfl rfl rfl rfl rfl hx81) <| dn <| k78 _ _ <| sr fun _ k82 => ?_
   obtain ⟨x83, hx83, h⟩ := bnd h
   refine mv rfl <| mv rfl <| ya (Yld.idxC (xs := x81) sty_30 rfl rfl (RdH.own (k := 161) rfl) hx83) <| ya (Yld.loadC0 (xs := x81) scal_4 rfl (RdH.own (k := 161) rfl) hx83 rfl) <| dn <| k82 _ _ <| cnd h rfl id Bool.eq_false_iff.2 (fun hc84 h => ?_) fun hc84 h => ?_
   ·
    refine rg fun _ k85 => ?_
    obtain ⟨x86, hx86, h⟩ := bnd h
    refine mv rfl <| ya (Yld.addC rfl rfl hx86) <| asn rfl <| dn <| k85 _ _ <| bn <| tn <| k76 _ _ <| rg fun _ k87 => ?_
    obtain ⟨x88, hx88, h⟩ := bnd h
    exact ya (Yld.addC rfl rfl hx88) <| mv rfl <| dn <| k87 _ _ <| tn <| kw (k72 ⟨x81, x86, x88⟩ h)
   refine WC.skip <| bn <| tn <| k76 _ _ <| rg fun _ k89 => ?_
   obtain ⟨x90, hx90, h⟩ := bnd h
   exact ya (Yld.addC rfl rfl hx90) <| mv rfl <| dn <| k89 _ _ <| tn <| kw (k72 ⟨x81, x69, x90⟩ h)
  exact xi <| te <| te <| bx <| tn <| kw (k66 ⟨x68, x69⟩ h)
 rintro ⟨x64, x65⟩ h
 unfold m_law18_EcreadMissing_j0 at h
 refine ct (σ := Mem) (fun M91 => []) (fun M91 => [(0, .mem M91)]) (fun M91 => m_law18_EcreadMissing_j2 = some res ∧ Ext w0.heap.size M41 M91) (fun _ k92 => ?_) ?_
 ·
  refine sr fun _ k93 => ya (Yld.fieldAddr Tryz.underlying38 rfl nz_36 rfl rfl) <| ya (Yld.loadB (k := 159) scal_36 rfl rfl rfl) <| ya (Yld.lenD (rs := rs49) (xs := x3.2.1) (Rels.len hq50) und_36 rfl (RdH.own (k := 121) rfl)) <| mv rfl <| dn <| k93 _ _ <| bl <| WC.freeze 122 rfl rfl rfl fun M104 hm_M104 hf105 => lp (τ := Mem × (Option Addr) × Nat × Nat × (List (Sapi_Item)) × Int) (fun ⟨M96, A97, n98, c99, x100, x102⟩ => [(5, .pointer (some ⟨g59, 0, none⟩)), (6, .slice (some ⟨g61, 0, none⟩) x62.length x62.length), (7, I64 x65), (47, .slice A46 n47 c48), (48, I64 (x3.2.1.length : Int)), (49, I64 x102)]) (fun ⟨M96, A97, n98, c99, x100, x102⟩ => [(0, .mem M96), (121, .own 57 (Lay.sz Rneedlestoreref09_Record) A46 n47 c48 (cel rs49)), (123, .own 35 (Lay.sz Hdr) A54 n55 c56 (cel rs57)), (159, .blk g59 38 [.slice A42 n43 c44, .slice A46 n47 c48, I64 x3.2.2.1, I64 x3.2.2.2.1, I64 x3.2.2.2.2.1, I64 x3.2.2.2.2.2.1, U32 x3.2.2.2.2.2.2.1, U32 x3.2.2.2.2.2.2.2.1, U32 x3.2.2.2.2.2.2.2.2.1, U32 x3.2.2.2.2.2.2.2.2.2.1, U32 x3.2.2.2.2.2.2.2.2.2.2.1, U32 x3.2.2.2.2.2.2.2.2.2.2.2.1, .slice A97 n98 c99, .slice A54 n55 c56]), (161, .own 4 (Lay.sz Bool) (some ⟨g61, 0, none⟩) x62.length x62.length (cel x64))]) (fun q103 ⟨M96, A97, n98, c99, x100, x102⟩ => m_law18_EcreadMissing_l3 x3 x64 x65 q103 x100 x102 = some res ∧ Ext w0.heap.size M41 M96 ∧ SlT M96 A97 n98 c99 x100) ⟨M104, A51, n52, c53, x3.2.2.2.2.2.2.2.2.2.2.2.2.1, (0 : Int)⟩ ?_ (by simp [m_law18_EcreadMissing_l3]) ?_
  ·
   exact ⟨h, hm_M104, hf105⟩
  rintro q103 ⟨M96, A97, n98, c99, x100, x102⟩ ⟨h, hm_M96, hf101⟩ _ k106
  unfold m_law18_EcreadMissing_l3 at h
  refine sr fun _ k107 => ya (Yld.lss rfl rfl) <| dn <| k107 _ _ <| sq fun _ k108 => cnd h rfl decide_eq_true decide_eq_false (fun hc109 h => ?_) fun hc109 h => ?_
  ·
   refine ss <| k108 _ _ <| ct (σ := Mem) (fun M110 => [(5, .pointer (some ⟨g59, 0, none⟩)), (6, .slice (some ⟨g61, 0, none⟩) x62.length x62.length), (7, I64 x65), (47, .slice A46 n47 c48), (48, I64 (x3.2.1.length : Int)), (49, I64 x102)]) (fun M110 => [(0, .mem M110), (121, .own 57 (Lay.sz Rneedlestoreref09_Record) A46 n47 c48 (cel rs49)), (123, .own 35 (Lay.sz Hdr) A54 n55 c56 (cel rs57)), (159, .blk g59 38 [.slice A42 n43 c44, .slice A46 n47 c48, I64 x3.2.2.1, I64 x3.2.2.2.1, I64 x3.2.2.2.2.1, I64 x3.2.2.2.2.2.1, U32 x3.2.2.2.2.2.2.1, U32 x3.2.2.2.2.2.2.2.1, U32 x3.2.2.2.2.2.2.2.2.1, U32 x3.2.2.2.2.2.2.2.2.2.1, U32 x3.2.2.2.2.2.2.2.2.2.2.1, U32 x3.2.2.2.2.2.2.2.2.2.2.2.1, .slice A97 n98 c99, .slice A54 n55 c56]), (161, .own 4 (Lay.sz Bool) (some ⟨g61, 0, none⟩) x62.length x62.length (cel x64))]) (fun M110 => m_law18_EcreadMissing_j4 x100 x102 (m_law18_EcreadMissing_l3 x3 x64 x65 q103) = some res ∧ Ext w0.heap.size M96 M110) (fun _ k111 => ?_) ?_
   ·
    refine bl <| sr fun _ k112 => ?_
    obtain ⟨x113, hx113, h⟩ := bnd h
    obtain ⟨⟨_, r_114_0⟩, hr115, rfl, hq116_0⟩ := Rels.idx (Rels.lift hq50 hm_M96) hx113
    refine ya (Yld.idxC (xs := rs49) sty_36 rfl rfl (RdH.own (k := 121) rfl) hr115) <| ya (Yld.loadA (xs := rs49) agg_57 rfl (RdH.own (k := 121) rfl) hr115 rfl) <| al 217 zr_57 fun g117 => sb 217 agg_57 rfl rfl rfl <| dn <| k112 _ _ <| sr fun _ k118 => ya (Yld.fieldAddr Tryz.underlying57 rfl nz_55 rfl rfl) <| ya (Yld.fieldAddr Tryz.underlying55 rfl nz_53 rfl rfl) <| ya (Yld.loadB (k := 217) scal_53 rfl rfl rfl) <| ya (Yld.fieldAddr Tryz.underlying57 rfl nz_55 rfl rfl) <| ya (Yld.fieldAddr Tryz.underlying55 rfl nz_24 rfl rfl) <| ya (Yld.loadB (k := 217) scal_24 rfl rfl rfl) <| ya (Yld.fieldAddr Tryz.underlying57 rfl nz_2 rfl rfl) <| ya (Yld.loadB (k := 217) scal_2 rfl rfl rfl) <| ya (Yld.fieldAddr Tryz.underlying57 rfl nz_55 rfl rfl) <| ya (Yld.fieldAddr Tryz.underlying55 rfl nz_35 rfl rfl) <| ya (Yld.loadB (k := 217) scal_35 rfl rfl rfl) <| ya (Yld.lenC (xs := x113.fNeedle.fData) und_35 rfl (RdH.memM (k := 0) rfl hq116_0)) <| ya (Yld.build rfl (bu_59_0_1_2_3 x113.fNeedle.fKey x113.fNeedle.fCookie x113.fOff (x113.fNeedle.fData.length : Int))) <| al 219 zr_59 fun g119 => sb 219 agg_59 rfl rfl rfl <| dn <| k118 _ _ <| sr fun _ k120 => asn rfl <| dn <| k120 _ _ <| ct (σ := Bool) (fun x121 => [(5, .pointer (some ⟨g59, 0, none⟩)), (6, .slice (some ⟨g61, 0, none⟩) x62.length x62.length), (7, I64 x65), (10, .pointer (some ⟨g117, 0, none⟩)), (11, .pointer (some ⟨g119, 0, none⟩)), (12, .bool x121), (47, .slice A46 n47 c48), (48, I64 (x3.2.1.length : Int)), (49, I64 x102)]) (fun x121 => [(0, .mem M96), (121, .own 57 (Lay.sz Rneedlestoreref09_Record) A46 n47 c48 (cel rs49)), (123, .own 35 (Lay.sz Hdr) A54 n55 c56 (cel rs57)), (159, .blk g59 38 [.slice A42 n43 c44, .slice A46 n47 c48, I64 x3.2.2.1, I64 x3.2.2.2.1, I64 x3.2.2.2.2.1, I64 x3.2.2.2.2.2.1, U32 x3.2.2.2.2.2.2.1, U32 x3.2.2.2.2.2.2.2.1, U32 x3.2.2.2.2.2.2.2.2.1, U32 x3.2.2.2.2.2.2.2.2.2.1, U32 x3.2.2.2.2.2.2.2.2.2.2.1, U32 x3.2.2.2.2.2.2.2.2.2.2.2.1, .slice A97 n98 c99, .slice A54 n55 c56]), (161, .own 4 (Lay.sz Bool) (some ⟨g61, 0, none⟩) x62.length x62.length (cel x64)), (217, .blk g117 57 [I64 x113.fOff, U64 x113.fNeedle.fKey, U32 x113.fNeedle.fCookie, .bool x113.fNeedle.fDeleted, .slice r_114_0.A r_114_0.n r_114_0.c]), (219, .blk g119 59 [U64 x113.fNeedle.fKey, U32 x113.fNeedle.fCookie, I64 x113.fOff, I64 (x113.fNeedle.fData.length : Int)])]) (fun x121 => m_law18_EcreadMissing_j5 x3 x64 x65 x100 x102 x113 (m_law18_EcreadMissing_l3 x3 x64 x65 q103) x121 = some res) (fun _ k122 => ?_) ?_
    ·
     refine sr fun _ k123 => ya (Yld.fieldAddr Tryz.underlying38 rfl nz_28 rfl rfl) <| ya (Yld.fieldAddr Tryz.underlying28 rfl nz_26 rfl rfl) <| ya (Yld.loadB (k := 159) scal_26 rfl rfl rfl) <| ya (Yld.lenC (xs := x100) und_26 rfl (RdH.memM (k := 0) rfl hf101)) <| mv rfl <| dn <| k123 _ _ <| bl <| lp (τ := Bool × Int) (fun ⟨x124, x125⟩ => [(5, .pointer (some ⟨g59, 0, none⟩)), (6, .slice (some ⟨g61, 0, none⟩) x62.length x62.length), (7, I64 x65), (10, .pointer (some ⟨g117, 0, none⟩)), (11, .pointer (some ⟨g119, 0, none⟩)), (12, .bool x124), (47, .slice A46 n47 c48), (48, I64 (x3.2.1.length : Int)), (49, I64 x102), (68, .slice A97 n98 c99), (69, I64 (x100.length : Int)), (70, I64 x125)]) (fun ⟨x124, x125⟩ => [(0, .mem M96), (121, .own 57 (Lay.sz Rneedlestoreref09_Record) A46 n47 c48 (cel rs49)), (123, .own 35 (Lay.sz Hdr) A54 n55 c56 (cel rs57)), (159, .blk g59 38 [.slice A42 n43 c44, .slice A46 n47 c48, I64 x3.2.2.1, I64 x3.2.2.2.1, I64 x3.2.2.2.2.1, I64 x3.2.2.2.2.2.1, U32 x3.2.2.2.2.2.2.1, U32 x3.2.2.2.2.2.2.2.1, U32 x3.2.2.2.2.2.2.2.2.1, U32 x3.2.2.2.2.2.2.2.2.2.1, U32 x3.2.2.2.2.2.2.2.2.2.2.1, U32 x3.2.2.2.2.2.2.2.2.2.2.2.1, .slice A97 n98 c99, .slice A54 n55 c56]), (161, .own 4 (Lay.sz Bool) (some ⟨g61, 0, none⟩) x62.length x62.length (cel x64)), (217, .blk g117 57 [I64 x113.fOff, U64 x113.fNeedle.fKey, U32 x113.fNeedle.fCookie, .bool x113.fNeedle.fDeleted, .slice r_114_0.A r_114_0.n r_114_0.c]), (219, .blk g119 59 [U64 x113.fNeedle.fKey, U32 x113.fNeedle.fCookie, I64 x113.fOff, I64 (x113.fNeedle.fData.length : Int)])]) (fun q126 ⟨x124, x125⟩ => m_law18_EcreadMissing_l6 x3 x64 x65 x100 x102 x113 (m_law18_EcreadMissing_l3 x3 x64 x65 q103) q126 x124 x125 = some res) ⟨false, (0 : Int)⟩ ?_ (by simp [m_law18_EcreadMissing_l6]) ?_
     ·
      exact h
     rintro q126 ⟨x124, x125⟩ h _ k127
     unfold m_law18_EcreadMissing_l6 at h
     refine sr fun _ k128 => ya (Yld.lss rfl rfl) <| dn <| k128 _ _ <| sq fun _ k129 => cnd h rfl decide_eq_true decide_eq_false (fun hc130 h => ?_) fun hc130 h => ?_
     ·
      refine ss <| k129 _ _ <| sq fun _ k131 => bl <| sr fun _ k132 => ?_
      obtain ⟨x133, hx133, h⟩ := bnd h
      refine ya (Yld.idxC (xs := x100) sty_26 rfl rfl (RdH.memM (k := 0) rfl hf101) hx133) <| ya (Yld.loadA (xs := x100) agg_59 rfl (RdH.memM (k := 0) rfl hf101) hx133 rfl) <| al 234 zr_59 fun g134 => sb 234 agg_59 rfl rfl rfl <| dn <| k132 _ _ <| rg fun _ k135 => mv rfl <| mv rfl <| spl h id Bool.eq_false_iff.2 (fun hc136 h => ?_) fun hc136 h => ?_
      ·
       refine sk <| sk <| sk <| pt rfl rfl <| asn rfl <| dn <| k135 _ _ <| bn <| tn <| k131 _ _ <| rg fun _ k137 => ?_
       obtain ⟨x138, hx138, h⟩ := bnd h
       exact ya (Yld.addC rfl rfl hx138) <| mv rfl <| dn <| k137 _ _ <| tn <| kw (k127 ⟨true, x138⟩ h)
      refine yg (Yld.loadBM (k := 234) agg_59 rfl rfl rfl) <| yg (Yld.loadBM (k := 219) agg_59 rfl rfl rfl) <| yg (Yld.eqlA (zeqs_59 x133.fKey x113.fNeedle.fKey x133.fCookie x113.fNeedle.fCookie x133.fOff x113.fOff x133.fSize (x113.fNeedle.fData.length : Int)) rfl rfl) <| pf rfl rfl <| asn rfl <| dn <| k135 _ _ <| bn <| tn <| k131 _ _ <| rg fun _ k139 => ?_
      obtain ⟨x140, hx140, h⟩ := bnd h
      exact ya (Yld.addC rfl rfl hx140) <| mv rfl <| dn <| k139 _ _ <| tn <| kw (k127 ⟨(decide (x133.fKey = x113.fNeedle.fKey ∧ x133.fCookie = x113.fNeedle.fCookie ∧ x133.fOff = x113.fOff ∧ x133.fSize = (x113.fNeedle.fData.length : Int) ∧ True)), x140⟩ h)
     exact xi <| te <| te <| bx <| tn <| kw (k122 x124 h)
    rintro x121 h
    unfold m_law18_EcreadMissing_j5 at h
    refine sq fun _ k141 => sr fun _ k142 => mv rfl <| ya (Yld.notB rfl) <| dn <| k142 _ _ <| cnn h rfl not_f (fun q => not_t (Bool.eq_false_iff.2 q)) (fun hc143 h => ?_) fun hc143 h => ?_
    ·
     refine ss <| k141 _ _ <| ctd [(159, _), (161, _), (217, _), (219, _)] (σ := Mem × Nat × (BitVec 64) × (BitVec 32) × Bool × (Option Addr) × Nat × Nat × (List (BitVec 8)) × Int) (fun ⟨M144, g145, x146, x147, x148, A151, n152, c153, x154, x155⟩ => [(5, .pointer (some ⟨g59, 0, none⟩)), (6, .slice (some ⟨g61, 0, none⟩) x62.length x62.length), (7, I64 x65), (10, .pointer (some ⟨g117, 0, none⟩)), (11, .pointer (some ⟨g119, 0, none⟩)), (15, .pointer (some ⟨g145, 0, none⟩)), (16, I64 x155), (47, .slice A46 n47 c48), (48, I64 (x3.2.1.length : Int)), (49, I64 x102)]) (fun ⟨M144, g145, x146, x147, x148, A151, n152, c153, x154, x155⟩ => [(0, .mem M144), (121, .own 57 (Lay.sz Rneedlestoreref09_Record) A46 n47 c48 (cel rs49)), (123, .own 35 (Lay.sz Hdr) A54 n55 c56 (cel rs57)), (159, .blk g59 38 [.slice A42 n43 c44, .slice A46 n47 c48, I64 x3.2.2.1, I64 x3.2.2.2.1, I64 x3.2.2.2.2.1, I64 x3.2.2.2.2.2.1, U32 x3.2.2.2.2.2.2.1, U32 x3.2.2.2.2.2.2.2.1, U32 x3.2.2.2.2.2.2.2.2.1, U32 x3.2.2.2.2.2.2.2.2.2.1, U32 x3.2.2.2.2.2.2.2.2.2.2.1, U32 x3.2.2.2.2.2.2.2.2.2.2.2.1, .slice A97 n98 c99, .slice A54 n55 c56]), (161, .own 4 (Lay.sz Bool) (some ⟨g61, 0, none⟩) x62.length x62.length (cel x64)), (217, .blk g117 57 [I64 x113.fOff, U64 x113.fNeedle.fKey, U32 x113.fNeedle.fCookie, .bool x113.fNeedle.fDeleted, .slice r_114_0.A r_114_0.n r_114_0.c]), (219, .blk g119 59 [U64 x113.fNeedle.fKey, U32 x113.fNeedle.fCookie, I64 x113.fOff, I64 (x113.fNeedle.fData.length : Int)]), (245, .blk g145 55 [U64 x146, U32 x147, .bool x148, .slice A151 n152 c153]), (250, .own 5 (Lay.sz (BitVec 8)) A151 n152 c153 (cel x154))]) (fun ⟨M144, g145, x146, x147, x148, A151, n152, c153, x154, x155⟩ => m_law18_EcreadMissing_j7 x64 x65 x100 x102 x113 (m_law18_EcreadMissing_l3 x3 x64 x65 q103) x146 x147 x148 x154 x155 = some res ∧ Ext w0.heap.size M96 M144) mixed (fun _ k156 => ?_) ?_
     ·
      obtain ⟨x158, hx158, h⟩ := bnd h
      obtain ⟨x173, hx173, h⟩ := bnd h
      refine du 0 rfl (Yld.fieldAddr Tryz.underlying38 rfl nz_28 rfl rfl) <| du 1 rfl (Yld.loadBP (k := 159) (us := [I64 x3.2.2.1, I64 x3.2.2.2.1, I64 x3.2.2.2.2.1, I64 x3.2.2.2.2.2.1, U32 x3.2.2.2.2.2.2.1, U32 x3.2.2.2.2.2.2.2.1, U32 x3.2.2.2.2.2.2.2.2.1, U32 x3.2.2.2.2.2.2.2.2.2.1, U32 x3.2.2.2.2.2.2.2.2.2.2.1, U32 x3.2.2.2.2.2.2.2.2.2.2.2.1, .slice A97 n98 c99]) agg_28 rfl rfl rfl rfl) <| du 3 rfl (Yld.fieldAddr Tryz.underlying38 rfl nz_29 rfl rfl) <| du 4 rfl (Yld.loadB (k := 159) scal_29 rfl rfl rfl) <| dm 5 rfl rfl <| du 6 rfl (Yld.loadBM (k := 219) agg_59 rfl rfl rfl) <| WD.two 2 11 (by kernel_rfl) ?_ ?_
      ·
       refine WS.eff rfl (by decide) (Eff.callM 263 rfl Tryz.func13 nm_13 rfl rfl rfl (w_law18_given _ x3.2.2.1 x3.2.2.2.1 x3.2.2.2.2.1 x3.2.2.2.2.2.1 x3.2.2.2.2.2.2.1 x3.2.2.2.2.2.2.2.1 x3.2.2.2.2.2.2.2.2.1 x3.2.2.2.2.2.2.2.2.2.1 x3.2.2.2.2.2.2.2.2.2.2.1 x3.2.2.2.2.2.2.2.2.2.2.2.1 A97 n98 c99 _ hf101 hx158)) ?_
       rintro _ _ ⟨M168, _, ⟨A169, n170, c171, rfl, rfl, hf172⟩, hm_M168, rfl⟩
       refine ad ?_ (by repeat (first | exact sn | refine sc ?_))
       refine WD.two 7 11 (by kernel_rfl) ?_ ?_
       ·
        refine WS.eff rfl (by decide) (Eff.callS 277 rfl Tryz.func18 nm_18 rfl rfl (fun w hb hh => w_ecread_Read (Mem.snap w) x158.1 x158.2.1 x158.2.2.1 x158.2.2.2.1 x158.2.2.2.2.1 x158.2.2.2.2.2.1 x158.2.2.2.2.2.2.1 x158.2.2.2.2.2.2.2.1 x158.2.2.2.2.2.2.2.2.1 x158.2.2.2.2.2.2.2.2.2.1 A169 n170 c171 _ (RdH.sn (RdH.memM (k := 0) rfl hf172) w hb hh) A54 n55 c56 rs57 _ (RdH.sn (RdH.own (k := 123) rfl) w hb hh) (Rels.sn (Rels.lift (Rels.lift hq58 hm_M96) hm_M168) (hh.sat 0 _ rfl)) (some ⟨g61, 0, none⟩) x62.length x62.length _ (RdH.sn (RdH.own (k := 161) rfl) w hb hh) x113.fNeedle.fKey x113.fNeedle.fCookie x113.fOff (x113.fNeedle.fData.length : Int) hx173)) ?_
        rintro _ _ ⟨_, ⟨A178, n179, c180, rfl, rfl⟩, rfl⟩
        refine ad ?_ (by repeat (first | exact sn | refine sc ?_))
        refine dm 8 rfl rfl <| du 9 rfl (Yld.extract rfl rfl) <| du 10 rfl (Yld.extract rfl rfl) <| on 11 <| WS.eff rfl (by decide) (Eff.alloc 281 rfl zr_55) ?_
        rintro _ _ ⟨g181, rfl, rfl⟩
        refine ad ?_ (by repeat (first | exact sn | refine sc ?_))
        exact on 12 <| ds 281 rfl agg_55 rfl rfl rfl <| du 13 rfl (Yld.assign rfl) <| WD.done (by kernel_rfl) <| KK.move 281 245 rfl rfl <| KK.move 277 250 rfl rfl <| kw (k156 ⟨M168, g181, x173.1, x173.2.1, x173.2.2.1, A178, n179, c180, x173.2.2.2.1, x173.2.2.2.2⟩ ⟨h, hm_M168⟩)
       skip
       refine WS.eff rfl (by decide) (Eff.alloc 281 rfl zr_55) ?_
       rintro _ _ ⟨g181, rfl, rfl⟩
       refine ad ?_ (by repeat (first | exact sn | refine sc ?_))
       refine on 7 <| WS.eff rfl (by decide) (Eff.callS 277 rfl Tryz.func18 nm_18 rfl rfl (fun w hb hh => w_ecread_Read (Mem.snap w) x158.1 x158.2.1 x158.2.2.1 x158.2.2.2.1 x158.2.2.2.2.1 x158.2.2.2.2.2.1 x158.2.2.2.2.2.2.1 x158.2.2.2.2.2.2.2.1 x158.2.2.2.2.2.2.2.2.1 x158.2.2.2.2.2.2.2.2.2.1 A169 n170 c171 _ (RdH.sn (RdH.memM (k := 0) rfl hf172) w hb hh) A54 n55 c56 rs57 _ (RdH.sn (RdH.own (k := 123) rfl) w hb hh) (Rels.sn (Rels.lift (Rels.lift hq58 hm_M96) hm_M168) (hh.sat 0 _ rfl)) (some ⟨g61, 0, none⟩) x62.length x62.length _ (RdH.sn (RdH.own (k := 161) rfl) w hb hh) x113.fNeedle.fKey x113.fNeedle.fCookie x113.fOff (x113.fNeedle.fData.length : Int) hx173)) ?_
       rintro _ _ ⟨_, ⟨A178, n179, c180, rfl, rfl⟩, rfl⟩
       refine ad ?_ (by repeat (first | exact sn | refine sc ?_))
       exact dm 8 rfl rfl <| du 9 rfl (Yld.extract rfl rfl) <| du 10 rfl (Yld.extract rfl rfl) <| on 12 <| ds 281 rfl agg_55 rfl rfl rfl <| du 13 rfl (Yld.assign rfl) <| WD.done (by kernel_rfl) <| KK.move 281 245 rfl rfl <| KK.move 277 250 rfl rfl <| kw (k156 ⟨M168, g181, x173.1, x173.2.1, x173.2.2.1, A178, n179, c180, x173.2.2.2.1, x173.2.2.2.2⟩ ⟨h, hm_M168⟩)
      skip
      refine WS.eff rfl (by decide) (Eff.alloc 281 rfl zr_55) ?_
      rintro _ _ ⟨g181, rfl, rfl⟩
      refine ad ?_ (by repeat (first | exact sn | refine sc ?_))
      refine on 2 <| WS.eff rfl (by decide) (Eff.callM 263 rfl Tryz.func13 nm_13 rfl rfl rfl (w_law18_given _ x3.2.2.1 x3.2.2.2.1 x3.2.2.2.2.1 x3.2.2.2.2.2.1 x3.2.2.2.2.2.2.1 x3.2.2.2.2.2.2.2.1 x3.2.2.2.2.2.2.2.2.1 x3.2.2.2.2.2.2.2.2.2.1 x3.2.2.2.2.2.2.2.2.2.2.1 x3.2.2.2.2.2.2.2.2.2.2.2.1 A97 n98 c99 _ hf101 hx158)) ?_
      rintro _ _ ⟨M168, _, ⟨A169, n170, c171, rfl, rfl, hf172⟩, hm_M168, rfl⟩
      refine ad ?_ (by repeat (first | exact sn | refine sc ?_))
      refine on 7 <| WS.eff rfl (by decide) (Eff.callS 277 rfl Tryz.func18 nm_18 rfl rfl (fun w hb hh => w_ecread_Read (Mem.snap w) x158.1 x158.2.1 x158.2.2.1 x158.2.2.2.1 x158.2.2.2.2.1 x158.2.2.2.2.2.1 x158.2.2.2.2.2.2.1 x158.2.2.2.2.2.2.2.1 x158.2.2.2.2.2.2.2.2.1 x158.2.2.2.2.2.2.2.2.2.1 A169 n170 c171 _ (RdH.sn (RdH.memM (k := 0) rfl hf172) w hb hh) A54 n55 c56 rs57 _ (RdH.sn (RdH.own (k := 123) rfl) w hb hh) (Rels.sn (Rels.lift (Rels.lift hq58 hm_M96) hm_M168) (hh.sat 0 _ rfl)) (some ⟨g61, 0, none⟩) x62.length x62.length _ (RdH.sn (RdH.own (k := 161) rfl) w hb hh) x113.fNeedle.fKey x113.fNeedle.fCookie x113.fOff (x113.fNeedle.fData.length : Int) hx173)) ?_
      rintro _ _ ⟨_, ⟨A178, n179, c180, rfl, rfl⟩, rfl⟩
      refine ad ?_ (by repeat (first | exact sn | refine sc ?_))
      exact dm 8 rfl rfl <| du 9 rfl (Yld.extract rfl rfl) <| du 10 rfl (Yld.extract rfl rfl) <| on 12 <| ds 281 rfl agg_55 rfl rfl rfl <| du 13 rfl (Yld.assign rfl) <| WD.done (by kernel_rfl) <| KK.move 281 245 rfl rfl <| KK.move 277 250 rfl rfl <| kw (k156 ⟨M168, g181, x173.1, x173.2.1, x173.2.2.1, A178, n179, c180, x173.2.2.2.1, x173.2.2.2.2⟩ ⟨h, hm_M168⟩)
     rintro ⟨M144, g145, x146, x147, x148, A151, n152, c153, x154, x155⟩ ⟨h, hm_M144⟩
     unfold m_law18_EcreadMissing_j7 at h
     refine sq fun _ k182 => sr fun _ k183 => mv rfl <| ya (Yld.eqlI rfl rfl) <| dn <| k183 _ _ <| cnd h rfl beq_iff_eq.2 beq_eq_false_iff_ne.2 (fun hc184 h => ?_) fun hc184 h => ?_
     ·
      refine sq fun _ k185 => sr fun _ k186 => ?_
      obtain ⟨x187, hx187, h⟩ := bnd h
      refine ya (Yld.loadBM (k := 245) agg_55 rfl rfl rfl) <| ya (Yld.fieldAddr Tryz.underlying57 rfl nz_55 rfl rfl) <| ya (Yld.loadBP (k := 217) (us := [U64 x113.fNeedle.fKey, U32 x113.fNeedle.fCookie, .bool x113.fNeedle.fDeleted, .slice r_114_0.A r_114_0.n r_114_0.c]) agg_55 rfl rfl rfl rfl) <| c0 Tryz.func19 rfl (fun w hb hh => w_r06_Same (Mem.snap w) x146 x147 x148 A151 n152 c153 _ (RdH.sn (RdH.own (k := 250) rfl) w hb hh) x113.fNeedle.fKey x113.fNeedle.fCookie x113.fNeedle.fDeleted r_114_0.A r_114_0.n r_114_0.c _ (RdH.sn (RdH.memM (k := 0) rfl (SlRc.lift hq116_0 hm_M144)) w hb hh) hx187) <| ya (Yld.notB rfl) <| dn <| k186 _ _ <| cnn h rfl not_f (fun q => not_t (Bool.eq_false_iff.2 q)) (fun hc189 h => ?_) fun hc189 h => ?_
      ·
       exact ss <| k185 _ _ <| xi <| te <| bx <| tn <| kw (k111 M144 ⟨h, hm_M144⟩)
      refine sr fun _ k190 => asn rfl <| dn <| k190 _ _ <| re <| tr <| tr <| br <| tr <| tr <| br <| tr ?_
      injection h with h; subst h
      exact rt [] (ResIs.one rfl rfl) (Ext.trans (Ext.trans hm_M41 hm_M96) hm_M144) ⟨rfl, rfl⟩
     refine ss <| k182 _ _ <| sd [(0, _), (121, _), (123, _), (159, _), (161, _), (217, _), (219, _), (245, _), (250, _)] mixed fun _ k191 => ?_
     obtain ⟨x192, hx192, h⟩ := bnd h
     obtain ⟨x194, hx194, h⟩ := bnd h
     refine du 0 rfl (Yld.fieldAddr Tryz.underlying59 rfl nz_2 rfl rfl) <| du 1 rfl (Yld.loadB (k := 219) scal_2 rfl rfl rfl) <| du 2 rfl (Yld.fieldAddr Tryz.underlying59 rfl nz_3 rfl rfl) <| du 3 rfl (Yld.loadB (k := 219) scal_3 rfl rfl rfl) <| on 4 <| d0 rfl Tryz.func21 rfl (fun w hb hh => w_needle_Size (Mem.snap w) (x113.fNeedle.fData.length : Int) hx192) <| on 5 <| WS.eff rfl (by decide) (Eff.callS 298 rfl Tryz.func20 nm_20 rfl rfl (fun w hb hh => w_stripe_Pieces (Mem.snap w) x113.fOff x192 hx194)) ?_
     rintro _ _ ⟨_, ⟨A199, n200, c201, rfl, rfl⟩, rfl⟩
     refine ad ?_ (by repeat (first | exact sn | refine sc ?_))
     refine dm 6 rfl rfl <| du 7 rfl (Yld.extract rfl rfl) <| du 8 rfl (Yld.extract rfl rfl) <| du 9 rfl (Yld.assign rfl) <| du 10 rfl (Yld.assign rfl) <| dd <| k191 _ _ <| sr fun _ k202 => mv rfl <| ya (Yld.eqlI rfl rfl) <| asn rfl <| dn <| k202 _ _ <| ct (σ := Bool) (fun x203 => [(5, .pointer (some ⟨g59, 0, none⟩)), (6, .slice (some ⟨g61, 0, none⟩) x62.length x62.length), (7, I64 x65), (16, I64 x155), (19, .bool x203), (47, .slice A46 n47 c48), (48, I64 (x3.2.1.length : Int)), (49, I64 x102)]) (fun x203 => [(0, .mem M144), (121, .own 57 (Lay.sz Rneedlestoreref09_Record) A46 n47 c48 (cel rs49)), (123, .own 35 (Lay.sz Hdr) A54 n55 c56 (cel rs57)), (159, .blk g59 38 [.slice A42 n43 c44, .slice A46 n47 c48, I64 x3.2.2.1, I64 x3.2.2.2.1, I64 x3.2.2.2.2.1, I64 x3.2.2.2.2.2.1, U32 x3.2.2.2.2.2.2.1, U32 x3.2.2.2.2.2.2.2.1, U32 x3.2.2.2.2.2.2.2.2.1, U32 x3.2.2.2.2.2.2.2.2.2.1, U32 x3.2.2.2.2.2.2.2.2.2.2.1, U32 x3.2.2.2.2.2.2.2.2.2.2.2.1, .slice A97 n98 c99, .slice A54 n55 c56]), (161, .own 4 (Lay.sz Bool) (some ⟨g61, 0, none⟩) x62.length x62.length (cel x64))]) (fun x203 => m_law18_EcreadMissing_j8 x65 x100 x102 x155 (m_law18_EcreadMissing_l3 x3 x64 x65 q103) x203 = some res) (fun _ k204 => ?_) ?_
     ·
      refine sr fun _ k205 => mv rfl <| ya (Yld.lenC (xs := x194.1) und_67 rfl (RdH.own (k := 298) rfl)) <| mv rfl <| dn <| k205 _ _ <| bl <| lp (τ := Bool × Int) (fun ⟨x206, x207⟩ => [(5, .pointer (some ⟨g59, 0, none⟩)), (6, .slice (some ⟨g61, 0, none⟩) x62.length x62.length), (7, I64 x65), (16, I64 x155), (19, .bool x206), (47, .slice A46 n47 c48), (48, I64 (x3.2.1.length : Int)), (49, I64 x102), (112, .slice A199 n200 c201), (113, I64 (x194.1.length : Int)), (114, I64 x207)]) (fun ⟨x206, x207⟩ => [(0, .mem M144), (121, .own 57 (Lay.sz Rneedlestoreref09_Record) A46 n47 c48 (cel rs49)), (123, .own 35 (Lay.sz Hdr) A54 n55 c56 (cel rs57)), (159, .blk g59 38 [.slice A42 n43 c44, .slice A46 n47 c48, I64 x3.2.2.1, I64 x3.2.2.2.1, I64 x3.2.2.2.2.1, I64 x3.2.2.2.2.2.1, U32 x3.2.2.2.2.2.2.1, U32 x3.2.2.2.2.2.2.2.1, U32 x3.2.2.2.2.2.2.2.2.1, U32 x3.2.2.2.2.2.2.2.2.2.1, U32 x3.2.2.2.2.2.2.2.2.2.2.1, U32 x3.2.2.2.2.2.2.2.2.2.2.2.1, .slice A97 n98 c99, .slice A54 n55 c56]), (161, .own 4 (Lay.sz Bool) (some ⟨g61, 0, none⟩) x62.length x62.length (cel x64)), (298, .own 72 (Lay.sz Sstripe_Piece) A199 n200 c201 (cel x194.1))]) (fun q208 ⟨x206, x207⟩ => m_law18_EcreadMissing_l9 x64 x65 x100 x102 x155 x194 (m_law18_EcreadMissing_l3 x3 x64 x65 q103) q208 x206 x207 = some res) ⟨(x194.2 == (0 : Int)), (0 : Int)⟩ ?_ (by simp [m_law18_EcreadMissing_l9]) ?_
      ·
       exact h
      rintro q208 ⟨x206, x207⟩ h _ k209
      unfold m_law18_EcreadMissing_l9 at h
      refine sr fun _ k210 => ya (Yld.lss rfl rfl) <| dn <| k210 _ _ <| sq fun _ k211 => cnd h rfl decide_eq_true decide_eq_false (fun hc212 h => ?_) fun hc212 h => ?_
      ·
       refine ss <| k211 _ _ <| sq fun _ k213 => bl <| sr fun _ k214 => ?_
       obtain ⟨x215, hx215, h⟩ := bnd h
       refine ya (Yld.idxC (xs := x194.1) sty_67 rfl rfl (RdH.own (k := 298) rfl) hx215) <| ya (Yld.loadA (xs := x194.1) agg_72 rfl (RdH.own (k := 298) rfl) hx215 rfl) <| al 316 zr_72 fun g216 => sb 316 agg_72 rfl rfl rfl <| dn <| k214 _ _ <| rg fun _ k217 => mv rfl <| mv rfl <| spl h id Bool.eq_false_iff.2 (fun hc218 h => ?_) fun hc218 h => ?_
       ·
        refine yg (Yld.fieldAddr Tryz.underlying72 rfl nz_3 rfl rfl) <| yg (Yld.loadB (k := 316) scal_3 rfl rfl rfl) <| yg (Yld.geq rfl rfl) <| pt rfl rfl <| mv rfl <| spl h decide_eq_true decide_eq_false (fun hc219 h => ?_) fun hc219 h => ?_
        ·
         refine yg (Yld.fieldAddr Tryz.underlying72 rfl nz_3 rfl rfl) <| yg (Yld.loadB (k := 316) scal_3 rfl rfl rfl) <| yg (Yld.lss rfl rfl) <| pt rfl rfl <| mv rfl <| spl h decide_eq_true decide_eq_false (fun hc220 h => ?_) fun hc220 h => ?_
         ·
          obtain ⟨x221, hx221, h⟩ := bnd h
          refine mvg rfl <| yg (Yld.fieldAddr Tryz.underlying72 rfl nz_3 rfl rfl) <| yg (Yld.loadB (k := 316) scal_3 rfl rfl rfl) <| yg (Yld.idxC (xs := x64) sty_30 rfl rfl (RdH.own (k := 161) rfl) hx221) <| yg (Yld.loadC0 (xs := x64) scal_4 rfl (RdH.own (k := 161) rfl) hx221 rfl) <| pt rfl rfl <| asn rfl <| dn <| k217 _ _ <| bn <| tn <| k213 _ _ <| rg fun _ k222 => ?_
          obtain ⟨x223, hx223, h⟩ := bnd h
          exact ya (Yld.addC rfl rfl hx223) <| mv rfl <| dn <| k222 _ _ <| tn <| kw (k209 ⟨x221, x223⟩ h)
         refine sk <| sk <| sk <| sk <| sk <| pf rfl rfl <| asn rfl <| dn <| k217 _ _ <| bn <| tn <| k213 _ _ <| rg fun _ k224 => ?_
         obtain ⟨x225, hx225, h⟩ := bnd h
         exact ya (Yld.addC rfl rfl hx225) <| mv rfl <| dn <| k224 _ _ <| tn <| kw (k209 ⟨false, x225⟩ h)
        refine sk <| sk <| sk <| pf rfl rfl <| mv rfl <| sk <| sk <| sk <| sk <| sk <| pf rfl rfl <| asn rfl <| dn <| k217 _ _ <| bn <| tn <| k213 _ _ <| rg fun _ k226 => ?_
        obtain ⟨x227, hx227, h⟩ := bnd h
        exact ya (Yld.addC rfl rfl hx227) <| mv rfl <| dn <| k226 _ _ <| tn <| kw (k209 ⟨false, x227⟩ h)
       refine sk <| sk <| sk <| pf rfl rfl <| mv rfl <| sk <| sk <| sk <| pf rfl rfl <| mv rfl <| sk <| sk <| sk <| sk <| sk <| pf rfl rfl <| asn rfl <| dn <| k217 _ _ <| bn <| tn <| k213 _ _ <| rg fun _ k228 => ?_
       obtain ⟨x229, hx229, h⟩ := bnd h
       exact ya (Yld.addC rfl rfl hx229) <| mv rfl <| dn <| k228 _ _ <| tn <| kw (k209 ⟨false, x229⟩ h)
      exact xi <| te <| te <| bx <| tn <| kw (k204 x206 h)
     rintro x203 h
     unfold m_law18_EcreadMissing_j8 at h
     refine sr fun _ k230 => mv rfl <| ya (Yld.neqI rfl rfl) <| mv rfl <| spn h bne_eq_false_iff_eq.2 bne_iff_ne.2 (fun hc231 h => ?_) fun hc231 h => ?_
     ·
      refine mvg rfl <| yg (Yld.geq rfl rfl) <| pf rfl rfl <| mv rfl <| spl h decide_eq_true decide_eq_false (fun hc232 h => ?_) fun hc232 h => ?_
      ·
       refine sk <| pt rfl rfl <| dn <| k230 _ _ <| cdT rfl <| sr fun _ k233 => asn rfl <| dn <| k233 _ _ <| re <| br <| tr <| tr <| br <| tr ?_
       injection h with h; subst h
       exact rt [] (ResIs.one rfl rfl) (Ext.trans (Ext.trans hm_M41 hm_M96) hm_M144) ⟨rfl, rfl⟩
      refine mvg rfl <| pf rfl rfl <| dn <| k230 _ _ <| cnd h rfl id Bool.eq_false_iff.2 (fun hc234 h => ?_) fun hc234 h => ?_
      ·
       refine sr fun _ k235 => asn rfl <| dn <| k235 _ _ <| re <| br <| tr <| tr <| br <| tr ?_
       injection h with h; subst h
       exact rt [] (ResIs.one rfl rfl) (Ext.trans (Ext.trans hm_M41 hm_M96) hm_M144) ⟨rfl, rfl⟩
      exact WC.skip <| bn <| tn <| kw (k111 M144 ⟨h, hm_M144⟩)
     refine sk <| sk <| pt rfl rfl <| mv rfl <| sk <| pt rfl rfl <| dn <| k230 _ _ <| cdT rfl <| sr fun _ k236 => asn rfl <| dn <| k236 _ _ <| re <| br <| tr <| tr <| br <| tr ?_
     injection h with h; subst h
     exact rt [] (ResIs.one rfl rfl) (Ext.trans (Ext.trans hm_M41 hm_M96) hm_M144) ⟨rfl, rfl⟩
    exact xi <| te <| bx <| tn <| kw (k111 M96 ⟨h, (Ext.refl _ _)⟩)
   rintro M110 ⟨h, hm_M110⟩
   unfold m_law18_EcreadMissing_j4 at h
   refine rg fun _ k237 => ?_
   obtain ⟨x238, hx238, h⟩ := bnd h
   exact ya (Yld.addC rfl rfl hx238) <| mv rfl <| dn <| k237 _ _ <| tn <| kw (k106 ⟨M110, A97, n98, c99, x100, x238⟩ ⟨h, (Ext.trans hm_M96 hm_M110), (SlRc.lift hf101 hm_M110)⟩)
  exact xi <| te <| te <| bx <| tn <| kw (k92 M96 ⟨h, hm_M96⟩)
 rintro M91 ⟨h, hm_M91⟩
 unfold m_law18_EcreadMissing_j2 at h
 refine sr fun _ k239 => ?_
 obtain ⟨x240, hx240, h⟩ := bnd h
 refine c0 Tryz.func9 rfl (fun w hb hh => w_law18_awake (Mem.snap w) hx240) <| asn rfl <| dn <| k239 _ _ <| re ?_
 injection h with h; subst h
 exact rt [] (ResIs.one rfl rfl) (Ext.trans hm_M41 hm_M91) ⟨rfl, rfl⟩
end Go.Proofs.YtcncappgheopgaaGreat
