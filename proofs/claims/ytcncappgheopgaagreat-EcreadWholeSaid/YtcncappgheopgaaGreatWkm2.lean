/-
 Walks (m2): what a function's model gives, the function returns. Printed by a program of ours (vcm.py) from the function's operations. Conditions: as each theorem says.
-/
import Derived.Test.YtcncappgheopgaaGreatWkl
import Derived.Test.YtcncappgheopgaaGreatMdm2
namespace Go.Proofs.YtcncappgheopgaaGreat
open Go Go.RowKit
set_option linter.unusedVariables false
theorem nm_10 : (Tryz.f10.name == "runtime.NumGoroutine") = false := by kernel_rfl
theorem nm_13 : (Tryz.f13.name == "runtime.NumGoroutine") = false := by kernel_rfl
theorem nm_9 : (Tryz.f9.name == "runtime.NumGoroutine") = false := by kernel_rfl
theorem nz_29 : (Tryz.prog.info? 29).map (fun i => decide (i.size = 0)) = some false := by kernel_rfl
set_option maxRecDepth 10000 in
theorem w_law18_EcreadWhole (M0 : Mem) (A00 : Option Addr) (n00 c00 : Nat) (rs00 : List Rapi_Needle) (x00 : List (Sapi_Needle)) (hf00 : SlT M0 A00 n00 c00 rs00) (hq00 : Rels (rel_api_Needle M0) rs00 x00) (x01 : Int) (x02 : Int) (x03 : Int) {res : Bool} (h : m_law18_EcreadWhole x00 x01 x02 x03 = some res) :
  Fn Tryz.prog 4 #[.slice A00 n00 c00, I64 x01, I64 x02, I64 x03] M0 fun r M' es => r = .bool res ∧ es = [] := by
 refine Fn.intro (N := 80) Tryz.func4 rfl rfl (Nat.le_of_ble_eq_true rfl) fun w0 => ?_
 unfold m_law18_EcreadWhole at h
 refine sr fun _ k1 => asn rfl <| dn <| k1 _ _ <| sr fun _ k2 => ?_
 obtain ⟨x3, hx3, h⟩ := bnd h
 refine mv rfl <| WL.eff (by decide) (Eff.callM 121 rfl Tryz.func10 nm_10 rfl rfl rfl (w_law18_made _ A00 n00 c00 rs00 _ hf00 hq00 hx3)) ?_
 rintro _ _ ⟨M41, _, ⟨A42, n43, c44, A46, n47, c48, rs49, A51, n52, c53, A54, n55, c56, rs57, rfl, rfl, hf45, hq50, hq58⟩, hm_M41, rfl⟩
 refine al 159 zr_38 fun g59 => sb 159 agg_38 rfl rfl rfl <| dn <| k2 _ _ <| sr fun _ k60 => ya (Yld.fieldAddr Tryz.underlying38 rfl nz_35 rfl rfl) <| ya (Yld.loadB (k := 159) scal_35 rfl rfl rfl) <| ya (Yld.lenC (xs := x3.1) und_35 rfl (RdH.memM (k := 0) rfl hf45)) <| asn rfl <| dn <| k60 _ _ <| sr fun _ k61 => ?_
 obtain ⟨x62, hx62, h⟩ := bnd h
 obtain ⟨x63, hx63, h⟩ := bnd h
 obtain ⟨x64, hx64, h⟩ := bnd h
 obtain ⟨x65, hx65, h⟩ := bnd h
 obtain ⟨x66, hx66, h⟩ := bnd h
 obtain ⟨x67, hx67, h⟩ := bnd h
 refine mv rfl <| mv rfl <| ya (Yld.addC rfl rfl hx62) <| ya (Yld.remC rfl rfl hx63) <| mv rfl <| ya (Yld.addC rfl rfl hx64) <| ya (Yld.addC rfl rfl hx65) <| mv rfl <| ya (Yld.addC rfl rfl hx66) <| ya (Yld.remC rfl rfl hx67) <| asn rfl <| dn <| k61 _ _ <| sr fun _ k68 => ?_
 obtain ⟨x69, hx69, h⟩ := bnd h
 obtain ⟨x70, hx70, h⟩ := bnd h
 obtain ⟨x71, hx71, h⟩ := bnd h
 obtain ⟨x72, hx72, h⟩ := bnd h
 obtain ⟨x73, hx73, h⟩ := bnd h
 obtain ⟨x74, hx74, h⟩ := bnd h
 obtain ⟨x75, hx75, h⟩ := bnd h
 obtain ⟨x76, hx76, h⟩ := bnd h
 obtain ⟨x77, hx77, h⟩ := bnd h
 refine mv rfl <| mv rfl <| mv rfl <| ya (Yld.subC rfl rfl hx69) <| ya (Yld.addC rfl rfl hx70) <| ya (Yld.remC rfl rfl hx71) <| mv rfl <| ya (Yld.addC rfl rfl hx72) <| mv rfl <| ya (Yld.subC rfl rfl hx73) <| ya (Yld.addC rfl rfl hx74) <| mv rfl <| mv rfl <| ya (Yld.subC rfl rfl hx75) <| ya (Yld.addC rfl rfl hx76) <| ya (Yld.remC rfl rfl hx77) <| asn rfl <| dn <| k68 _ _ <| sd [(159, _)] mixed fun _ k78 => ?_
 obtain ⟨x79, hx79, h⟩ := bnd h
 obtain ⟨x96, hx96, h⟩ := bnd h
 obtain ⟨x104, hx104, h⟩ := bnd h
 obtain ⟨x105, hx105, h⟩ := bnd h
 obtain ⟨x106, hx106, h⟩ := bnd h
 obtain ⟨x107, hx107, h⟩ := bnd h
 obtain ⟨x115, hx115, h⟩ := bnd h
 refine du 0 rfl (Yld.fieldAddr Tryz.underlying38 rfl nz_28 rfl rfl) <| du 1 rfl (Yld.loadBP (k := 159) (us := [I64 x3.2.2.1, I64 x3.2.2.2.1, I64 x3.2.2.2.2.1, I64 x3.2.2.2.2.2.1, U32 x3.2.2.2.2.2.2.1, U32 x3.2.2.2.2.2.2.2.1, U32 x3.2.2.2.2.2.2.2.2.1, U32 x3.2.2.2.2.2.2.2.2.2.1, U32 x3.2.2.2.2.2.2.2.2.2.2.1, U32 x3.2.2.2.2.2.2.2.2.2.2.2.1, .slice A51 n52 c53]) agg_28 rfl rfl rfl rfl) <| du 3 rfl (Yld.fieldAddr Tryz.underlying38 rfl nz_29 rfl rfl) <| du 4 rfl (Yld.loadB (k := 159) scal_29 rfl rfl rfl) <| dm 6 rfl rfl <| du 7 rfl (Yld.remC rfl rfl hx104) <| du 8 rfl (Yld.addC rfl rfl hx105) <| du 9 rfl (Yld.remC rfl rfl hx106) <| dm 11 rfl rfl <| dm 12 rfl rfl <| on 2 <| WS.freeze 122 rfl rfl rfl rfl rfl fun M89 hm_M89 hf90 => WS.eff rfl (by decide) (Eff.callM 184 rfl Tryz.func13 nm_13 rfl rfl rfl (w_law18_given _ x3.2.2.1 x3.2.2.2.1 x3.2.2.2.2.1 x3.2.2.2.2.2.1 x3.2.2.2.2.2.2.1 x3.2.2.2.2.2.2.2.1 x3.2.2.2.2.2.2.2.2.1 x3.2.2.2.2.2.2.2.2.2.1 x3.2.2.2.2.2.2.2.2.2.2.1 x3.2.2.2.2.2.2.2.2.2.2.2.1 A51 n52 c53 _ hf90 hx79)) ?_
 rintro _ _ ⟨M91, _, ⟨A92, n93, c94, rfl, rfl, hf95⟩, hm_M91, rfl⟩
 refine ad ?_ (by repeat (first | exact sn | refine sc ?_))
 refine on 5 <| WS.eff rfl (by decide) (Eff.callS 200 rfl Tryz.func15 nm_15 rfl rfl (fun w hb hh => w_law18_all (Mem.snap w) hx96)) ?_
 rintro _ _ ⟨_, ⟨A101, n102, c103, rfl, rfl⟩, rfl⟩
 refine ad ?_ (by repeat (first | exact sn | refine sc ?_))
 refine on 10 <| WS.eff rfl (by decide) (Eff.callS 211 rfl Tryz.func16 nm_16 rfl rfl (fun w hb hh => w_ecread_Exclude (Mem.snap w) x106 hx107)) ?_
 rintro _ _ ⟨_, ⟨A112, n113, c114, rfl, rfl⟩, rfl⟩
 refine ad ?_ (by repeat (first | exact sn | refine sc ?_))
 refine on 13 <| WS.eff rfl (by decide) (Eff.callS 219 rfl Tryz.func12 nm_12 rfl rfl (fun w hb hh => w_ecread_Bytes (Mem.snap w) x79.1 x79.2.1 x79.2.2.1 x79.2.2.2.1 x79.2.2.2.2.1 x79.2.2.2.2.2.1 x79.2.2.2.2.2.2.1 x79.2.2.2.2.2.2.2.1 x79.2.2.2.2.2.2.2.2.1 x79.2.2.2.2.2.2.2.2.2.1 A92 n93 c94 _ (RdH.sn (RdH.memM (k := 0) rfl hf95) w hb hh) A54 n55 c56 rs57 _ (RdH.sn (RdH.own (k := 123) rfl) w hb hh) (Rels.sn (Rels.lift (Rels.lift hq58 hm_M89) hm_M91) (hh.sat 0 _ rfl)) A101 n102 c103 _ (RdH.sn (RdH.own (k := 200) rfl) w hb hh) A112 n113 c114 _ (RdH.sn (RdH.own (k := 211) rfl) w hb hh) x67 x77 hx115)) ?_
 rintro _ _ ⟨_, ⟨A120, n121, c122, rfl, rfl⟩, rfl⟩
 refine ad ?_ (by repeat (first | exact sn | refine sc ?_))
 refine dm 14 rfl rfl <| du 15 rfl (Yld.extract rfl rfl) <| du 16 rfl (Yld.extract rfl rfl) <| du 17 rfl (Yld.assign rfl) <| du 18 rfl (Yld.assign rfl) <| dd <| k78 _ _ <| sd [(0, _), (121, _), (123, _), (159, _), (200, _), (211, _), (219, _)] mixed fun _ k123 => ?_
 by_cases hc124 : x115.2 = true
 ·
  replace h := of_t hc124 h
  obtain ⟨x125, hx125, h⟩ := bnd h
  obtain ⟨x126, hx126, h⟩ := bnd h
  by_cases hc127 : x115.1 = x126
  ·
   replace h := of_t hc127 h
   obtain ⟨x128, hx128, h⟩ := bnd h
   refine dm 0 rfl rfl <| dm 1 rfl rfl <| WD.new (v' := .bool true) (congrArg Value.bool hc124) <| dv 2 rfl (Yld.move rfl) <| dv 3 rfl (Yld.b2sC (xs := x115.1) und_35 und_5 und_9 rfl (RdH.own (k := 219) rfl)) <| dv 4 rfl (Yld.fieldAddr Tryz.underlying38 rfl nz_35 rfl rfl) <| dv 5 rfl (Yld.loadB (k := 159) scal_35 rfl rfl rfl) <| dv 6 rfl (Yld.move rfl) <| dv 7 rfl (Yld.move rfl) <| dv 8 rfl (Yld.move rfl) <| dv 9 rfl (Yld.addC rfl rfl hx125) <| dv 10 rfl (Yld.sliceLHC (xs := x3.1) sty_35 rfl rfl rfl (RdH.memM (k := 0) rfl (SlRc.lift (SlRc.lift hf45 hm_M89) hm_M91)) hx126) <| dv 11 rfl (Yld.b2sC (xs := x126) und_35 und_5 und_9 rfl (RdT.slc (RdH.memM (k := 0) rfl (SlRc.lift (SlRc.lift hf45 hm_M89) hm_M91)) hx126)) <| dv 12 rfl (Yld.eqlStr (a := x115.1) (b := x126) rfl rfl) <| du 13 rfl (Yld.pickT rfl rfl) <| dm 14 rfl rfl <| WD.new (v' := .bool true) (congrArg Value.bool (beq_iff_eq.2 hc127)) <| on 15 <| WS.effG rfl (by decide) rfl (Eff.callS 229 rfl Tryz.func9 nm_9 rfl rfl (fun w hb hh => w_law18_awake (Mem.snap w) hx128)) ?_
   rintro _ _ ⟨_, ⟨rfl, rfl⟩, rfl⟩
   refine ad ?_ (by repeat (first | exact sn | refine sc ?_))
   refine du 16 rfl (Yld.pickT rfl rfl) <| du 17 rfl (Yld.assign rfl) <| dd <| k123 _ _ <| re ?_
   injection h with h; subst h
   exact rt [] (ResIs.one rfl rfl) (Ext.trans (Ext.trans hm_M41 hm_M89) hm_M91) ⟨rfl, rfl⟩
  replace h := of_f hc127 h
  refine dm 0 rfl rfl <| dm 1 rfl rfl <| WD.new (v' := .bool true) (congrArg Value.bool hc124) <| dv 2 rfl (Yld.move rfl) <| dv 3 rfl (Yld.b2sC (xs := x115.1) und_35 und_5 und_9 rfl (RdH.own (k := 219) rfl)) <| dv 4 rfl (Yld.fieldAddr Tryz.underlying38 rfl nz_35 rfl rfl) <| dv 5 rfl (Yld.loadB (k := 159) scal_35 rfl rfl rfl) <| dv 6 rfl (Yld.move rfl) <| dv 7 rfl (Yld.move rfl) <| dv 8 rfl (Yld.move rfl) <| dv 9 rfl (Yld.addC rfl rfl hx125) <| dv 10 rfl (Yld.sliceLHC (xs := x3.1) sty_35 rfl rfl rfl (RdH.memM (k := 0) rfl (SlRc.lift (SlRc.lift hf45 hm_M89) hm_M91)) hx126) <| dv 11 rfl (Yld.b2sC (xs := x126) und_35 und_5 und_9 rfl (RdT.slc (RdH.memM (k := 0) rfl (SlRc.lift (SlRc.lift hf45 hm_M89) hm_M91)) hx126)) <| dv 12 rfl (Yld.eqlStr (a := x115.1) (b := x126) rfl rfl) <| du 13 rfl (Yld.pickT rfl rfl) <| dm 14 rfl rfl <| WD.new (v' := .bool false) (congrArg Value.bool (beq_eq_false_iff_ne.2 hc127)) <| dw 15 rfl <| du 16 rfl (Yld.pickF rfl rfl) <| du 17 rfl (Yld.assign rfl) <| dd <| k123 _ _ <| re ?_
  injection h with h; subst h
  exact rt [] (ResIs.one rfl rfl) (Ext.trans (Ext.trans hm_M41 hm_M89) hm_M91) ⟨rfl, rfl⟩
 replace h := of_f hc124 h
 refine dm 0 rfl rfl <| dm 1 rfl rfl <| WD.new (v' := .bool false) (congrArg Value.bool (Bool.eq_false_iff.2 hc124)) <| dw 2 rfl <| dw 3 rfl <| dw 4 rfl <| dw 5 rfl <| dw 6 rfl <| dw 7 rfl <| dw 8 rfl <| dw 9 rfl <| dw 10 rfl <| dw 11 rfl <| dw 12 rfl <| du 13 rfl (Yld.pickF rfl rfl) <| dm 14 rfl rfl <| dw 15 rfl <| du 16 rfl (Yld.pickF rfl rfl) <| du 17 rfl (Yld.assign rfl) <| dd <| k123 _ _ <| re ?_
 injection h with h; subst h
 exact rt [] (ResIs.one rfl rfl) (Ext.trans (Ext.trans hm_M41 hm_M89) hm_M91) ⟨rfl, rfl⟩
end Go.Proofs.YtcncappgheopgaaGreat
