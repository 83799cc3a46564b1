/- A part of the proof. Conditions: as each theorem says. -/
import Derived.Test.YtcncappgheopgaaGreatWkj
import Derived.Test.YtcncappgheopgaaGreatMdk
namespace Go.Proofs.YtcncappgheopgaaGreat
set_option maxRecDepth 10000
open Go Go.RowKit Yld
set_option linter.unusedVariables false
theorem agg_25 : Agg Tryz.prog 25 6 := ⟨⟨_, Tryz.underlying25, rfl⟩, by kernel_rfl⟩
theorem bu_46_ : Tryz.prog.built 46 [] = some ([I64 (0 : Int), I64 (0 : Int), I64 (0 : Int), I64 (0 : Int), U32 0#32, U32 0#32, U32 0#32, U32 0#32, U32 0#32, U32 0#32, .slice none 0 0] : List Value).toArray := by kernel_rfl
theorem bu_46_0_1_2_3 : ∀ (a0_0 : Int) (a0_1 : Int) (a0_2 : Int) (a1 : Int) (a2_0 : BitVec 32) (a2_1 : BitVec 32) (a2_2 : BitVec 32) (a2_3 : BitVec 32) (a2_4 : BitVec 32) (a2_5 : BitVec 32) (a3 : Option Addr) (n3 c3 : Nat), Tryz.prog.built 46 [(0, .agg ([I64 a0_0, I64 a0_1, I64 a0_2] : List Value).toArray), (1, I64 a1), (2, .agg ([U32 a2_0, U32 a2_1, U32 a2_2, U32 a2_3, U32 a2_4, U32 a2_5] : List Value).toArray), (3, .slice a3 n3 c3)] = some ([I64 a0_0, I64 a0_1, I64 a0_2, I64 a1, U32 a2_0, U32 a2_1, U32 a2_2, U32 a2_3, U32 a2_4, U32 a2_5, .slice a3 n3 c3] : List Value).toArray := fun a0_0 a0_1 a0_2 a1 a2_0 a2_1 a2_2 a2_3 a2_4 a2_5 a3 n3 c3 => by kernel_rfl
theorem bu_59_ : Tryz.prog.built 59 [] = some ([U64 0#64, U32 0#32, I64 (0 : Int), I64 (0 : Int)] : List Value).toArray := by kernel_rfl
theorem nm_18 : (Tryz.f18.name == "runtime.NumGoroutine") = false := by kernel_rfl
theorem nz_25 : (Tryz.prog.info? 25).map (fun i => decide (i.size = 0)) = some false := by kernel_rfl
theorem nz_28 : (Tryz.prog.info? 28).map (fun i => decide (i.size = 0)) = some false := by kernel_rfl
theorem zr_46 : (Tryz.prog.info? 46).map (fun i => i.zero.map (·.cells)) = some (some ([I64 (0 : Int), I64 (0 : Int), I64 (0 : Int), I64 (0 : Int), U32 0#32, U32 0#32, U32 0#32, U32 0#32, U32 0#32, U32 0#32, .slice none 0 0] : List Value).toArray) := by kernel_rfl
theorem w_law18_given (M0 : Mem) (u0 u1 u2 u3 : Int) (u4 u5 u6 u7 u8 u9 : BitVec 32) (A00_10 : Option Addr) (n00_10 c00_10 : Nat) (u10 : List Sapi_Item) (hf00_10 : SlT M0 A00_10 n00_10 c00_10 u10) {res : Int × Int × Int × Int × (BitVec 32) × (BitVec 32) × (BitVec 32) × (BitVec 32) × (BitVec 32) × (BitVec 32) × (List Sapi_Item)} (h : m_law18_given u0 u1 u2 u3 u4 u5 u6 u7 u8 u9 u10 = some res) :
  Fn Tryz.prog 13 #[.agg ([I64 u0, I64 u1, I64 u2, I64 u3, U32 u4, U32 u5, U32 u6, U32 u7, U32 u8, U32 u9, .slice A00_10 n00_10 c00_10] : List Value).toArray] M0 fun r M' es => ∃ (A1 : Option Addr) (n1 c1 : Nat), r = .agg ([I64 res.1, I64 res.2.1, I64 res.2.2.1, I64 res.2.2.2.1, U32 res.2.2.2.2.1, U32 res.2.2.2.2.2.1, U32 res.2.2.2.2.2.2.1, U32 res.2.2.2.2.2.2.2.1, U32 res.2.2.2.2.2.2.2.2.1, U32 res.2.2.2.2.2.2.2.2.2.1, .slice A1 n1 c1] : List Value).toArray /\ es = [] /\ SlT M' A1 n1 c1 res.2.2.2.2.2.2.2.2.2.2 := by
 refine Fn.intro (N := 12) Tryz.func13 rfl rfl (nle rfl) fun w0 => ?_
 unfold m_law18_given at h
 refine sr fun _ k1 => bb 102 [I64 u0, I64 u1, I64 u2, I64 u3, U32 u4, U32 u5, U32 u6, U32 u7, U32 u8, U32 u9, .slice A00_10 n00_10 c00_10] rfl fun g2 => al 103 zr_46 fun g3 => dz k1 <| sr fun _ k4 => ya (fieldAddr Tryz.underlying28 rfl nz_23 rfl rfl) <| ya (loadBP (k := 102) (us := [I64 u0, I64 u1, I64 u2]) agg_23 rfl rfl rfl rfl) <| ya (fieldAddr Tryz.underlying28 rfl nz_2 rfl rfl) <| ya (loadB (k := 102) scal_2 rfl rfl rfl) <| ya (fieldAddr Tryz.underlying28 rfl nz_25 rfl rfl) <| ya (loadBP (k := 102) (us := [U32 u4, U32 u5, U32 u6, U32 u7, U32 u8, U32 u9]) agg_25 rfl rfl rfl rfl) <| ya (fieldAddr Tryz.underlying28 rfl nz_26 rfl rfl) <| ya (loadB (k := 102) scal_26 rfl rfl rfl) <| ya (build rfl (bu_46_0_1_2_3 u0 u1 u2 u3 u4 u5 u6 u7 u8 u9 A00_10 n00_10 c00_10)) <| sb 103 agg_46 rfl rfl rfl <| dz k4 <| re ?_
 obtain rfl := si h
 exact rt [] (ResIs.cellM (k := 103) rfl agg_46 rfl rfl (rfl)) (Ext.refl _ _) ⟨A00_10, n00_10, c00_10, rfl, rfl, hf00_10⟩
theorem w_law18_all (M0 : Mem)  {res : (List Bool)} (h : m_law18_all = some res) :
  Fn Tryz.prog 15 #[] M0 fun r M' es => ∃ (A1 : Option Addr) (n1 c1 : Nat), r = .slice A1 n1 c1 /\ es = [.own 4 (Lay.sz Bool) A1 n1 c1 (cel res)] := by
 refine Fn.intro (N := 2) Tryz.func15 rfl rfl (nle rfl) fun w0 => ?_
 unfold m_law18_all at h
 refine sr fun _ k1 => ak rfl k1 <| sr fun _ k2 => WL.eff (by decide) (Eff.buildC 103 ([true, true, true, true, true, true] : List Bool) sty_30 rfl rfl rfl rfl rfl (by decide)) ?_
 rintro _ _ ⟨g3, rfl, rfl⟩
 refine ak rfl k2 <| re ?_
 obtain rfl := si h
 exact rt [103] (ResIs.one rfl rfl) (Ext.refl _ _) ⟨(some ⟨g3, 0, none⟩), ([true, true, true, true, true, true] : List Bool).length, ([true, true, true, true, true, true] : List Bool).length, rfl, rfl⟩
theorem w_law18_spoilt (M0 : Mem) (A00 : Option Addr) (n00 c00 : Nat) (rs00 : List Hdr) (x00 : List By) (hf00 : SlT M0 A00 n00 c00 rs00) (hq00 : Rels ((RelB (α := BitVec 8)) M0) rs00 x00) (A01 : Option Addr) (n01 c01 : Nat) (x01 : List Int) (hf01 : SlT M0 A01 n01 c01 x01) {res : (List By) × (List Bool)} (h : m_law18_spoilt x00 x01 = some res) :
  Fn Tryz.prog 11 #[.slice A00 n00 c00, .slice A01 n01 c01] M0 fun r M' es => ∃ (A1 : Option Addr) (n1 c1 : Nat), ∃ rs1 : List Hdr, ∃ (A2 : Option Addr) (n2 c2 : Nat), r = .tuple #[.slice A1 n1 c1, .slice A2 n2 c2] /\ es = [.own 35 (Lay.sz Hdr) A1 n1 c1 (cel rs1), .own 4 (Lay.sz Bool) A2 n2 c2 (cel res.2)] /\ Rels ((RelB (α := BitVec 8)) M') rs1 res.1 := by
 refine Fn.intro (N := 82) Tryz.func11 rfl rfl (nle rfl) fun w0 => ?_
 unfold m_law18_spoilt at h
 refine sr fun _ k1 => asn rfl <| ak rfl k1 <| sr fun _ k2 => ?_
 obtain ⟨x5, hx5, h⟩ := bnd h
 obtain ⟨x10, hx10, h⟩ := bnd h
 have hq4 : Rels ((RelB (α := BitVec 8)) M0) ([] : List Hdr) ([] : List By) := Rels.nil
 refine WL.eff (by decide) (Eff.buildC 103 ([] : List Hdr) sty_29 rfl rfl rfl rfl rfl (by decide)) ?_
 rintro _ _ ⟨g3, rfl, rfl⟩
 refine mv rfl ?_
 obtain ⟨hu8, hq9⟩ := Rels.apd hq4 hq00 hx5
 refine ap 103 (xs := ([] : List Hdr)) (ys := rs00) sty_29 rfl rfl rfl (mM rfl hf00) hu8 fun A6 c7 => c1 114 Tryz.func15 rfl (fun w hb hh => w_law18_all (Mem.snap w) hx10) fun A15 n16 c17 => asn rfl <| ak rfl k2 <| ct (σ := Mem × (List By) × (List Hdr) × (List Bool)) (fun ⟨M18, x19, rs20, x22⟩ => [(6, .slice A6 ((([] : List Hdr) ++ rs00).length) c7), (7, .slice A15 n16 c17)]) (fun ⟨M18, x19, rs20, x22⟩ => [(0, .mem M18), (103, .own 35 (Lay.sz Hdr) A6 ((([] : List Hdr) ++ rs00).length) c7 (cel rs20)), (114, .own 4 (Lay.sz Bool) A15 n16 c17 (cel x22))]) (fun ⟨M18, x19, rs20, x22⟩ => m_law18_spoilt_j0 x19 x22 = some res /\ Ext w0.heap.size M0 M18 /\ Rels ((RelB (α := BitVec 8)) M18) rs20 x19) (fun _ k23 => ?_) ?_
 ·refine sr fun _ k24 => ak rfl k24 <| bl <| lp (τ := Mem × (List By) × (List Hdr) × (List Bool) × Int) (fun ⟨M25, x26, rs27, x29, x30⟩ => [(1, .slice A01 n01 c01), (6, .slice A6 ((([] : List Hdr) ++ rs00).length) c7), (7, .slice A15 n16 c17), (8, I64 x30)]) (fun ⟨M25, x26, rs27, x29, x30⟩ => [(0, .mem M25), (103, .own 35 (Lay.sz Hdr) A6 ((([] : List Hdr) ++ rs00).length) c7 (cel rs27)), (114, .own 4 (Lay.sz Bool) A15 n16 c17 (cel x29))]) (fun q31 ⟨M25, x26, rs27, x29, x30⟩ => m_law18_spoilt_l1 x01 q31 x26 x29 x30 = some res /\ Ext w0.heap.size M0 M25 /\ Rels ((RelB (α := BitVec 8)) M25) rs27 x26) ⟨M0, x5, (([] : List Hdr) ++ rs00), x10, (0 : Int)⟩ ?_ (by simp [m_law18_spoilt_l1]) ?_
  ·exact ⟨h, (Ext.refl _ _), hq9⟩
  rintro q31 ⟨M25, x26, rs27, x29, x30⟩ ⟨h, hm_M25, hq28⟩ _ k32
  unfold m_law18_spoilt_l1 at h
  refine ct (σ := Unit) (fun _ => [(1, .slice A01 n01 c01), (6, .slice A6 ((([] : List Hdr) ++ rs00).length) c7), (7, .slice A15 n16 c17), (8, I64 x30)]) (fun _ => [(0, .mem M25), (103, .own 35 (Lay.sz Hdr) A6 ((([] : List Hdr) ++ rs00).length) c7 (cel rs27)), (114, .own 4 (Lay.sz Bool) A15 n16 c17 (cel x29))]) (fun _ => m_law18_spoilt_j2 x01 x26 x29 x30 (m_law18_spoilt_l1 x01 q31) = some res) (fun _ k33 => ?_) ?_
  ·refine sr fun _ k34 => bd h fun x35 hx35 h => mv rfl <| ya (addC rfl rfl hx35) <| mv rfl <| ya (lenC (xs := x01) und_32 rfl (mM rfl (SlRc.lift hf01 hm_M25))) <| ya (lss rfl rfl) <| mv rfl <| spl h decide_eq_true decide_eq_false (fun hc36 h => ?_) fun hc36 h => ?_
   ·refine mvg rfl <| yg (lss rfl rfl) <| pt rfl rfl <| dz k34 <| cI h rfl (fun hc37 h => ?_) fun hc37 h => ?_
    ·exact WC.skip <| tn <| kw (k33 () h)
    exact xi <| te <| te <| bx <| tn <| kw (k23 ⟨M25, x26, rs27, x29⟩ ⟨h, hm_M25, hq28⟩)
   exact sk <| sk <| pf rfl rfl <| dz k34 <| cdF rfl <| xi <| te <| te <| bx <| tn <| kw (k23 ⟨M25, x26, rs27, x29⟩ ⟨h, hm_M25, hq28⟩)
  rintro _ h
  unfold m_law18_spoilt_j2 at h
  refine sq fun _ k38 => bl <| sr fun _ k39 => ?_
  obtain ⟨x40, hx40, h⟩ := bnd h
  obtain ⟨x41, hx41, h⟩ := bnd h
  refine mv rfl <| mv rfl <| ya (idxC (xs := x01) sty_32 rfl rfl (mM rfl (SlRc.lift hf01 hm_M25)) hx40) <| ya (loadC0 (xs := x01) scal_3 rfl (mM rfl (SlRc.lift hf01 hm_M25)) hx40 rfl) <| ya (andC rfl rfl) <| ya (remC rfl rfl hx41) <| ak rfl k39 <| sq fun _ k42 => sr fun _ k43 => bd h fun x44 hx44 h => mv rfl <| mv rfl <| ya (idxC (xs := x01) sty_32 rfl rfl (mM rfl (SlRc.lift hf01 hm_M25)) hx44) <| ya (loadC0 (xs := x01) scal_3 rfl (mM rfl (SlRc.lift hf01 hm_M25)) hx44 rfl) <| ya (andC rfl rfl) <| ya (gtr rfl rfl) <| dz k43 <| cI h rfl (fun hc45 h => ?_) fun hc45 h => ?_
  ·refine sr fun _ k46 => ?_
   obtain ⟨x47, hx47, h⟩ := bnd h
   obtain ⟨x48, hx48, h⟩ := bnd h
   refine mv rfl <| mv rfl <| ya (idxC (xs := x29) sty_30 rfl rfl (rO 114 rfl) hx47) <| WL.eff0 (Eff0.storeC1 114 (xs := x29) (a' := false) siz_4 rfl rfl rfl rfl rfl rfl hx48) <| dz k46 <| xi <| te <| bx <| tn <| k38 _ _ <| rg fun _ k49 => bd h fun x50 hx50 h => mv rfl <| ya (addC rfl rfl hx50) <| ak rfl k49 <| tn <| kw (k32 ⟨M25, x26, rs27, x48, x50⟩ ⟨h, hm_M25, hq28⟩)
  refine ss <| k42 _ _ <| sr fun _ k51 => ?_
  obtain ⟨x53, hx53, h⟩ := bnd h
  obtain ⟨x57, hx57, h⟩ := bnd h
  refine WL.eff (by decide) (Eff.buildC 152 ([] : By) sty_35 rfl rfl rfl rfl rfl (by decide)) ?_
  rintro _ _ ⟨g52, rfl, rfl⟩
  refine mv rfl <| mv rfl ?_
  obtain ⟨r_54, hr55, hq56⟩ := Rels.idx hq28 hx53
  refine ya (idxC (xs := rs27) sty_29 rfl rfl (rO 103 rfl) hr55) <| ya (loadC0 (xs := rs27) scal_35 rfl (rO 103 rfl) hr55 rfl) <| ap 152 (xs := ([] : By)) (ys := x53) sty_35 rfl rfl rfl (mM rfl hq56) hx57 fun A58 c59 => ak rfl k51 <| sq fun _ k60 => sr fun _ k61 => mv rfl <| ya (lenC (xs := x57) und_35 rfl (rO 152 rfl)) <| ya (gtr rfl rfl) <| dz k61 <| cI h rfl (fun hc62 h => ?_) fun hc62 h => ?_
  ·refine rd [(0, _), (103, _), (114, _)] mixed fun _ k63 => ?_
   obtain ⟨x64, hx64, h⟩ := bnd h
   obtain ⟨x65, hx65, h⟩ := bnd h
   obtain ⟨x66, hx66, h⟩ := bnd h
   obtain ⟨x67, hx67, h⟩ := bnd h
   obtain ⟨x68, hx68, h⟩ := bnd h
   obtain ⟨x69, hx69, h⟩ := bnd h
   obtain ⟨x70, hx70, h⟩ := bnd h
   obtain ⟨x71, hx71, h⟩ := bnd h
   obtain ⟨x72, hx72, h⟩ := bnd h
   obtain ⟨x73, hx73, h⟩ := bnd h
   refine dm 0 rfl rfl <| dm 1 rfl rfl <| dm 2 rfl rfl <| du 3 rfl (addC rfl rfl hx64) <| du 4 rfl (idxC (xs := x01) sty_32 rfl rfl (mM rfl (SlRc.lift hf01 hm_M25)) hx65) <| du 5 rfl (loadC0 (xs := x01) scal_3 rfl (mM rfl (SlRc.lift hf01 hm_M25)) hx65 rfl) <| dm 6 rfl rfl <| dm 9 rfl rfl <| dm 12 rfl rfl <| dm 17 rfl rfl <| dm 18 rfl rfl <| du 19 rfl (idxC (xs := x01) sty_32 rfl rfl (mM rfl (SlRc.lift hf01 hm_M25)) hx70) <| du 20 rfl (loadC0 (xs := x01) scal_3 rfl (mM rfl (SlRc.lift hf01 hm_M25)) hx70 rfl) <| du 21 rfl (shrC rfl rfl hx71) <| du 22 rfl (conv_i64_u8 some_3 und_5 rfl) <| du 23 rfl (or_u8 (a := (BitVec.ofInt 8 x71)) (b := 1#8) rfl rfl) <| WD.three 7 10 13 (by kernel_rfl) ?_ ?_ ?_
   ·refine dy rfl (lenC (xs := x57) und_35 rfl (rO 152 rfl)) <| du 8 rfl (remC rfl rfl hx66) <| WD.two 10 13 (by kernel_rfl) ?_ ?_
    ·refine dy rfl (lenC (xs := x57) und_35 rfl (rO 152 rfl)) <| du 11 rfl (addC rfl rfl hx67) <| on 13 <| dy rfl (lenC (xs := x57) und_35 rfl (rO 152 rfl)) <| du 14 rfl (remC rfl rfl hx68) <| on 15 <| dy rfl (idxC (xs := x57) sty_35 rfl rfl (rO 152 rfl) hx69) <| on 16 <| dy rfl (loadC0 (xs := x57) scal_5 rfl (rO 152 rfl) hx69 rfl) <| du 24 rfl (xor_u8 (a := x69) (b := ((BitVec.ofInt 8 x71) ||| 1#8)) rfl rfl) <| on 25 <| dy rfl (idxC (xs := x57) sty_35 rfl rfl (rO 152 rfl) hx72) <| on 26 <| WS.eff0 rfl (Eff0.storeC1 152 (xs := x57) (a' := x69 ^^^ ((BitVec.ofInt 8 x71) ||| 1#8)) siz_5 rfl rfl rfl rfl rfl rfl hx73) (sc (sc (sc sn))) <| dd <| k63 _ _ <| tn <| k60 _ _ <| rg fun _ k74 => ?_
     obtain ⟨x75, hx75, h⟩ := bnd h
     obtain ⟨x81, hx81, h⟩ := bnd h
     refine mv rfl <| mv rfl <| mv rfl ?_
     obtain ⟨r_76, hr77, hq78⟩ := Rels.idx hq28 hx75
     refine ya (idxC (xs := rs27) sty_29 rfl rfl (rO 103 rfl) hr77) <| WL.freeze 152 rfl rfl rfl fun M79 hm_M79 hf80 => ?_
     obtain ⟨hu82, hq83⟩ := Rels.upd (r := (⟨A58, x57.length, c59⟩ : Hdr)) (Rels.lift hq28 hm_M79) hx81 hf80
     refine WL.eff0 (Eff0.storeC1 103 (xs := rs27) (a' := (⟨A58, x57.length, c59⟩ : Hdr)) siz_35 rfl rfl rfl rfl rfl rfl hu82) <| dz k74 <| bn <| tn <| k38 _ _ <| rg fun _ k84 => bd h fun x85 hx85 h => mv rfl <| ya (addC rfl rfl hx85) <| ak rfl k84 <| tn <| kw (k32 ⟨M79, x81, (rs27.set (x41).toNat (⟨A58, x57.length, c59⟩ : Hdr)), x29, x85⟩ ⟨h, (Ext.trans hm_M25 hm_M79), hq83⟩)
    skip
    refine dy rfl (lenC (xs := x57) und_35 rfl (rO 152 rfl)) <| on 10 <| dy rfl (lenC (xs := x57) und_35 rfl (rO 152 rfl)) <| du 11 rfl (addC rfl rfl hx67) <| du 14 rfl (remC rfl rfl hx68) <| on 15 <| dy rfl (idxC (xs := x57) sty_35 rfl rfl (rO 152 rfl) hx69) <| on 16 <| dy rfl (loadC0 (xs := x57) scal_5 rfl (rO 152 rfl) hx69 rfl) <| du 24 rfl (xor_u8 (a := x69) (b := ((BitVec.ofInt 8 x71) ||| 1#8)) rfl rfl) <| on 25 <| dy rfl (idxC (xs := x57) sty_35 rfl rfl (rO 152 rfl) hx72) <| on 26 <| WS.eff0 rfl (Eff0.storeC1 152 (xs := x57) (a' := x69 ^^^ ((BitVec.ofInt 8 x71) ||| 1#8)) siz_5 rfl rfl rfl rfl rfl rfl hx73) (sc (sc (sc sn))) <| dd <| k63 _ _ <| tn <| k60 _ _ <| rg fun _ k86 => ?_
    obtain ⟨x87, hx87, h⟩ := bnd h
    obtain ⟨x93, hx93, h⟩ := bnd h
    refine mv rfl <| mv rfl <| mv rfl ?_
    obtain ⟨r_88, hr89, hq90⟩ := Rels.idx hq28 hx87
    refine ya (idxC (xs := rs27) sty_29 rfl rfl (rO 103 rfl) hr89) <| WL.freeze 152 rfl rfl rfl fun M91 hm_M91 hf92 => ?_
    obtain ⟨hu94, hq95⟩ := Rels.upd (r := (⟨A58, x57.length, c59⟩ : Hdr)) (Rels.lift hq28 hm_M91) hx93 hf92
    refine WL.eff0 (Eff0.storeC1 103 (xs := rs27) (a' := (⟨A58, x57.length, c59⟩ : Hdr)) siz_35 rfl rfl rfl rfl rfl rfl hu94) <| dz k86 <| bn <| tn <| k38 _ _ <| rg fun _ k96 => bd h fun x97 hx97 h => mv rfl <| ya (addC rfl rfl hx97) <| ak rfl k96 <| tn <| kw (k32 ⟨M91, x93, (rs27.set (x41).toNat (⟨A58, x57.length, c59⟩ : Hdr)), x29, x97⟩ ⟨h, (Ext.trans hm_M25 hm_M91), hq95⟩)
   ·refine dy rfl (lenC (xs := x57) und_35 rfl (rO 152 rfl)) <| WD.two 7 13 (by kernel_rfl) ?_ ?_
    ·refine dy rfl (lenC (xs := x57) und_35 rfl (rO 152 rfl)) <| du 8 rfl (remC rfl rfl hx66) <| du 11 rfl (addC rfl rfl hx67) <| on 13 <| dy rfl (lenC (xs := x57) und_35 rfl (rO 152 rfl)) <| du 14 rfl (remC rfl rfl hx68) <| on 15 <| dy rfl (idxC (xs := x57) sty_35 rfl rfl (rO 152 rfl) hx69) <| on 16 <| dy rfl (loadC0 (xs := x57) scal_5 rfl (rO 152 rfl) hx69 rfl) <| du 24 rfl (xor_u8 (a := x69) (b := ((BitVec.ofInt 8 x71) ||| 1#8)) rfl rfl) <| on 25 <| dy rfl (idxC (xs := x57) sty_35 rfl rfl (rO 152 rfl) hx72) <| on 26 <| WS.eff0 rfl (Eff0.storeC1 152 (xs := x57) (a' := x69 ^^^ ((BitVec.ofInt 8 x71) ||| 1#8)) siz_5 rfl rfl rfl rfl rfl rfl hx73) (sc (sc (sc sn))) <| dd <| k63 _ _ <| tn <| k60 _ _ <| rg fun _ k98 => ?_
     obtain ⟨x99, hx99, h⟩ := bnd h
     obtain ⟨x105, hx105, h⟩ := bnd h
     refine mv rfl <| mv rfl <| mv rfl ?_
     obtain ⟨r_100, hr101, hq102⟩ := Rels.idx hq28 hx99
     refine ya (idxC (xs := rs27) sty_29 rfl rfl (rO 103 rfl) hr101) <| WL.freeze 152 rfl rfl rfl fun M103 hm_M103 hf104 => ?_
     obtain ⟨hu106, hq107⟩ := Rels.upd (r := (⟨A58, x57.length, c59⟩ : Hdr)) (Rels.lift hq28 hm_M103) hx105 hf104
     refine WL.eff0 (Eff0.storeC1 103 (xs := rs27) (a' := (⟨A58, x57.length, c59⟩ : Hdr)) siz_35 rfl rfl rfl rfl rfl rfl hu106) <| dz k98 <| bn <| tn <| k38 _ _ <| rg fun _ k108 => bd h fun x109 hx109 h => mv rfl <| ya (addC rfl rfl hx109) <| ak rfl k108 <| tn <| kw (k32 ⟨M103, x105, (rs27.set (x41).toNat (⟨A58, x57.length, c59⟩ : Hdr)), x29, x109⟩ ⟨h, (Ext.trans hm_M25 hm_M103), hq107⟩)
    skip
    refine dy rfl (lenC (xs := x57) und_35 rfl (rO 152 rfl)) <| on 7 <| dy rfl (lenC (xs := x57) und_35 rfl (rO 152 rfl)) <| du 8 rfl (remC rfl rfl hx66) <| du 11 rfl (addC rfl rfl hx67) <| du 14 rfl (remC rfl rfl hx68) <| on 15 <| dy rfl (idxC (xs := x57) sty_35 rfl rfl (rO 152 rfl) hx69) <| on 16 <| dy rfl (loadC0 (xs := x57) scal_5 rfl (rO 152 rfl) hx69 rfl) <| du 24 rfl (xor_u8 (a := x69) (b := ((BitVec.ofInt 8 x71) ||| 1#8)) rfl rfl) <| on 25 <| dy rfl (idxC (xs := x57) sty_35 rfl rfl (rO 152 rfl) hx72) <| on 26 <| WS.eff0 rfl (Eff0.storeC1 152 (xs := x57) (a' := x69 ^^^ ((BitVec.ofInt 8 x71) ||| 1#8)) siz_5 rfl rfl rfl rfl rfl rfl hx73) (sc (sc (sc sn))) <| dd <| k63 _ _ <| tn <| k60 _ _ <| rg fun _ k110 => ?_
    obtain ⟨x111, hx111, h⟩ := bnd h
    obtain ⟨x117, hx117, h⟩ := bnd h
    refine mv rfl <| mv rfl <| mv rfl ?_
    obtain ⟨r_112, hr113, hq114⟩ := Rels.idx hq28 hx111
    refine ya (idxC (xs := rs27) sty_29 rfl rfl (rO 103 rfl) hr113) <| WL.freeze 152 rfl rfl rfl fun M115 hm_M115 hf116 => ?_
    obtain ⟨hu118, hq119⟩ := Rels.upd (r := (⟨A58, x57.length, c59⟩ : Hdr)) (Rels.lift hq28 hm_M115) hx117 hf116
    refine WL.eff0 (Eff0.storeC1 103 (xs := rs27) (a' := (⟨A58, x57.length, c59⟩ : Hdr)) siz_35 rfl rfl rfl rfl rfl rfl hu118) <| dz k110 <| bn <| tn <| k38 _ _ <| rg fun _ k120 => bd h fun x121 hx121 h => mv rfl <| ya (addC rfl rfl hx121) <| ak rfl k120 <| tn <| kw (k32 ⟨M115, x117, (rs27.set (x41).toNat (⟨A58, x57.length, c59⟩ : Hdr)), x29, x121⟩ ⟨h, (Ext.trans hm_M25 hm_M115), hq119⟩)
   skip
   refine dy rfl (lenC (xs := x57) und_35 rfl (rO 152 rfl)) <| WD.two 7 10 (by kernel_rfl) ?_ ?_
   ·refine dy rfl (lenC (xs := x57) und_35 rfl (rO 152 rfl)) <| du 8 rfl (remC rfl rfl hx66) <| on 10 <| dy rfl (lenC (xs := x57) und_35 rfl (rO 152 rfl)) <| du 11 rfl (addC rfl rfl hx67) <| du 14 rfl (remC rfl rfl hx68) <| on 15 <| dy rfl (idxC (xs := x57) sty_35 rfl rfl (rO 152 rfl) hx69) <| on 16 <| dy rfl (loadC0 (xs := x57) scal_5 rfl (rO 152 rfl) hx69 rfl) <| du 24 rfl (xor_u8 (a := x69) (b := ((BitVec.ofInt 8 x71) ||| 1#8)) rfl rfl) <| on 25 <| dy rfl (idxC (xs := x57) sty_35 rfl rfl (rO 152 rfl) hx72) <| on 26 <| WS.eff0 rfl (Eff0.storeC1 152 (xs := x57) (a' := x69 ^^^ ((BitVec.ofInt 8 x71) ||| 1#8)) siz_5 rfl rfl rfl rfl rfl rfl hx73) (sc (sc (sc sn))) <| dd <| k63 _ _ <| tn <| k60 _ _ <| rg fun _ k122 => ?_
    obtain ⟨x123, hx123, h⟩ := bnd h
    obtain ⟨x129, hx129, h⟩ := bnd h
    refine mv rfl <| mv rfl <| mv rfl ?_
    obtain ⟨r_124, hr125, hq126⟩ := Rels.idx hq28 hx123
    refine ya (idxC (xs := rs27) sty_29 rfl rfl (rO 103 rfl) hr125) <| WL.freeze 152 rfl rfl rfl fun M127 hm_M127 hf128 => ?_
    obtain ⟨hu130, hq131⟩ := Rels.upd (r := (⟨A58, x57.length, c59⟩ : Hdr)) (Rels.lift hq28 hm_M127) hx129 hf128
    refine WL.eff0 (Eff0.storeC1 103 (xs := rs27) (a' := (⟨A58, x57.length, c59⟩ : Hdr)) siz_35 rfl rfl rfl rfl rfl rfl hu130) <| dz k122 <| bn <| tn <| k38 _ _ <| rg fun _ k132 => bd h fun x133 hx133 h => mv rfl <| ya (addC rfl rfl hx133) <| ak rfl k132 <| tn <| kw (k32 ⟨M127, x129, (rs27.set (x41).toNat (⟨A58, x57.length, c59⟩ : Hdr)), x29, x133⟩ ⟨h, (Ext.trans hm_M25 hm_M127), hq131⟩)
   skip
   refine dy rfl (lenC (xs := x57) und_35 rfl (rO 152 rfl)) <| on 7 <| dy rfl (lenC (xs := x57) und_35 rfl (rO 152 rfl)) <| du 8 rfl (remC rfl rfl hx66) <| du 11 rfl (addC rfl rfl hx67) <| du 14 rfl (remC rfl rfl hx68) <| on 15 <| dy rfl (idxC (xs := x57) sty_35 rfl rfl (rO 152 rfl) hx69) <| on 16 <| dy rfl (loadC0 (xs := x57) scal_5 rfl (rO 152 rfl) hx69 rfl) <| du 24 rfl (xor_u8 (a := x69) (b := ((BitVec.ofInt 8 x71) ||| 1#8)) rfl rfl) <| on 25 <| dy rfl (idxC (xs := x57) sty_35 rfl rfl (rO 152 rfl) hx72) <| on 26 <| WS.eff0 rfl (Eff0.storeC1 152 (xs := x57) (a' := x69 ^^^ ((BitVec.ofInt 8 x71) ||| 1#8)) siz_5 rfl rfl rfl rfl rfl rfl hx73) (sc (sc (sc sn))) <| dd <| k63 _ _ <| tn <| k60 _ _ <| rg fun _ k134 => ?_
   obtain ⟨x135, hx135, h⟩ := bnd h
   obtain ⟨x141, hx141, h⟩ := bnd h
   refine mv rfl <| mv rfl <| mv rfl ?_
   obtain ⟨r_136, hr137, hq138⟩ := Rels.idx hq28 hx135
   refine ya (idxC (xs := rs27) sty_29 rfl rfl (rO 103 rfl) hr137) <| WL.freeze 152 rfl rfl rfl fun M139 hm_M139 hf140 => ?_
   obtain ⟨hu142, hq143⟩ := Rels.upd (r := (⟨A58, x57.length, c59⟩ : Hdr)) (Rels.lift hq28 hm_M139) hx141 hf140
   refine WL.eff0 (Eff0.storeC1 103 (xs := rs27) (a' := (⟨A58, x57.length, c59⟩ : Hdr)) siz_35 rfl rfl rfl rfl rfl rfl hu142) <| dz k134 <| bn <| tn <| k38 _ _ <| rg fun _ k144 => bd h fun x145 hx145 h => mv rfl <| ya (addC rfl rfl hx145) <| ak rfl k144 <| tn <| kw (k32 ⟨M139, x141, (rs27.set (x41).toNat (⟨A58, x57.length, c59⟩ : Hdr)), x29, x145⟩ ⟨h, (Ext.trans hm_M25 hm_M139), hq143⟩)
  refine ss <| k60 _ _ <| rg fun _ k146 => ?_
  obtain ⟨x147, hx147, h⟩ := bnd h
  obtain ⟨x153, hx153, h⟩ := bnd h
  refine mv rfl <| mv rfl <| mv rfl ?_
  obtain ⟨r_148, hr149, hq150⟩ := Rels.idx hq28 hx147
  refine ya (idxC (xs := rs27) sty_29 rfl rfl (rO 103 rfl) hr149) <| WL.freeze 152 rfl rfl rfl fun M151 hm_M151 hf152 => ?_
  obtain ⟨hu154, hq155⟩ := Rels.upd (r := (⟨A58, x57.length, c59⟩ : Hdr)) (Rels.lift hq28 hm_M151) hx153 hf152
  refine WL.eff0 (Eff0.storeC1 103 (xs := rs27) (a' := (⟨A58, x57.length, c59⟩ : Hdr)) siz_35 rfl rfl rfl rfl rfl rfl hu154) <| dz k146 <| bn <| tn <| k38 _ _ <| rg fun _ k156 => bd h fun x157 hx157 h => mv rfl <| ya (addC rfl rfl hx157) <| ak rfl k156 <| tn <| kw (k32 ⟨M151, x153, (rs27.set (x41).toNat (⟨A58, x57.length, c59⟩ : Hdr)), x29, x157⟩ ⟨h, (Ext.trans hm_M25 hm_M151), hq155⟩)
 rintro ⟨M18, x19, rs20, x22⟩ ⟨h, hm_M18, hq21⟩
 unfold m_law18_spoilt_j0 at h
 refine sr fun _ k158 => mv rfl <| mv rfl <| asn rfl <| ak rfl k158 <| re ?_
 obtain rfl := si h
 exact rt [103, 114] (ResIs.two rfl rfl rfl) hm_M18 ⟨A6, (([] : List Hdr) ++ rs00).length, c7, rs20, A15, n16, c17, rfl, rfl, hq21⟩
theorem w_law18_light (M0 : Mem) (A00 : Option Addr) (n00 c00 : Nat) (rs00 : List Hdr) (x00 : List By) (hf00 : SlT M0 A00 n00 c00 rs00) (hq00 : Rels ((RelB (α := BitVec 8)) M0) rs00 x00) (v0 v1 v2 v3 : Int) (v4 v5 v6 v7 v8 v9 : BitVec 32) (A01_10 : Option Addr) (n01_10 c01_10 : Nat) (v10 : List Sapi_Item) (hf01_10 : SlT M0 A01_10 n01_10 c01_10 v10) {res : Bool} (h : m_law18_light x00 v0 v1 v2 v3 v4 v5 v6 v7 v8 v9 v10 = some res) :
  Fn Tryz.prog 8 #[.slice A00 n00 c00, .agg ([I64 v0, I64 v1, I64 v2, I64 v3, U32 v4, U32 v5, U32 v6, U32 v7, U32 v8, U32 v9, .slice A01_10 n01_10 c01_10] : List Value).toArray] M0 fun r M' es => r = .bool res /\ es = [] := by
 refine Fn.intro (N := 27) Tryz.func8 rfl rfl (nle rfl) fun w0 => ?_
 unfold m_law18_light at h
 refine sr fun _ k1 => bb 102 [I64 v0, I64 v1, I64 v2, I64 v3, U32 v4, U32 v5, U32 v6, U32 v7, U32 v8, U32 v9, .slice A01_10 n01_10 c01_10] rfl fun g2 => ak rfl k1 <| ct (σ := Unit) (fun _ => [(0, .slice A00 n00 c00), (3, pv g2)]) (fun _ => [(0, .mem M0), (102, .blk g2 28 [I64 v0, I64 v1, I64 v2, I64 v3, U32 v4, U32 v5, U32 v6, U32 v7, U32 v8, U32 v9, .slice A01_10 n01_10 c01_10])]) (fun _ => m_law18_light_j0 x00 v10 = some res) (fun _ k3 => ?_) ?_
 ·refine sr fun _ k4 => mv rfl <| ya (lenD (rs := rs00) (xs := x00) (Rels.len hq00) und_29 rfl (mM rfl hf00)) <| mv rfl <| dz k4 <| bl <| lp (τ := Int) (fun x5 => [(0, .slice A00 n00 c00), (3, pv g2), (7, I64 (x00.length : Int)), (8, I64 x5)]) (fun x5 => [(0, .mem M0), (102, .blk g2 28 [I64 v0, I64 v1, I64 v2, I64 v3, U32 v4, U32 v5, U32 v6, U32 v7, U32 v8, U32 v9, .slice A01_10 n01_10 c01_10])]) (fun q6 x5 => m_law18_light_l1 x00 v10 q6 x5 = some res) ((0 : Int)) ?_ (by simp [m_law18_light_l1]) ?_
  ·exact h
  rintro q6 x5 h _ k7
  unfold m_law18_light_l1 at h
  refine sr fun _ k8 => ya (lss rfl rfl) <| dz k8 <| sq fun _ k9 => cI h rfl (fun hc10 h => ?_) fun hc10 h => ?_
  ·refine ss <| k9 _ _ <| sq fun _ k11 => bl <| sr fun _ k12 => mv rfl <| ak rfl k12 <| sr fun _ k13 => bd h fun x14 hx14 h => mv rfl <| mv rfl ?_
   obtain ⟨r_15, hr16, hq17⟩ := Rels.idx hq00 hx14
   refine ya (idxC (xs := rs00) sty_29 rfl rfl (mM rfl hf00) hr16) <| ya (loadC0 (xs := rs00) scal_35 rfl (mM rfl hf00) hr16 rfl) <| ya (lenC (xs := x14) und_35 rfl (mM rfl hq17)) <| ya (gtr rfl rfl) <| dz k13 <| cI h rfl (fun hc18 h => ?_) fun hc18 h => ?_
   ·refine sr fun _ k19 => ak rfl k19 <| re <| br <| tr <| tr <| br <| tr ?_
    obtain rfl := si h
    exact rt0 (ResIs.one rfl rfl)
   refine WC.skip <| bn <| tn <| k11 _ _ <| rg fun _ k20 => bd h fun x21 hx21 h => ya (addC rfl rfl hx21) <| mv rfl <| dz k20 <| tn <| kw (k7 (x21) h)
  exact xi <| te <| te <| bx <| tn <| kw (k3 () h)
 rintro _ h
 unfold m_law18_light_j0 at h
 refine sr fun _ k22 => mv rfl <| ya (lenD (rs := rs00) (xs := x00) (Rels.len hq00) und_29 rfl (mM rfl hf00)) <| ya (leq rfl rfl) <| mv rfl <| spl h decide_eq_true decide_eq_false (fun hc23 h => ?_) fun hc23 h => ?_
 ·refine yg (fieldAddr Tryz.underlying28 rfl nz_26 rfl rfl) <| yg (loadB (k := 102) scal_26 rfl rfl rfl) <| yg (lenC (xs := v10) und_26 rfl (mM rfl hf01_10)) <| yg (leq rfl rfl) <| pt rfl rfl <| ak rfl k22 <| re ?_
  obtain rfl := si h
  exact rt0 (ResIs.one rfl rfl)
 refine sk <| sk <| sk <| sk <| pf rfl rfl <| ak rfl k22 <| re ?_
 obtain rfl := si h
 exact rt0 (ResIs.one rfl rfl)
theorem w_law18_awake (M0 : Mem)  {res : Bool} (h : m_law18_awake = some res) :
  Fn Tryz.prog 9 #[] M0 fun r M' es => r = .bool res /\ es = [] := by
 refine Fn.intro (N := 67) Tryz.func9 rfl rfl (nle rfl) fun w0 => ?_
 unfold m_law18_awake at h
 refine sr fun _ k1 => ak rfl k1 <| sr fun _ k2 => ?_
 obtain ⟨x3, hx3, h⟩ := bnd h
 obtain ⟨x11, hx11, h⟩ := bnd h
 obtain ⟨x19, hx19, h⟩ := bnd h
 refine c1 107 Tryz.func16 rfl (fun w hb hh => w_ecread_Exclude (Mem.snap w) (6 : Int) hx3) fun A8 n9 c10 => c1 115 Tryz.func16 rfl (fun w hb hh => w_ecread_Exclude (Mem.snap w) (7 : Int) hx11) fun A16 n17 c18 => c1 123 Tryz.func16 rfl (fun w hb hh => w_ecread_Exclude (Mem.snap w) (21 : Int) hx19) fun A24 n25 c26 => asn rfl <| asn rfl <| ak rfl k2 <| sr fun _ k27 => bd h fun x28 hx28 h => ya (build rfl (bu_46_)) <| ya (build rfl (bu_59_)) <| c1 132 Tryz.func18 rfl (fun w hb hh => w_ecread_Read (Mem.snap w) (0 : Int) (0 : Int) (0 : Int) (0 : Int) 0#32 0#32 0#32 0#32 0#32 0#32 none 0 0 _ (RdH.sn (RdT.nil (α := Sapi_Item)) w hb hh) none 0 0 ([] : List Hdr) _ (RdH.sn (RdT.nil (α := Hdr)) w hb hh) (Rels.sn (Rels.nil (R := (RelB (α := BitVec 8)) M0)) (hh.sat 0 _ rfl)) none 0 0 _ (RdH.sn (RdT.nil (α := Bool)) w hb hh) 0#64 0#32 (0 : Int) (0 : Int) hx28) fun A33 n34 c35 => mv rfl <| ya (extract rfl rfl) <| ya (extract rfl rfl) <| al 136 zr_55 fun g36 => sb 136 agg_55 rfl rfl rfl <| ak rfl k27 <| sr fun _ k37 => bd h fun x38 hx38 h => c1 142 Tryz.func16 rfl (fun w hb hh => w_ecread_Exclude (Mem.snap w) (0 : Int) hx38) fun A43 n44 c45 => ya (lenC (xs := x38) und_32 rfl (rO 142 rfl)) <| ya (eqlI rfl rfl) <| mv rfl <| spl h beq_iff_eq.2 beq_eq_false_iff_ne.2 (fun hc46 h => ?_) fun hc46 h => ?_
 ·refine mvg rfl <| yg (lenC (xs := x3) und_32 rfl (rO 107 rfl)) <| yg (eqlI rfl rfl) <| pt rfl rfl <| mv rfl <| spl h beq_iff_eq.2 beq_eq_false_iff_ne.2 (fun hc47 h => ?_) fun hc47 h => ?_
  ·obtain ⟨x48, hx48, h⟩ := bnd h
   refine mvg rfl <| yg (idxC (xs := x3) sty_32 rfl rfl (rO 107 rfl) hx48) <| yg (loadC0 (xs := x3) scal_3 rfl (rO 107 rfl) hx48 rfl) <| yg (eqlI rfl rfl) <| pt rfl rfl <| mv rfl <| spl h beq_iff_eq.2 beq_eq_false_iff_ne.2 (fun hc49 h => ?_) fun hc49 h => ?_
   ·refine mvg rfl <| yg (lenC (xs := x11) und_32 rfl (rO 115 rfl)) <| yg (eqlI rfl rfl) <| pt rfl rfl <| mv rfl <| spl h beq_iff_eq.2 beq_eq_false_iff_ne.2 (fun hc50 h => ?_) fun hc50 h => ?_
    ·obtain ⟨x51, hx51, h⟩ := bnd h
     refine mvg rfl <| yg (idxC (xs := x11) sty_32 rfl rfl (rO 115 rfl) hx51) <| yg (loadC0 (xs := x11) scal_3 rfl (rO 115 rfl) hx51 rfl) <| yg (eqlI rfl rfl) <| pt rfl rfl <| mv rfl <| spl h beq_iff_eq.2 beq_eq_false_iff_ne.2 (fun hc52 h => ?_) fun hc52 h => ?_
     ·obtain ⟨x53, hx53, h⟩ := bnd h
      refine mvg rfl <| yg (idxC (xs := x11) sty_32 rfl rfl (rO 115 rfl) hx53) <| yg (loadC0 (xs := x11) scal_3 rfl (rO 115 rfl) hx53 rfl) <| yg (eqlI rfl rfl) <| pt rfl rfl <| mv rfl <| spl h beq_iff_eq.2 beq_eq_false_iff_ne.2 (fun hc54 h => ?_) fun hc54 h => ?_
      ·refine mvg rfl <| yg (lenC (xs := x19) und_32 rfl (rO 123 rfl)) <| yg (eqlI rfl rfl) <| pt rfl rfl <| mv rfl <| spl h beq_iff_eq.2 beq_eq_false_iff_ne.2 (fun hc55 h => ?_) fun hc55 h => ?_
       ·obtain ⟨x56, hx56, h⟩ := bnd h
        refine mvg rfl <| yg (idxC (xs := x19) sty_32 rfl rfl (rO 123 rfl) hx56) <| yg (loadC0 (xs := x19) scal_3 rfl (rO 123 rfl) hx56 rfl) <| yg (eqlI rfl rfl) <| pt rfl rfl <| mv rfl <| spl h beq_iff_eq.2 beq_eq_false_iff_ne.2 (fun hc57 h => ?_) fun hc57 h => ?_
        ·obtain ⟨x58, hx58, h⟩ := bnd h
         refine mvg rfl <| yg (idxC (xs := x19) sty_32 rfl rfl (rO 123 rfl) hx58) <| yg (loadC0 (xs := x19) scal_3 rfl (rO 123 rfl) hx58 rfl) <| yg (eqlI rfl rfl) <| pt rfl rfl <| mv rfl <| spl h beq_iff_eq.2 beq_eq_false_iff_ne.2 (fun hc59 h => ?_) fun hc59 h => ?_
         ·refine mvg rfl <| yg (eqlI rfl rfl) <| pt rfl rfl <| ak rfl k37 <| re ?_
          obtain rfl := si h
          exact rt0 (ResIs.one rfl rfl)
         refine sk <| sk <| pf rfl rfl <| ak rfl k37 <| re ?_
         obtain rfl := si h
         exact rt0 (ResIs.one rfl rfl)
        refine sk <| sk <| sk <| sk <| pf rfl rfl <| mv rfl <| sk <| sk <| pf rfl rfl <| ak rfl k37 <| re ?_
        obtain rfl := si h
        exact rt0 (ResIs.one rfl rfl)
       refine sk <| sk <| sk <| sk <| pf rfl rfl <| mv rfl <| sk <| sk <| sk <| sk <| pf rfl rfl <| mv rfl <| sk <| sk <| pf rfl rfl <| ak rfl k37 <| re ?_
       obtain rfl := si h
       exact rt0 (ResIs.one rfl rfl)
      refine sk <| sk <| sk <| pf rfl rfl <| mv rfl <| sk <| sk <| sk <| sk <| pf rfl rfl <| mv rfl <| sk <| sk <| sk <| sk <| pf rfl rfl <| mv rfl <| sk <| sk <| pf rfl rfl <| ak rfl k37 <| re ?_
      obtain rfl := si h
      exact rt0 (ResIs.one rfl rfl)
     refine sk <| sk <| sk <| sk <| pf rfl rfl <| mv rfl <| sk <| sk <| sk <| pf rfl rfl <| mv rfl <| sk <| sk <| sk <| sk <| pf rfl rfl <| mv rfl <| sk <| sk <| sk <| sk <| pf rfl rfl <| mv rfl <| sk <| sk <| pf rfl rfl <| ak rfl k37 <| re ?_
     obtain rfl := si h
     exact rt0 (ResIs.one rfl rfl)
    refine sk <| sk <| sk <| sk <| pf rfl rfl <| mv rfl <| sk <| sk <| sk <| sk <| pf rfl rfl <| mv rfl <| sk <| sk <| sk <| pf rfl rfl <| mv rfl <| sk <| sk <| sk <| sk <| pf rfl rfl <| mv rfl <| sk <| sk <| sk <| sk <| pf rfl rfl <| mv rfl <| sk <| sk <| pf rfl rfl <| ak rfl k37 <| re ?_
    obtain rfl := si h
    exact rt0 (ResIs.one rfl rfl)
   refine sk <| sk <| sk <| pf rfl rfl <| mv rfl <| sk <| sk <| sk <| sk <| pf rfl rfl <| mv rfl <| sk <| sk <| sk <| sk <| pf rfl rfl <| mv rfl <| sk <| sk <| sk <| pf rfl rfl <| mv rfl <| sk <| sk <| sk <| sk <| pf rfl rfl <| mv rfl <| sk <| sk <| sk <| sk <| pf rfl rfl <| mv rfl <| sk <| sk <| pf rfl rfl <| ak rfl k37 <| re ?_
   obtain rfl := si h
   exact rt0 (ResIs.one rfl rfl)
  refine sk <| sk <| sk <| sk <| pf rfl rfl <| mv rfl <| sk <| sk <| sk <| pf rfl rfl <| mv rfl <| sk <| sk <| sk <| sk <| pf rfl rfl <| mv rfl <| sk <| sk <| sk <| sk <| pf rfl rfl <| mv rfl <| sk <| sk <| sk <| pf rfl rfl <| mv rfl <| sk <| sk <| sk <| sk <| pf rfl rfl <| mv rfl <| sk <| sk <| sk <| sk <| pf rfl rfl <| mv rfl <| sk <| sk <| pf rfl rfl <| ak rfl k37 <| re ?_
  obtain rfl := si h
  exact rt0 (ResIs.one rfl rfl)
 refine sk <| sk <| sk <| pf rfl rfl <| mv rfl <| sk <| sk <| sk <| sk <| pf rfl rfl <| mv rfl <| sk <| sk <| sk <| pf rfl rfl <| mv rfl <| sk <| sk <| sk <| sk <| pf rfl rfl <| mv rfl <| sk <| sk <| sk <| sk <| pf rfl rfl <| mv rfl <| sk <| sk <| sk <| pf rfl rfl <| mv rfl <| sk <| sk <| sk <| sk <| pf rfl rfl <| mv rfl <| sk <| sk <| sk <| sk <| pf rfl rfl <| mv rfl <| sk <| sk <| pf rfl rfl <| ak rfl k37 <| re ?_
 obtain rfl := si h
 exact rt0 (ResIs.one rfl rfl)
end Go.Proofs.YtcncappgheopgaaGreat
