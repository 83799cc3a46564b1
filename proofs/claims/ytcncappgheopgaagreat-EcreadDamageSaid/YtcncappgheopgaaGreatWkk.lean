/- A part of the proof. Conditions: as each theorem says. -/
import Derived.Test.YtcncappgheopgaaGreatWkj
import Derived.Test.YtcncappgheopgaaGreatMdk
namespace Go.Proofs.YtcncappgheopgaaGreat
set_option maxRecDepth 10000
open Go Go.RowKit Yld
set_option linter.unusedVariables false
theorem agg_25 : Agg Tryz.prog 25 6 := ⟨⟨_, Tryz.underlying25, rfl⟩, by kernel_rfl⟩
theorem bu_46_ : Tryz.prog.built 46 [] = some ([I64 (0 : Int), I64 (0 : Int), I64 (0 : Int), I64 (0 : Int), U32 0#32, U32 0#32, U32 0#32, U32 0#32, U32 0#32, U32 0#32, .slice none 0 0] : List Value).toArray := by kernel_rfl
theorem bu_46_0_1_2_3 : ∀ (a0_0 : Int) (a0_1 : Int) (a0_2 : Int) (a1 : Int) (a2_0 : BitVec 32) (a2_1 : BitVec 32) (a2_2 : BitVec 32) (a2_3 : BitVec 32) (a2_4 : BitVec 32) (a2_5 : BitVec 32) (a3 : Option Addr) (n3 c3 : Nat), Tryz.prog.built 46 [(0, .agg ([I64 a0_0, I64 a0_1, I64 a0_2] : List Value).toArray), (1, I64 a1), (2, .agg ([U32 a2_0, U32 a2_1, U32 a2_2, U32 a2_3, U32 a2_4, U32 a2_5] : List Value).toArray), (3, .slice a3 n3 c3)] = some ([I64 a0_0, I64 a0_1, I64 a0_2, I64 a1, U32 a2_0, U32 a2_1, U32 a2_2, U32 a2_3, U32 a2_4, U32 a2_5, .slice a3 n3 c3] : List Value).toArray := fun a0_0 a0_1 a0_2 a1 a2_0 a2_1 a2_2 a2_3 a2_4 a2_5 a3 n3 c3 => by kernel_rfl
theorem bu_59_ : Tryz.prog.built 59 [] = some ([U64 0#64, U32 0#32, I64 (0 : Int), I64 (0 : Int)] : List Value).toArray := by kernel_rfl
theorem nm_18 : (Tryz.f18.name == "runtime.NumGoroutine") = false := by kernel_rfl
theorem nz_25 : (Tryz.prog.info? 25).map (fun i => decide (i.size = 0)) = some false := by kernel_rfl
theorem nz_28 : (Tryz.prog.info? 28).map (fun i => decide (i.size = 0)) = some false := by kernel_rfl
theorem zr_46 : (Tryz.prog.info? 46).map (fun i => i.zero.map (·.cells)) = some (some ([I64 (0 : Int), I64 (0 : Int), I64 (0 : Int), I64 (0 : Int), U32 0#32, U32 0#32, U32 0#32, U32 0#32, U32 0#32, U32 0#32, .slice none 0 0] : List Value).toArray) := by kernel_rfl
theorem w_law18_given (M0 : Mem) (u0 u1 u2 u3 : Int) (u4 u5 u6 u7 u8 u9 : BitVec 32) (A00_10 : Option Addr) (n00_10 c00_10 : Nat) (u10 : List Sapi_Item) (hf00_10 : SlT M0 A00_10 n00_10 c00_10 u10) {res : Int × Int × Int × Int × (BitVec 32) × (BitVec 32) × (BitVec 32) × (BitVec 32) × (BitVec 32) × (BitVec 32) × (List Sapi_Item)} (h : m_law18_given u0 u1 u2 u3 u4 u5 u6 u7 u8 u9 u10 = some res) :
  Fn Tryz.prog 13 #[.agg ([I64 u0, I64 u1, I64 u2, I64 u3, U32 u4, U32 u5, U32 u6, U32 u7, U32 u8, U32 u9, .slice A00_10 n00_10 c00_10] : List Value).toArray] M0 fun r M' es => ∃ (A1 : Option Addr) (n1 c1 : Nat), r = .agg ([I64 res.1, I64 res.2.1, I64 res.2.2.1, I64 res.2.2.2.1, U32 res.2.2.2.2.1, U32 res.2.2.2.2.2.1, U32 res.2.2.2.2.2.2.1, U32 res.2.2.2.2.2.2.2.1, U32 res.2.2.2.2.2.2.2.2.1, U32 res.2.2.2.2.2.2.2.2.2.1, .slice A1 n1 c1] : List Value).toArray /\ es = [] /\ SlT M' A1 n1 c1 res.2.2.2.2.2.2.2.2.2.2 := by
 refine Fn.intro (N := 12) Tryz.func13 rfl rfl (nle rfl) fun w0 => ?_
 unfold m_law18_given at h
 refine sr fun _ k1 => bb 102 [I64 u0, I64 u1, I64 u2, I64 u3, U32 u4, U32 u5, U32 u6, U32 u7, U32 u8, U32 u9, .slice A00_10 n00_10 c00_10] rfl fun g2 => al 103 zr_46 fun g3 => dz k1 <| sr fun _ k4 => ya (fieldAddr Tryz.underlying28 rfl nz_23 rfl rfl) <| ya (loadBP (k := 102) (us := [I64 u0, I64 u1, I64 u2]) agg_23 rfl rfl rfl rfl) <| ya (fieldAddr Tryz.underlying28 rfl nz_2 rfl rfl) <| ya (loadB (k := 102) scal_2 rfl rfl rfl) <| ya (fieldAddr Tryz.underlying28 rfl nz_25 rfl rfl) <| ya (loadBP (k := 102) (us := [U32 u4, U32 u5, U32 u6, U32 u7, U32 u8, U32 u9]) agg_25 rfl rfl rfl rfl) <| ya (fieldAddr Tryz.underlying28 rfl nz_26 rfl rfl) <| ya (loadB (k := 102) scal_26 rfl rfl rfl) <| ya (build rfl (bu_46_0_1_2_3 u0 u1 u2 u3 u4 u5 u6 u7 u8 u9 A00_10 n00_10 c00_10)) <| sb 103 agg_46 rfl rfl rfl <| dz k4 <| re ?_
 obtain rfl := si h
 exact rt [] (ResIs.cellM (k := 103) rfl agg_46 rfl rfl (rfl)) (Ext.refl _ _) ⟨A00_10, n00_10, c00_10, rfl, rfl, hf00_10⟩
theorem w_law18_all (M0 : Mem)  {res : (List Bool)} (h : m_law18_all = some res) :
  Fn Tryz.prog 15 #[] M0 fun r M' es => ∃ (A1 : Option Addr) (n1 c1 : Nat), r = .slice A1 n1 c1 /\ es = [.own 4 (Lay.sz Bool) A1 n1 c1 (cel res)] := by
 refine Fn.intro (N := 2) Tryz.func15 rfl rfl (nle rfl) fun w0 => ?_
 unfold m_law18_all at h
 refine sr fun _ k1 => ak rfl k1 <| sr fun _ k2 => WL.eff (by decide) (Eff.buildC 103 ([true, true, true, true, true, true] : List Bool) sty_30 rfl rfl rfl rfl rfl (by decide)) ?_
 rintro _ _ ⟨g3, rfl, rfl⟩
 refine ak rfl k2 <| re ?_
 obtain rfl := si h
 exact rt [103] (ResIs.one rfl rfl) (Ext.refl _ _) ⟨(some ⟨g3, 0, none⟩), ([true, true, true, true, true, true] : List Bool).length, ([true, true, true, true, true, true] : List Bool).length, rfl, rfl⟩
theorem w_law18_collides (M0 : Mem) (A00_0 : Option Addr) (n00_0 c00_0 : Nat) (u0 : By) (hf00_0 : SlT M0 A00_0 n00_0 c00_0 u0) (A00_1 : Option Addr) (n00_1 c00_1 : Nat) (rs00_1 : List Rneedlestoreref09_Record) (u1 : List Sneedlestoreref09_Record) (hf00_1 : SlT M0 A00_1 n00_1 c00_1 rs00_1) (hq00_1 : Rels (rel_needlestoreref09_Record M0) rs00_1 u1) (u2 u3 u4 u5 : Int) (u6 u7 u8 u9 u10 u11 : BitVec 32) (A00_12 : Option Addr) (n00_12 c00_12 : Nat) (u12 : List Sapi_Item) (hf00_12 : SlT M0 A00_12 n00_12 c00_12 u12) (A00_13 : Option Addr) (n00_13 c00_13 : Nat) (rs00_13 : List Hdr) (u13 : List By) (hf00_13 : SlT M0 A00_13 n00_13 c00_13 rs00_13) (hq00_13 : Rels ((RelB (α := BitVec 8)) M0) rs00_13 u13) (A01 : Option Addr) (n01 c01 : Nat) (rs01 : List Hdr) (x01 : List By) (hf01 : SlT M0 A01 n01 c01 rs01) (hq01 : Rels ((RelB (α := BitVec 8)) M0) rs01 x01) (A02 : Option Addr) (n02 c02 : Nat) (x02 : List Bool) (hf02 : SlT M0 A02 n02 c02 x02) (z0 : BitVec 64) (z1 : BitVec 32) (z2 z3 : Int) (x04_0 : BitVec 64) (x04_1 : BitVec 32) (x04_2 : Bool) (A04_3 : Option Addr) (n04_3 c04_3 : Nat) (x04_3 : By) (hf04_3 : SlT M0 A04_3 n04_3 c04_3 x04_3) {res : Bool} (h : m_law18_collides u0 u1 u2 u3 u4 u5 u6 u7 u8 u9 u10 u11 u12 u13 x01 x02 z0 z1 z2 z3 x04_0 x04_1 x04_2 x04_3 = some res) :
  Fn Tryz.prog 17 #[.agg ([.slice A00_0 n00_0 c00_0, .slice A00_1 n00_1 c00_1, I64 u2, I64 u3, I64 u4, I64 u5, U32 u6, U32 u7, U32 u8, U32 u9, U32 u10, U32 u11, .slice A00_12 n00_12 c00_12, .slice A00_13 n00_13 c00_13] : List Value).toArray, .slice A01 n01 c01, .slice A02 n02 c02, .agg ([U64 z0, U32 z1, I64 z2, I64 z3] : List Value).toArray, .agg ([U64 x04_0, U32 x04_1, .bool x04_2, .slice A04_3 n04_3 c04_3] : List Value).toArray] M0 fun r M' es => r = .bool res /\ es = [] := by
 refine Fn.intro (N := 35) Tryz.func17 rfl rfl (nle rfl) fun w0 => ?_
 unfold m_law18_collides at h
 refine sr fun _ k1 => bb 102 [.slice A00_0 n00_0 c00_0, .slice A00_1 n00_1 c00_1, I64 u2, I64 u3, I64 u4, I64 u5, U32 u6, U32 u7, U32 u8, U32 u9, U32 u10, U32 u11, .slice A00_12 n00_12 c00_12, .slice A00_13 n00_13 c00_13] rfl fun g2 => bb 103 [U64 z0, U32 z1, I64 z2, I64 z3] rfl fun g3 => bb 104 [U64 x04_0, U32 x04_1, .bool x04_2, .slice A04_3 n04_3 c04_3] rfl fun g4 => ak rfl k1 <| ct (σ := Unit) (fun _ => []) (fun _ => [(0, .mem M0)]) (fun _ => m_law18_collides_j0 = some res) (fun _ k5 => ?_) ?_
 ·refine sr fun _ k6 => ak rfl k6 <| bl <| lp (τ := Int) (fun x7 => [(1, .slice A01 n01 c01), (2, .slice A02 n02 c02), (5, pv g2), (8, pv g3), (9, pv g4), (11, I64 x7)]) (fun x7 => [(0, .mem M0), (102, .blk g2 38 [.slice A00_0 n00_0 c00_0, .slice A00_1 n00_1 c00_1, I64 u2, I64 u3, I64 u4, I64 u5, U32 u6, U32 u7, U32 u8, U32 u9, U32 u10, U32 u11, .slice A00_12 n00_12 c00_12, .slice A00_13 n00_13 c00_13]), (103, .blk g3 59 [U64 z0, U32 z1, I64 z2, I64 z3]), (104, .blk g4 55 [U64 x04_0, U32 x04_1, .bool x04_2, .slice A04_3 n04_3 c04_3])]) (fun q8 x7 => m_law18_collides_l1 u10 u11 u12 u2 u3 u4 u5 u6 u7 u8 u9 x01 x02 z0 z1 z2 z3 x04_0 x04_1 x04_2 x04_3 q8 x7 = some res) ((0 : Int)) ?_ (by simp [m_law18_collides_l1]) ?_
  ·exact h
  rintro q8 x7 h _ k9
  unfold m_law18_collides_l1 at h
  refine sq fun _ k10 => sr fun _ k11 => mv rfl <| ya (lss rfl rfl) <| dz k11 <| cI h rfl (fun hc12 h => ?_) fun hc12 h => ?_
  ·refine ss <| k10 _ _ <| sq fun _ k13 => bl <| sr fun _ k14 => bd h fun x15 hx15 h => ya (fieldAddr Tryz.underlying38 rfl nz_28 rfl rfl) <| ya (loadBP (k := 102) (us := [I64 u2, I64 u3, I64 u4, I64 u5, U32 u6, U32 u7, U32 u8, U32 u9, U32 u10, U32 u11, .slice A00_12 n00_12 c00_12]) agg_28 rfl rfl rfl rfl) <| mv rfl <| mv rfl <| mv rfl <| ya (loadBM (k := 103) agg_59 rfl rfl rfl) <| c1 119 Tryz.func23 rfl (fun w hb hh => w_r18_Candidate (Mem.snap w) u2 u3 u4 u5 u6 u7 u8 u9 u10 u11 A00_12 n00_12 c00_12 _ (sM rfl hf00_12 w hb hh) A01 n01 c01 rs01 _ (sM rfl hf01 w hb hh) (Rels.sn hq01 (hh.sat 0 _ rfl)) A02 n02 c02 _ (sM rfl hf02 w hb hh) x7 z0 z1 z2 z3 hx15) fun A20 n21 c22 => mv rfl <| ya (extract rfl rfl) <| ya (extract rfl rfl) <| al 123 zr_55 fun g23 => sb 123 agg_55 rfl rfl rfl <| ak rfl k14 <| sr fun _ k24 => mv rfl <| mv rfl <| spl h id Bool.eq_false_iff.2 (fun hc25 h => ?_) fun hc25 h => ?_
   ·obtain ⟨x26, hx26, h⟩ := bnd h
    refine yg (loadBM (k := 123) agg_55 rfl rfl rfl) <| yg (loadBM (k := 104) agg_55 rfl rfl rfl) <| c0g Tryz.func19 rfl (fun w hb hh => w_r06_Same (Mem.snap w) x15.1 x15.2.1 x15.2.2.1 A20 n21 c22 _ (RdH.sn (rO 119 rfl) w hb hh) x04_0 x04_1 x04_2 A04_3 n04_3 c04_3 _ (sM rfl hf04_3 w hb hh) hx26) <| yg (notB rfl) <| pt rfl rfl <| dz k24 <| cnn h rfl not_f (fun q => not_t (Bool.eq_false_iff.2 q)) (fun hc28 h => ?_) fun hc28 h => ?_
    ·refine WC.skip <| bn <| tn <| k13 _ _ <| rg fun _ k29 => bd h fun x30 hx30 h => mv rfl <| ya (addC rfl rfl hx30) <| ak rfl k29 <| tn <| kw (k9 (x30) h)
    refine sr fun _ k31 => ak rfl k31 <| re <| br <| tr <| tr <| br <| tr ?_
    obtain rfl := si h
    exact rt0 (ResIs.one rfl rfl)
   refine sk <| sk <| sk <| sk <| pf rfl rfl <| dz k24 <| cdF rfl <| WC.skip <| bn <| tn <| k13 _ _ <| rg fun _ k32 => bd h fun x33 hx33 h => mv rfl <| ya (addC rfl rfl hx33) <| ak rfl k32 <| tn <| kw (k9 (x33) h)
  exact xi <| te <| te <| bx <| tn <| kw (k5 () h)
 rintro _ h
 unfold m_law18_collides_j0 at h
 refine sr fun _ k34 => ak rfl k34 <| re ?_
 obtain rfl := si h
 exact rt0 (ResIs.one rfl rfl)
theorem w_law18_awake (M0 : Mem)  {res : Bool} (h : m_law18_awake = some res) :
  Fn Tryz.prog 9 #[] M0 fun r M' es => r = .bool res /\ es = [] := by
 refine Fn.intro (N := 67) Tryz.func9 rfl rfl (nle rfl) fun w0 => ?_
 unfold m_law18_awake at h
 refine sr fun _ k1 => ak rfl k1 <| sr fun _ k2 => ?_
 obtain ⟨x3, hx3, h⟩ := bnd h
 obtain ⟨x11, hx11, h⟩ := bnd h
 obtain ⟨x19, hx19, h⟩ := bnd h
 refine c1 107 Tryz.func16 rfl (fun w hb hh => w_ecread_Exclude (Mem.snap w) (6 : Int) hx3) fun A8 n9 c10 => c1 115 Tryz.func16 rfl (fun w hb hh => w_ecread_Exclude (Mem.snap w) (7 : Int) hx11) fun A16 n17 c18 => c1 123 Tryz.func16 rfl (fun w hb hh => w_ecread_Exclude (Mem.snap w) (21 : Int) hx19) fun A24 n25 c26 => asn rfl <| asn rfl <| ak rfl k2 <| sr fun _ k27 => bd h fun x28 hx28 h => ya (build rfl (bu_46_)) <| ya (build rfl (bu_59_)) <| c1 132 Tryz.func18 rfl (fun w hb hh => w_ecread_Read (Mem.snap w) (0 : Int) (0 : Int) (0 : Int) (0 : Int) 0#32 0#32 0#32 0#32 0#32 0#32 none 0 0 _ (RdH.sn (RdT.nil (α := Sapi_Item)) w hb hh) none 0 0 ([] : List Hdr) _ (RdH.sn (RdT.nil (α := Hdr)) w hb hh) (Rels.sn (Rels.nil (R := (RelB (α := BitVec 8)) M0)) (hh.sat 0 _ rfl)) none 0 0 _ (RdH.sn (RdT.nil (α := Bool)) w hb hh) 0#64 0#32 (0 : Int) (0 : Int) hx28) fun A33 n34 c35 => mv rfl <| ya (extract rfl rfl) <| ya (extract rfl rfl) <| al 136 zr_55 fun g36 => sb 136 agg_55 rfl rfl rfl <| ak rfl k27 <| sr fun _ k37 => bd h fun x38 hx38 h => c1 142 Tryz.func16 rfl (fun w hb hh => w_ecread_Exclude (Mem.snap w) (0 : Int) hx38) fun A43 n44 c45 => ya (lenC (xs := x38) und_32 rfl (rO 142 rfl)) <| ya (eqlI rfl rfl) <| mv rfl <| spl h beq_iff_eq.2 beq_eq_false_iff_ne.2 (fun hc46 h => ?_) fun hc46 h => ?_
 ·refine mvg rfl <| yg (lenC (xs := x3) und_32 rfl (rO 107 rfl)) <| yg (eqlI rfl rfl) <| pt rfl rfl <| mv rfl <| spl h beq_iff_eq.2 beq_eq_false_iff_ne.2 (fun hc47 h => ?_) fun hc47 h => ?_
  ·obtain ⟨x48, hx48, h⟩ := bnd h
   refine mvg rfl <| yg (idxC (xs := x3) sty_32 rfl rfl (rO 107 rfl) hx48) <| yg (loadC0 (xs := x3) scal_3 rfl (rO 107 rfl) hx48 rfl) <| yg (eqlI rfl rfl) <| pt rfl rfl <| mv rfl <| spl h beq_iff_eq.2 beq_eq_false_iff_ne.2 (fun hc49 h => ?_) fun hc49 h => ?_
   ·refine mvg rfl <| yg (lenC (xs := x11) und_32 rfl (rO 115 rfl)) <| yg (eqlI rfl rfl) <| pt rfl rfl <| mv rfl <| spl h beq_iff_eq.2 beq_eq_false_iff_ne.2 (fun hc50 h => ?_) fun hc50 h => ?_
    ·obtain ⟨x51, hx51, h⟩ := bnd h
     refine mvg rfl <| yg (idxC (xs := x11) sty_32 rfl rfl (rO 115 rfl) hx51) <| yg (loadC0 (xs := x11) scal_3 rfl (rO 115 rfl) hx51 rfl) <| yg (eqlI rfl rfl) <| pt rfl rfl <| mv rfl <| spl h beq_iff_eq.2 beq_eq_false_iff_ne.2 (fun hc52 h => ?_) fun hc52 h => ?_
     ·obtain ⟨x53, hx53, h⟩ := bnd h
      refine mvg rfl <| yg (idxC (xs := x11) sty_32 rfl rfl (rO 115 rfl) hx53) <| yg (loadC0 (xs := x11) scal_3 rfl (rO 115 rfl) hx53 rfl) <| yg (eqlI rfl rfl) <| pt rfl rfl <| mv rfl <| spl h beq_iff_eq.2 beq_eq_false_iff_ne.2 (fun hc54 h => ?_) fun hc54 h => ?_
      ·refine mvg rfl <| yg (lenC (xs := x19) und_32 rfl (rO 123 rfl)) <| yg (eqlI rfl rfl) <| pt rfl rfl <| mv rfl <| spl h beq_iff_eq.2 beq_eq_false_iff_ne.2 (fun hc55 h => ?_) fun hc55 h => ?_
       ·obtain ⟨x56, hx56, h⟩ := bnd h
        refine mvg rfl <| yg (idxC (xs := x19) sty_32 rfl rfl (rO 123 rfl) hx56) <| yg (loadC0 (xs := x19) scal_3 rfl (rO 123 rfl) hx56 rfl) <| yg (eqlI rfl rfl) <| pt rfl rfl <| mv rfl <| spl h beq_iff_eq.2 beq_eq_false_iff_ne.2 (fun hc57 h => ?_) fun hc57 h => ?_
        ·obtain ⟨x58, hx58, h⟩ := bnd h
         refine mvg rfl <| yg (idxC (xs := x19) sty_32 rfl rfl (rO 123 rfl) hx58) <| yg (loadC0 (xs := x19) scal_3 rfl (rO 123 rfl) hx58 rfl) <| yg (eqlI rfl rfl) <| pt rfl rfl <| mv rfl <| spl h beq_iff_eq.2 beq_eq_false_iff_ne.2 (fun hc59 h => ?_) fun hc59 h => ?_
         ·refine mvg rfl <| yg (eqlI rfl rfl) <| pt rfl rfl <| ak rfl k37 <| re ?_
          obtain rfl := si h
          exact rt0 (ResIs.one rfl rfl)
         refine sk <| sk <| pf rfl rfl <| ak rfl k37 <| re ?_
         obtain rfl := si h
         exact rt0 (ResIs.one rfl rfl)
        refine sk <| sk <| sk <| sk <| pf rfl rfl <| mv rfl <| sk <| sk <| pf rfl rfl <| ak rfl k37 <| re ?_
        obtain rfl := si h
        exact rt0 (ResIs.one rfl rfl)
       refine sk <| sk <| sk <| sk <| pf rfl rfl <| mv rfl <| sk <| sk <| sk <| sk <| pf rfl rfl <| mv rfl <| sk <| sk <| pf rfl rfl <| ak rfl k37 <| re ?_
       obtain rfl := si h
       exact rt0 (ResIs.one rfl rfl)
      refine sk <| sk <| sk <| pf rfl rfl <| mv rfl <| sk <| sk <| sk <| sk <| pf rfl rfl <| mv rfl <| sk <| sk <| sk <| sk <| pf rfl rfl <| mv rfl <| sk <| sk <| pf rfl rfl <| ak rfl k37 <| re ?_
      obtain rfl := si h
      exact rt0 (ResIs.one rfl rfl)
     refine sk <| sk <| sk <| sk <| pf rfl rfl <| mv rfl <| sk <| sk <| sk <| pf rfl rfl <| mv rfl <| sk <| sk <| sk <| sk <| pf rfl rfl <| mv rfl <| sk <| sk <| sk <| sk <| pf rfl rfl <| mv rfl <| sk <| sk <| pf rfl rfl <| ak rfl k37 <| re ?_
     obtain rfl := si h
     exact rt0 (ResIs.one rfl rfl)
    refine sk <| sk <| sk <| sk <| pf rfl rfl <| mv rfl <| sk <| sk <| sk <| sk <| pf rfl rfl <| mv rfl <| sk <| sk <| sk <| pf rfl rfl <| mv rfl <| sk <| sk <| sk <| sk <| pf rfl rfl <| mv rfl <| sk <| sk <| sk <| sk <| pf rfl rfl <| mv rfl <| sk <| sk <| pf rfl rfl <| ak rfl k37 <| re ?_
    obtain rfl := si h
    exact rt0 (ResIs.one rfl rfl)
   refine sk <| sk <| sk <| pf rfl rfl <| mv rfl <| sk <| sk <| sk <| sk <| pf rfl rfl <| mv rfl <| sk <| sk <| sk <| sk <| pf rfl rfl <| mv rfl <| sk <| sk <| sk <| pf rfl rfl <| mv rfl <| sk <| sk <| sk <| sk <| pf rfl rfl <| mv rfl <| sk <| sk <| sk <| sk <| pf rfl rfl <| mv rfl <| sk <| sk <| pf rfl rfl <| ak rfl k37 <| re ?_
   obtain rfl := si h
   exact rt0 (ResIs.one rfl rfl)
  refine sk <| sk <| sk <| sk <| pf rfl rfl <| mv rfl <| sk <| sk <| sk <| pf rfl rfl <| mv rfl <| sk <| sk <| sk <| sk <| pf rfl rfl <| mv rfl <| sk <| sk <| sk <| sk <| pf rfl rfl <| mv rfl <| sk <| sk <| sk <| pf rfl rfl <| mv rfl <| sk <| sk <| sk <| sk <| pf rfl rfl <| mv rfl <| sk <| sk <| sk <| sk <| pf rfl rfl <| mv rfl <| sk <| sk <| pf rfl rfl <| ak rfl k37 <| re ?_
  obtain rfl := si h
  exact rt0 (ResIs.one rfl rfl)
 refine sk <| sk <| sk <| pf rfl rfl <| mv rfl <| sk <| sk <| sk <| sk <| pf rfl rfl <| mv rfl <| sk <| sk <| sk <| pf rfl rfl <| mv rfl <| sk <| sk <| sk <| sk <| pf rfl rfl <| mv rfl <| sk <| sk <| sk <| sk <| pf rfl rfl <| mv rfl <| sk <| sk <| sk <| pf rfl rfl <| mv rfl <| sk <| sk <| sk <| sk <| pf rfl rfl <| mv rfl <| sk <| sk <| sk <| sk <| pf rfl rfl <| mv rfl <| sk <| sk <| pf rfl rfl <| ak rfl k37 <| re ?_
 obtain rfl := si h
 exact rt0 (ResIs.one rfl rfl)
end Go.Proofs.YtcncappgheopgaaGreat
