/-
 Walks (k): what a function's model gives, the function returns. Printed by a program of ours (vcm.py) from the function's operations. Conditions: as each theorem says.
-/
import Derived.Test.YtcncappgheopgaaGreatWkj
import Derived.Test.YtcncappgheopgaaGreatMdk
namespace Go.Proofs.YtcncappgheopgaaGreat
open Go Go.RowKit
set_option linter.unusedVariables false
theorem agg_25 : Agg Tryz.prog 25 6 := ⟨⟨_, Tryz.underlying25, rfl⟩, by kernel_rfl⟩
theorem bu_46_ : Tryz.prog.built 46 [] = some ([I64 (0 : Int), I64 (0 : Int), I64 (0 : Int), I64 (0 : Int), U32 0#32, U32 0#32, U32 0#32, U32 0#32, U32 0#32, U32 0#32, .slice none 0 0] : List Value).toArray := by kernel_rfl
theorem bu_46_0_1_2_3 : ∀ (a0_0 : Int) (a0_1 : Int) (a0_2 : Int) (a1 : Int) (a2_0 : BitVec 32) (a2_1 : BitVec 32) (a2_2 : BitVec 32) (a2_3 : BitVec 32) (a2_4 : BitVec 32) (a2_5 : BitVec 32) (a3 : Option Addr) (n3 c3 : Nat), Tryz.prog.built 46 [(0, .agg ([I64 a0_0, I64 a0_1, I64 a0_2] : List Value).toArray), (1, I64 a1), (2, .agg ([U32 a2_0, U32 a2_1, U32 a2_2, U32 a2_3, U32 a2_4, U32 a2_5] : List Value).toArray), (3, .slice a3 n3 c3)] = some ([I64 a0_0, I64 a0_1, I64 a0_2, I64 a1, U32 a2_0, U32 a2_1, U32 a2_2, U32 a2_3, U32 a2_4, U32 a2_5, .slice a3 n3 c3] : List Value).toArray := fun a0_0 a0_1 a0_2 a1 a2_0 a2_1 a2_2 a2_3 a2_4 a2_5 a3 n3 c3 => by kernel_rfl
theorem bu_59_ : Tryz.prog.built 59 [] = some ([U64 0#64, U32 0#32, I64 (0 : Int), I64 (0 : Int)] : List Value).toArray := by kernel_rfl
theorem nm_18 : (Tryz.f18.name == "runtime.NumGoroutine") = false := by kernel_rfl
theorem nz_25 : (Tryz.prog.info? 25).map (fun i => decide (i.size = 0)) = some false := by kernel_rfl
theorem nz_28 : (Tryz.prog.info? 28).map (fun i => decide (i.size = 0)) = some false := by kernel_rfl
theorem zr_46 : (Tryz.prog.info? 46).map (fun i => i.zero.map (·.cells)) = some (some ([I64 (0 : Int), I64 (0 : Int), I64 (0 : Int), I64 (0 : Int), U32 0#32, U32 0#32, U32 0#32, U32 0#32, U32 0#32, U32 0#32, .slice none 0 0] : List Value).toArray) := by kernel_rfl
set_option maxRecDepth 10000 in
theorem w_law18_given (M0 : Mem) (x00_0 : Int) (x00_1 : Int) (x00_2 : Int) (x00_3 : Int) (x00_4 : BitVec 32) (x00_5 : BitVec 32) (x00_6 : BitVec 32) (x00_7 : BitVec 32) (x00_8 : BitVec 32) (x00_9 : BitVec 32) (A00_10 : Option Addr) (n00_10 c00_10 : Nat) (x00_10 : List (Sapi_Item)) (hf00_10 : SlT M0 A00_10 n00_10 c00_10 x00_10) {res : Int × Int × Int × Int × (BitVec 32) × (BitVec 32) × (BitVec 32) × (BitVec 32) × (BitVec 32) × (BitVec 32) × (List (Sapi_Item))} (h : m_law18_given x00_0 x00_1 x00_2 x00_3 x00_4 x00_5 x00_6 x00_7 x00_8 x00_9 x00_10 = some res) :
  Fn Tryz.prog 13 #[.agg ([I64 x00_0, I64 x00_1, I64 x00_2, I64 x00_3, U32 x00_4, U32 x00_5, U32 x00_6, U32 x00_7, U32 x00_8, U32 x00_9, .slice A00_10 n00_10 c00_10] : List Value).toArray] M0 fun r M' es => ∃ (A1 : Option Addr) (n1 c1 : Nat), r = .agg ([I64 res.1, I64 res.2.1, I64 res.2.2.1, I64 res.2.2.2.1, U32 res.2.2.2.2.1, U32 res.2.2.2.2.2.1, U32 res.2.2.2.2.2.2.1, U32 res.2.2.2.2.2.2.2.1, U32 res.2.2.2.2.2.2.2.2.1, U32 res.2.2.2.2.2.2.2.2.2.1, .slice A1 n1 c1] : List Value).toArray ∧ es = [] ∧ SlT M' A1 n1 c1 res.2.2.2.2.2.2.2.2.2.2 := by
 refine Fn.intro (N := 12) Tryz.func13 rfl rfl (Nat.le_of_ble_eq_true rfl) fun w0 => ?_
 unfold m_law18_given at h
 refine sr fun _ k1 => bb 102 [I64 x00_0, I64 x00_1, I64 x00_2, I64 x00_3, U32 x00_4, U32 x00_5, U32 x00_6, U32 x00_7, U32 x00_8, U32 x00_9, .slice A00_10 n00_10 c00_10] rfl fun g2 => al 103 zr_46 fun g3 => dn <| k1 _ _ <| sr fun _ k4 => ya (Yld.fieldAddr Tryz.underlying28 rfl nz_23 rfl rfl) <| ya (Yld.loadBP (k := 102) (us := [I64 x00_0, I64 x00_1, I64 x00_2]) agg_23 rfl rfl rfl rfl) <| ya (Yld.fieldAddr Tryz.underlying28 rfl nz_2 rfl rfl) <| ya (Yld.loadB (k := 102) scal_2 rfl rfl rfl) <| ya (Yld.fieldAddr Tryz.underlying28 rfl nz_25 rfl rfl) <| ya (Yld.loadBP (k := 102) (us := [U32 x00_4, U32 x00_5, U32 x00_6, U32 x00_7, U32 x00_8, U32 x00_9]) agg_25 rfl rfl rfl rfl) <| ya (Yld.fieldAddr Tryz.underlying28 rfl nz_26 rfl rfl) <| ya (Yld.loadB (k := 102) scal_26 rfl rfl rfl) <| ya (Yld.build rfl (bu_46_0_1_2_3 x00_0 x00_1 x00_2 x00_3 x00_4 x00_5 x00_6 x00_7 x00_8 x00_9 A00_10 n00_10 c00_10)) <| sb 103 agg_46 rfl rfl rfl <| dn <| k4 _ _ <| re ?_
 injection h with h; subst h
 exact rt [] (ResIs.cellM (k := 103) rfl agg_46 rfl rfl (rfl)) (Ext.refl _ _) ⟨A00_10, n00_10, c00_10, rfl, rfl, hf00_10⟩
set_option maxRecDepth 10000 in
theorem w_law18_awake (M0 : Mem)  {res : Bool} (h : m_law18_awake = some res) :
  Fn Tryz.prog 9 #[] M0 fun r M' es => r = .bool res ∧ es = [] := by
 refine Fn.intro (N := 67) Tryz.func9 rfl rfl (Nat.le_of_ble_eq_true rfl) fun w0 => ?_
 unfold m_law18_awake at h
 refine sr fun _ k1 => asn rfl <| dn <| k1 _ _ <| sr fun _ k2 => ?_
 obtain ⟨x3, hx3, h⟩ := bnd h
 obtain ⟨x11, hx11, h⟩ := bnd h
 obtain ⟨x19, hx19, h⟩ := bnd h
 refine c1 107 Tryz.func16 rfl (fun w hb hh => w_ecread_Exclude (Mem.snap w) (6 : Int) hx3) fun A8 n9 c10 => c1 115 Tryz.func16 rfl (fun w hb hh => w_ecread_Exclude (Mem.snap w) (7 : Int) hx11) fun A16 n17 c18 => c1 123 Tryz.func16 rfl (fun w hb hh => w_ecread_Exclude (Mem.snap w) (21 : Int) hx19) fun A24 n25 c26 => asn rfl <| asn rfl <| asn rfl <| dn <| k2 _ _ <| sr fun _ k27 => ?_
 obtain ⟨x28, hx28, h⟩ := bnd h
 refine ya (Yld.build rfl (bu_46_)) <| ya (Yld.build rfl (bu_59_)) <| c1 132 Tryz.func18 rfl (fun w hb hh => w_ecread_Read (Mem.snap w) (0 : Int) (0 : Int) (0 : Int) (0 : Int) 0#32 0#32 0#32 0#32 0#32 0#32 none 0 0 _ (RdH.sn (RdT.nil (α := Sapi_Item)) w hb hh) none 0 0 ([] : List Hdr) _ (RdH.sn (RdT.nil (α := Hdr)) w hb hh) (Rels.sn (Rels.nil (R := (RelB (α := BitVec 8)) M0)) (hh.sat 0 _ rfl)) none 0 0 _ (RdH.sn (RdT.nil (α := Bool)) w hb hh) 0#64 0#32 (0 : Int) (0 : Int) hx28) fun A33 n34 c35 => mv rfl <| ya (Yld.extract rfl rfl) <| ya (Yld.extract rfl rfl) <| al 136 zr_55 fun g36 => sb 136 agg_55 rfl rfl rfl <| asn rfl <| dn <| k27 _ _ <| sr fun _ k37 => ?_
 obtain ⟨x38, hx38, h⟩ := bnd h
 refine c1 142 Tryz.func16 rfl (fun w hb hh => w_ecread_Exclude (Mem.snap w) (0 : Int) hx38) fun A43 n44 c45 => ya (Yld.lenC (xs := x38) und_32 rfl (RdH.own (k := 142) rfl)) <| ya (Yld.eqlI rfl rfl) <| mv rfl <| spl h beq_iff_eq.2 beq_eq_false_iff_ne.2 (fun hc46 h => ?_) fun hc46 h => ?_
 ·
  refine mvg rfl <| yg (Yld.lenC (xs := x3) und_32 rfl (RdH.own (k := 107) rfl)) <| yg (Yld.eqlI rfl rfl) <| pt rfl rfl <| mv rfl <| spl h beq_iff_eq.2 beq_eq_false_iff_ne.2 (fun hc47 h => ?_) fun hc47 h => ?_
  ·
   obtain ⟨x48, hx48, h⟩ := bnd h
   refine mvg rfl <| yg (Yld.idxC (xs := x3) sty_32 rfl rfl (RdH.own (k := 107) rfl) hx48) <| yg (Yld.loadC0 (xs := x3) scal_3 rfl (RdH.own (k := 107) rfl) hx48 rfl) <| yg (Yld.eqlI rfl rfl) <| pt rfl rfl <| mv rfl <| spl h beq_iff_eq.2 beq_eq_false_iff_ne.2 (fun hc49 h => ?_) fun hc49 h => ?_
   ·
    refine mvg rfl <| yg (Yld.lenC (xs := x11) und_32 rfl (RdH.own (k := 115) rfl)) <| yg (Yld.eqlI rfl rfl) <| pt rfl rfl <| mv rfl <| spl h beq_iff_eq.2 beq_eq_false_iff_ne.2 (fun hc50 h => ?_) fun hc50 h => ?_
    ·
     obtain ⟨x51, hx51, h⟩ := bnd h
     refine mvg rfl <| yg (Yld.idxC (xs := x11) sty_32 rfl rfl (RdH.own (k := 115) rfl) hx51) <| yg (Yld.loadC0 (xs := x11) scal_3 rfl (RdH.own (k := 115) rfl) hx51 rfl) <| yg (Yld.eqlI rfl rfl) <| pt rfl rfl <| mv rfl <| spl h beq_iff_eq.2 beq_eq_false_iff_ne.2 (fun hc52 h => ?_) fun hc52 h => ?_
     ·
      obtain ⟨x53, hx53, h⟩ := bnd h
      refine mvg rfl <| yg (Yld.idxC (xs := x11) sty_32 rfl rfl (RdH.own (k := 115) rfl) hx53) <| yg (Yld.loadC0 (xs := x11) scal_3 rfl (RdH.own (k := 115) rfl) hx53 rfl) <| yg (Yld.eqlI rfl rfl) <| pt rfl rfl <| mv rfl <| spl h beq_iff_eq.2 beq_eq_false_iff_ne.2 (fun hc54 h => ?_) fun hc54 h => ?_
      ·
       refine mvg rfl <| yg (Yld.lenC (xs := x19) und_32 rfl (RdH.own (k := 123) rfl)) <| yg (Yld.eqlI rfl rfl) <| pt rfl rfl <| mv rfl <| spl h beq_iff_eq.2 beq_eq_false_iff_ne.2 (fun hc55 h => ?_) fun hc55 h => ?_
       ·
        obtain ⟨x56, hx56, h⟩ := bnd h
        refine mvg rfl <| yg (Yld.idxC (xs := x19) sty_32 rfl rfl (RdH.own (k := 123) rfl) hx56) <| yg (Yld.loadC0 (xs := x19) scal_3 rfl (RdH.own (k := 123) rfl) hx56 rfl) <| yg (Yld.eqlI rfl rfl) <| pt rfl rfl <| mv rfl <| spl h beq_iff_eq.2 beq_eq_false_iff_ne.2 (fun hc57 h => ?_) fun hc57 h => ?_
        ·
         obtain ⟨x58, hx58, h⟩ := bnd h
         refine mvg rfl <| yg (Yld.idxC (xs := x19) sty_32 rfl rfl (RdH.own (k := 123) rfl) hx58) <| yg (Yld.loadC0 (xs := x19) scal_3 rfl (RdH.own (k := 123) rfl) hx58 rfl) <| yg (Yld.eqlI rfl rfl) <| pt rfl rfl <| mv rfl <| spl h beq_iff_eq.2 beq_eq_false_iff_ne.2 (fun hc59 h => ?_) fun hc59 h => ?_
         ·
          refine mvg rfl <| yg (Yld.eqlI rfl rfl) <| pt rfl rfl <| asn rfl <| dn <| k37 _ _ <| re ?_
          injection h with h; subst h
          exact rt0 (ResIs.one rfl rfl)
         refine sk <| sk <| pf rfl rfl <| asn rfl <| dn <| k37 _ _ <| re ?_
         injection h with h; subst h
         exact rt0 (ResIs.one rfl rfl)
        refine sk <| sk <| sk <| sk <| pf rfl rfl <| mv rfl <| sk <| sk <| pf rfl rfl <| asn rfl <| dn <| k37 _ _ <| re ?_
        injection h with h; subst h
        exact rt0 (ResIs.one rfl rfl)
       refine sk <| sk <| sk <| sk <| pf rfl rfl <| mv rfl <| sk <| sk <| sk <| sk <| pf rfl rfl <| mv rfl <| sk <| sk <| pf rfl rfl <| asn rfl <| dn <| k37 _ _ <| re ?_
       injection h with h; subst h
       exact rt0 (ResIs.one rfl rfl)
      refine sk <| sk <| sk <| pf rfl rfl <| mv rfl <| sk <| sk <| sk <| sk <| pf rfl rfl <| mv rfl <| sk <| sk <| sk <| sk <| pf rfl rfl <| mv rfl <| sk <| sk <| pf rfl rfl <| asn rfl <| dn <| k37 _ _ <| re ?_
      injection h with h; subst h
      exact rt0 (ResIs.one rfl rfl)
     refine sk <| sk <| sk <| sk <| pf rfl rfl <| mv rfl <| sk <| sk <| sk <| pf rfl rfl <| mv rfl <| sk <| sk <| sk <| sk <| pf rfl rfl <| mv rfl <| sk <| sk <| sk <| sk <| pf rfl rfl <| mv rfl <| sk <| sk <| pf rfl rfl <| asn rfl <| dn <| k37 _ _ <| re ?_
     injection h with h; subst h
     exact rt0 (ResIs.one rfl rfl)
    refine sk <| sk <| sk <| sk <| pf rfl rfl <| mv rfl <| sk <| sk <| sk <| sk <| pf rfl rfl <| mv rfl <| sk <| sk <| sk <| pf rfl rfl <| mv rfl <| sk <| sk <| sk <| sk <| pf rfl rfl <| mv rfl <| sk <| sk <| sk <| sk <| pf rfl rfl <| mv rfl <| sk <| sk <| pf rfl rfl <| asn rfl <| dn <| k37 _ _ <| re ?_
    injection h with h; subst h
    exact rt0 (ResIs.one rfl rfl)
   refine sk <| sk <| sk <| pf rfl rfl <| mv rfl <| sk <| sk <| sk <| sk <| pf rfl rfl <| mv rfl <| sk <| sk <| sk <| sk <| pf rfl rfl <| mv rfl <| sk <| sk <| sk <| pf rfl rfl <| mv rfl <| sk <| sk <| sk <| sk <| pf rfl rfl <| mv rfl <| sk <| sk <| sk <| sk <| pf rfl rfl <| mv rfl <| sk <| sk <| pf rfl rfl <| asn rfl <| dn <| k37 _ _ <| re ?_
   injection h with h; subst h
   exact rt0 (ResIs.one rfl rfl)
  refine sk <| sk <| sk <| sk <| pf rfl rfl <| mv rfl <| sk <| sk <| sk <| pf rfl rfl <| mv rfl <| sk <| sk <| sk <| sk <| pf rfl rfl <| mv rfl <| sk <| sk <| sk <| sk <| pf rfl rfl <| mv rfl <| sk <| sk <| sk <| pf rfl rfl <| mv rfl <| sk <| sk <| sk <| sk <| pf rfl rfl <| mv rfl <| sk <| sk <| sk <| sk <| pf rfl rfl <| mv rfl <| sk <| sk <| pf rfl rfl <| asn rfl <| dn <| k37 _ _ <| re ?_
  injection h with h; subst h
  exact rt0 (ResIs.one rfl rfl)
 refine sk <| sk <| sk <| pf rfl rfl <| mv rfl <| sk <| sk <| sk <| sk <| pf rfl rfl <| mv rfl <| sk <| sk <| sk <| pf rfl rfl <| mv rfl <| sk <| sk <| sk <| sk <| pf rfl rfl <| mv rfl <| sk <| sk <| sk <| sk <| pf rfl rfl <| mv rfl <| sk <| sk <| sk <| pf rfl rfl <| mv rfl <| sk <| sk <| sk <| sk <| pf rfl rfl <| mv rfl <| sk <| sk <| sk <| sk <| pf rfl rfl <| mv rfl <| sk <| sk <| pf rfl rfl <| asn rfl <| dn <| k37 _ _ <| re ?_
 injection h with h; subst h
 exact rt0 (ResIs.one rfl rfl)
end Go.Proofs.YtcncappgheopgaaGreat
