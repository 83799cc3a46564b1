/-
 Walks (i): what a function's model gives, the function returns. Printed by a program of ours (vcm.py) from the function's operations. Conditions: as each theorem says.
-/
import Derived.Test.YtkcccenekglkoaaWkh
import Derived.Test.YtkcccenekglkoaaMdi
namespace Go.Proofs.Ytkcccenekglkoaa
set_option maxRecDepth 10000
open Go Go.RowKit
set_option linter.unusedVariables false
theorem und_30 : Try.prog.underlying 30 = some (.slice 72) := by kernel_rfl
theorem und_68 : Try.prog.underlying 68 = some (.map 3 3) := by kernel_rfl
theorem und_76 : Try.prog.underlying 76 = some (.slice 27) := by kernel_rfl
theorem agg_72 : Agg Try.prog 72 8 := ⟨⟨_, Try.underlying72, rfl⟩, by kernel_rfl⟩
theorem bu_39_0_1_2_3_4_5_6_7_8_9 : ∀ (a0 : Int) (a1 : Int) (a2 : BitVec 64) (a3 : BitVec 32) (a4 : Option Addr) (n4 c4 : Nat) (a5 : Option Addr) (n5 c5 : Nat) (a6 : Int) (a7 : Int) (a8 : Int) (a9 : Int), Try.prog.built 39 [(0, I64 a0), (1, I64 a1), (2, U64 a2), (3, U32 a3), (4, .slice a4 n4 c4), (5, .slice a5 n5 c5), (6, I64 a6), (7, I64 a7), (8, I64 a8), (9, I64 a9)] = some ([I64 a0, I64 a1, U64 a2, U32 a3, .slice a4 n4 c4, .slice a5 n5 c5, I64 a6, I64 a7, I64 a8, I64 a9] : List Value).toArray := fun a0 a1 a2 a3 a4 n4 c4 a5 n5 c5 a6 a7 a8 a9 => by kernel_rfl
theorem bu_39_0_1_6_7_8_5 : ∀ (a0 : Int) (a1 : Int) (a6 : Int) (a7 : Int) (a8 : Int) (a5 : Option Addr) (n5 c5 : Nat), Try.prog.built 39 [(0, I64 a0), (1, I64 a1), (6, I64 a6), (7, I64 a7), (8, I64 a8), (5, .slice a5 n5 c5)] = some ([I64 a0, I64 a1, U64 0#64, U32 0#32, .slice none 0 0, .slice a5 n5 c5, I64 a6, I64 a7, I64 a8, I64 (0 : Int)] : List Value).toArray := fun a0 a1 a6 a7 a8 a5 n5 c5 => by kernel_rfl
theorem bu_39_1_6_7_8 : ∀ (a1 : Int) (a6 : Int) (a7 : Int) (a8 : Int), Try.prog.built 39 [(1, I64 a1), (6, I64 a6), (7, I64 a7), (8, I64 a8)] = some ([I64 (0 : Int), I64 a1, U64 0#64, U32 0#32, .slice none 0 0, .slice none 0 0, I64 a6, I64 a7, I64 a8, I64 (0 : Int)] : List Value).toArray := fun a1 a6 a7 a8 => by kernel_rfl
theorem bu_39_1_6_7_8_4 : ∀ (a1 : Int) (a6 : Int) (a7 : Int) (a8 : Int) (a4 : Option Addr) (n4 c4 : Nat), Try.prog.built 39 [(1, I64 a1), (6, I64 a6), (7, I64 a7), (8, I64 a8), (4, .slice a4 n4 c4)] = some ([I64 (0 : Int), I64 a1, U64 0#64, U32 0#32, .slice a4 n4 c4, .slice none 0 0, I64 a6, I64 a7, I64 a8, I64 (0 : Int)] : List Value).toArray := fun a1 a6 a7 a8 a4 n4 c4 => by kernel_rfl
theorem bu_74_0 : ∀ (a0 : Int), Try.prog.built 74 [(0, I64 a0)] = some ([I64 a0, I64 (0 : Int), I64 (0 : Int), U64 0#64, U32 0#32, .slice none 0 0, I64 (0 : Int)] : List Value).toArray := fun a0 => by kernel_rfl
theorem bu_74_0_1_2_3_4_5 : ∀ (a0 : Int) (a1 : Int) (a2 : Int) (a3 : BitVec 64) (a4 : BitVec 32) (a5 : Option Addr) (n5 c5 : Nat), Try.prog.built 74 [(0, I64 a0), (1, I64 a1), (2, I64 a2), (3, U64 a3), (4, U32 a4), (5, .slice a5 n5 c5)] = some ([I64 a0, I64 a1, I64 a2, U64 a3, U32 a4, .slice a5 n5 c5, I64 (0 : Int)] : List Value).toArray := fun a0 a1 a2 a3 a4 a5 n5 c5 => by kernel_rfl
theorem bu_74_0_1_6_5 : ∀ (a0 : Int) (a1 : Int) (a6 : Int) (a5 : Option Addr) (n5 c5 : Nat), Try.prog.built 74 [(0, I64 a0), (1, I64 a1), (6, I64 a6), (5, .slice a5 n5 c5)] = some ([I64 a0, I64 a1, I64 (0 : Int), U64 0#64, U32 0#32, .slice a5 n5 c5, I64 a6] : List Value).toArray := fun a0 a1 a6 a5 n5 c5 => by kernel_rfl
theorem keyl_3 : KeyL Try.prog 3 (MKey.ek (κ := Int)) := KeyL.flat (by kernel_rfl)
theorem nm_12 : (Try.f12.name == "runtime.NumGoroutine") = false := by kernel_rfl
theorem nm_27 : (Try.f27.name == "runtime.NumGoroutine") = false := by kernel_rfl
theorem nz_5 : (Try.prog.info? 5).map (fun i => decide (i.size = 0)) = some false := by kernel_rfl
theorem scal_5 : scal Try.prog 5 = true := by kernel_rfl
theorem siz_22 : (Try.prog.info? 22).map (·.size) = some 1 := by kernel_rfl
theorem siz_5 : (Try.prog.info? 5).map (·.size) = some 1 := by kernel_rfl
theorem sty_30 : STy Try.prog 30 72 (.agg #[(I64 0), (I64 0), (U64 0#64), (U32 0#32), (U8 0#8), (I64 0), (.bool false), (.bool false)]) 8 48 := STy.of und_30 (by kernel_rfl) rfl
theorem sty_76 : STy Try.prog 76 27 (I64 0) 1 8 := STy.of und_76 (by kernel_rfl) rfl
theorem zr_72 : (Try.prog.info? 72).map (fun i => i.zero.map (·.cells)) = some (some ([I64 (0 : Int), I64 (0 : Int), U64 0#64, U32 0#32, U8 0#8, I64 (0 : Int), .bool false, .bool false] : List Value).toArray) := by kernel_rfl
theorem zv_3 : (Try.prog.info? 3).map (·.zero) = some (some (I64 (0 : Int))) := by kernel_rfl
instance : Lay Sneedlestorelaw25_Act := ⟨8, fun a => [I64 a.fClient, I64 a.fKind, U64 a.fKey, U32 a.fCookie, U8 a.fData, I64 a.fResult, .bool a.fLost, .bool a.fCrash], fun _ => rfl, fun _ u h => by simp only [List.mem_cons, List.not_mem_nil, or_false] at h; rcases h with rfl | rfl | rfl | rfl | rfl | rfl | rfl | rfl <;> rfl, by decide⟩
theorem w_law25_op (M0 : Mem) (x00_0 x00_1 : Int) (x00_2 : BitVec 64) (x00_3 : BitVec 32) (A00_4 : Option Addr) (n00_4 c00_4 : Nat) (x00_4 : List (BitVec 8)) (hf00_4 : SlT M0 A00_4 n00_4 c00_4 x00_4) (A00_5 : Option Addr) (n00_5 c00_5 : Nat) (x00_5 : List (BitVec 8)) (hf00_5 : SlT M0 A00_5 n00_5 c00_5 x00_5) (x00_6 x00_7 x00_8 x00_9 : Int) {res : Int × Int × (BitVec 64) × (BitVec 32) × (List (BitVec 8)) × (List (BitVec 8)) × Int × Int × Int × Int} (h : m_law25_op x00_0 x00_1 x00_2 x00_3 x00_4 x00_5 x00_6 x00_7 x00_8 x00_9 = some res) :
  Fn Try.prog 12 #[.agg ([I64 x00_0, I64 x00_1, U64 x00_2, U32 x00_3, .slice A00_4 n00_4 c00_4, .slice A00_5 n00_5 c00_5, I64 x00_6, I64 x00_7, I64 x00_8, I64 x00_9] : List Value).toArray] M0 fun r M' es => ∃ (A1 : Option Addr) (n1 c1 : Nat), ∃ (A2 : Option Addr) (n2 c2 : Nat), r = .agg ([I64 res.1, I64 res.2.1, U64 res.2.2.1, U32 res.2.2.2.1, .slice A1 n1 c1, .slice A2 n2 c2, I64 res.2.2.2.2.2.2.1, I64 res.2.2.2.2.2.2.2.1, I64 res.2.2.2.2.2.2.2.2.1, I64 res.2.2.2.2.2.2.2.2.2] : List Value).toArray /\ es = [] /\ SlT M' A1 n1 c1 res.2.2.2.2.1 /\ SlT M' A2 n2 c2 res.2.2.2.2.2.1 := by
 refine Fn.intro (N := 24) Try.func12 rfl rfl (Nat.le_of_ble_eq_true rfl) fun w0 => ?_
 unfold m_law25_op at h
 refine sr fun _ k1 => bb 102 [I64 x00_0, I64 x00_1, U64 x00_2, U32 x00_3, .slice A00_4 n00_4 c00_4, .slice A00_5 n00_5 c00_5, I64 x00_6, I64 x00_7, I64 x00_8, I64 x00_9] rfl fun g2 => al 103 zr_39 fun g3 => dn <| k1 _ _ <| sr fun _ k4 => ya (Yld.fieldAddr Try.underlying29 rfl nz_3 rfl rfl) <| ya (Yld.loadB (k := 102) scal_3 rfl rfl rfl) <| ya (Yld.fieldAddr Try.underlying29 rfl nz_3 rfl rfl) <| ya (Yld.loadB (k := 102) scal_3 rfl rfl rfl) <| ya (Yld.fieldAddr Try.underlying29 rfl nz_26 rfl rfl) <| ya (Yld.loadB (k := 102) scal_26 rfl rfl rfl) <| ya (Yld.fieldAddr Try.underlying29 rfl nz_22 rfl rfl) <| ya (Yld.loadB (k := 102) scal_22 rfl rfl rfl) <| ya (Yld.fieldAddr Try.underlying29 rfl nz_23 rfl rfl) <| ya (Yld.loadB (k := 102) scal_23 rfl rfl rfl) <| ya (Yld.fieldAddr Try.underlying29 rfl nz_23 rfl rfl) <| ya (Yld.loadB (k := 102) scal_23 rfl rfl rfl) <| ya (Yld.fieldAddr Try.underlying29 rfl nz_3 rfl rfl) <| ya (Yld.loadB (k := 102) scal_3 rfl rfl rfl) <| ya (Yld.fieldAddr Try.underlying29 rfl nz_3 rfl rfl) <| ya (Yld.loadB (k := 102) scal_3 rfl rfl rfl) <| ya (Yld.fieldAddr Try.underlying29 rfl nz_3 rfl rfl) <| ya (Yld.loadB (k := 102) scal_3 rfl rfl rfl) <| ya (Yld.fieldAddr Try.underlying29 rfl nz_27 rfl rfl) <| ya (Yld.loadB (k := 102) scal_27 rfl rfl rfl) <| ya (Yld.build rfl (bu_39_0_1_2_3_4_5_6_7_8_9 x00_0 x00_1 x00_2 x00_3 A00_4 n00_4 c00_4 A00_5 n00_5 c00_5 x00_6 x00_7 x00_8 x00_9)) <| sb 103 agg_39 rfl rfl rfl <| dn <| k4 _ _ <| re ?_
 injection h with h; subst h
 exact rt [] (ResIs.cellM (k := 103) rfl agg_39 rfl rfl (rfl)) (Ext.refl _ _) ⟨A00_4, n00_4, c00_4, A00_5, n00_5, c00_5, rfl, rfl, hf00_4, hf00_5⟩
theorem w_law25_ops (M0 : Mem) (A00 : Option Addr) (n00 c00 : Nat) (rs00 : List Rneedlestoreref24_Op) (x00 : List (Sneedlestoreref24_Op)) (hf00 : SlT M0 A00 n00 c00 rs00) (hq00 : Rels (rel_needlestoreref24_Op M0) rs00 x00) {res : (List (Shistory_Op))} (h : m_law25_ops x00 = some res) :
  Fn Try.prog 18 #[.slice A00 n00 c00] M0 fun r M' es => ∃ (A1 : Option Addr) (n1 c1 : Nat), ∃ rs1 : List Rhistory_Op, r = .slice A1 n1 c1 /\ es = [.own 39 (Lay.sz Rhistory_Op) A1 n1 c1 (cel rs1)] /\ Rels (rel_history_Op M') rs1 res := by
 refine Fn.intro (N := 19) Try.func18 rfl rfl (Nat.le_of_ble_eq_true rfl) fun w0 => ?_
 unfold m_law25_ops at h
 refine sr fun _ k1 => asn rfl <| dn <| k1 _ _ <| sr fun _ k2 => asn rfl <| dn <| k2 _ _ <| ct (σ := Mem × (Option Addr) × Nat × Nat × (List (Shistory_Op)) × (List Rhistory_Op)) (fun ⟨M3, A6, n7, c8, x9, rs10⟩ => [(3, .slice A6 n7 c8)]) (fun ⟨M3, A6, n7, c8, x9, rs10⟩ => [(0, .mem M3), (105, .own 39 (Lay.sz Rhistory_Op) A6 n7 c8 (cel rs10))]) (fun ⟨M3, A6, n7, c8, x9, rs10⟩ => m_law25_ops_j0 x9 = some res /\ Ext w0.heap.size M0 M3 /\ Rels (rel_history_Op M3) rs10 x9) (fun _ k12 => ?_) ?_
 ·refine sr fun _ k13 => mv rfl <| ya (Yld.lenD (rs := rs00) (xs := x00) (Rels.len hq00) und_32 rfl (RdH.memM (k := 0) rfl hf00)) <| mv rfl <| dn <| k13 _ _ <| bl <| WC.nilOwn 116 39 (Lay.sz Rhistory_Op) none <| lp (τ := Mem × (Option Addr) × Nat × Nat × (List (Shistory_Op)) × (List Rhistory_Op) × Int) (fun ⟨M14, A17, n18, c19, x20, rs21, x23⟩ => [(3, .slice A17 n18 c19), (6, .slice A00 n00 c00), (7, I64 (x00.length : Int)), (8, I64 x23)]) (fun ⟨M14, A17, n18, c19, x20, rs21, x23⟩ => [(0, .mem M14), (116, .own 39 (Lay.sz Rhistory_Op) A17 n18 c19 (cel rs21))]) (fun q24 ⟨M14, A17, n18, c19, x20, rs21, x23⟩ => m_law25_ops_l1 x00 q24 x20 x23 = some res /\ Ext w0.heap.size M0 M14 /\ Rels (rel_history_Op M14) rs21 x20) ⟨M0, none, 0, 0, ([] : List (Shistory_Op)), ([] : List Rhistory_Op), (0 : Int)⟩ ?_ (by simp [m_law25_ops_l1]) ?_
  ·exact ⟨h, (Ext.refl _ _), (Rels.nil (R := rel_history_Op M0))⟩
  rintro q24 ⟨M14, A17, n18, c19, x20, rs21, x23⟩ ⟨h, hm_M14, hq22⟩ _ k25
  unfold m_law25_ops_l1 at h
  refine sr fun _ k26 => ya (Yld.lss rfl rfl) <| dn <| k26 _ _ <| sq fun _ k27 => cnd h rfl decide_eq_true decide_eq_false (fun hc28 h => ?_) fun hc28 h => ?_
  ·refine ss <| k27 _ _ <| sq fun _ k29 => bl <| sr fun _ k30 => ?_
   obtain ⟨x31, hx31, h⟩ := bnd h
   obtain ⟨⟨_, r_32_0, r_32_1⟩, hr33, rfl, hq34_0, hq34_1⟩ := Rels.idx (Rels.lift hq00 hm_M14) hx31
   refine ya (Yld.idxC (xs := rs00) sty_32 rfl rfl (RdH.memM (k := 0) rfl (SlRc.lift hf00 hm_M14)) hr33) <| ya (Yld.loadA (xs := rs00) agg_29 rfl (RdH.memM (k := 0) rfl (SlRc.lift hf00 hm_M14)) hr33 rfl) <| al 135 zr_29 fun g35 => sb 135 agg_29 rfl rfl rfl <| dn <| k30 _ _ <| rg fun _ k36 => ?_
   obtain ⟨x37, hx37, h⟩ := bnd h
   obtain ⟨x66, hx66, h⟩ := bnd h
   refine mv rfl <| ya (Yld.loadBM (k := 135) agg_29 rfl rfl rfl) <| WL.eff (by decide) (Eff.callM 146 rfl Try.func12 nm_12 rfl rfl rfl (w_law25_op _ x31.fClient x31.fKind x31.fKey x31.fCookie r_32_0.A r_32_0.n r_32_0.c _ hq34_0 r_32_1.A r_32_1.n r_32_1.c _ hq34_1 x31.fCall x31.fReturn x31.fClosed x31.fResult hx37)) ?_
   rintro _ _ ⟨M55, _, ⟨A56, n57, c58, A60, n61, c62, rfl, rfl, hf59, hf63⟩, hm_M55, rfl⟩
   have hq65 : Rels (rel_history_Op M55) ([(Rhistory_Op.mk (Shistory_Op.mk x37.1 x37.2.1 x37.2.2.1 x37.2.2.2.1 x37.2.2.2.2.1 x37.2.2.2.2.2.1 x37.2.2.2.2.2.2.1 x37.2.2.2.2.2.2.2.1 x37.2.2.2.2.2.2.2.2.1 x37.2.2.2.2.2.2.2.2.2) (⟨A56, n57, c58⟩ : Hdr) (⟨A60, n61, c62⟩ : Hdr))] : List Rhistory_Op) ([(Shistory_Op.mk x37.1 x37.2.1 x37.2.2.1 x37.2.2.2.1 x37.2.2.2.2.1 x37.2.2.2.2.2.1 x37.2.2.2.2.2.2.1 x37.2.2.2.2.2.2.2.1 x37.2.2.2.2.2.2.2.2.1 x37.2.2.2.2.2.2.2.2.2)] : List (Shistory_Op)) := (Rels.cons ⟨rfl, hf59, hf63⟩ Rels.nil)
   refine WL.eff (by decide) (Eff.buildCA 164 ([(Rhistory_Op.mk (Shistory_Op.mk x37.1 x37.2.1 x37.2.2.1 x37.2.2.2.1 x37.2.2.2.2.1 x37.2.2.2.2.2.1 x37.2.2.2.2.2.2.1 x37.2.2.2.2.2.2.2.1 x37.2.2.2.2.2.2.2.2.1 x37.2.2.2.2.2.2.2.2.2) (⟨A56, n57, c58⟩ : Hdr) (⟨A60, n61, c62⟩ : Hdr))] : List Rhistory_Op) sty_46 rfl rfl rfl (by decide)) ?_
   rintro _ _ ⟨g64, rfl, rfl⟩
   obtain ⟨hu69, hq70⟩ := Rels.apd (Rels.lift hq22 hm_M55) hq65 hx66
   refine ap 116 (xs := rs21) (ys := ([(Rhistory_Op.mk (Shistory_Op.mk x37.1 x37.2.1 x37.2.2.1 x37.2.2.2.1 x37.2.2.2.2.1 x37.2.2.2.2.2.1 x37.2.2.2.2.2.2.1 x37.2.2.2.2.2.2.2.1 x37.2.2.2.2.2.2.2.2.1 x37.2.2.2.2.2.2.2.2.2) (⟨A56, n57, c58⟩ : Hdr) (⟨A60, n61, c62⟩ : Hdr))] : List Rhistory_Op)) sty_46 rfl rfl rfl (RdH.own (k := 164) rfl) hu69 fun A67 c68 => asn rfl <| dn <| k36 _ _ <| bn <| tn <| k29 _ _ <| rg fun _ k71 => ?_
   obtain ⟨x72, hx72, h⟩ := bnd h
   exact ya (Yld.addC rfl rfl hx72) <| mv rfl <| dn <| k71 _ _ <| tn <| kw (k25 ⟨M55, A67, (rs21 ++ ([(Rhistory_Op.mk (Shistory_Op.mk x37.1 x37.2.1 x37.2.2.1 x37.2.2.2.1 x37.2.2.2.2.1 x37.2.2.2.2.2.1 x37.2.2.2.2.2.2.1 x37.2.2.2.2.2.2.2.1 x37.2.2.2.2.2.2.2.2.1 x37.2.2.2.2.2.2.2.2.2) (⟨A56, n57, c58⟩ : Hdr) (⟨A60, n61, c62⟩ : Hdr))] : List Rhistory_Op)).length, c68, x66, (rs21 ++ ([(Rhistory_Op.mk (Shistory_Op.mk x37.1 x37.2.1 x37.2.2.1 x37.2.2.2.1 x37.2.2.2.2.1 x37.2.2.2.2.2.1 x37.2.2.2.2.2.2.1 x37.2.2.2.2.2.2.2.1 x37.2.2.2.2.2.2.2.2.1 x37.2.2.2.2.2.2.2.2.2) (⟨A56, n57, c58⟩ : Hdr) (⟨A60, n61, c62⟩ : Hdr))] : List Rhistory_Op)), x72⟩ ⟨h, (Ext.trans hm_M14 hm_M55), hq70⟩)
  exact xi <| te <| te <| bx <| tn <| KK.move 116 105 rfl rfl <| kw (k12 ⟨M14, A17, n18, c19, x20, rs21⟩ ⟨h, hm_M14, hq22⟩)
 rintro ⟨M3, A6, n7, c8, x9, rs10⟩ ⟨h, hm_M3, hq11⟩
 unfold m_law25_ops_j0 at h
 refine sr fun _ k73 => mv rfl <| asn rfl <| dn <| k73 _ _ <| re ?_
 injection h with h; subst h
 exact rt [105] (ResIs.one rfl rfl) hm_M3 ⟨A6, n7, c8, rs10, rfl, rfl, hq11⟩
theorem w_law25_state (M0 : Mem) (x00_0 : Bool) (x00_1 : BitVec 32) (A00_2 : Option Addr) (n00_2 c00_2 : Nat) (x00_2 : List (BitVec 8)) (hf00_2 : SlT M0 A00_2 n00_2 c00_2 x00_2) {res : Bool × (BitVec 32) × (List (BitVec 8))} (h : m_law25_state x00_0 x00_1 x00_2 = some res) :
  Fn Try.prog 11 #[.agg ([.bool x00_0, U32 x00_1, .slice A00_2 n00_2 c00_2] : List Value).toArray] M0 fun r M' es => ∃ (A1 : Option Addr) (n1 c1 : Nat), r = .agg ([.bool res.1, U32 res.2.1, .slice A1 n1 c1] : List Value).toArray /\ es = [] /\ SlT M' A1 n1 c1 res.2.2 := by
 refine Fn.intro (N := 10) Try.func11 rfl rfl (Nat.le_of_ble_eq_true rfl) fun w0 => ?_
 unfold m_law25_state at h
 refine sr fun _ k1 => bb 102 [.bool x00_0, U32 x00_1, .slice A00_2 n00_2 c00_2] rfl fun g2 => al 103 zr_35 fun g3 => dn <| k1 _ _ <| sr fun _ k4 => ya (Yld.fieldAddr Try.underlying25 rfl nz_4 rfl rfl) <| ya (Yld.loadB (k := 102) scal_4 rfl rfl rfl) <| ya (Yld.fieldAddr Try.underlying25 rfl nz_22 rfl rfl) <| ya (Yld.loadB (k := 102) scal_22 rfl rfl rfl) <| ya (Yld.fieldAddr Try.underlying25 rfl nz_23 rfl rfl) <| ya (Yld.loadB (k := 102) scal_23 rfl rfl rfl) <| ya (Yld.build rfl (bu_35_0_1_2 x00_0 x00_1 A00_2 n00_2 c00_2)) <| sb 103 agg_35 rfl rfl rfl <| dn <| k4 _ _ <| re ?_
 injection h with h; subst h
 exact rt [] (ResIs.cellM (k := 103) rfl agg_35 rfl rfl (rfl)) (Ext.refl _ _) ⟨A00_2, n00_2, c00_2, rfl, rfl, hf00_2⟩
theorem w_law25_awake (M0 : Mem)  {res : Bool} (h : m_law25_awake = some res) :
  Fn Try.prog 8 #[] M0 fun r M' es => r = .bool res /\ es = [] := by
 refine Fn.intro (N := 46) Try.func8 rfl rfl (Nat.le_of_ble_eq_true rfl) fun w0 => ?_
 unfold m_law25_awake at h
 refine sr fun _ k1 => asn rfl <| dn <| k1 _ _ <| sr fun _ k2 => ?_
 obtain ⟨x3, hx3, h⟩ := bnd h
 refine c0 Try.func16 rfl (fun w hb hh => w_linear_Check (Mem.snap w) none 0 0 ([] : List Rhistory_Op) _ (RdH.sn (RdT.nil (α := Rhistory_Op)) w hb hh) (Rels.sn (Rels.nil (R := rel_history_Op M0)) (hh.sat 0 _ rfl)) hx3) <| mv rfl <| ya (Yld.extract rfl rfl) <| ya (Yld.extract rfl rfl) <| asn rfl <| asn rfl <| dn <| k2 _ _ <| sr fun _ k5 => ?_
 obtain ⟨x8, hx8, h⟩ := bnd h
 refine ya (Yld.build rfl (bu_39_1_6_7_8 (3 : Int) (0 : Int) (1 : Int) (-1 : Int))) ?_
 have hq7 : Rels (rel_history_Op M0) ([(Rhistory_Op.mk (Shistory_Op.mk (0 : Int) (3 : Int) 0#64 0#32 ([] : List (BitVec 8)) ([] : List (BitVec 8)) (0 : Int) (1 : Int) (-1 : Int) (0 : Int)) (⟨none, 0, 0⟩ : Hdr) (⟨none, 0, 0⟩ : Hdr))] : List Rhistory_Op) ([(Shistory_Op.mk (0 : Int) (3 : Int) 0#64 0#32 ([] : List (BitVec 8)) ([] : List (BitVec 8)) (0 : Int) (1 : Int) (-1 : Int) (0 : Int))] : List (Shistory_Op)) := (Rels.cons ⟨rfl, SlT.nil, SlT.nil⟩ Rels.nil)
 refine WL.eff (by decide) (Eff.buildCA 106 ([(Rhistory_Op.mk (Shistory_Op.mk (0 : Int) (3 : Int) 0#64 0#32 ([] : List (BitVec 8)) ([] : List (BitVec 8)) (0 : Int) (1 : Int) (-1 : Int) (0 : Int)) (⟨none, 0, 0⟩ : Hdr) (⟨none, 0, 0⟩ : Hdr))] : List Rhistory_Op) sty_46 rfl rfl rfl (by decide)) ?_
 rintro _ _ ⟨g6, rfl, rfl⟩
 refine c0 Try.func16 rfl (fun w hb hh => w_linear_Check (Mem.snap w) (some ⟨g6, 0, none⟩) (([(Rhistory_Op.mk (Shistory_Op.mk (0 : Int) (3 : Int) 0#64 0#32 ([] : List (BitVec 8)) ([] : List (BitVec 8)) (0 : Int) (1 : Int) (-1 : Int) (0 : Int)) (⟨none, 0, 0⟩ : Hdr) (⟨none, 0, 0⟩ : Hdr))] : List Rhistory_Op).length) (([(Rhistory_Op.mk (Shistory_Op.mk (0 : Int) (3 : Int) 0#64 0#32 ([] : List (BitVec 8)) ([] : List (BitVec 8)) (0 : Int) (1 : Int) (-1 : Int) (0 : Int)) (⟨none, 0, 0⟩ : Hdr) (⟨none, 0, 0⟩ : Hdr))] : List Rhistory_Op).length) ([(Rhistory_Op.mk (Shistory_Op.mk (0 : Int) (3 : Int) 0#64 0#32 ([] : List (BitVec 8)) ([] : List (BitVec 8)) (0 : Int) (1 : Int) (-1 : Int) (0 : Int)) (⟨none, 0, 0⟩ : Hdr) (⟨none, 0, 0⟩ : Hdr))] : List Rhistory_Op) _ (RdH.sn (RdH.own (k := 106) rfl) w hb hh) (Rels.sn hq7 (hh.sat 0 _ rfl)) hx8) <| mv rfl <| ya (Yld.extract rfl rfl) <| ya (Yld.extract rfl rfl) <| asn rfl <| asn rfl <| dn <| k5 _ _ <| sr fun _ k10 => ?_
 obtain ⟨x19, hx19, h⟩ := bnd h
 refine WL.eff (by decide) (Eff.buildC 111 ([1#8] : List (BitVec 8)) sty_23 rfl rfl rfl rfl rfl (by decide)) ?_
 rintro _ _ ⟨g11, rfl, rfl⟩
 refine ya (Yld.build rfl (bu_39_1_6_7_8_4 (1 : Int) (0 : Int) (-1 : Int) (-1 : Int) (some ⟨g11, 0, none⟩) (([1#8] : List (BitVec 8)).length) (([1#8] : List (BitVec 8)).length))) <| WL.eff (by decide) (Eff.buildC 112 ([1#8] : List (BitVec 8)) sty_23 rfl rfl rfl rfl rfl (by decide)) ?_
 rintro _ _ ⟨g12, rfl, rfl⟩
 refine ya (Yld.build rfl (bu_39_0_1_6_7_8_5 (1 : Int) (3 : Int) (1 : Int) (2 : Int) (-1 : Int) (some ⟨g12, 0, none⟩) (([1#8] : List (BitVec 8)).length) (([1#8] : List (BitVec 8)).length))) <| WL.freeze 111 rfl rfl rfl fun M14 hm_M14 hf15 => WL.freeze 112 rfl rfl rfl fun M16 hm_M16 hf17 => ?_
 have hq18 : Rels (rel_history_Op M16) ([(Rhistory_Op.mk (Shistory_Op.mk (0 : Int) (1 : Int) 0#64 0#32 ([1#8] : List (BitVec 8)) ([] : List (BitVec 8)) (0 : Int) (-1 : Int) (-1 : Int) (0 : Int)) (⟨(some ⟨g11, 0, none⟩), ([1#8] : List (BitVec 8)).length, ([1#8] : List (BitVec 8)).length⟩ : Hdr) (⟨none, 0, 0⟩ : Hdr)), (Rhistory_Op.mk (Shistory_Op.mk (1 : Int) (3 : Int) 0#64 0#32 ([] : List (BitVec 8)) ([1#8] : List (BitVec 8)) (1 : Int) (2 : Int) (-1 : Int) (0 : Int)) (⟨none, 0, 0⟩ : Hdr) (⟨(some ⟨g12, 0, none⟩), ([1#8] : List (BitVec 8)).length, ([1#8] : List (BitVec 8)).length⟩ : Hdr))] : List Rhistory_Op) ([(Shistory_Op.mk (0 : Int) (1 : Int) 0#64 0#32 ([1#8] : List (BitVec 8)) ([] : List (BitVec 8)) (0 : Int) (-1 : Int) (-1 : Int) (0 : Int)), (Shistory_Op.mk (1 : Int) (3 : Int) 0#64 0#32 ([] : List (BitVec 8)) ([1#8] : List (BitVec 8)) (1 : Int) (2 : Int) (-1 : Int) (0 : Int))] : List (Shistory_Op)) := (Rels.cons ⟨rfl, (SlRc.lift hf15 hm_M16), SlT.nil⟩ (Rels.cons ⟨rfl, SlT.nil, hf17⟩ Rels.nil))
 refine WL.eff (by decide) (Eff.buildCA 113 ([(Rhistory_Op.mk (Shistory_Op.mk (0 : Int) (1 : Int) 0#64 0#32 ([1#8] : List (BitVec 8)) ([] : List (BitVec 8)) (0 : Int) (-1 : Int) (-1 : Int) (0 : Int)) (⟨(some ⟨g11, 0, none⟩), ([1#8] : List (BitVec 8)).length, ([1#8] : List (BitVec 8)).length⟩ : Hdr) (⟨none, 0, 0⟩ : Hdr)), (Rhistory_Op.mk (Shistory_Op.mk (1 : Int) (3 : Int) 0#64 0#32 ([] : List (BitVec 8)) ([1#8] : List (BitVec 8)) (1 : Int) (2 : Int) (-1 : Int) (0 : Int)) (⟨none, 0, 0⟩ : Hdr) (⟨(some ⟨g12, 0, none⟩), ([1#8] : List (BitVec 8)).length, ([1#8] : List (BitVec 8)).length⟩ : Hdr))] : List Rhistory_Op) sty_46 rfl rfl rfl (by decide)) ?_
 rintro _ _ ⟨g13, rfl, rfl⟩
 refine c0 Try.func16 rfl (fun w hb hh => w_linear_Check (Mem.snap w) (some ⟨g13, 0, none⟩) (([(Rhistory_Op.mk (Shistory_Op.mk (0 : Int) (1 : Int) 0#64 0#32 ([1#8] : List (BitVec 8)) ([] : List (BitVec 8)) (0 : Int) (-1 : Int) (-1 : Int) (0 : Int)) (⟨(some ⟨g11, 0, none⟩), ([1#8] : List (BitVec 8)).length, ([1#8] : List (BitVec 8)).length⟩ : Hdr) (⟨none, 0, 0⟩ : Hdr)), (Rhistory_Op.mk (Shistory_Op.mk (1 : Int) (3 : Int) 0#64 0#32 ([] : List (BitVec 8)) ([1#8] : List (BitVec 8)) (1 : Int) (2 : Int) (-1 : Int) (0 : Int)) (⟨none, 0, 0⟩ : Hdr) (⟨(some ⟨g12, 0, none⟩), ([1#8] : List (BitVec 8)).length, ([1#8] : List (BitVec 8)).length⟩ : Hdr))] : List Rhistory_Op).length) (([(Rhistory_Op.mk (Shistory_Op.mk (0 : Int) (1 : Int) 0#64 0#32 ([1#8] : List (BitVec 8)) ([] : List (BitVec 8)) (0 : Int) (-1 : Int) (-1 : Int) (0 : Int)) (⟨(some ⟨g11, 0, none⟩), ([1#8] : List (BitVec 8)).length, ([1#8] : List (BitVec 8)).length⟩ : Hdr) (⟨none, 0, 0⟩ : Hdr)), (Rhistory_Op.mk (Shistory_Op.mk (1 : Int) (3 : Int) 0#64 0#32 ([] : List (BitVec 8)) ([1#8] : List (BitVec 8)) (1 : Int) (2 : Int) (-1 : Int) (0 : Int)) (⟨none, 0, 0⟩ : Hdr) (⟨(some ⟨g12, 0, none⟩), ([1#8] : List (BitVec 8)).length, ([1#8] : List (BitVec 8)).length⟩ : Hdr))] : List Rhistory_Op).length) ([(Rhistory_Op.mk (Shistory_Op.mk (0 : Int) (1 : Int) 0#64 0#32 ([1#8] : List (BitVec 8)) ([] : List (BitVec 8)) (0 : Int) (-1 : Int) (-1 : Int) (0 : Int)) (⟨(some ⟨g11, 0, none⟩), ([1#8] : List (BitVec 8)).length, ([1#8] : List (BitVec 8)).length⟩ : Hdr) (⟨none, 0, 0⟩ : Hdr)), (Rhistory_Op.mk (Shistory_Op.mk (1 : Int) (3 : Int) 0#64 0#32 ([] : List (BitVec 8)) ([1#8] : List (BitVec 8)) (1 : Int) (2 : Int) (-1 : Int) (0 : Int)) (⟨none, 0, 0⟩ : Hdr) (⟨(some ⟨g12, 0, none⟩), ([1#8] : List (BitVec 8)).length, ([1#8] : List (BitVec 8)).length⟩ : Hdr))] : List Rhistory_Op) _ (RdH.sn (RdH.own (k := 113) rfl) w hb hh) (Rels.sn hq18 (hh.sat 0 _ rfl)) hx19) <| mv rfl <| ya (Yld.extract rfl rfl) <| ya (Yld.extract rfl rfl) <| asn rfl <| asn rfl <| dn <| k10 _ _ <| sr fun _ k21 => mv rfl <| mv rfl <| spl h id Bool.eq_false_iff.2 (fun hc22 h => ?_) fun hc22 h => ?_
 ·refine mvg rfl <| yg (Yld.eqlI rfl rfl) <| pt rfl rfl <| mv rfl <| spl h beq_iff_eq.2 beq_eq_false_iff_ne.2 (fun hc23 h => ?_) fun hc23 h => ?_
  ·refine mvg rfl <| yg (Yld.notB rfl) <| pt rfl rfl <| mv rfl <| spn h not_f (fun q => not_t (Bool.eq_false_iff.2 q)) (fun hc24 h => ?_) fun hc24 h => ?_
   ·refine sk <| sk <| pf rfl rfl <| mv rfl <| sk <| pf rfl rfl <| mv rfl <| sk <| sk <| pf rfl rfl <| asn rfl <| dn <| k21 _ _ <| re ?_
    injection h with h; subst h
    exact rt [] (ResIs.one rfl rfl) (Ext.trans hm_M14 hm_M16) ⟨rfl, rfl⟩
   refine mvg rfl <| yg (Yld.eqlI rfl rfl) <| pt rfl rfl <| mv rfl <| spl h beq_iff_eq.2 beq_eq_false_iff_ne.2 (fun hc25 h => ?_) fun hc25 h => ?_
   ·refine mvg rfl <| pt rfl rfl <| mv rfl <| spl h id Bool.eq_false_iff.2 (fun hc26 h => ?_) fun hc26 h => ?_
    ·refine mvg rfl <| yg (Yld.eqlI rfl rfl) <| pt rfl rfl <| asn rfl <| dn <| k21 _ _ <| re ?_
     injection h with h; subst h
     exact rt [] (ResIs.one rfl rfl) (Ext.trans hm_M14 hm_M16) ⟨rfl, rfl⟩
    refine sk <| sk <| pf rfl rfl <| asn rfl <| dn <| k21 _ _ <| re ?_
    injection h with h; subst h
    exact rt [] (ResIs.one rfl rfl) (Ext.trans hm_M14 hm_M16) ⟨rfl, rfl⟩
   refine sk <| pf rfl rfl <| mv rfl <| sk <| sk <| pf rfl rfl <| asn rfl <| dn <| k21 _ _ <| re ?_
   injection h with h; subst h
   exact rt [] (ResIs.one rfl rfl) (Ext.trans hm_M14 hm_M16) ⟨rfl, rfl⟩
  refine sk <| sk <| pf rfl rfl <| mv rfl <| sk <| sk <| pf rfl rfl <| mv rfl <| sk <| pf rfl rfl <| mv rfl <| sk <| sk <| pf rfl rfl <| asn rfl <| dn <| k21 _ _ <| re ?_
  injection h with h; subst h
  exact rt [] (ResIs.one rfl rfl) (Ext.trans hm_M14 hm_M16) ⟨rfl, rfl⟩
 refine sk <| sk <| pf rfl rfl <| mv rfl <| sk <| sk <| pf rfl rfl <| mv rfl <| sk <| sk <| pf rfl rfl <| mv rfl <| sk <| pf rfl rfl <| mv rfl <| sk <| sk <| pf rfl rfl <| asn rfl <| dn <| k21 _ _ <| re ?_
 injection h with h; subst h
 exact rt [] (ResIs.one rfl rfl) (Ext.trans hm_M14 hm_M16) ⟨rfl, rfl⟩
theorem w_law25_short (M0 : Mem) (A00 : Option Addr) (n00 c00 : Nat) (x00 : List (Sneedlestorelaw25_Act)) (hf00 : SlT M0 A00 n00 c00 x00) (x01 : Int) {res : (List (Sneedlestorelaw25_Act))} (h : m_law25_short x00 x01 = some res) :
  Fn Try.prog 26 #[.slice A00 n00 c00, I64 x01] M0 fun r M' es => ∃ (A1 : Option Addr) (n1 c1 : Nat), r = .slice A1 n1 c1 /\ es = [.own 72 (Lay.sz Sneedlestorelaw25_Act) A1 n1 c1 (cel res)] := by
 refine Fn.intro (N := 51) Try.func26 rfl rfl (Nat.le_of_ble_eq_true rfl) fun w0 => ?_
 unfold m_law25_short at h
 refine sr fun _ k1 => asn rfl <| dn <| k1 _ _ <| sr fun _ k2 => asn rfl <| dn <| k2 _ _ <| ct (σ := (Option Addr) × Nat × Nat × (List (Sneedlestorelaw25_Act))) (fun ⟨A5, n6, c7, x8⟩ => [(5, .slice A5 n6 c7)]) (fun ⟨A5, n6, c7, x8⟩ => [(0, .mem M0), (104, .own 72 (Lay.sz Sneedlestorelaw25_Act) A5 n6 c7 (cel x8))]) (fun ⟨A5, n6, c7, x8⟩ => m_law25_short_j0 x8 = some res) (fun _ k9 => ?_) ?_
 ·refine sr fun _ k10 => asn rfl <| dn <| k10 _ _ <| bl <| WC.nilOwn 112 72 (Lay.sz Sneedlestorelaw25_Act) none <| lp (τ := (Option Addr) × Nat × Nat × (List (Sneedlestorelaw25_Act)) × Int) (fun ⟨A13, n14, c15, x16, x17⟩ => [(0, .slice A00 n00 c00), (1, I64 x01), (5, .slice A13 n14 c15), (6, I64 x17)]) (fun ⟨A13, n14, c15, x16, x17⟩ => [(0, .mem M0), (112, .own 72 (Lay.sz Sneedlestorelaw25_Act) A13 n14 c15 (cel x16))]) (fun q18 ⟨A13, n14, c15, x16, x17⟩ => m_law25_short_l1 x00 x01 q18 x16 x17 = some res) ⟨none, 0, 0, ([] : List (Sneedlestorelaw25_Act)), (0 : Int)⟩ ?_ (by simp [m_law25_short_l1]) ?_
  ·exact h
  rintro q18 ⟨A13, n14, c15, x16, x17⟩ h _ k19
  unfold m_law25_short_l1 at h
  refine ct (σ := Unit) (fun _ => [(0, .slice A00 n00 c00), (1, I64 x01), (5, .slice A13 n14 c15), (6, I64 x17)]) (fun _ => [(0, .mem M0), (112, .own 72 (Lay.sz Sneedlestorelaw25_Act) A13 n14 c15 (cel x16))]) (fun _ => m_law25_short_j2 x00 x16 x17 (m_law25_short_l1 x00 x01 q18) = some res) (fun _ k20 => ?_) ?_
  ·refine sr fun _ k21 => mv rfl <| mv rfl <| ya (Yld.lenC (xs := x00) und_30 rfl (RdH.memM (k := 0) rfl hf00)) <| ya (Yld.lss rfl rfl) <| mv rfl <| spl h decide_eq_true decide_eq_false (fun hc22 h => ?_) fun hc22 h => ?_
   ·refine mvg rfl <| mvg rfl <| yg (Yld.lss rfl rfl) <| pt rfl rfl <| dn <| k21 _ _ <| cnd h rfl decide_eq_true decide_eq_false (fun hc23 h => ?_) fun hc23 h => ?_
    ·exact WC.skip <| tn <| kw (k20 () h)
    exact xi <| te <| te <| bx <| tn <| KK.move 112 104 rfl rfl <| kw (k9 ⟨A13, n14, c15, x16⟩ h)
   exact sk <| sk <| sk <| pf rfl rfl <| dn <| k21 _ _ <| cdF rfl <| xi <| te <| te <| bx <| tn <| KK.move 112 104 rfl rfl <| kw (k9 ⟨A13, n14, c15, x16⟩ h)
  rintro _ h
  unfold m_law25_short_j2 at h
  refine sq fun _ k24 => bl <| sr fun _ k25 => ?_
  obtain ⟨x26, hx26, h⟩ := bnd h
  refine mv rfl <| mv rfl <| ya (Yld.idxC (xs := x00) sty_30 rfl rfl (RdH.memM (k := 0) rfl hf00) hx26) <| ya (Yld.loadA (xs := x00) agg_72 rfl (RdH.memM (k := 0) rfl hf00) hx26 rfl) <| al 127 zr_72 fun g27 => sb 127 agg_72 rfl rfl rfl <| dn <| k25 _ _ <| sr fun _ k28 => ?_
  obtain ⟨x29, hx29, h⟩ := bnd h
  obtain ⟨x30, hx30, h⟩ := bnd h
  obtain ⟨x31, hx31, h⟩ := bnd h
  refine ya (Yld.fieldAddr Try.underlying72 rfl nz_3 rfl rfl) <| ya (Yld.loadB (k := 127) scal_3 rfl rfl rfl) <| ya (Yld.andC rfl rfl) <| ya (Yld.remC rfl rfl hx29) <| ya (Yld.fieldAddr Try.underlying72 rfl nz_3 rfl rfl) <| ya (Yld.loadB (k := 127) scal_3 rfl rfl rfl) <| ya (Yld.andC rfl rfl) <| ya (Yld.remC rfl rfl hx30) <| ya (Yld.addC rfl rfl hx31) <| ya (Yld.fieldAddr Try.underlying72 rfl nz_26 rfl rfl) <| ya (Yld.loadB (k := 127) scal_26 rfl rfl rfl) <| ya (Yld.and_u64 (a := x26.fKey) (b := 1#64) rfl rfl) <| ya (Yld.fieldAddr Try.underlying72 rfl nz_22 rfl rfl) <| ya (Yld.loadB (k := 127) scal_22 rfl rfl rfl) <| ya (Yld.and_u32 (a := x26.fCookie) (b := 1#32) rfl rfl) <| ya (Yld.fieldAddr Try.underlying72 rfl nz_5 rfl rfl) <| ya (Yld.loadB (k := 127) scal_5 rfl rfl rfl) <| ya (Yld.and_u8 (a := x26.fData) (b := 3#8) rfl rfl) <| ya (Yld.fieldAddr Try.underlying72 rfl nz_3 rfl rfl) <| WL.eff0 (Eff0.storeB 127 siz_3 rfl rfl rfl rfl (Nat.le_of_ble_eq_true rfl)) <| ya (Yld.fieldAddr Try.underlying72 rfl nz_3 rfl rfl) <| WL.eff0 (Eff0.storeB 127 siz_3 rfl rfl rfl rfl (Nat.le_of_ble_eq_true rfl)) <| ya (Yld.fieldAddr Try.underlying72 rfl nz_26 rfl rfl) <| WL.eff0 (Eff0.storeB 127 siz_26 rfl rfl rfl rfl (Nat.le_of_ble_eq_true rfl)) <| ya (Yld.fieldAddr Try.underlying72 rfl nz_22 rfl rfl) <| WL.eff0 (Eff0.storeB 127 siz_22 rfl rfl rfl rfl (Nat.le_of_ble_eq_true rfl)) <| ya (Yld.fieldAddr Try.underlying72 rfl nz_5 rfl rfl) <| WL.eff0 (Eff0.storeB 127 siz_5 rfl rfl rfl rfl (Nat.le_of_ble_eq_true rfl)) <| dn <| k28 _ _ <| rg fun _ k32 => ?_
  obtain ⟨x34, hx34, h⟩ := bnd h
  refine mv rfl <| ya (Yld.loadBM (k := 127) agg_72 rfl rfl rfl) <| WL.eff (by decide) (Eff.buildCA 133 ([(Sneedlestorelaw25_Act.mk x29 x31 (x26.fKey &&& 1#64) (x26.fCookie &&& 1#32) (x26.fData &&& 3#8) x26.fResult x26.fLost x26.fCrash)] : List (Sneedlestorelaw25_Act)) sty_30 rfl rfl rfl (by decide)) ?_
  rintro _ _ ⟨g33, rfl, rfl⟩
  refine ap 112 (xs := x16) (ys := ([(Sneedlestorelaw25_Act.mk x29 x31 (x26.fKey &&& 1#64) (x26.fCookie &&& 1#32) (x26.fData &&& 3#8) x26.fResult x26.fLost x26.fCrash)] : List (Sneedlestorelaw25_Act))) sty_30 rfl rfl rfl (RdH.own (k := 133) rfl) hx34 fun A35 c36 => asn rfl <| dn <| k32 _ _ <| bn <| tn <| k24 _ _ <| rg fun _ k37 => ?_
  obtain ⟨x38, hx38, h⟩ := bnd h
  exact mv rfl <| ya (Yld.addC rfl rfl hx38) <| asn rfl <| dn <| k37 _ _ <| tn <| kw (k19 ⟨A35, x34.length, c36, x34, x38⟩ h)
 rintro ⟨A5, n6, c7, x8⟩ h
 unfold m_law25_short_j0 at h
 refine sr fun _ k39 => mv rfl <| asn rfl <| dn <| k39 _ _ <| re ?_
 injection h with h; subst h
 exact rt [104] (ResIs.one rfl rfl) (Ext.refl _ _) ⟨A5, n6, c7, rfl, rfl⟩
theorem w_law25_random (M0 : Mem) (A00 : Option Addr) (n00 c00 : Nat) (x00 : List (Sneedlestorelaw25_Act)) (hf00 : SlT M0 A00 n00 c00 x00) (A01 : Option Addr) (n01 c01 : Nat) (x01 : List (BitVec 8)) (hf01 : SlT M0 A01 n01 c01 x01) {res : (List (Sneedlestoreref24_Op))} (h : m_law25_random x00 x01 = some res) :
  Fn Try.prog 9 #[.slice A00 n00 c00, .slice A01 n01 c01] M0 fun r M' es => ∃ (A1 : Option Addr) (n1 c1 : Nat), ∃ rs1 : List Rneedlestoreref24_Op, r = .slice A1 n1 c1 /\ es = [.own 29 (Lay.sz Rneedlestoreref24_Op) A1 n1 c1 (cel rs1)] /\ Rels (rel_needlestoreref24_Op M') rs1 res := by
 refine Fn.intro (N := 153) Try.func9 rfl rfl (Nat.le_of_ble_eq_true rfl) fun w0 => ?_
 unfold m_law25_random at h
 refine sr fun _ k1 => asn rfl <| dn <| k1 _ _ <| sr fun _ k2 => ?_
 obtain ⟨x3, hx3, h⟩ := bnd h
 refine mv rfl <| c1 107 Try.func26 rfl (fun w hb hh => w_law25_short (Mem.snap w) A00 n00 c00 _ (RdH.sn (RdH.memM (k := 0) rfl hf00) w hb hh) (7 : Int) hx3) fun A8 n9 c10 => asn rfl <| dn <| k2 _ _ <| sr fun _ k11 => WL.eff (by decide) (Eff.makeMap 112 rfl) ?_
 rintro _ _ ⟨g12, rfl, rfl⟩
 refine asn rfl <| dn <| k11 _ _ <| sr fun _ k13 => asn rfl <| dn <| k13 _ _ <| sr fun _ k14 => asn rfl <| dn <| k14 _ _ <| ct (σ := Mem × (Option Addr) × Nat × Nat × (List (Sneedlestoreref24_Event)) × (List Rneedlestoreref24_Event)) (fun ⟨M15, A18, n19, c20, x21, rs22⟩ => [(7, .slice A18 n19 c20)]) (fun ⟨M15, A18, n19, c20, x21, rs22⟩ => [(0, .mem M15), (117, .own 74 (Lay.sz Rneedlestoreref24_Event) A18 n19 c20 (cel rs22))]) (fun ⟨M15, A18, n19, c20, x21, rs22⟩ => m_law25_random_j0 x21 = some res /\ Ext w0.heap.size M0 M15 /\ Rels (rel_needlestoreref24_Event M15) rs22 x21) (fun _ k24 => ?_) ?_
 ·refine sr fun _ k25 => asn rfl <| dn <| k25 _ _ <| bl <| WC.move 112 127 rfl rfl <| WC.nilOwn 134 74 (Lay.sz Rneedlestoreref24_Event) none <| lp (τ := Mem × Nat × (List MapEntry) × Nat × (List (Int × Int)) × (Option Addr) × Nat × Nat × (List (Sneedlestoreref24_Event)) × (List Rneedlestoreref24_Event) × Int × Int) (fun ⟨M26, g28, es29, cl30, x31, A35, n36, c37, x38, rs39, x41, x42⟩ => [(1, .slice A01 n01 c01), (5, .slice A8 n9 c10), (6, .map (some g28)), (7, .slice A35 n36 c37), (8, I64 x41), (9, I64 x42)]) (fun ⟨M26, g28, es29, cl30, x31, A35, n36, c37, x38, rs39, x41, x42⟩ => [(0, .mem M26), (107, .own 72 (Lay.sz Sneedlestorelaw25_Act) A8 n9 c10 (cel x3)), (127, .obj g28 (.map es29.toArray cl30)), (134, .own 74 (Lay.sz Rneedlestoreref24_Event) A35 n36 c37 (cel rs39))]) (fun q43 ⟨M26, g28, es29, cl30, x31, A35, n36, c37, x38, rs39, x41, x42⟩ => m_law25_random_l1 x01 x3 q43 x31 x38 x41 x42 = some res /\ Ext w0.heap.size M0 M26 /\ MapK (MKey.ek (κ := Int)) I64 es29 x31 /\ Rels (rel_needlestoreref24_Event M26) rs39 x38) ⟨M0, g12, ([] : List MapEntry), 0, ([] : List (Int × Int)), none, 0, 0, ([] : List (Sneedlestoreref24_Event)), ([] : List Rneedlestoreref24_Event), (0 : Int), (0 : Int)⟩ ?_ (by simp [m_law25_random_l1]) ?_
  ·exact ⟨h, (Ext.refl _ _), MapK.nil, (Rels.nil (R := rel_needlestoreref24_Event M0))⟩
  rintro q43 ⟨M26, g28, es29, cl30, x31, A35, n36, c37, x38, rs39, x41, x42⟩ ⟨h, hm_M26, hmr32, hq40⟩ _ k44
  unfold m_law25_random_l1 at h
  refine ct (σ := Unit) (fun _ => [(1, .slice A01 n01 c01), (5, .slice A8 n9 c10), (6, .map (some g28)), (7, .slice A35 n36 c37), (8, I64 x41), (9, I64 x42)]) (fun _ => [(0, .mem M26), (107, .own 72 (Lay.sz Sneedlestorelaw25_Act) A8 n9 c10 (cel x3)), (127, .obj g28 (.map es29.toArray cl30)), (134, .own 74 (Lay.sz Rneedlestoreref24_Event) A35 n36 c37 (cel rs39))]) (fun _ => m_law25_random_j2 x01 x3 x31 x38 x41 x42 (m_law25_random_l1 x01 x3 q43) = some res) (fun _ k45 => ?_) ?_
  ·refine sr fun _ k46 => mv rfl <| mv rfl <| ya (Yld.lenC (xs := x3) und_30 rfl (RdH.own (k := 107) rfl)) <| ya (Yld.lss rfl rfl) <| mv rfl <| spl h decide_eq_true decide_eq_false (fun hc47 h => ?_) fun hc47 h => ?_
   ·exact sk <| sk <| sk <| pt rfl rfl <| dn <| k46 _ _ <| cdT rfl <| WC.skip <| tn <| kw (k45 () h)
   refine mvg rfl <| yg (Yld.lenMapK (k := 127) (ek := (MKey.ek (κ := Int))) (ev := I64) (m := x31) und_68 rfl rfl hmr32) <| yg (Yld.gtr rfl rfl) <| pf rfl rfl <| dn <| k46 _ _ <| cnd h rfl decide_eq_true decide_eq_false (fun hc48 h => ?_) fun hc48 h => ?_
   ·exact WC.skip <| tn <| kw (k45 () h)
   exact xi <| te <| te <| bx <| tn <| KK.move 134 117 rfl rfl <| kw (k24 ⟨M26, A35, n36, c37, x38, rs39⟩ ⟨h, hm_M26, hq40⟩)
  rintro _ h
  unfold m_law25_random_j2 at h
  refine bl <| sr fun _ k49 => asn rfl <| dn <| k49 _ _ <| ct (σ := Int) (fun x50 => [(1, .slice A01 n01 c01), (5, .slice A8 n9 c10), (6, .map (some g28)), (7, .slice A35 n36 c37), (8, I64 x41), (9, I64 x42), (10, I64 x50)]) (fun x50 => [(0, .mem M26), (107, .own 72 (Lay.sz Sneedlestorelaw25_Act) A8 n9 c10 (cel x3)), (127, .obj g28 (.map es29.toArray cl30)), (134, .own 74 (Lay.sz Rneedlestoreref24_Event) A35 n36 c37 (cel rs39))]) (fun x50 => m_law25_random_j3 x3 x31 x38 x41 x42 (m_law25_random_l1 x01 x3 q43) x50 = some res) (fun _ k51 => ?_) ?_
  ·refine sr fun _ k52 => mv rfl <| mv rfl <| ya (Yld.lenC (xs := x01) und_23 rfl (RdH.memM (k := 0) rfl (SlRc.lift hf01 hm_M26))) <| ya (Yld.lss rfl rfl) <| dn <| k52 _ _ <| cnd h rfl decide_eq_true decide_eq_false (fun hc53 h => ?_) fun hc53 h => ?_
   ·refine rg fun _ k54 => ?_
    obtain ⟨x55, hx55, h⟩ := bnd h
    exact mv rfl <| mv rfl <| ya (Yld.idxC (xs := x01) sty_23 rfl rfl (RdH.memM (k := 0) rfl (SlRc.lift hf01 hm_M26)) hx55) <| ya (Yld.loadC0 (xs := x01) scal_5 rfl (RdH.memM (k := 0) rfl (SlRc.lift hf01 hm_M26)) hx55 rfl) <| ya (Yld.conv_u8_i64 (a := x55) some_5 und_3 rfl) <| asn rfl <| dn <| k54 _ _ <| tn <| kw (k51 (x55.toNat : Int) h)
   exact WC.skip <| tn <| kw (k51 (0 : Int) h)
  rintro x50 h
  unfold m_law25_random_j3 at h
  refine sr fun _ k56 => ?_
  obtain ⟨x57, hx57, h⟩ := bnd h
  refine mv rfl <| ya (Yld.addC rfl rfl hx57) <| asn rfl <| dn <| k56 _ _ <| ct (σ := Unit) (fun _ => [(1, .slice A01 n01 c01), (5, .slice A8 n9 c10), (6, .map (some g28)), (7, .slice A35 n36 c37), (8, I64 x57), (9, I64 x42), (10, I64 x50)]) (fun _ => [(0, .mem M26), (107, .own 72 (Lay.sz Sneedlestorelaw25_Act) A8 n9 c10 (cel x3)), (127, .obj g28 (.map es29.toArray cl30)), (134, .own 74 (Lay.sz Rneedlestoreref24_Event) A35 n36 c37 (cel rs39))]) (fun _ => m_law25_random_j4 x3 x31 x38 x42 x50 x57 (m_law25_random_l1 x01 x3 q43) = some res) (fun _ k58 => ?_) ?_
  ·refine ctr (σ := Bool) (fun x59 => [(1, .slice A01 n01 c01), (5, .slice A8 n9 c10), (6, .map (some g28)), (7, .slice A35 n36 c37), (8, I64 x57), (9, I64 x42), (10, I64 x50), (53, .bool x59)]) (fun x59 => [(0, .mem M26), (107, .own 72 (Lay.sz Sneedlestorelaw25_Act) A8 n9 c10 (cel x3)), (127, .obj g28 (.map es29.toArray cl30)), (134, .own 74 (Lay.sz Rneedlestoreref24_Event) A35 n36 c37 (cel rs39))]) (fun x59 => m_law25_random_j5 x3 x31 x38 x42 x50 x57 (m_law25_random_l1 x01 x3 q43) x59 = some res) (fun _ k60 => ?_) ?_
   ·refine mv rfl <| mv rfl <| ya (Yld.lenC (xs := x3) und_30 rfl (RdH.own (k := 107) rfl)) <| ya (Yld.lss rfl rfl) <| mv rfl <| spl h decide_eq_true decide_eq_false (fun hc62 h => ?_) fun hc62 h => ?_
    ·exact mvg rfl <| yg (Yld.andC rfl rfl) <| yg (Yld.eqlI rfl rfl) <| pt rfl rfl <| WL.done <| kw (k60 ((andi x50 (1 : Int)) == (0 : Int)) h)
    exact sk <| sk <| sk <| pf rfl rfl <| WL.done <| kw (k60 false h)
   rintro x59 h
   unfold m_law25_random_j5 at h
   refine cnd h rfl id Bool.eq_false_iff.2 (fun hc63 h => ?_) fun hc63 h => ?_
   ·refine sr fun _ k64 => ?_
    obtain ⟨x65, hx65, h⟩ := bnd h
    refine mv rfl <| mv rfl <| mv rfl <| ya (Yld.idxC (xs := x3) sty_30 rfl rfl (RdH.own (k := 107) rfl) hx65) <| ya (Yld.fieldAddrC Try.underlying72 rfl nz_3 rfl rfl) <| ya (Yld.loadC (xs := x3) (j := 0) scal_3 rfl (RdH.own (k := 107) rfl) hx65 rfl rfl) <| ya (Yld.lookupK2 (k := 127) (ek := (MKey.ek (κ := Int))) (ev := I64) (m := x31) (q := x65.fClient) (zv := (0 : Int)) und_68 keyl_3 zv_3 rfl rfl rfl hmr32) <| mv rfl <| ya (Yld.extract rfl rfl) <| ya (Yld.extract rfl rfl) <| asn rfl <| asn rfl <| dn <| k64 _ _ <| sr fun _ k66 => mv rfl <| ya (Yld.notB rfl) <| dn <| k66 _ _ <| cnn h rfl not_f (fun q => not_t (Bool.eq_false_iff.2 q)) (fun hc67 h => ?_) fun hc67 h => ?_
    ·exact WC.skip <| tn <| kw (k58 () h)
    refine sr fun _ k68 => ?_
    obtain ⟨x69, hx69, h⟩ := bnd h
    refine mv rfl <| mv rfl <| ya (Yld.idxC (xs := x3) sty_30 rfl rfl (RdH.own (k := 107) rfl) hx69) <| ya (Yld.loadA (xs := x3) agg_72 rfl (RdH.own (k := 107) rfl) hx69 rfl) <| al 170 zr_72 fun g70 => sb 170 agg_72 rfl rfl rfl <| dn <| k68 _ _ <| sr fun _ k71 => ?_
    obtain ⟨x77, hx77, h⟩ := bnd h
    refine mv rfl <| ya (Yld.fieldAddr Try.underlying72 rfl nz_3 rfl rfl) <| ya (Yld.loadB (k := 170) scal_3 rfl rfl rfl) <| ya (Yld.fieldAddr Try.underlying72 rfl nz_3 rfl rfl) <| ya (Yld.loadB (k := 170) scal_3 rfl rfl rfl) <| ya (Yld.fieldAddr Try.underlying72 rfl nz_26 rfl rfl) <| ya (Yld.loadB (k := 170) scal_26 rfl rfl rfl) <| ya (Yld.fieldAddr Try.underlying72 rfl nz_22 rfl rfl) <| ya (Yld.loadB (k := 170) scal_22 rfl rfl rfl) <| ya (Yld.fieldAddr Try.underlying72 rfl nz_5 rfl rfl) <| ya (Yld.loadB (k := 170) scal_5 rfl rfl rfl) <| WL.eff (by decide) (Eff.buildC 172 ([x69.fData] : List (BitVec 8)) sty_23 rfl rfl rfl rfl rfl (by decide)) ?_
    rintro _ _ ⟨g72, rfl, rfl⟩
    refine ya (Yld.build rfl (bu_74_0_1_2_3_4_5 (1 : Int) x69.fClient x69.fKind x69.fKey x69.fCookie (some ⟨g72, 0, none⟩) (([x69.fData] : List (BitVec 8)).length) (([x69.fData] : List (BitVec 8)).length))) <| WL.freeze 172 rfl rfl rfl fun M74 hm_M74 hf75 => ?_
    have hq76 : Rels (rel_needlestoreref24_Event M74) ([(Rneedlestoreref24_Event.mk (Sneedlestoreref24_Event.mk (1 : Int) x69.fClient x69.fKind x69.fKey x69.fCookie ([x69.fData] : List (BitVec 8)) (0 : Int)) (⟨(some ⟨g72, 0, none⟩), ([x69.fData] : List (BitVec 8)).length, ([x69.fData] : List (BitVec 8)).length⟩ : Hdr))] : List Rneedlestoreref24_Event) ([(Sneedlestoreref24_Event.mk (1 : Int) x69.fClient x69.fKind x69.fKey x69.fCookie ([x69.fData] : List (BitVec 8)) (0 : Int))] : List (Sneedlestoreref24_Event)) := (Rels.cons ⟨rfl, hf75⟩ Rels.nil)
    refine WL.eff (by decide) (Eff.buildCA 173 ([(Rneedlestoreref24_Event.mk (Sneedlestoreref24_Event.mk (1 : Int) x69.fClient x69.fKind x69.fKey x69.fCookie ([x69.fData] : List (BitVec 8)) (0 : Int)) (⟨(some ⟨g72, 0, none⟩), ([x69.fData] : List (BitVec 8)).length, ([x69.fData] : List (BitVec 8)).length⟩ : Hdr))] : List Rneedlestoreref24_Event) sty_69 rfl rfl rfl (by decide)) ?_
    rintro _ _ ⟨g73, rfl, rfl⟩
    obtain ⟨hu80, hq81⟩ := Rels.apd (Rels.lift hq40 hm_M74) hq76 hx77
    refine ap 134 (xs := rs39) (ys := ([(Rneedlestoreref24_Event.mk (Sneedlestoreref24_Event.mk (1 : Int) x69.fClient x69.fKind x69.fKey x69.fCookie ([x69.fData] : List (BitVec 8)) (0 : Int)) (⟨(some ⟨g72, 0, none⟩), ([x69.fData] : List (BitVec 8)).length, ([x69.fData] : List (BitVec 8)).length⟩ : Hdr))] : List Rneedlestoreref24_Event)) sty_69 rfl rfl rfl (RdH.own (k := 173) rfl) hu80 fun A78 c79 => asn rfl <| dn <| k71 _ _ <| sr fun _ k82 => mv rfl <| ya (Yld.fieldAddr Try.underlying72 rfl nz_3 rfl rfl) <| ya (Yld.loadB (k := 170) scal_3 rfl rfl rfl) <| mv rfl <| WL.eff0R (Eff0R.mapUpdK 127 (ek := (MKey.ek (κ := Int))) (ev := I64) (m := x31) (q := x69.fClient) (v := x42) und_68 keyl_3 rfl rfl rfl rfl hmr32) ?_
    rintro _ ⟨es83, cl84, hmr85, rfl⟩
    refine dn <| k82 _ _ <| sr fun _ k86 => ?_
    obtain ⟨x87, hx87, h⟩ := bnd h
    exact mv rfl <| ya (Yld.addC rfl rfl hx87) <| asn rfl <| dn <| k86 _ _ <| xi <| te <| bx <| tn <| kw (k44 ⟨M74, g28, es83, cl84, (mset x31 x69.fClient x42), A78, (rs39 ++ ([(Rneedlestoreref24_Event.mk (Sneedlestoreref24_Event.mk (1 : Int) x69.fClient x69.fKind x69.fKey x69.fCookie ([x69.fData] : List (BitVec 8)) (0 : Int)) (⟨(some ⟨g72, 0, none⟩), ([x69.fData] : List (BitVec 8)).length, ([x69.fData] : List (BitVec 8)).length⟩ : Hdr))] : List Rneedlestoreref24_Event)).length, c79, x77, (rs39 ++ ([(Rneedlestoreref24_Event.mk (Sneedlestoreref24_Event.mk (1 : Int) x69.fClient x69.fKind x69.fKey x69.fCookie ([x69.fData] : List (BitVec 8)) (0 : Int)) (⟨(some ⟨g72, 0, none⟩), ([x69.fData] : List (BitVec 8)).length, ([x69.fData] : List (BitVec 8)).length⟩ : Hdr))] : List Rneedlestoreref24_Event)), x57, x87⟩ ⟨h, (Ext.trans hm_M26 hm_M74), hmr85, hq81⟩)
   exact WC.skip <| tn <| kw (k58 () h)
  rintro _ h
  unfold m_law25_random_j4 at h
  refine sr fun _ k88 => ?_
  obtain ⟨x89, hx89, h⟩ := bnd h
  obtain ⟨x90, hx90, h⟩ := bnd h
  refine mv rfl <| ya (Yld.shrC rfl rfl hx89) <| ya (Yld.remC rfl rfl hx90) <| asn rfl <| dn <| k88 _ _ <| sr fun _ k91 => asn rfl <| dn <| k91 _ _ <| bl <| lp (τ := Int) (fun x92 => [(1, .slice A01 n01 c01), (5, .slice A8 n9 c10), (6, .map (some g28)), (7, .slice A35 n36 c37), (8, I64 x57), (9, I64 x42), (10, I64 x50), (14, I64 x90), (15, I64 x92)]) (fun x92 => [(0, .mem M26), (107, .own 72 (Lay.sz Sneedlestorelaw25_Act) A8 n9 c10 (cel x3)), (127, .obj g28 (.map es29.toArray cl30)), (134, .own 74 (Lay.sz Rneedlestoreref24_Event) A35 n36 c37 (cel rs39))]) (fun q93 x92 => m_law25_random_l6 x3 x31 x38 x42 x50 x57 x90 (m_law25_random_l1 x01 x3 q43) q93 x92 = some res) ((0 : Int)) ?_ (by simp [m_law25_random_l6]) ?_
  ·exact h
  rintro q93 x92 h _ k94
  unfold m_law25_random_l6 at h
  refine sq fun _ k95 => sr fun _ k96 => mv rfl <| ya (Yld.lss rfl rfl) <| dn <| k96 _ _ <| cnd h rfl decide_eq_true decide_eq_false (fun hc97 h => ?_) fun hc97 h => ?_
  ·refine ss <| k95 _ _ <| sq fun _ k98 => bl <| sr fun _ k99 => ?_
   obtain ⟨x100, hx100, h⟩ := bnd h
   obtain ⟨x101, hx101, h⟩ := bnd h
   refine mv rfl <| mv rfl <| ya (Yld.addC rfl rfl hx100) <| ya (Yld.remC rfl rfl hx101) <| asn rfl <| dn <| k99 _ _ <| sr fun _ k102 => mv rfl <| mv rfl <| ya (Yld.lookupK2 (k := 127) (ek := (MKey.ek (κ := Int))) (ev := I64) (m := x31) (q := x101) (zv := (0 : Int)) und_68 keyl_3 zv_3 rfl rfl rfl hmr32) <| mv rfl <| ya (Yld.extract rfl rfl) <| ya (Yld.extract rfl rfl) <| asn rfl <| asn rfl <| dn <| k102 _ _ <| sr fun _ k103 => mv rfl <| dn <| k103 _ _ <| cnd h rfl id Bool.eq_false_iff.2 (fun hc104 h => ?_) fun hc104 h => ?_
   ·refine sq fun _ k105 => ctr (σ := Bool) (fun x106 => [(1, .slice A01 n01 c01), (5, .slice A8 n9 c10), (6, .map (some g28)), (7, .slice A35 n36 c37), (8, I64 x57), (9, I64 x42), (16, I64 x101), (17, I64 ((mget x31 x101).getD (0 : Int))), (118, .bool x106)]) (fun x106 => [(0, .mem M26), (107, .own 72 (Lay.sz Sneedlestorelaw25_Act) A8 n9 c10 (cel x3)), (127, .obj g28 (.map es29.toArray cl30)), (134, .own 74 (Lay.sz Rneedlestoreref24_Event) A35 n36 c37 (cel rs39))]) (fun x106 => m_law25_random_j7 x3 x31 x38 x42 x57 x101 (m_law25_random_l1 x01 x3 q43) x106 = some res) (fun _ k107 => ?_) ?_
    ·obtain ⟨x109, hx109, h⟩ := bnd h
     refine mv rfl <| mv rfl <| ya (Yld.idxC (xs := x3) sty_30 rfl rfl (RdH.own (k := 107) rfl) hx109) <| ya (Yld.fieldAddrC Try.underlying72 rfl nz_4 rfl rfl) <| ya (Yld.loadC (xs := x3) (j := 7) scal_4 rfl (RdH.own (k := 107) rfl) hx109 rfl rfl) <| mv rfl <| spl h id Bool.eq_false_iff.2 (fun hc110 h => ?_) fun hc110 h => ?_
     ·exact mvg rfl <| yg (Yld.andC rfl rfl) <| yg (Yld.gtr rfl rfl) <| pt rfl rfl <| WL.done <| kw (k107 (decide ((0 : Int) < (andi x50 (64 : Int)))) h)
     exact sk <| sk <| sk <| pf rfl rfl <| WL.done <| kw (k107 false h)
    rintro x106 h
    unfold m_law25_random_j7 at h
    refine cnd h rfl id Bool.eq_false_iff.2 (fun hc111 h => ?_) fun hc111 h => ?_
    ·refine rg fun _ k112 => ?_
     obtain ⟨x115, hx115, h⟩ := bnd h
     refine mv rfl <| ya (Yld.build rfl (bu_74_0 (3 : Int))) ?_
     have hq114 : Rels (rel_needlestoreref24_Event M26) ([(Rneedlestoreref24_Event.mk (Sneedlestoreref24_Event.mk (3 : Int) (0 : Int) (0 : Int) 0#64 0#32 ([] : List (BitVec 8)) (0 : Int)) (⟨none, 0, 0⟩ : Hdr))] : List Rneedlestoreref24_Event) ([(Sneedlestoreref24_Event.mk (3 : Int) (0 : Int) (0 : Int) 0#64 0#32 ([] : List (BitVec 8)) (0 : Int))] : List (Sneedlestoreref24_Event)) := (Rels.cons ⟨rfl, SlT.nil⟩ Rels.nil)
     refine WL.eff (by decide) (Eff.buildCA 213 ([(Rneedlestoreref24_Event.mk (Sneedlestoreref24_Event.mk (3 : Int) (0 : Int) (0 : Int) 0#64 0#32 ([] : List (BitVec 8)) (0 : Int)) (⟨none, 0, 0⟩ : Hdr))] : List Rneedlestoreref24_Event) sty_69 rfl rfl rfl (by decide)) ?_
     rintro _ _ ⟨g113, rfl, rfl⟩
     obtain ⟨hu118, hq119⟩ := Rels.apd hq40 hq114 hx115
     refine ap 134 (xs := rs39) (ys := ([(Rneedlestoreref24_Event.mk (Sneedlestoreref24_Event.mk (3 : Int) (0 : Int) (0 : Int) 0#64 0#32 ([] : List (BitVec 8)) (0 : Int)) (⟨none, 0, 0⟩ : Hdr))] : List Rneedlestoreref24_Event)) sty_69 rfl rfl rfl (RdH.own (k := 213) rfl) hu118 fun A116 c117 => WL.eff (by decide) (Eff.makeMap 220 rfl) ?_
     rintro _ _ ⟨g120, rfl, rfl⟩
     exact asn rfl <| asn rfl <| dn <| k112 _ _ <| tn <| k105 _ _ <| xi <| bo <| te <| te <| bx <| bn <| tn <| KK.move 220 127 rfl rfl <| kw (k44 ⟨M26, g120, ([] : List MapEntry), 0, ([] : List (Int × Int)), A116, (rs39 ++ ([(Rneedlestoreref24_Event.mk (Sneedlestoreref24_Event.mk (3 : Int) (0 : Int) (0 : Int) 0#64 0#32 ([] : List (BitVec 8)) (0 : Int)) (⟨none, 0, 0⟩ : Hdr))] : List Rneedlestoreref24_Event)).length, c117, x115, (rs39 ++ ([(Rneedlestoreref24_Event.mk (Sneedlestoreref24_Event.mk (3 : Int) (0 : Int) (0 : Int) 0#64 0#32 ([] : List (BitVec 8)) (0 : Int)) (⟨none, 0, 0⟩ : Hdr))] : List Rneedlestoreref24_Event)), x57, x42⟩ ⟨h, hm_M26, MapK.nil, hq119⟩)
    refine sr fun _ k121 => WL.eff (by decide) (Eff.buildC 222 ([(0 : Int), (0 : Int), (6 : Int), (6 : Int), (11 : Int), (9 : Int), (10 : Int), (8 : Int)] : List (Int)) sty_76 rfl rfl rfl rfl rfl (by decide)) ?_
    rintro _ _ ⟨g122, rfl, rfl⟩
    refine asn rfl <| dn <| k121 _ _ <| sd [(107, _), (127, _), (222, _)] mixed fun _ k123 => ?_
    obtain ⟨x124, hx124, h⟩ := bnd h
    obtain ⟨x125, hx125, h⟩ := bnd h
    obtain ⟨x126, hx126, h⟩ := bnd h
    obtain ⟨x132, hx132, h⟩ := bnd h
    refine dm 0 rfl rfl <| dm 1 rfl rfl <| dm 2 rfl rfl <| dm 3 rfl rfl <| dm 4 rfl rfl <| du 5 rfl (Yld.idxC (xs := x3) sty_30 rfl rfl (RdH.own (k := 107) rfl) hx124) <| du 6 rfl (Yld.fieldAddrC Try.underlying72 rfl nz_3 rfl rfl) <| du 7 rfl (Yld.loadC (xs := x3) (j := 5) scal_3 rfl (RdH.own (k := 107) rfl) hx124 rfl rfl) <| du 8 rfl (Yld.andC rfl rfl) <| du 9 rfl (Yld.idxC (xs := ([(0 : Int), (0 : Int), (6 : Int), (6 : Int), (11 : Int), (9 : Int), (10 : Int), (8 : Int)] : List (Int))) sty_76 rfl rfl (RdH.own (k := 222) rfl) hx125) <| du 10 rfl (Yld.loadC0 (xs := ([(0 : Int), (0 : Int), (6 : Int), (6 : Int), (11 : Int), (9 : Int), (10 : Int), (8 : Int)] : List (Int))) scal_27 rfl (RdH.own (k := 222) rfl) hx125 rfl) <| dm 11 rfl rfl <| dm 12 rfl rfl <| du 13 rfl (Yld.idxC (xs := x3) sty_30 rfl rfl (RdH.own (k := 107) rfl) hx126) <| du 14 rfl (Yld.fieldAddrC Try.underlying72 rfl nz_5 rfl rfl) <| du 15 rfl (Yld.loadC (xs := x3) (j := 4) scal_5 rfl (RdH.own (k := 107) rfl) hx126 rfl rfl) <| on 16 <| WS.eff rfl (by decide) (Eff.buildC 227 ([x126.fData] : List (BitVec 8)) sty_23 rfl rfl rfl rfl rfl (by decide)) ?_
    rintro _ _ ⟨g127, rfl, rfl⟩
    refine ad ?_ (by repeat (first | exact sn | refine sc ?_))
    refine du 17 rfl (Yld.build rfl (bu_74_0_1_6_5 (2 : Int) x101 x125 (some ⟨g127, 0, none⟩) (([x126.fData] : List (BitVec 8)).length) (([x126.fData] : List (BitVec 8)).length))) <| on 18 <| WS.freeze 227 rfl rfl rfl rfl rfl fun M129 hm_M129 hf130 => ?_
    have hq131 : Rels (rel_needlestoreref24_Event M129) ([(Rneedlestoreref24_Event.mk (Sneedlestoreref24_Event.mk (2 : Int) x101 (0 : Int) 0#64 0#32 ([x126.fData] : List (BitVec 8)) x125) (⟨(some ⟨g127, 0, none⟩), ([x126.fData] : List (BitVec 8)).length, ([x126.fData] : List (BitVec 8)).length⟩ : Hdr))] : List Rneedlestoreref24_Event) ([(Sneedlestoreref24_Event.mk (2 : Int) x101 (0 : Int) 0#64 0#32 ([x126.fData] : List (BitVec 8)) x125)] : List (Sneedlestoreref24_Event)) := (Rels.cons ⟨rfl, hf130⟩ Rels.nil)
    refine WS.eff rfl (by decide) (Eff.buildCA 228 ([(Rneedlestoreref24_Event.mk (Sneedlestoreref24_Event.mk (2 : Int) x101 (0 : Int) 0#64 0#32 ([x126.fData] : List (BitVec 8)) x125) (⟨(some ⟨g127, 0, none⟩), ([x126.fData] : List (BitVec 8)).length, ([x126.fData] : List (BitVec 8)).length⟩ : Hdr))] : List Rneedlestoreref24_Event) sty_69 rfl rfl rfl (by decide)) ?_
    rintro _ _ ⟨g128, rfl, rfl⟩
    refine ad ?_ (by repeat (first | exact sn | refine sc ?_))
    refine on 19 ?_
    obtain ⟨hu135, hq136⟩ := Rels.apd (Rels.lift hq40 hm_M129) hq131 hx132
    refine WS.eff rfl (by decide) (Eff.appendC 134 (xs := rs39) (ys := ([(Rneedlestoreref24_Event.mk (Sneedlestoreref24_Event.mk (2 : Int) x101 (0 : Int) 0#64 0#32 ([x126.fData] : List (BitVec 8)) x125) (⟨(some ⟨g127, 0, none⟩), ([x126.fData] : List (BitVec 8)).length, ([x126.fData] : List (BitVec 8)).length⟩ : Hdr))] : List Rneedlestoreref24_Event)) sty_69 rfl rfl rfl (RdH.own (k := 228) rfl) hu135) ?_
    rintro _ _ ⟨A133, c134, rfl, rfl⟩
    refine ad ?_ (by repeat (first | exact sn | refine sc ?_))
    refine du 20 rfl (Yld.assign rfl) <| dd <| k123 _ _ <| rg fun _ k137 => mv rfl <| mv rfl <| WL.eff0R (Eff0R.delK 127 (ek := (MKey.ek (κ := Int))) (ev := I64) (m := x31) (q := x101) und_68 keyl_3 rfl rfl rfl hmr32) ?_
    rintro _ ⟨es138, cl139, hmr140, rfl⟩
    exact dn <| k137 _ _ <| tn <| k105 _ _ <| xi <| bo <| te <| te <| bx <| bn <| tn <| kw (k44 ⟨M129, g28, es138, cl139, (mdel x31 x101), A133, (rs39 ++ ([(Rneedlestoreref24_Event.mk (Sneedlestoreref24_Event.mk (2 : Int) x101 (0 : Int) 0#64 0#32 ([x126.fData] : List (BitVec 8)) x125) (⟨(some ⟨g127, 0, none⟩), ([x126.fData] : List (BitVec 8)).length, ([x126.fData] : List (BitVec 8)).length⟩ : Hdr))] : List Rneedlestoreref24_Event)).length, c134, x132, (rs39 ++ ([(Rneedlestoreref24_Event.mk (Sneedlestoreref24_Event.mk (2 : Int) x101 (0 : Int) 0#64 0#32 ([x126.fData] : List (BitVec 8)) x125) (⟨(some ⟨g127, 0, none⟩), ([x126.fData] : List (BitVec 8)).length, ([x126.fData] : List (BitVec 8)).length⟩ : Hdr))] : List Rneedlestoreref24_Event)), x57, x42⟩ ⟨h, (Ext.trans hm_M26 hm_M129), hmr140, hq136⟩)
   refine WC.skip <| bn <| tn <| k98 _ _ <| rg fun _ k141 => ?_
   obtain ⟨x142, hx142, h⟩ := bnd h
   exact mv rfl <| ya (Yld.addC rfl rfl hx142) <| asn rfl <| dn <| k141 _ _ <| tn <| kw (k94 (x142) h)
  exact xi <| te <| te <| bx <| bn <| tn <| kw (k44 ⟨M26, g28, es29, cl30, x31, A35, n36, c37, x38, rs39, x57, x42⟩ ⟨h, hm_M26, hmr32, hq40⟩)
 rintro ⟨M15, A18, n19, c20, x21, rs22⟩ ⟨h, hm_M15, hq23⟩
 unfold m_law25_random_j0 at h
 refine sr fun _ k143 => ?_
 obtain ⟨x144, hx144, h⟩ := bnd h
 refine mv rfl <| WL.freeze 117 rfl rfl rfl fun M156 hm_M156 hf157 => WL.eff (by decide) (Eff.callM 250 rfl Try.func27 nm_27 rfl rfl rfl (w_r24_Build _ A18 n19 c20 rs22 _ hf157 (Rels.lift hq23 hm_M156) hx144)) ?_
 rintro _ _ ⟨M158, _, ⟨A159, n160, c161, rs162, rfl, rfl, hq163⟩, hm_M158, rfl⟩
 refine mv rfl <| ya (Yld.extract rfl rfl) <| ya (Yld.extract rfl rfl) <| asn rfl <| asn rfl <| dn <| k143 _ _ <| sr fun _ k164 => mv rfl <| asn rfl <| dn <| k164 _ _ <| re ?_
 injection h with h; subst h
 exact rt [250] (ResIs.one rfl rfl) (Ext.trans (Ext.trans hm_M15 hm_M156) hm_M158) ⟨A159, n160, c161, rs162, rfl, rfl, hq163⟩
end Go.Proofs.Ytkcccenekglkoaa
