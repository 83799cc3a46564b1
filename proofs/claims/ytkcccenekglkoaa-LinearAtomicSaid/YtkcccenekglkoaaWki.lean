/-
 Walks (i): what a function's model gives, the function returns. Printed by a program of ours (vcm.py) from the function's operations. Conditions: as each theorem says.
-/
import Derived.Test.YtkcccenekglkoaaWkh
import Derived.Test.YtkcccenekglkoaaMdi
namespace Go.Proofs.Ytkcccenekglkoaa
set_option maxRecDepth 10000
open Go Go.RowKit
set_option linter.unusedVariables false
theorem und_30 : Try.prog.underlying 30 = some (.slice 72) := by kernel_rfl
theorem agg_72 : Agg Try.prog 72 8 := ⟨⟨_, Try.underlying72, rfl⟩, by kernel_rfl⟩
theorem bu_39_0_1_6_7_8_5 : ∀ (a0 : Int) (a1 : Int) (a6 : Int) (a7 : Int) (a8 : Int) (a5 : Option Addr) (n5 c5 : Nat), Try.prog.built 39 [(0, I64 a0), (1, I64 a1), (6, I64 a6), (7, I64 a7), (8, I64 a8), (5, .slice a5 n5 c5)] = some ([I64 a0, I64 a1, U64 0#64, U32 0#32, .slice none 0 0, .slice a5 n5 c5, I64 a6, I64 a7, I64 a8, I64 (0 : Int)] : List Value).toArray := fun a0 a1 a6 a7 a8 a5 n5 c5 => by kernel_rfl
theorem bu_39_1_6_7_8 : ∀ (a1 : Int) (a6 : Int) (a7 : Int) (a8 : Int), Try.prog.built 39 [(1, I64 a1), (6, I64 a6), (7, I64 a7), (8, I64 a8)] = some ([I64 (0 : Int), I64 a1, U64 0#64, U32 0#32, .slice none 0 0, .slice none 0 0, I64 a6, I64 a7, I64 a8, I64 (0 : Int)] : List Value).toArray := fun a1 a6 a7 a8 => by kernel_rfl
theorem bu_39_1_6_7_8_4 : ∀ (a1 : Int) (a6 : Int) (a7 : Int) (a8 : Int) (a4 : Option Addr) (n4 c4 : Nat), Try.prog.built 39 [(1, I64 a1), (6, I64 a6), (7, I64 a7), (8, I64 a8), (4, .slice a4 n4 c4)] = some ([I64 (0 : Int), I64 a1, U64 0#64, U32 0#32, .slice a4 n4 c4, .slice none 0 0, I64 a6, I64 a7, I64 a8, I64 (0 : Int)] : List Value).toArray := fun a1 a6 a7 a8 a4 n4 c4 => by kernel_rfl
theorem keyl_3 : KeyL Try.prog 3 (MKey.ek (κ := Int)) := KeyL.flat (by kernel_rfl)
theorem nz_5 : (Try.prog.info? 5).map (fun i => decide (i.size = 0)) = some false := by kernel_rfl
theorem scal_5 : scal Try.prog 5 = true := by kernel_rfl
theorem siz_22 : (Try.prog.info? 22).map (·.size) = some 1 := by kernel_rfl
theorem siz_5 : (Try.prog.info? 5).map (·.size) = some 1 := by kernel_rfl
theorem sty_30 : STy Try.prog 30 72 (.agg #[(I64 0), (I64 0), (U64 0#64), (U32 0#32), (U8 0#8), (I64 0), (.bool false), (.bool false)]) 8 48 := STy.of und_30 (by kernel_rfl) rfl
theorem zr_72 : (Try.prog.info? 72).map (fun i => i.zero.map (·.cells)) = some (some ([I64 (0 : Int), I64 (0 : Int), U64 0#64, U32 0#32, U8 0#8, I64 (0 : Int), .bool false, .bool false] : List Value).toArray) := by kernel_rfl
instance : Lay Sneedlestorelaw25_Act := ⟨8, fun a => [I64 a.fClient, I64 a.fKind, U64 a.fKey, U32 a.fCookie, U8 a.fData, I64 a.fResult, .bool a.fLost, .bool a.fCrash], fun _ => rfl, fun _ u h => by simp only [List.mem_cons, List.not_mem_nil, or_false] at h; rcases h with rfl | rfl | rfl | rfl | rfl | rfl | rfl | rfl <;> rfl, by decide⟩
theorem w_law25_awake (M0 : Mem)  {res : Bool} (h : m_law25_awake = some res) :
  Fn Try.prog 8 #[] M0 fun r M' es => r = .bool res /\ es = [] := by
 refine Fn.intro (N := 46) Try.func8 rfl rfl (Nat.le_of_ble_eq_true rfl) fun w0 => ?_
 unfold m_law25_awake at h
 refine sr fun _ k1 => asn rfl <| dn <| k1 _ _ <| sr fun _ k2 => ?_
 obtain ⟨x3, hx3, h⟩ := bnd h
 refine c0 Try.func16 rfl (fun w hb hh => w_linear_Check (Mem.snap w) none 0 0 ([] : List Rhistory_Op) _ (RdH.sn (RdT.nil (α := Rhistory_Op)) w hb hh) (Rels.sn (Rels.nil (R := rel_history_Op M0)) (hh.sat 0 _ rfl)) hx3) <| mv rfl <| ya (Yld.extract rfl rfl) <| ya (Yld.extract rfl rfl) <| asn rfl <| asn rfl <| dn <| k2 _ _ <| sr fun _ k5 => ?_
 obtain ⟨x8, hx8, h⟩ := bnd h
 refine ya (Yld.build rfl (bu_39_1_6_7_8 (3 : Int) (0 : Int) (1 : Int) (-1 : Int))) ?_
 have hq7 : Rels (rel_history_Op M0) ([(Rhistory_Op.mk (Shistory_Op.mk (0 : Int) (3 : Int) 0#64 0#32 ([] : List (BitVec 8)) ([] : List (BitVec 8)) (0 : Int) (1 : Int) (-1 : Int) (0 : Int)) (⟨none, 0, 0⟩ : Hdr) (⟨none, 0, 0⟩ : Hdr))] : List Rhistory_Op) ([(Shistory_Op.mk (0 : Int) (3 : Int) 0#64 0#32 ([] : List (BitVec 8)) ([] : List (BitVec 8)) (0 : Int) (1 : Int) (-1 : Int) (0 : Int))] : List (Shistory_Op)) := (Rels.cons ⟨rfl, SlT.nil, SlT.nil⟩ Rels.nil)
 refine WL.eff (by decide) (Eff.buildCA 106 ([(Rhistory_Op.mk (Shistory_Op.mk (0 : Int) (3 : Int) 0#64 0#32 ([] : List (BitVec 8)) ([] : List (BitVec 8)) (0 : Int) (1 : Int) (-1 : Int) (0 : Int)) (⟨none, 0, 0⟩ : Hdr) (⟨none, 0, 0⟩ : Hdr))] : List Rhistory_Op) sty_46 rfl rfl rfl (by decide)) ?_
 rintro _ _ ⟨g6, rfl, rfl⟩
 refine c0 Try.func16 rfl (fun w hb hh => w_linear_Check (Mem.snap w) (some ⟨g6, 0, none⟩) (([(Rhistory_Op.mk (Shistory_Op.mk (0 : Int) (3 : Int) 0#64 0#32 ([] : List (BitVec 8)) ([] : List (BitVec 8)) (0 : Int) (1 : Int) (-1 : Int) (0 : Int)) (⟨none, 0, 0⟩ : Hdr) (⟨none, 0, 0⟩ : Hdr))] : List Rhistory_Op).length) (([(Rhistory_Op.mk (Shistory_Op.mk (0 : Int) (3 : Int) 0#64 0#32 ([] : List (BitVec 8)) ([] : List (BitVec 8)) (0 : Int) (1 : Int) (-1 : Int) (0 : Int)) (⟨none, 0, 0⟩ : Hdr) (⟨none, 0, 0⟩ : Hdr))] : List Rhistory_Op).length) ([(Rhistory_Op.mk (Shistory_Op.mk (0 : Int) (3 : Int) 0#64 0#32 ([] : List (BitVec 8)) ([] : List (BitVec 8)) (0 : Int) (1 : Int) (-1 : Int) (0 : Int)) (⟨none, 0, 0⟩ : Hdr) (⟨none, 0, 0⟩ : Hdr))] : List Rhistory_Op) _ (RdH.sn (RdH.own (k := 106) rfl) w hb hh) (Rels.sn hq7 (hh.sat 0 _ rfl)) hx8) <| mv rfl <| ya (Yld.extract rfl rfl) <| ya (Yld.extract rfl rfl) <| asn rfl <| asn rfl <| dn <| k5 _ _ <| sr fun _ k10 => ?_
 obtain ⟨x19, hx19, h⟩ := bnd h
 refine WL.eff (by decide) (Eff.buildC 111 ([1#8] : List (BitVec 8)) sty_23 rfl rfl rfl rfl rfl (by decide)) ?_
 rintro _ _ ⟨g11, rfl, rfl⟩
 refine ya (Yld.build rfl (bu_39_1_6_7_8_4 (1 : Int) (0 : Int) (-1 : Int) (-1 : Int) (some ⟨g11, 0, none⟩) (([1#8] : List (BitVec 8)).length) (([1#8] : List (BitVec 8)).length))) <| WL.eff (by decide) (Eff.buildC 112 ([1#8] : List (BitVec 8)) sty_23 rfl rfl rfl rfl rfl (by decide)) ?_
 rintro _ _ ⟨g12, rfl, rfl⟩
 refine ya (Yld.build rfl (bu_39_0_1_6_7_8_5 (1 : Int) (3 : Int) (1 : Int) (2 : Int) (-1 : Int) (some ⟨g12, 0, none⟩) (([1#8] : List (BitVec 8)).length) (([1#8] : List (BitVec 8)).length))) <| WL.freeze 111 rfl rfl rfl fun M14 hm_M14 hf15 => WL.freeze 112 rfl rfl rfl fun M16 hm_M16 hf17 => ?_
 have hq18 : Rels (rel_history_Op M16) ([(Rhistory_Op.mk (Shistory_Op.mk (0 : Int) (1 : Int) 0#64 0#32 ([1#8] : List (BitVec 8)) ([] : List (BitVec 8)) (0 : Int) (-1 : Int) (-1 : Int) (0 : Int)) (⟨(some ⟨g11, 0, none⟩), ([1#8] : List (BitVec 8)).length, ([1#8] : List (BitVec 8)).length⟩ : Hdr) (⟨none, 0, 0⟩ : Hdr)), (Rhistory_Op.mk (Shistory_Op.mk (1 : Int) (3 : Int) 0#64 0#32 ([] : List (BitVec 8)) ([1#8] : List (BitVec 8)) (1 : Int) (2 : Int) (-1 : Int) (0 : Int)) (⟨none, 0, 0⟩ : Hdr) (⟨(some ⟨g12, 0, none⟩), ([1#8] : List (BitVec 8)).length, ([1#8] : List (BitVec 8)).length⟩ : Hdr))] : List Rhistory_Op) ([(Shistory_Op.mk (0 : Int) (1 : Int) 0#64 0#32 ([1#8] : List (BitVec 8)) ([] : List (BitVec 8)) (0 : Int) (-1 : Int) (-1 : Int) (0 : Int)), (Shistory_Op.mk (1 : Int) (3 : Int) 0#64 0#32 ([] : List (BitVec 8)) ([1#8] : List (BitVec 8)) (1 : Int) (2 : Int) (-1 : Int) (0 : Int))] : List (Shistory_Op)) := (Rels.cons ⟨rfl, (SlRc.lift hf15 hm_M16), SlT.nil⟩ (Rels.cons ⟨rfl, SlT.nil, hf17⟩ Rels.nil))
 refine WL.eff (by decide) (Eff.buildCA 113 ([(Rhistory_Op.mk (Shistory_Op.mk (0 : Int) (1 : Int) 0#64 0#32 ([1#8] : List (BitVec 8)) ([] : List (BitVec 8)) (0 : Int) (-1 : Int) (-1 : Int) (0 : Int)) (⟨(some ⟨g11, 0, none⟩), ([1#8] : List (BitVec 8)).length, ([1#8] : List (BitVec 8)).length⟩ : Hdr) (⟨none, 0, 0⟩ : Hdr)), (Rhistory_Op.mk (Shistory_Op.mk (1 : Int) (3 : Int) 0#64 0#32 ([] : List (BitVec 8)) ([1#8] : List (BitVec 8)) (1 : Int) (2 : Int) (-1 : Int) (0 : Int)) (⟨none, 0, 0⟩ : Hdr) (⟨(some ⟨g12, 0, none⟩), ([1#8] : List (BitVec 8)).length, ([1#8] : List (BitVec 8)).length⟩ : Hdr))] : List Rhistory_Op) sty_46 rfl rfl rfl (by decide)) ?_
 rintro _ _ ⟨g13, rfl, rfl⟩
 refine c0 Try.func16 rfl (fun w hb hh => w_linear_Check (Mem.snap w) (some ⟨g13, 0, none⟩) (([(Rhistory_Op.mk (Shistory_Op.mk (0 : Int) (1 : Int) 0#64 0#32 ([1#8] : List (BitVec 8)) ([] : List (BitVec 8)) (0 : Int) (-1 : Int) (-1 : Int) (0 : Int)) (⟨(some ⟨g11, 0, none⟩), ([1#8] : List (BitVec 8)).length, ([1#8] : List (BitVec 8)).length⟩ : Hdr) (⟨none, 0, 0⟩ : Hdr)), (Rhistory_Op.mk (Shistory_Op.mk (1 : Int) (3 : Int) 0#64 0#32 ([] : List (BitVec 8)) ([1#8] : List (BitVec 8)) (1 : Int) (2 : Int) (-1 : Int) (0 : Int)) (⟨none, 0, 0⟩ : Hdr) (⟨(some ⟨g12, 0, none⟩), ([1#8] : List (BitVec 8)).length, ([1#8] : List (BitVec 8)).length⟩ : Hdr))] : List Rhistory_Op).length) (([(Rhistory_Op.mk (Shistory_Op.mk (0 : Int) (1 : Int) 0#64 0#32 ([1#8] : List (BitVec 8)) ([] : List (BitVec 8)) (0 : Int) (-1 : Int) (-1 : Int) (0 : Int)) (⟨(some ⟨g11, 0, none⟩), ([1#8] : List (BitVec 8)).length, ([1#8] : List (BitVec 8)).length⟩ : Hdr) (⟨none, 0, 0⟩ : Hdr)), (Rhistory_Op.mk (Shistory_Op.mk (1 : Int) (3 : Int) 0#64 0#32 ([] : List (BitVec 8)) ([1#8] : List (BitVec 8)) (1 : Int) (2 : Int) (-1 : Int) (0 : Int)) (⟨none, 0, 0⟩ : Hdr) (⟨(some ⟨g12, 0, none⟩), ([1#8] : List (BitVec 8)).length, ([1#8] : List (BitVec 8)).length⟩ : Hdr))] : List Rhistory_Op).length) ([(Rhistory_Op.mk (Shistory_Op.mk (0 : Int) (1 : Int) 0#64 0#32 ([1#8] : List (BitVec 8)) ([] : List (BitVec 8)) (0 : Int) (-1 : Int) (-1 : Int) (0 : Int)) (⟨(some ⟨g11, 0, none⟩), ([1#8] : List (BitVec 8)).length, ([1#8] : List (BitVec 8)).length⟩ : Hdr) (⟨none, 0, 0⟩ : Hdr)), (Rhistory_Op.mk (Shistory_Op.mk (1 : Int) (3 : Int) 0#64 0#32 ([] : List (BitVec 8)) ([1#8] : List (BitVec 8)) (1 : Int) (2 : Int) (-1 : Int) (0 : Int)) (⟨none, 0, 0⟩ : Hdr) (⟨(some ⟨g12, 0, none⟩), ([1#8] : List (BitVec 8)).length, ([1#8] : List (BitVec 8)).length⟩ : Hdr))] : List Rhistory_Op) _ (RdH.sn (RdH.own (k := 113) rfl) w hb hh) (Rels.sn hq18 (hh.sat 0 _ rfl)) hx19) <| mv rfl <| ya (Yld.extract rfl rfl) <| ya (Yld.extract rfl rfl) <| asn rfl <| asn rfl <| dn <| k10 _ _ <| sr fun _ k21 => mv rfl <| mv rfl <| spl h id Bool.eq_false_iff.2 (fun hc22 h => ?_) fun hc22 h => ?_
 ·refine mvg rfl <| yg (Yld.eqlI rfl rfl) <| pt rfl rfl <| mv rfl <| spl h beq_iff_eq.2 beq_eq_false_iff_ne.2 (fun hc23 h => ?_) fun hc23 h => ?_
  ·refine mvg rfl <| yg (Yld.notB rfl) <| pt rfl rfl <| mv rfl <| spn h not_f (fun q => not_t (Bool.eq_false_iff.2 q)) (fun hc24 h => ?_) fun hc24 h => ?_
   ·refine sk <| sk <| pf rfl rfl <| mv rfl <| sk <| pf rfl rfl <| mv rfl <| sk <| sk <| pf rfl rfl <| asn rfl <| dn <| k21 _ _ <| re ?_
    injection h with h; subst h
    exact rt [] (ResIs.one rfl rfl) (Ext.trans hm_M14 hm_M16) ⟨rfl, rfl⟩
   refine mvg rfl <| yg (Yld.eqlI rfl rfl) <| pt rfl rfl <| mv rfl <| spl h beq_iff_eq.2 beq_eq_false_iff_ne.2 (fun hc25 h => ?_) fun hc25 h => ?_
   ·refine mvg rfl <| pt rfl rfl <| mv rfl <| spl h id Bool.eq_false_iff.2 (fun hc26 h => ?_) fun hc26 h => ?_
    ·refine mvg rfl <| yg (Yld.eqlI rfl rfl) <| pt rfl rfl <| asn rfl <| dn <| k21 _ _ <| re ?_
     injection h with h; subst h
     exact rt [] (ResIs.one rfl rfl) (Ext.trans hm_M14 hm_M16) ⟨rfl, rfl⟩
    refine sk <| sk <| pf rfl rfl <| asn rfl <| dn <| k21 _ _ <| re ?_
    injection h with h; subst h
    exact rt [] (ResIs.one rfl rfl) (Ext.trans hm_M14 hm_M16) ⟨rfl, rfl⟩
   refine sk <| pf rfl rfl <| mv rfl <| sk <| sk <| pf rfl rfl <| asn rfl <| dn <| k21 _ _ <| re ?_
   injection h with h; subst h
   exact rt [] (ResIs.one rfl rfl) (Ext.trans hm_M14 hm_M16) ⟨rfl, rfl⟩
  refine sk <| sk <| pf rfl rfl <| mv rfl <| sk <| sk <| pf rfl rfl <| mv rfl <| sk <| pf rfl rfl <| mv rfl <| sk <| sk <| pf rfl rfl <| asn rfl <| dn <| k21 _ _ <| re ?_
  injection h with h; subst h
  exact rt [] (ResIs.one rfl rfl) (Ext.trans hm_M14 hm_M16) ⟨rfl, rfl⟩
 refine sk <| sk <| pf rfl rfl <| mv rfl <| sk <| sk <| pf rfl rfl <| mv rfl <| sk <| sk <| pf rfl rfl <| mv rfl <| sk <| pf rfl rfl <| mv rfl <| sk <| sk <| pf rfl rfl <| asn rfl <| dn <| k21 _ _ <| re ?_
 injection h with h; subst h
 exact rt [] (ResIs.one rfl rfl) (Ext.trans hm_M14 hm_M16) ⟨rfl, rfl⟩
theorem w_law25_short (M0 : Mem) (A00 : Option Addr) (n00 c00 : Nat) (x00 : List (Sneedlestorelaw25_Act)) (hf00 : SlT M0 A00 n00 c00 x00) (x01 : Int) {res : (List (Sneedlestorelaw25_Act))} (h : m_law25_short x00 x01 = some res) :
  Fn Try.prog 26 #[.slice A00 n00 c00, I64 x01] M0 fun r M' es => ∃ (A1 : Option Addr) (n1 c1 : Nat), r = .slice A1 n1 c1 /\ es = [.own 72 (Lay.sz Sneedlestorelaw25_Act) A1 n1 c1 (cel res)] := by
 refine Fn.intro (N := 51) Try.func26 rfl rfl (Nat.le_of_ble_eq_true rfl) fun w0 => ?_
 unfold m_law25_short at h
 refine sr fun _ k1 => asn rfl <| dn <| k1 _ _ <| sr fun _ k2 => asn rfl <| dn <| k2 _ _ <| ct (σ := (Option Addr) × Nat × Nat × (List (Sneedlestorelaw25_Act))) (fun ⟨A5, n6, c7, x8⟩ => [(5, .slice A5 n6 c7)]) (fun ⟨A5, n6, c7, x8⟩ => [(0, .mem M0), (104, .own 72 (Lay.sz Sneedlestorelaw25_Act) A5 n6 c7 (cel x8))]) (fun ⟨A5, n6, c7, x8⟩ => m_law25_short_j0 x8 = some res) (fun _ k9 => ?_) ?_
 ·refine sr fun _ k10 => asn rfl <| dn <| k10 _ _ <| bl <| WC.nilOwn 112 72 (Lay.sz Sneedlestorelaw25_Act) none <| lp (τ := (Option Addr) × Nat × Nat × (List (Sneedlestorelaw25_Act)) × Int) (fun ⟨A13, n14, c15, x16, x17⟩ => [(0, .slice A00 n00 c00), (1, I64 x01), (5, .slice A13 n14 c15), (6, I64 x17)]) (fun ⟨A13, n14, c15, x16, x17⟩ => [(0, .mem M0), (112, .own 72 (Lay.sz Sneedlestorelaw25_Act) A13 n14 c15 (cel x16))]) (fun q18 ⟨A13, n14, c15, x16, x17⟩ => m_law25_short_l1 x00 x01 q18 x16 x17 = some res) ⟨none, 0, 0, ([] : List (Sneedlestorelaw25_Act)), (0 : Int)⟩ ?_ (by simp [m_law25_short_l1]) ?_
  ·exact h
  rintro q18 ⟨A13, n14, c15, x16, x17⟩ h _ k19
  unfold m_law25_short_l1 at h
  refine ct (σ := Unit) (fun _ => [(0, .slice A00 n00 c00), (1, I64 x01), (5, .slice A13 n14 c15), (6, I64 x17)]) (fun _ => [(0, .mem M0), (112, .own 72 (Lay.sz Sneedlestorelaw25_Act) A13 n14 c15 (cel x16))]) (fun _ => m_law25_short_j2 x00 x16 x17 (m_law25_short_l1 x00 x01 q18) = some res) (fun _ k20 => ?_) ?_
  ·refine sr fun _ k21 => mv rfl <| mv rfl <| ya (Yld.lenC (xs := x00) und_30 rfl (RdH.memM (k := 0) rfl hf00)) <| ya (Yld.lss rfl rfl) <| mv rfl <| spl h decide_eq_true decide_eq_false (fun hc22 h => ?_) fun hc22 h => ?_
   ·refine mvg rfl <| mvg rfl <| yg (Yld.lss rfl rfl) <| pt rfl rfl <| dn <| k21 _ _ <| cnd h rfl decide_eq_true decide_eq_false (fun hc23 h => ?_) fun hc23 h => ?_
    ·exact WC.skip <| tn <| kw (k20 () h)
    exact xi <| te <| te <| bx <| tn <| KK.move 112 104 rfl rfl <| kw (k9 ⟨A13, n14, c15, x16⟩ h)
   exact sk <| sk <| sk <| pf rfl rfl <| dn <| k21 _ _ <| cdF rfl <| xi <| te <| te <| bx <| tn <| KK.move 112 104 rfl rfl <| kw (k9 ⟨A13, n14, c15, x16⟩ h)
  rintro _ h
  unfold m_law25_short_j2 at h
  refine sq fun _ k24 => bl <| sr fun _ k25 => ?_
  obtain ⟨x26, hx26, h⟩ := bnd h
  refine mv rfl <| mv rfl <| ya (Yld.idxC (xs := x00) sty_30 rfl rfl (RdH.memM (k := 0) rfl hf00) hx26) <| ya (Yld.loadA (xs := x00) agg_72 rfl (RdH.memM (k := 0) rfl hf00) hx26 rfl) <| al 127 zr_72 fun g27 => sb 127 agg_72 rfl rfl rfl <| dn <| k25 _ _ <| sr fun _ k28 => ?_
  obtain ⟨x29, hx29, h⟩ := bnd h
  obtain ⟨x30, hx30, h⟩ := bnd h
  obtain ⟨x31, hx31, h⟩ := bnd h
  refine ya (Yld.fieldAddr Try.underlying72 rfl nz_3 rfl rfl) <| ya (Yld.loadB (k := 127) scal_3 rfl rfl rfl) <| ya (Yld.andC rfl rfl) <| ya (Yld.remC rfl rfl hx29) <| ya (Yld.fieldAddr Try.underlying72 rfl nz_3 rfl rfl) <| ya (Yld.loadB (k := 127) scal_3 rfl rfl rfl) <| ya (Yld.andC rfl rfl) <| ya (Yld.remC rfl rfl hx30) <| ya (Yld.addC rfl rfl hx31) <| ya (Yld.fieldAddr Try.underlying72 rfl nz_26 rfl rfl) <| ya (Yld.loadB (k := 127) scal_26 rfl rfl rfl) <| ya (Yld.and_u64 (a := x26.fKey) (b := 1#64) rfl rfl) <| ya (Yld.fieldAddr Try.underlying72 rfl nz_22 rfl rfl) <| ya (Yld.loadB (k := 127) scal_22 rfl rfl rfl) <| ya (Yld.and_u32 (a := x26.fCookie) (b := 1#32) rfl rfl) <| ya (Yld.fieldAddr Try.underlying72 rfl nz_5 rfl rfl) <| ya (Yld.loadB (k := 127) scal_5 rfl rfl rfl) <| ya (Yld.and_u8 (a := x26.fData) (b := 3#8) rfl rfl) <| ya (Yld.fieldAddr Try.underlying72 rfl nz_3 rfl rfl) <| WL.eff0 (Eff0.storeB 127 siz_3 rfl rfl rfl rfl (Nat.le_of_ble_eq_true rfl)) <| ya (Yld.fieldAddr Try.underlying72 rfl nz_3 rfl rfl) <| WL.eff0 (Eff0.storeB 127 siz_3 rfl rfl rfl rfl (Nat.le_of_ble_eq_true rfl)) <| ya (Yld.fieldAddr Try.underlying72 rfl nz_26 rfl rfl) <| WL.eff0 (Eff0.storeB 127 siz_26 rfl rfl rfl rfl (Nat.le_of_ble_eq_true rfl)) <| ya (Yld.fieldAddr Try.underlying72 rfl nz_22 rfl rfl) <| WL.eff0 (Eff0.storeB 127 siz_22 rfl rfl rfl rfl (Nat.le_of_ble_eq_true rfl)) <| ya (Yld.fieldAddr Try.underlying72 rfl nz_5 rfl rfl) <| WL.eff0 (Eff0.storeB 127 siz_5 rfl rfl rfl rfl (Nat.le_of_ble_eq_true rfl)) <| dn <| k28 _ _ <| rg fun _ k32 => ?_
  obtain ⟨x34, hx34, h⟩ := bnd h
  refine mv rfl <| ya (Yld.loadBM (k := 127) agg_72 rfl rfl rfl) <| WL.eff (by decide) (Eff.buildCA 133 ([(Sneedlestorelaw25_Act.mk x29 x31 (x26.fKey &&& 1#64) (x26.fCookie &&& 1#32) (x26.fData &&& 3#8) x26.fResult x26.fLost x26.fCrash)] : List (Sneedlestorelaw25_Act)) sty_30 rfl rfl rfl (by decide)) ?_
  rintro _ _ ⟨g33, rfl, rfl⟩
  refine ap 112 (xs := x16) (ys := ([(Sneedlestorelaw25_Act.mk x29 x31 (x26.fKey &&& 1#64) (x26.fCookie &&& 1#32) (x26.fData &&& 3#8) x26.fResult x26.fLost x26.fCrash)] : List (Sneedlestorelaw25_Act))) sty_30 rfl rfl rfl (RdH.own (k := 133) rfl) hx34 fun A35 c36 => asn rfl <| dn <| k32 _ _ <| bn <| tn <| k24 _ _ <| rg fun _ k37 => ?_
  obtain ⟨x38, hx38, h⟩ := bnd h
  exact mv rfl <| ya (Yld.addC rfl rfl hx38) <| asn rfl <| dn <| k37 _ _ <| tn <| kw (k19 ⟨A35, x34.length, c36, x34, x38⟩ h)
 rintro ⟨A5, n6, c7, x8⟩ h
 unfold m_law25_short_j0 at h
 refine sr fun _ k39 => mv rfl <| asn rfl <| dn <| k39 _ _ <| re ?_
 injection h with h; subst h
 exact rt [104] (ResIs.one rfl rfl) (Ext.refl _ _) ⟨A5, n6, c7, rfl, rfl⟩
end Go.Proofs.Ytkcccenekglkoaa
