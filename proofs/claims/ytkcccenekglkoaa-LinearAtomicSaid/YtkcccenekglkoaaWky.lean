/-
 Walks (y): what a function's model gives, the function returns. Printed by a program of ours (vcm.py) from the function's operations. Conditions: as each theorem says.
-/
import Derived.Test.YtkcccenekglkoaaWkzb
import Derived.Test.YtkcccenekglkoaaMdy
namespace Go.Proofs.Ytkcccenekglkoaa
set_option maxRecDepth 10000
open Go Go.RowKit
set_option linter.unusedVariables false
theorem nm_40 : (Try.f40.name == "runtime.NumGoroutine") = false := by kernel_rfl
theorem nm_41 : (Try.f41.name == "runtime.NumGoroutine") = false := by kernel_rfl
theorem nm_42 : (Try.f42.name == "runtime.NumGoroutine") = false := by kernel_rfl
theorem nm_43 : (Try.f43.name == "runtime.NumGoroutine") = false := by kernel_rfl
theorem nm_54 : (Try.f54.name == "runtime.NumGoroutine") = false := by kernel_rfl
theorem nm_55 : (Try.f55.name == "runtime.NumGoroutine") = false := by kernel_rfl
theorem nm_56 : (Try.f56.name == "runtime.NumGoroutine") = false := by kernel_rfl
theorem w_history_Only (M0 : Mem) (A00 : Option Addr) (n00 c00 : Nat) (rs00 : List Rhistory_Op) (x00 : List (Shistory_Op)) (hf00 : SlT M0 A00 n00 c00 rs00) (hq00 : Rels (rel_history_Op M0) rs00 x00) (x01 : BitVec 64) {res : (List (Shistory_Op))} (h : m_history_Only x00 x01 = some res) :
  Fn Try.prog 25 #[.slice A00 n00 c00, U64 x01] M0 fun r M' es => ∃ (A1 : Option Addr) (n1 c1 : Nat), ∃ rs1 : List Rhistory_Op, r = .slice A1 n1 c1 /\ es = [.own 39 (Lay.sz Rhistory_Op) A1 n1 c1 (cel rs1)] /\ Rels (rel_history_Op M') rs1 res := by
 refine Fn.intro (N := 34) Try.func25 rfl rfl (Nat.le_of_ble_eq_true rfl) fun w0 => ?_
 unfold m_history_Only at h
 refine sr fun _ k1 => bb 102 [U64 x01] rfl fun g2 => asn rfl <| dn <| k1 _ _ <| sr fun _ k3 => mv rfl <| ya (Yld.makeFunc rfl rfl) <| WL.inl (by decide) Try.func42 nm_42 rfl rfl (Tri.intro (N := 23) Try.func42 rfl rfl (Nat.le_of_ble_eq_true rfl) ?_)
 refine sr fun _ k4 => asn rfl <| dn <| k4 _ _ <| sr fun _ k5 => asn rfl <| dn <| k5 _ _ <| ct (σ := (Option Addr) × Nat × Nat × (List (Shistory_Op)) × (List Rhistory_Op)) (fun ⟨A8, n9, c10, x11, rs12⟩ => [(5, .slice A8 n9 c10)]) (fun ⟨A8, n9, c10, x11, rs12⟩ => [(0, .mem M0), (102, .blk g2 26 [U64 x01]), (107, .own 39 (Lay.sz Rhistory_Op) A8 n9 c10 (cel rs12))]) (fun ⟨A8, n9, c10, x11, rs12⟩ => m_history_Only_j0 x11 = some res /\ Rels (rel_history_Op M0) rs12 x11) (fun _ k14 => ?_) ?_
 ·refine sr fun _ k15 => mv rfl <| ya (Yld.lenD (rs := rs00) (xs := x00) (Rels.len hq00) und_46 rfl (RdH.memM (k := 0) rfl hf00)) <| mv rfl <| dn <| k15 _ _ <| bl <| WC.nilOwn 117 39 (Lay.sz Rhistory_Op) none <| lp (τ := (Option Addr) × Nat × Nat × (List (Shistory_Op)) × (List Rhistory_Op) × Int) (fun ⟨A18, n19, c20, x21, rs22, x24⟩ => [(1, .func (.func 43) #[] #[.pointer (some ⟨g2, 0, none⟩)]), (5, .slice A18 n19 c20), (8, .slice A00 n00 c00), (9, I64 (x00.length : Int)), (10, I64 x24)]) (fun ⟨A18, n19, c20, x21, rs22, x24⟩ => [(0, .mem M0), (102, .blk g2 26 [U64 x01]), (117, .own 39 (Lay.sz Rhistory_Op) A18 n19 c20 (cel rs22))]) (fun q25 ⟨A18, n19, c20, x21, rs22, x24⟩ => m_history_Only_l1 x00 x01 q25 x21 x24 = some res /\ Rels (rel_history_Op M0) rs22 x21) ⟨none, 0, 0, ([] : List (Shistory_Op)), ([] : List Rhistory_Op), (0 : Int)⟩ ?_ (by simp [m_history_Only_l1]) ?_
  ·exact ⟨h, (Rels.nil (R := rel_history_Op M0))⟩
  rintro q25 ⟨A18, n19, c20, x21, rs22, x24⟩ ⟨h, hq23⟩ _ k26
  unfold m_history_Only_l1 at h
  refine sr fun _ k27 => ya (Yld.lss rfl rfl) <| dn <| k27 _ _ <| sq fun _ k28 => cnd h rfl decide_eq_true decide_eq_false (fun hc29 h => ?_) fun hc29 h => ?_
  ·refine ss <| k28 _ _ <| sq fun _ k30 => bl <| sr fun _ k31 => ?_
   obtain ⟨x32, hx32, h⟩ := bnd h
   obtain ⟨⟨_, r_33_0, r_33_1⟩, hr34, rfl, hq35_0, hq35_1⟩ := Rels.idx hq00 hx32
   refine ya (Yld.idxC (xs := rs00) sty_46 rfl rfl (RdH.memM (k := 0) rfl hf00) hr34) <| ya (Yld.loadA (xs := rs00) agg_39 rfl (RdH.memM (k := 0) rfl hf00) hr34 rfl) <| al 136 zr_39 fun g36 => sb 136 agg_39 rfl rfl rfl <| dn <| k31 _ _ <| sr fun _ k37 => mv rfl <| ya (Yld.loadBM (k := 136) agg_39 rfl rfl rfl) <| WL.inlV (by decide) rfl Try.func43 nm_43 rfl rfl (Tri.intro (N := 8) Try.func43 rfl rfl (Nat.le_of_ble_eq_true rfl) ?_)
   refine sr fun _ k38 => bb 139 [I64 x32.fClient, I64 x32.fKind, U64 x32.fKey, U32 x32.fCookie, .slice r_33_0.A r_33_0.n r_33_0.c, .slice r_33_1.A r_33_1.n r_33_1.c, I64 x32.fCall, I64 x32.fReturn, I64 x32.fClosed, I64 x32.fResult] rfl fun g39 => asn rfl <| dn <| k38 _ _ <| sr fun _ k40 => ya (Yld.fieldAddr Try.underlying39 rfl nz_26 rfl rfl) <| ya (Yld.loadB (k := 139) scal_26 rfl rfl rfl) <| ya (Yld.loadB (k := 102) scal_26 rfl rfl rfl) <| ya (Yld.eql_u64 (a := x32.fKey) (b := x01) rfl rfl) <| asn rfl <| dn <| k40 _ _ <| re <| Ret.go (ResIs.one rfl rfl) <| dn <| k37 _ _ <| cnd h rfl beq_iff_eq.2 beq_eq_false_iff_ne.2 (fun hc41 h => ?_) fun hc41 h => ?_
   ·refine rg fun _ k42 => ?_
    obtain ⟨x45, hx45, h⟩ := bnd h
    refine mv rfl <| ya (Yld.loadBM (k := 136) agg_39 rfl rfl rfl) ?_
    have hq44 : Rels (rel_history_Op M0) ([(Rhistory_Op.mk x32 (⟨r_33_0.A, r_33_0.n, r_33_0.c⟩ : Hdr) (⟨r_33_1.A, r_33_1.n, r_33_1.c⟩ : Hdr))] : List Rhistory_Op) ([x32] : List (Shistory_Op)) := (Rels.cons ⟨rfl, hq35_0, hq35_1⟩ Rels.nil)
    refine WL.eff (by decide) (Eff.buildCA 143 ([(Rhistory_Op.mk x32 (⟨r_33_0.A, r_33_0.n, r_33_0.c⟩ : Hdr) (⟨r_33_1.A, r_33_1.n, r_33_1.c⟩ : Hdr))] : List Rhistory_Op) sty_46 rfl rfl rfl (by decide)) ?_
    rintro _ _ ⟨g43, rfl, rfl⟩
    obtain ⟨hu48, hq49⟩ := Rels.apd hq23 hq44 hx45
    refine ap 117 (xs := rs22) (ys := ([(Rhistory_Op.mk x32 (⟨r_33_0.A, r_33_0.n, r_33_0.c⟩ : Hdr) (⟨r_33_1.A, r_33_1.n, r_33_1.c⟩ : Hdr))] : List Rhistory_Op)) sty_46 rfl rfl rfl (RdH.own (k := 143) rfl) hu48 fun A46 c47 => asn rfl <| dn <| k42 _ _ <| bn <| tn <| k30 _ _ <| rg fun _ k50 => ?_
    obtain ⟨x51, hx51, h⟩ := bnd h
    exact ya (Yld.addC rfl rfl hx51) <| mv rfl <| dn <| k50 _ _ <| tn <| kw (k26 ⟨A46, (rs22 ++ ([(Rhistory_Op.mk x32 (⟨r_33_0.A, r_33_0.n, r_33_0.c⟩ : Hdr) (⟨r_33_1.A, r_33_1.n, r_33_1.c⟩ : Hdr))] : List Rhistory_Op)).length, c47, x45, (rs22 ++ ([(Rhistory_Op.mk x32 (⟨r_33_0.A, r_33_0.n, r_33_0.c⟩ : Hdr) (⟨r_33_1.A, r_33_1.n, r_33_1.c⟩ : Hdr))] : List Rhistory_Op)), x51⟩ ⟨h, hq49⟩)
   refine WC.skip <| bn <| tn <| k30 _ _ <| rg fun _ k52 => ?_
   obtain ⟨x53, hx53, h⟩ := bnd h
   exact ya (Yld.addC rfl rfl hx53) <| mv rfl <| dn <| k52 _ _ <| tn <| kw (k26 ⟨A18, n19, c20, x21, rs22, x53⟩ ⟨h, hq23⟩)
  exact xi <| te <| te <| bx <| tn <| KK.move 117 107 rfl rfl <| kw (k14 ⟨A18, n19, c20, x21, rs22⟩ ⟨h, hq23⟩)
 rintro ⟨A8, n9, c10, x11, rs12⟩ ⟨h, hq13⟩
 unfold m_history_Only_j0 at h
 refine sr fun _ k54 => mv rfl <| asn rfl <| dn <| k54 _ _ <| re <| Ret.go (ResIs.one rfl rfl) <| asn rfl <| dn <| k3 _ _ <| ct (σ := Mem × (List (Shistory_Op)) × (List Rhistory_Op)) (fun ⟨M55, x56, rs57⟩ => [(5, .slice A8 n9 c10)]) (fun ⟨M55, x56, rs57⟩ => [(0, .mem M55), (107, .own 39 (Lay.sz Rhistory_Op) A8 n9 c10 (cel rs57))]) (fun ⟨M55, x56, rs57⟩ => m_history_Only_j2 x56 = some res /\ Ext w0.heap.size M0 M55 /\ Rels (rel_history_Op M55) rs57 x56) (fun _ k59 => ?_) ?_
 ·refine sr fun _ k60 => mv rfl <| ya (Yld.lenD (rs := rs12) (xs := x11) (Rels.len hq13) und_46 rfl (RdH.own (k := 107) rfl)) <| mv rfl <| dn <| k60 _ _ <| bl <| lp (τ := Mem × (List (Shistory_Op)) × (List Rhistory_Op) × Int) (fun ⟨M61, x62, rs63, x65⟩ => [(5, .slice A8 n9 c10), (11, .slice A8 n9 c10), (12, I64 (x11.length : Int)), (13, I64 x65)]) (fun ⟨M61, x62, rs63, x65⟩ => [(0, .mem M61), (107, .own 39 (Lay.sz Rhistory_Op) A8 n9 c10 (cel rs63))]) (fun q66 ⟨M61, x62, rs63, x65⟩ => m_history_Only_l3 x11 q66 x62 x65 = some res /\ Ext w0.heap.size M0 M61 /\ Rels (rel_history_Op M61) rs63 x62) ⟨M0, x11, rs12, (0 : Int)⟩ ?_ (by simp [m_history_Only_l3]) ?_
  ·exact ⟨h, (Ext.refl _ _), hq13⟩
  rintro q66 ⟨M61, x62, rs63, x65⟩ ⟨h, hm_M61, hq64⟩ _ k67
  unfold m_history_Only_l3 at h
  refine sr fun _ k68 => ya (Yld.lss rfl rfl) <| dn <| k68 _ _ <| sq fun _ k69 => cnd h rfl decide_eq_true decide_eq_false (fun hc70 h => ?_) fun hc70 h => ?_
  ·refine ss <| k69 _ _ <| sq fun _ k71 => bl <| sr fun _ k72 => ?_
   obtain ⟨x73, hx73, h⟩ := bnd h
   refine mv rfl ?_
   obtain ⟨⟨_, r_74_0, r_74_1⟩, hr75, rfl, hq76_0, hq76_1⟩ := Rels.idx hq64 hx73
   refine ya (Yld.idxC (xs := rs63) sty_46 rfl rfl (RdH.own (k := 107) rfl) hr75) <| ya (Yld.loadA (xs := rs63) agg_39 rfl (RdH.own (k := 107) rfl) hr75 rfl) <| al 177 zr_39 fun g77 => asn rfl <| sb 177 agg_39 rfl rfl rfl <| dn <| k72 _ _ <| rd [(177, _)] mixed fun _ k78 => ?_
   obtain ⟨x79, hx79, h⟩ := bnd h
   obtain ⟨x87, hx87, h⟩ := bnd h
   obtain ⟨x95, hx95, h⟩ := bnd h
   obtain ⟨x99, hx99, h⟩ := bnd h
   obtain ⟨x100, hx100, h⟩ := bnd h
   obtain ⟨x108, hx108, h⟩ := bnd h
   obtain ⟨x112, hx112, h⟩ := bnd h
   obtain ⟨x113, hx113, h⟩ := bnd h
   refine dm 0 rfl rfl <| dm 1 rfl rfl <| dm 2 rfl rfl <| dm 3 rfl rfl <| du 4 rfl (Yld.fieldAddr Try.underlying39 rfl nz_23 rfl rfl) <| du 5 rfl (Yld.loadB (k := 177) scal_23 rfl rfl rfl) <| du 7 rfl (Yld.fieldAddr Try.underlying39 rfl nz_23 rfl rfl) <| du 8 rfl (Yld.loadB (k := 177) scal_23 rfl rfl rfl) <| on 6 <| WS.eff rfl (by decide) (Eff.callS 183 rfl Try.func31 nm_31 rfl rfl (fun w hb hh => w_bytes_Clone (Mem.snap w) r_74_0.A r_74_0.n r_74_0.c _ (RdH.sn (RdH.memM (k := 0) rfl hq76_0) w hb hh) hx79)) ?_
   rintro _ _ ⟨_, ⟨A84, n85, c86, rfl, rfl⟩, rfl⟩
   refine ad ?_ (by repeat (first | exact sn | refine sc ?_))
   refine on 9 <| WS.eff rfl (by decide) (Eff.callS 191 rfl Try.func31 nm_31 rfl rfl (fun w hb hh => w_bytes_Clone (Mem.snap w) r_74_1.A r_74_1.n r_74_1.c _ (RdH.sn (RdH.memM (k := 0) rfl hq76_1) w hb hh) hx87)) ?_
   rintro _ _ ⟨_, ⟨A92, n93, c94, rfl, rfl⟩, rfl⟩
   refine ad ?_ (by repeat (first | exact sn | refine sc ?_))
   refine on 10 ?_
   obtain ⟨⟨_, r_96_0, r_96_1⟩, hr97, rfl, hq98_0, hq98_1⟩ := Rels.idx hq64 hx95
   refine dy rfl (Yld.idxC (xs := rs63) sty_46 rfl rfl (RdH.own (k := 107) rfl) hr97) <| du 11 rfl (Yld.fieldAddrC Try.underlying39 rfl nz_23 rfl rfl) <| on 12 <| WS.freeze 183 rfl rfl rfl rfl rfl fun M101 hm_M101 hf102 => ?_
   obtain ⟨⟨_, r_103_0, r_103_1⟩, hr104, rfl, hq105_0, hq105_1⟩ := Rels.idx (Rels.lift hq64 hm_M101) hx99
   obtain ⟨hu106, hq107⟩ := Rels.upd (r := (Rhistory_Op.mk ({ x99 with fData := x79 } : Shistory_Op) (⟨A84, n85, c86⟩ : Hdr) r_103_1)) (Rels.lift hq64 hm_M101) hx100 ⟨rfl, hf102, hq105_1⟩
   refine WS.eff0 rfl (Eff0.storeC 107 (xs := rs63) (j := 4) (a := (Rhistory_Op.mk x99 r_103_0 r_103_1)) (a' := (Rhistory_Op.mk ({ x99 with fData := x79 } : Shistory_Op) (⟨A84, n85, c86⟩ : Hdr) r_103_1)) siz_23 rfl rfl rfl rfl hr104 rfl rfl hu106) (sc sn) <| on 13 ?_
   obtain ⟨⟨_, r_109_0, r_109_1⟩, hr110, rfl, hq111_0, hq111_1⟩ := Rels.idx hq107 hx108
   refine dy rfl (Yld.idxC (xs := (rs63.set (x65).toNat (Rhistory_Op.mk ({ x99 with fData := x79 } : Shistory_Op) (⟨A84, n85, c86⟩ : Hdr) r_103_1))) sty_46 rfl rfl (RdH.own (k := 107) rfl) hr110) <| du 14 rfl (Yld.fieldAddrC Try.underlying39 rfl nz_23 rfl rfl) <| on 15 <| WS.freeze 191 rfl rfl rfl rfl rfl fun M114 hm_M114 hf115 => ?_
   obtain ⟨⟨_, r_116_0, r_116_1⟩, hr117, rfl, hq118_0, hq118_1⟩ := Rels.idx (Rels.lift hq107 hm_M114) hx112
   obtain ⟨hu119, hq120⟩ := Rels.upd (r := (Rhistory_Op.mk ({ x112 with fGot := x87 } : Shistory_Op) r_116_0 (⟨A92, n93, c94⟩ : Hdr))) (Rels.lift hq107 hm_M114) hx113 ⟨rfl, hq118_0, hf115⟩
   refine WS.eff0 rfl (Eff0.storeC 107 (xs := (rs63.set (x65).toNat (Rhistory_Op.mk ({ x99 with fData := x79 } : Shistory_Op) (⟨A84, n85, c86⟩ : Hdr) r_103_1))) (j := 5) (a := (Rhistory_Op.mk x112 r_116_0 r_116_1)) (a' := (Rhistory_Op.mk ({ x112 with fGot := x87 } : Shistory_Op) r_116_0 (⟨A92, n93, c94⟩ : Hdr))) siz_23 rfl rfl rfl rfl hr117 rfl rfl hu119) (sc sn) <| dd <| k78 _ _ <| bn <| tn <| k71 _ _ <| rg fun _ k121 => ?_
   obtain ⟨x122, hx122, h⟩ := bnd h
   exact ya (Yld.addC rfl rfl hx122) <| mv rfl <| dn <| k121 _ _ <| tn <| kw (k67 ⟨M114, x113, ((rs63.set (x65).toNat (Rhistory_Op.mk ({ x99 with fData := x79 } : Shistory_Op) (⟨A84, n85, c86⟩ : Hdr) r_103_1)).set (x65).toNat (Rhistory_Op.mk ({ x112 with fGot := x87 } : Shistory_Op) r_116_0 (⟨A92, n93, c94⟩ : Hdr))), x122⟩ ⟨h, (Ext.trans (Ext.trans hm_M61 hm_M101) hm_M114), hq120⟩)
  exact xi <| te <| te <| bx <| tn <| kw (k59 ⟨M61, x62, rs63⟩ ⟨h, hm_M61, hq64⟩)
 rintro ⟨M55, x56, rs57⟩ ⟨h, hm_M55, hq58⟩
 unfold m_history_Only_j2 at h
 refine sr fun _ k123 => mv rfl <| asn rfl <| dn <| k123 _ _ <| re ?_
 injection h with h; subst h
 exact rt [107] (ResIs.one rfl rfl) hm_M55 ⟨A8, n9, c10, rs57, rfl, rfl, hq58⟩
theorem w_history_Keys (M0 : Mem) (A00 : Option Addr) (n00 c00 : Nat) (rs00 : List Rhistory_Op) (x00 : List (Shistory_Op)) (hf00 : SlT M0 A00 n00 c00 rs00) (hq00 : Rels (rel_history_Op M0) rs00 x00) {res : (List (BitVec 64))} (h : m_history_Keys x00 = some res) :
  Fn Try.prog 24 #[.slice A00 n00 c00] M0 fun r M' es => ∃ (A1 : Option Addr) (n1 c1 : Nat), r = .slice A1 n1 c1 /\ es = [] /\ SlT M' A1 n1 c1 res := by
 refine Fn.intro (N := 5) Try.func24 rfl rfl (Nat.le_of_ble_eq_true rfl) fun w0 => ?_
 unfold m_history_Keys at h
 refine sr fun _ k1 => asn rfl <| dn <| k1 _ _ <| sr fun _ k2 => mv rfl <| WL.inl (by decide) Try.func40 nm_40 rfl rfl (Tri.intro (N := 26) Try.func40 rfl rfl (Nat.le_of_ble_eq_true rfl) ?_)
 refine sr fun _ k3 => asn rfl <| dn <| k3 _ _ <| sr fun _ k4 => asn rfl <| dn <| k4 _ _ <| ct (σ := (Option Addr) × Nat × Nat × (List (BitVec 64))) (fun ⟨A7, n8, c9, x10⟩ => [(5, .slice A7 n8 c9)]) (fun ⟨A7, n8, c9, x10⟩ => [(0, .mem M0), (106, .own 26 (Lay.sz (BitVec 64)) A7 n8 c9 (cel x10))]) (fun ⟨A7, n8, c9, x10⟩ => m_history_Keys_j0 x10 = some res) (fun _ k11 => ?_) ?_
 ·refine sr fun _ k12 => mv rfl <| ya (Yld.lenD (rs := rs00) (xs := x00) (Rels.len hq00) und_46 rfl (RdH.memM (k := 0) rfl hf00)) <| mv rfl <| dn <| k12 _ _ <| bl <| WC.nilOwn 114 26 (Lay.sz (BitVec 64)) none <| lp (τ := (Option Addr) × Nat × Nat × (List (BitVec 64)) × Int) (fun ⟨A15, n16, c17, x18, x19⟩ => [(1, .func (.func 41) #[] #[]), (5, .slice A15 n16 c17), (8, .slice A00 n00 c00), (9, I64 (x00.length : Int)), (10, I64 x19)]) (fun ⟨A15, n16, c17, x18, x19⟩ => [(0, .mem M0), (114, .own 26 (Lay.sz (BitVec 64)) A15 n16 c17 (cel x18))]) (fun q20 ⟨A15, n16, c17, x18, x19⟩ => m_history_Keys_l1 x00 q20 x18 x19 = some res) ⟨none, 0, 0, ([] : List (BitVec 64)), (0 : Int)⟩ ?_ (by simp [m_history_Keys_l1]) ?_
  ·exact h
  rintro q20 ⟨A15, n16, c17, x18, x19⟩ h _ k21
  unfold m_history_Keys_l1 at h
  refine sr fun _ k22 => ya (Yld.lss rfl rfl) <| dn <| k22 _ _ <| sq fun _ k23 => cnd h rfl decide_eq_true decide_eq_false (fun hc24 h => ?_) fun hc24 h => ?_
  ·refine ss <| k23 _ _ <| sq fun _ k25 => bl <| sr fun _ k26 => ?_
   obtain ⟨x27, hx27, h⟩ := bnd h
   obtain ⟨⟨_, r_28_0, r_28_1⟩, hr29, rfl, hq30_0, hq30_1⟩ := Rels.idx hq00 hx27
   refine ya (Yld.idxC (xs := rs00) sty_46 rfl rfl (RdH.memM (k := 0) rfl hf00) hr29) <| ya (Yld.loadA (xs := rs00) agg_39 rfl (RdH.memM (k := 0) rfl hf00) hr29 rfl) <| al 131 zr_39 fun g31 => sb 131 agg_39 rfl rfl rfl <| dn <| k26 _ _ <| rg fun _ k32 => mv rfl <| mv rfl <| ya (Yld.loadBM (k := 131) agg_39 rfl rfl rfl) <| WL.inlV (by decide) rfl Try.func41 nm_41 rfl rfl (Tri.intro (N := 5) Try.func41 rfl rfl (Nat.le_of_ble_eq_true rfl) ?_)
   refine sr fun _ k33 => bb 134 [I64 x27.fClient, I64 x27.fKind, U64 x27.fKey, U32 x27.fCookie, .slice r_28_0.A r_28_0.n r_28_0.c, .slice r_28_1.A r_28_1.n r_28_1.c, I64 x27.fCall, I64 x27.fReturn, I64 x27.fClosed, I64 x27.fResult] rfl fun g34 => ya (Yld.assign (v := U64 0#64) rfl) <| dn <| k33 _ _ <| sr fun _ k35 => ya (Yld.fieldAddr Try.underlying39 rfl nz_26 rfl rfl) <| ya (Yld.loadB (k := 134) scal_26 rfl rfl rfl) <| asn rfl <| dn <| k35 _ _ <| re <| Ret.go (ResIs.one rfl rfl) ?_
   obtain ⟨x37, hx37, h⟩ := bnd h
   refine WL.eff (by decide) (Eff.buildC 136 ([x27.fKey] : List (BitVec 64)) sty_63 rfl rfl rfl rfl rfl (by decide)) ?_
   rintro _ _ ⟨g36, rfl, rfl⟩
   refine ap 114 (xs := x18) (ys := ([x27.fKey] : List (BitVec 64))) sty_63 rfl rfl rfl (RdH.own (k := 136) rfl) hx37 fun A38 c39 => asn rfl <| dn <| k32 _ _ <| bn <| tn <| k25 _ _ <| rg fun _ k40 => ?_
   obtain ⟨x41, hx41, h⟩ := bnd h
   exact ya (Yld.addC rfl rfl hx41) <| mv rfl <| dn <| k40 _ _ <| tn <| kw (k21 ⟨A38, x37.length, c39, x37, x41⟩ h)
  exact xi <| te <| te <| bx <| tn <| KK.move 114 106 rfl rfl <| kw (k11 ⟨A15, n16, c17, x18⟩ h)
 rintro ⟨A7, n8, c9, x10⟩ h
 unfold m_history_Keys_j0 at h
 refine sr fun _ k42 => ?_
 obtain ⟨x43, hx43, h⟩ := bnd h
 refine mv rfl <| WL.eff (by decide) (Eff.callMut 106 rfl Try.func54 nm_54 rfl rfl rfl (w_slices_Sort_uint64_uint64 A7 n8 c9 x10 hx43)) ?_
 rintro _ _ ⟨_, ⟨rfl, rfl⟩, rfl⟩
 refine dn <| k42 _ _ <| sr fun _ k44 => mv rfl <| WL.inl (by decide) Try.func56 nm_56 rfl rfl (Tri.intro (N := 61) Try.func56 rfl rfl (Nat.le_of_ble_eq_true rfl) ?_)
 refine sr fun _ k45 => asn rfl <| dn <| k45 _ _ <| sq fun _ k46 => sr fun _ k47 => mv rfl <| ya (Yld.lenC (xs := x43) und_63 rfl (RdH.own (k := 106) rfl)) <| ya (Yld.lss rfl rfl) <| dn <| k47 _ _ <| cnd h rfl decide_eq_true decide_eq_false (fun hc48 h => ?_) fun hc48 h => ?_
 ·refine sr fun _ k49 => mv rfl <| asn rfl <| dn <| k49 _ _ <| re <| tr <| Ret.go (ResIs.one rfl rfl) <| WL.inl (by decide) Try.func55 nm_55 rfl rfl (Tri.intro (N := 9) Try.func55 rfl rfl (Nat.le_of_ble_eq_true rfl) ?_)
  refine sr fun _ k50 => asn rfl <| dn <| k50 _ _ <| sr fun _ k51 => ?_
  obtain ⟨x54, hx54, h⟩ := bnd h
  refine mv rfl <| mv rfl <| ya (Yld.lenC (xs := x43) und_63 rfl (RdH.own (k := 106) rfl)) <| mv rfl <| ya (Yld.lenC (xs := x43) und_63 rfl (RdH.own (k := 106) rfl)) <| WL.freeze 106 rfl rfl rfl fun M52 hm_M52 hf53 => ?_
  have hf55 := SlT.clip hf53 hx54
  refine ya (Yld.sliceHMC (xs := x43) sty_63 rfl rfl rfl (RdH.memM (k := 0) rfl hf53) hx54) <| asn rfl <| dn <| k51 _ _ <| re <| Ret.go (ResIs.one rfl rfl) <| asn rfl <| dn <| k44 _ _ <| re <| Ret.go (ResIs.one rfl rfl) <| asn rfl <| dn <| k2 _ _ <| re ?_
  injection h with h; subst h
  exact rt [] (ResIs.one rfl rfl) hm_M52 ⟨A7, x54.length, x54.length, rfl, rfl, hf55⟩
 refine ss <| k46 _ _ <| ct (σ := Unit) (fun _ => [(0, .slice A7 n8 c9)]) (fun _ => [(0, .mem M0), (106, .own 26 (Lay.sz (BitVec 64)) A7 n8 c9 (cel x43))]) (fun _ => m_history_Keys_j2 x43 = some res) (fun _ k56 => ?_) ?_
 ·refine sr fun _ k57 => asn rfl <| dn <| k57 _ _ <| bl <| lp (τ := Int) (fun x58 => [(0, .slice A7 n8 c9), (3, I64 x58)]) (fun x58 => [(0, .mem M0), (106, .own 26 (Lay.sz (BitVec 64)) A7 n8 c9 (cel x43))]) (fun q59 x58 => m_history_Keys_l3 x43 q59 x58 = some res) ((1 : Int)) ?_ (by simp [m_history_Keys_l3]) ?_
  ·exact h
  rintro q59 x58 h _ k60
  unfold m_history_Keys_l3 at h
  refine sq fun _ k61 => sr fun _ k62 => mv rfl <| mv rfl <| ya (Yld.lenC (xs := x43) und_63 rfl (RdH.own (k := 106) rfl)) <| ya (Yld.lss rfl rfl) <| dn <| k62 _ _ <| cnd h rfl decide_eq_true decide_eq_false (fun hc63 h => ?_) fun hc63 h => ?_
  ·refine ss <| k61 _ _ <| ct (σ := Unit) (fun _ => [(0, .slice A7 n8 c9), (3, I64 x58)]) (fun _ => [(0, .mem M0), (106, .own 26 (Lay.sz (BitVec 64)) A7 n8 c9 (cel x43))]) (fun _ => m_history_Keys_j4 x58 (m_history_Keys_l3 x43 q59) = some res) (fun _ k64 => ?_) ?_
   ·refine bl <| sd [(0, _), (106, _)] mixed fun _ k65 => ?_
    obtain ⟨x66, hx66, h⟩ := bnd h
    obtain ⟨x67, hx67, h⟩ := bnd h
    obtain ⟨x68, hx68, h⟩ := bnd h
    refine dm 0 rfl rfl <| dm 1 rfl rfl <| du 2 rfl (Yld.idxC (xs := x43) sty_63 rfl rfl (RdH.own (k := 106) rfl) hx66) <| du 3 rfl (Yld.loadC0 (xs := x43) scal_26 rfl (RdH.own (k := 106) rfl) hx66 rfl) <| dm 4 rfl rfl <| dm 5 rfl rfl <| du 6 rfl (Yld.subC rfl rfl hx67) <| du 7 rfl (Yld.idxC (xs := x43) sty_63 rfl rfl (RdH.own (k := 106) rfl) hx68) <| du 8 rfl (Yld.loadC0 (xs := x43) scal_26 rfl (RdH.own (k := 106) rfl) hx68 rfl) <| du 9 rfl (Yld.eql_u64 (a := x66) (b := x68) rfl rfl) <| dd <| k65 _ _ <| cnd h rfl beq_iff_eq.2 beq_eq_false_iff_ne.2 (fun hc69 h => ?_) fun hc69 h => ?_
    ·refine sr fun _ k70 => ?_
     obtain ⟨x71, hx71, h⟩ := bnd h
     refine mv rfl <| mv rfl <| ya (Yld.sliceLN (xs := x43) sty_63 rfl rfl (RdH.own (k := 106) rfl) hx71) <| asn rfl <| dn <| k70 _ _ <| ct (σ := (List (BitVec 64)) × Int) (fun ⟨x72, x73⟩ => [(0, .slice A7 n8 c9), (3, I64 x73)]) (fun ⟨x72, x73⟩ => [(0, .mem M0), (106, .own 26 (Lay.sz (BitVec 64)) A7 n8 c9 (cel x72))]) (fun ⟨x72, x73⟩ => m_history_Keys_j5 x72 x73 = some res) (fun _ k74 => ?_) ?_
     ·refine sr fun _ k75 => asn rfl <| dn <| k75 _ _ <| bl <| lp (τ := (List (BitVec 64)) × Int × Int) (fun ⟨x76, x77, x78⟩ => [(0, .slice A7 n8 c9), (3, I64 x77), (4, .slice (subA A7 c9 (x58).toNat (Lay.sz (BitVec 64))) (((x43.length : Int)).toNat - (x58).toNat) (c9 - (x58).toNat)), (5, I64 x78)]) (fun ⟨x76, x77, x78⟩ => [(0, .mem M0), (106, .own 26 (Lay.sz (BitVec 64)) A7 n8 c9 (cel x76))]) (fun q79 ⟨x76, x77, x78⟩ => m_history_Keys_l6 x43 x58 q79 x76 x77 x78 = some res) ⟨x43, x58, (1 : Int)⟩ ?_ (by simp [m_history_Keys_l6]) ?_
      ·exact h
      rintro q79 ⟨x76, x77, x78⟩ h _ k80
      unfold m_history_Keys_l6 at h
      refine sq fun _ k81 => sr fun _ k82 => ?_
      obtain ⟨x83, hx83, h⟩ := bnd h
      refine mv rfl <| mv rfl <| ya (Yld.lenC (xs := x83) und_63 rfl (RdT.slcN (RdH.own (k := 106) rfl) hx83)) <| ya (Yld.lss rfl rfl) <| dn <| k82 _ _ <| cnd h rfl decide_eq_true decide_eq_false (fun hc84 h => ?_) fun hc84 h => ?_
      ·refine ss <| k81 _ _ <| sq fun _ k85 => bl <| sd [(0, _), (106, _)] mixed fun _ k86 => ?_
       obtain ⟨x87, hx87, h⟩ := bnd h
       obtain ⟨x88, hx88, h⟩ := bnd h
       obtain ⟨x89, hx89, h⟩ := bnd h
       obtain ⟨x90, hx90, h⟩ := bnd h
       obtain ⟨x91, hx91, h⟩ := bnd h
       refine dm 0 rfl rfl <| dm 1 rfl rfl <| du 2 rfl (Yld.idxC (xs := x87) sty_63 rfl rfl (RdT.slcN (RdH.own (k := 106) rfl) hx87) hx88) <| du 3 rfl (Yld.loadC0 (xs := x87) scal_26 rfl (RdT.slcN (RdH.own (k := 106) rfl) hx87) hx88 rfl) <| dm 4 rfl rfl <| dm 5 rfl rfl <| du 6 rfl (Yld.subC rfl rfl hx89) <| du 7 rfl (Yld.idxC (xs := x90) sty_63 rfl rfl (RdT.slcN (RdH.own (k := 106) rfl) hx90) hx91) <| du 8 rfl (Yld.loadC0 (xs := x90) scal_26 rfl (RdT.slcN (RdH.own (k := 106) rfl) hx90) hx91 rfl) <| du 9 rfl (Yld.neq_u64 (a := x88) (b := x91) rfl rfl) <| dd <| k86 _ _ <| cnn h rfl bne_eq_false_iff_eq.2 bne_iff_ne.2 (fun hc92 h => ?_) fun hc92 h => ?_
       ·refine WC.skip <| bn <| tn <| k85 _ _ <| rg fun _ k93 => ?_
        obtain ⟨x94, hx94, h⟩ := bnd h
        exact mv rfl <| ya (Yld.addC rfl rfl hx94) <| asn rfl <| dn <| k93 _ _ <| tn <| kw (k80 ⟨x76, x77, x94⟩ h)
       refine sr fun _ k95 => ?_
       obtain ⟨x96, hx96, h⟩ := bnd h
       obtain ⟨x97, hx97, h⟩ := bnd h
       obtain ⟨x98, hx98, h⟩ := bnd h
       obtain ⟨x99, hx99, h⟩ := bnd h
       refine mv rfl <| mv rfl <| mv rfl <| mv rfl <| ya (Yld.idxC (xs := x96) sty_63 rfl rfl (RdT.slcN (RdH.own (k := 106) rfl) hx96) hx97) <| ya (Yld.loadC0 (xs := x96) scal_26 rfl (RdT.slcN (RdH.own (k := 106) rfl) hx96) hx97 rfl) <| ya (Yld.idxC (xs := x76) sty_63 rfl rfl (RdH.own (k := 106) rfl) hx98) <| WL.eff0 (Eff0.storeC1 106 (xs := x76) (a' := x97) siz_26 rfl rfl rfl rfl rfl rfl hx99) <| dn <| k95 _ _ <| rg fun _ k100 => ?_
       obtain ⟨x101, hx101, h⟩ := bnd h
       refine mv rfl <| ya (Yld.addC rfl rfl hx101) <| asn rfl <| dn <| k100 _ _ <| bn <| tn <| k85 _ _ <| rg fun _ k102 => ?_
       obtain ⟨x103, hx103, h⟩ := bnd h
       exact mv rfl <| ya (Yld.addC rfl rfl hx103) <| asn rfl <| dn <| k102 _ _ <| tn <| kw (k80 ⟨x99, x101, x103⟩ h)
      exact xi <| te <| te <| bx <| tn <| kw (k74 ⟨x76, x77⟩ h)
     rintro ⟨x72, x73⟩ h
     unfold m_history_Keys_j5 at h
     refine sr fun _ k104 => ?_
     obtain ⟨x105, hx105, h⟩ := bnd h
     refine mv rfl <| mv rfl <| ya (Yld.sliceLC (xs := x72) sty_63 rfl rfl (RdH.own (k := 106) rfl) hx105) <| WL.eff0 (Eff0.clearS 106 (lo := x73) (xs := x72) (bs := x105) 0#64 sty_63 rfl rfl rfl hx105 rfl) <| dn <| k104 _ _ <| sr fun _ k106 => ?_
     obtain ⟨x107, hx107, h⟩ := bnd h
     refine mv rfl <| mv rfl <| ya (Yld.sliceHC (xs := (clr x72 x73 0#64)) sty_63 rfl rfl (RdH.own (k := 106) rfl) hx107) <| asn rfl <| dn <| k106 _ _ <| re <| br <| tr <| tr <| br <| tr <| Ret.go (ResIs.one rfl rfl) <| WL.inl (by decide) Try.func55 nm_55 rfl rfl (Tri.intro (N := 9) Try.func55 rfl rfl (Nat.le_of_ble_eq_true rfl) ?_)
     refine sr fun _ k108 => asn rfl <| dn <| k108 _ _ <| sr fun _ k109 => ?_
     obtain ⟨x112, hx112, h⟩ := bnd h
     refine mv rfl <| mv rfl <| ya (Yld.lenC (xs := x107) und_63 rfl (RdT.slc0 (RdH.own (k := 106) rfl) hx107)) <| mv rfl <| ya (Yld.lenC (xs := x107) und_63 rfl (RdT.slc0 (RdH.own (k := 106) rfl) hx107)) <| WL.freeze 106 rfl rfl rfl fun M110 hm_M110 hf111 => ?_
     have hf113 := SlT.clip (SlT.slc0 hf111 hx107) hx112
     refine ya (Yld.sliceHMC (xs := x107) sty_63 rfl rfl rfl (RdT.slc0 (RdH.memM (k := 0) rfl hf111) hx107) hx112) <| asn rfl <| dn <| k109 _ _ <| re <| Ret.go (ResIs.one rfl rfl) <| asn rfl <| dn <| k44 _ _ <| re <| Ret.go (ResIs.one rfl rfl) <| asn rfl <| dn <| k2 _ _ <| re ?_
     injection h with h; subst h
     exact rt [] (ResIs.one rfl rfl) hm_M110 ⟨A7, x112.length, x112.length, rfl, rfl, hf113⟩
    exact WC.skip <| bn <| tn <| kw (k64 () h)
   rintro _ h
   unfold m_history_Keys_j4 at h
   refine rg fun _ k114 => ?_
   obtain ⟨x115, hx115, h⟩ := bnd h
   exact mv rfl <| ya (Yld.addC rfl rfl hx115) <| asn rfl <| dn <| k114 _ _ <| tn <| kw (k60 (x115) h)
  exact xi <| te <| te <| bx <| tn <| kw (k56 () h)
 rintro _ h
 unfold m_history_Keys_j2 at h
 refine sr fun _ k116 => mv rfl <| asn rfl <| dn <| k116 _ _ <| re <| Ret.go (ResIs.one rfl rfl) <| WL.inl (by decide) Try.func55 nm_55 rfl rfl (Tri.intro (N := 9) Try.func55 rfl rfl (Nat.le_of_ble_eq_true rfl) ?_)
 refine sr fun _ k117 => asn rfl <| dn <| k117 _ _ <| sr fun _ k118 => ?_
 obtain ⟨x121, hx121, h⟩ := bnd h
 refine mv rfl <| mv rfl <| ya (Yld.lenC (xs := x43) und_63 rfl (RdH.own (k := 106) rfl)) <| mv rfl <| ya (Yld.lenC (xs := x43) und_63 rfl (RdH.own (k := 106) rfl)) <| WL.freeze 106 rfl rfl rfl fun M119 hm_M119 hf120 => ?_
 have hf122 := SlT.clip hf120 hx121
 refine ya (Yld.sliceHMC (xs := x43) sty_63 rfl rfl rfl (RdH.memM (k := 0) rfl hf120) hx121) <| asn rfl <| dn <| k118 _ _ <| re <| Ret.go (ResIs.one rfl rfl) <| asn rfl <| dn <| k44 _ _ <| re <| Ret.go (ResIs.one rfl rfl) <| asn rfl <| dn <| k2 _ _ <| re ?_
 injection h with h; subst h
 exact rt [] (ResIs.one rfl rfl) hm_M119 ⟨A7, x121.length, x121.length, rfl, rfl, hf122⟩
end Go.Proofs.Ytkcccenekglkoaa
