/-
 Walks (c): what a function's model gives, the function returns. Printed by a program of ours (vcm.py) from the function's operations. Conditions: as each theorem says.
-/
import Derived.Test.YtpebhdepmbnjbaaWkb
import Derived.Test.YtpebhdepmbnjbaaMdc
namespace Go.Proofs.Ytpebhdepmbnjbaa
open Go Go.RowKit
set_option linter.unusedVariables false

theorem und_3 : Try.prog.underlying 3 = some (.int .i64) := by kernel_rfl
theorem und_51 : Try.prog.underlying 51 = some (.map 3 4) := by kernel_rfl
theorem bu_45_0 : ∀ (a0 : Int), Try.prog.built 45 [(0, I64 a0)] = some ([I64 a0, I64 (0 : Int), I64 (0 : Int), U64 0#64, U32 0#32, .slice none 0 0, I64 (0 : Int)] : List Value).toArray := fun a0 => by kernel_rfl
theorem bu_45_0_1_2_3_4_5_6 : ∀ (a0 : Int) (a1 : Int) (a2 : Int) (a3 : BitVec 64) (a4 : BitVec 32) (a5 : Option Addr) (n5 c5 : Nat) (a6 : Int), Try.prog.built 45 [(0, I64 a0), (1, I64 a1), (2, I64 a2), (3, U64 a3), (4, U32 a4), (5, .slice a5 n5 c5), (6, I64 a6)] = some ([I64 a0, I64 a1, I64 a2, U64 a3, U32 a4, .slice a5 n5 c5, I64 a6] : List Value).toArray := fun a0 a1 a2 a3 a4 a5 n5 c5 a6 => by kernel_rfl
theorem bu_45_0_2 : ∀ (a0 : Int) (a2 : Int), Try.prog.built 45 [(0, I64 a0), (2, I64 a2)] = some ([I64 a0, I64 (0 : Int), I64 a2, U64 0#64, U32 0#32, .slice none 0 0, I64 (0 : Int)] : List Value).toArray := fun a0 a2 => by kernel_rfl
theorem bu_57_0_1_2_3_4_5_6_7_8_9 : ∀ (a0 : Int) (a1 : Int) (a2 : BitVec 64) (a3 : BitVec 32) (a4 : Option Addr) (n4 c4 : Nat) (a5 : Option Addr) (n5 c5 : Nat) (a6 : Int) (a7 : Int) (a8 : Int) (a9 : Int), Try.prog.built 57 [(0, I64 a0), (1, I64 a1), (2, U64 a2), (3, U32 a3), (4, .slice a4 n4 c4), (5, .slice a5 n5 c5), (6, I64 a6), (7, I64 a7), (8, I64 a8), (9, I64 a9)] = some ([I64 a0, I64 a1, U64 a2, U32 a3, .slice a4 n4 c4, .slice a5 n5 c5, I64 a6, I64 a7, I64 a8, I64 a9] : List Value).toArray := fun a0 a1 a2 a3 a4 n4 c4 a5 n5 c5 a6 a7 a8 a9 => by kernel_rfl
theorem nm_10 : (Try.f10.name == "runtime.NumGoroutine") = false := by kernel_rfl
theorem siz_38 : (Try.prog.info? 38).map (·.size) = some 1 := by kernel_rfl
theorem zv_4 : (Try.prog.info? 4).map (·.zero) = some (some (.bool false)) := by kernel_rfl

set_option maxRecDepth 10000 in
theorem w_law24_light (M0 : Mem) (A00 : Option Addr) (n00 c00 : Nat) (rs00 : List Rneedlestoreref24_Event) (x00 : List (Sneedlestoreref24_Event)) (hf00 : SlT M0 A00 n00 c00 rs00) (hq00 : Rels (rel_needlestoreref24_Event M0) rs00 x00) {res : Bool} (h : m_law24_light x00 = some res) :
  Fn Try.prog 7 #[.slice A00 n00 c00] M0 fun r M' es => r = .bool res ∧ es = [] := by
 refine Fn.intro (N := 20) Try.func7 rfl rfl (Nat.le_of_ble_eq_true rfl) fun w0 => ?_
 unfold m_law24_light at h
 refine sr fun _ k1 => asn rfl <| dn <| k1 _ _ <| ct (σ := Unit) (fun _ => [(0, .slice A00 n00 c00)]) (fun _ => [(0, .mem M0)]) (fun _ => m_law24_light_j0 x00 = some res) (fun _ k2 => ?_) ?_
 ·
  refine sr fun _ k3 => mv rfl <| ya (Yld.lenD (rs := rs00) (xs := x00) (Rels.len hq00) und_22 rfl (RdH.memM (k := 0) rfl hf00)) <| mv rfl <| dn <| k3 _ _ <| bl <| lp (τ := Int) (fun x4 => [(0, .slice A00 n00 c00), (5, I64 (x00.length : Int)), (6, I64 x4)]) (fun x4 => [(0, .mem M0)]) (fun q5 x4 => m_law24_light_l1 x00 q5 x4 = some res) ((0 : Int)) ?_ (by simp [m_law24_light_l1]) ?_
  ·
   exact h
  rintro q5 x4 h _ k6
  unfold m_law24_light_l1 at h
  refine sr fun _ k7 => ya (Yld.lss rfl rfl) <| dn <| k7 _ _ <| sq fun _ k8 => cnd h rfl decide_eq_true decide_eq_false (fun hc9 h => ?_) fun hc9 h => ?_
  ·
   refine ss <| k8 _ _ <| sq fun _ k10 => bl <| sr fun _ k11 => mv rfl <| asn rfl <| dn <| k11 _ _ <| sr fun _ k12 => ?_
   obtain ⟨x13, hx13, h⟩ := bnd h
   refine mv rfl <| mv rfl ?_
   obtain ⟨⟨_, r_14_0⟩, hr15, rfl, hq16_0⟩ := Rels.idx hq00 hx13
   refine ya (Yld.idxC (xs := rs00) sty_22 rfl rfl (RdH.memM (k := 0) rfl hf00) hr15) <| ya (Yld.fieldAddrC Try.underlying50 rfl nz_40 rfl rfl) <| ya (Yld.loadC (xs := rs00) (j := 5) scal_40 rfl (RdH.memM (k := 0) rfl hf00) hr15 rfl rfl) <| ya (Yld.lenC (xs := x13.fData) und_40 rfl (RdH.memM (k := 0) rfl hq16_0)) <| ya (Yld.gtr rfl rfl) <| dn <| k12 _ _ <| cnd h rfl decide_eq_true decide_eq_false (fun hc17 h => ?_) fun hc17 h => ?_
   ·
    refine sr fun _ k18 => asn rfl <| dn <| k18 _ _ <| re <| br <| tr <| tr <| br <| tr ?_
    injection h with h; subst h
    exact rt0 (ResIs.one rfl rfl)
   refine WC.skip <| bn <| tn <| k10 _ _ <| rg fun _ k19 => ?_
   obtain ⟨x20, hx20, h⟩ := bnd h
   exact ya (Yld.addC rfl rfl hx20) <| mv rfl <| dn <| k19 _ _ <| tn <| kw (k6 (x20) h)
  exact xi <| te <| te <| bx <| tn <| kw (k2 () h)
 rintro _ h
 unfold m_law24_light_j0 at h
 refine sr fun _ k21 => mv rfl <| ya (Yld.lenD (rs := rs00) (xs := x00) (Rels.len hq00) und_22 rfl (RdH.memM (k := 0) rfl hf00)) <| ya (Yld.leq rfl rfl) <| asn rfl <| dn <| k21 _ _ <| re ?_
 injection h with h; subst h
 exact rt0 (ResIs.one rfl rfl)

set_option maxRecDepth 10000 in
theorem w_law24_given (M0 : Mem) (A00 : Option Addr) (n00 c00 : Nat) (rs00 : List Rneedlestoreref24_Event) (x00 : List (Sneedlestoreref24_Event)) (hf00 : SlT M0 A00 n00 c00 rs00) (hq00 : Rels (rel_needlestoreref24_Event M0) rs00 x00) {res : (List (Shistory_Event))} (h : m_law24_given x00 = some res) :
  Fn Try.prog 11 #[.slice A00 n00 c00] M0 fun r M' es => ∃ (A1 : Option Addr) (n1 c1 : Nat), ∃ rs1 : List Rhistory_Event, r = .slice A1 n1 c1 ∧ es = [.own 45 (Lay.sz Rhistory_Event) A1 n1 c1 (cel rs1)] ∧ Rels (rel_history_Event M') rs1 res := by
 refine Fn.intro (N := 32) Try.func11 rfl rfl (Nat.le_of_ble_eq_true rfl) fun w0 => ?_
 unfold m_law24_given at h
 refine sr fun _ k1 => asn rfl <| dn <| k1 _ _ <| sr fun _ k2 => asn rfl <| dn <| k2 _ _ <| ct (σ := (Option Addr) × Nat × Nat × (List (Shistory_Event)) × (List Rhistory_Event)) (fun ⟨A5, n6, c7, x8, rs9⟩ => [(3, .slice A5 n6 c7)]) (fun ⟨A5, n6, c7, x8, rs9⟩ => [(0, .mem M0), (104, .own 45 (Lay.sz Rhistory_Event) A5 n6 c7 (cel rs9))]) (fun ⟨A5, n6, c7, x8, rs9⟩ => m_law24_given_j0 x8 = some res ∧ Rels (rel_history_Event M0) rs9 x8) (fun _ k11 => ?_) ?_
 ·
  refine sr fun _ k12 => mv rfl <| ya (Yld.lenD (rs := rs00) (xs := x00) (Rels.len hq00) und_22 rfl (RdH.memM (k := 0) rfl hf00)) <| mv rfl <| dn <| k12 _ _ <| bl <| WC.nilOwn 114 45 (Lay.sz Rhistory_Event) none <| lp (τ := (Option Addr) × Nat × Nat × (List (Shistory_Event)) × (List Rhistory_Event) × Int) (fun ⟨A15, n16, c17, x18, rs19, x21⟩ => [(3, .slice A15 n16 c17), (6, .slice A00 n00 c00), (7, I64 (x00.length : Int)), (8, I64 x21)]) (fun ⟨A15, n16, c17, x18, rs19, x21⟩ => [(0, .mem M0), (114, .own 45 (Lay.sz Rhistory_Event) A15 n16 c17 (cel rs19))]) (fun q22 ⟨A15, n16, c17, x18, rs19, x21⟩ => m_law24_given_l1 x00 q22 x18 x21 = some res ∧ Rels (rel_history_Event M0) rs19 x18) ⟨none, 0, 0, ([] : List (Shistory_Event)), ([] : List Rhistory_Event), (0 : Int)⟩ ?_ (by simp [m_law24_given_l1]) ?_
  ·
   exact ⟨h, (Rels.nil (R := rel_history_Event M0))⟩
  rintro q22 ⟨A15, n16, c17, x18, rs19, x21⟩ ⟨h, hq20⟩ _ k23
  unfold m_law24_given_l1 at h
  refine sr fun _ k24 => ya (Yld.lss rfl rfl) <| dn <| k24 _ _ <| sq fun _ k25 => cnd h rfl decide_eq_true decide_eq_false (fun hc26 h => ?_) fun hc26 h => ?_
  ·
   refine ss <| k25 _ _ <| sq fun _ k27 => bl <| sr fun _ k28 => ?_
   obtain ⟨x29, hx29, h⟩ := bnd h
   obtain ⟨⟨_, r_30_0⟩, hr31, rfl, hq32_0⟩ := Rels.idx hq00 hx29
   refine ya (Yld.idxC (xs := rs00) sty_22 rfl rfl (RdH.memM (k := 0) rfl hf00) hr31) <| ya (Yld.loadA (xs := rs00) agg_50 rfl (RdH.memM (k := 0) rfl hf00) hr31 rfl) <| al 133 zr_50 fun g33 => sb 133 agg_50 rfl rfl rfl <| dn <| k28 _ _ <| rg fun _ k34 => ?_
   obtain ⟨x37, hx37, h⟩ := bnd h
   refine mv rfl <| ya (Yld.fieldAddr Try.underlying50 rfl nz_3 rfl rfl) <| ya (Yld.loadB (k := 133) scal_3 rfl rfl rfl) <| ya (Yld.fieldAddr Try.underlying50 rfl nz_3 rfl rfl) <| ya (Yld.loadB (k := 133) scal_3 rfl rfl rfl) <| ya (Yld.fieldAddr Try.underlying50 rfl nz_3 rfl rfl) <| ya (Yld.loadB (k := 133) scal_3 rfl rfl rfl) <| ya (Yld.fieldAddr Try.underlying50 rfl nz_38 rfl rfl) <| ya (Yld.loadB (k := 133) scal_38 rfl rfl rfl) <| ya (Yld.fieldAddr Try.underlying50 rfl nz_39 rfl rfl) <| ya (Yld.loadB (k := 133) scal_39 rfl rfl rfl) <| ya (Yld.fieldAddr Try.underlying50 rfl nz_40 rfl rfl) <| ya (Yld.loadB (k := 133) scal_40 rfl rfl rfl) <| ya (Yld.fieldAddr Try.underlying50 rfl nz_28 rfl rfl) <| ya (Yld.loadB (k := 133) scal_28 rfl rfl rfl) <| ya (Yld.build rfl (bu_45_0_1_2_3_4_5_6 x29.fKind x29.fClient x29.fOp x29.fKey x29.fCookie r_30_0.A r_30_0.n r_30_0.c x29.fResult)) ?_
   have hq36 : Rels (rel_history_Event M0) ([(Rhistory_Event.mk (Shistory_Event.mk x29.fKind x29.fClient x29.fOp x29.fKey x29.fCookie x29.fData x29.fResult) (⟨r_30_0.A, r_30_0.n, r_30_0.c⟩ : Hdr))] : List Rhistory_Event) ([(Shistory_Event.mk x29.fKind x29.fClient x29.fOp x29.fKey x29.fCookie x29.fData x29.fResult)] : List (Shistory_Event)) := (Rels.cons ⟨rfl, hq32_0⟩ Rels.nil)
   refine WL.eff (by decide) (Eff.buildCA 135 ([(Rhistory_Event.mk (Shistory_Event.mk x29.fKind x29.fClient x29.fOp x29.fKey x29.fCookie x29.fData x29.fResult) (⟨r_30_0.A, r_30_0.n, r_30_0.c⟩ : Hdr))] : List Rhistory_Event) sty_31 rfl rfl rfl (by decide)) ?_
   rintro _ _ ⟨g35, rfl, rfl⟩
   obtain ⟨hu40, hq41⟩ := Rels.apd hq20 hq36 hx37
   refine ap 114 (xs := rs19) (ys := ([(Rhistory_Event.mk (Shistory_Event.mk x29.fKind x29.fClient x29.fOp x29.fKey x29.fCookie x29.fData x29.fResult) (⟨r_30_0.A, r_30_0.n, r_30_0.c⟩ : Hdr))] : List Rhistory_Event)) sty_31 rfl rfl rfl (RdH.own (k := 135) rfl) hu40 fun A38 c39 => asn rfl <| dn <| k34 _ _ <| bn <| tn <| k27 _ _ <| rg fun _ k42 => ?_
   obtain ⟨x43, hx43, h⟩ := bnd h
   exact ya (Yld.addC rfl rfl hx43) <| mv rfl <| dn <| k42 _ _ <| tn <| kw (k23 ⟨A38, (rs19 ++ ([(Rhistory_Event.mk (Shistory_Event.mk x29.fKind x29.fClient x29.fOp x29.fKey x29.fCookie x29.fData x29.fResult) (⟨r_30_0.A, r_30_0.n, r_30_0.c⟩ : Hdr))] : List Rhistory_Event)).length, c39, x37, (rs19 ++ ([(Rhistory_Event.mk (Shistory_Event.mk x29.fKind x29.fClient x29.fOp x29.fKey x29.fCookie x29.fData x29.fResult) (⟨r_30_0.A, r_30_0.n, r_30_0.c⟩ : Hdr))] : List Rhistory_Event)), x43⟩ ⟨h, hq41⟩)
  exact xi <| te <| te <| bx <| tn <| KK.move 114 104 rfl rfl <| kw (k11 ⟨A15, n16, c17, x18, rs19⟩ ⟨h, hq20⟩)
 rintro ⟨A5, n6, c7, x8, rs9⟩ ⟨h, hq10⟩
 unfold m_law24_given_j0 at h
 refine sr fun _ k44 => mv rfl <| asn rfl <| dn <| k44 _ _ <| re ?_
 injection h with h; subst h
 exact rt [104] (ResIs.one rfl rfl) (Ext.refl _ _) ⟨A5, n6, c7, rs9, rfl, rfl, hq10⟩

set_option maxRecDepth 10000 in
theorem w_law24_told (M0 : Mem) (A00 : Option Addr) (n00 c00 : Nat) (rs00 : List Rhistory_Op) (x00 : List (Shistory_Op)) (hf00 : SlT M0 A00 n00 c00 rs00) (hq00 : Rels (rel_history_Op M0) rs00 x00) {res : (List (Sneedlestoreref24_Op))} (h : m_law24_told x00 = some res) :
  Fn Try.prog 14 #[.slice A00 n00 c00] M0 fun r M' es => ∃ (A1 : Option Addr) (n1 c1 : Nat), ∃ rs1 : List Rneedlestoreref24_Op, r = .slice A1 n1 c1 ∧ es = [.own 57 (Lay.sz Rneedlestoreref24_Op) A1 n1 c1 (cel rs1)] ∧ Rels (rel_needlestoreref24_Op M') rs1 res := by
 refine Fn.intro (N := 38) Try.func14 rfl rfl (Nat.le_of_ble_eq_true rfl) fun w0 => ?_
 unfold m_law24_told at h
 refine sr fun _ k1 => asn rfl <| dn <| k1 _ _ <| sr fun _ k2 => asn rfl <| dn <| k2 _ _ <| ct (σ := (Option Addr) × Nat × Nat × (List (Sneedlestoreref24_Op)) × (List Rneedlestoreref24_Op)) (fun ⟨A5, n6, c7, x8, rs9⟩ => [(3, .slice A5 n6 c7)]) (fun ⟨A5, n6, c7, x8, rs9⟩ => [(0, .mem M0), (104, .own 57 (Lay.sz Rneedlestoreref24_Op) A5 n6 c7 (cel rs9))]) (fun ⟨A5, n6, c7, x8, rs9⟩ => m_law24_told_j0 x8 = some res ∧ Rels (rel_needlestoreref24_Op M0) rs9 x8) (fun _ k11 => ?_) ?_
 ·
  refine sr fun _ k12 => mv rfl <| ya (Yld.lenD (rs := rs00) (xs := x00) (Rels.len hq00) und_27 rfl (RdH.memM (k := 0) rfl hf00)) <| mv rfl <| dn <| k12 _ _ <| bl <| WC.nilOwn 114 57 (Lay.sz Rneedlestoreref24_Op) none <| lp (τ := (Option Addr) × Nat × Nat × (List (Sneedlestoreref24_Op)) × (List Rneedlestoreref24_Op) × Int) (fun ⟨A15, n16, c17, x18, rs19, x21⟩ => [(3, .slice A15 n16 c17), (6, .slice A00 n00 c00), (7, I64 (x00.length : Int)), (8, I64 x21)]) (fun ⟨A15, n16, c17, x18, rs19, x21⟩ => [(0, .mem M0), (114, .own 57 (Lay.sz Rneedlestoreref24_Op) A15 n16 c17 (cel rs19))]) (fun q22 ⟨A15, n16, c17, x18, rs19, x21⟩ => m_law24_told_l1 x00 q22 x18 x21 = some res ∧ Rels (rel_needlestoreref24_Op M0) rs19 x18) ⟨none, 0, 0, ([] : List (Sneedlestoreref24_Op)), ([] : List Rneedlestoreref24_Op), (0 : Int)⟩ ?_ (by simp [m_law24_told_l1]) ?_
  ·
   exact ⟨h, (Rels.nil (R := rel_needlestoreref24_Op M0))⟩
  rintro q22 ⟨A15, n16, c17, x18, rs19, x21⟩ ⟨h, hq20⟩ _ k23
  unfold m_law24_told_l1 at h
  refine sr fun _ k24 => ya (Yld.lss rfl rfl) <| dn <| k24 _ _ <| sq fun _ k25 => cnd h rfl decide_eq_true decide_eq_false (fun hc26 h => ?_) fun hc26 h => ?_
  ·
   refine ss <| k25 _ _ <| sq fun _ k27 => bl <| sr fun _ k28 => ?_
   obtain ⟨x29, hx29, h⟩ := bnd h
   obtain ⟨⟨_, r_30_0, r_30_1⟩, hr31, rfl, hq32_0, hq32_1⟩ := Rels.idx hq00 hx29
   refine ya (Yld.idxC (xs := rs00) sty_27 rfl rfl (RdH.memM (k := 0) rfl hf00) hr31) <| ya (Yld.loadA (xs := rs00) agg_42 rfl (RdH.memM (k := 0) rfl hf00) hr31 rfl) <| al 133 zr_42 fun g33 => sb 133 agg_42 rfl rfl rfl <| dn <| k28 _ _ <| rg fun _ k34 => ?_
   obtain ⟨x37, hx37, h⟩ := bnd h
   refine mv rfl <| ya (Yld.fieldAddr Try.underlying42 rfl nz_3 rfl rfl) <| ya (Yld.loadB (k := 133) scal_3 rfl rfl rfl) <| ya (Yld.fieldAddr Try.underlying42 rfl nz_3 rfl rfl) <| ya (Yld.loadB (k := 133) scal_3 rfl rfl rfl) <| ya (Yld.fieldAddr Try.underlying42 rfl nz_38 rfl rfl) <| ya (Yld.loadB (k := 133) scal_38 rfl rfl rfl) <| ya (Yld.fieldAddr Try.underlying42 rfl nz_39 rfl rfl) <| ya (Yld.loadB (k := 133) scal_39 rfl rfl rfl) <| ya (Yld.fieldAddr Try.underlying42 rfl nz_40 rfl rfl) <| ya (Yld.loadB (k := 133) scal_40 rfl rfl rfl) <| ya (Yld.fieldAddr Try.underlying42 rfl nz_40 rfl rfl) <| ya (Yld.loadB (k := 133) scal_40 rfl rfl rfl) <| ya (Yld.fieldAddr Try.underlying42 rfl nz_3 rfl rfl) <| ya (Yld.loadB (k := 133) scal_3 rfl rfl rfl) <| ya (Yld.fieldAddr Try.underlying42 rfl nz_3 rfl rfl) <| ya (Yld.loadB (k := 133) scal_3 rfl rfl rfl) <| ya (Yld.fieldAddr Try.underlying42 rfl nz_3 rfl rfl) <| ya (Yld.loadB (k := 133) scal_3 rfl rfl rfl) <| ya (Yld.fieldAddr Try.underlying42 rfl nz_28 rfl rfl) <| ya (Yld.loadB (k := 133) scal_28 rfl rfl rfl) <| ya (Yld.build rfl (bu_57_0_1_2_3_4_5_6_7_8_9 x29.fClient x29.fKind x29.fKey x29.fCookie r_30_0.A r_30_0.n r_30_0.c r_30_1.A r_30_1.n r_30_1.c x29.fCall x29.fReturn x29.fClosed x29.fResult)) ?_
   have hq36 : Rels (rel_needlestoreref24_Op M0) ([(Rneedlestoreref24_Op.mk (Sneedlestoreref24_Op.mk x29.fClient x29.fKind x29.fKey x29.fCookie x29.fData x29.fGot x29.fCall x29.fReturn x29.fClosed x29.fResult) (⟨r_30_0.A, r_30_0.n, r_30_0.c⟩ : Hdr) (⟨r_30_1.A, r_30_1.n, r_30_1.c⟩ : Hdr))] : List Rneedlestoreref24_Op) ([(Sneedlestoreref24_Op.mk x29.fClient x29.fKind x29.fKey x29.fCookie x29.fData x29.fGot x29.fCall x29.fReturn x29.fClosed x29.fResult)] : List (Sneedlestoreref24_Op)) := (Rels.cons ⟨rfl, hq32_0, hq32_1⟩ Rels.nil)
   refine WL.eff (by decide) (Eff.buildCA 135 ([(Rneedlestoreref24_Op.mk (Sneedlestoreref24_Op.mk x29.fClient x29.fKind x29.fKey x29.fCookie x29.fData x29.fGot x29.fCall x29.fReturn x29.fClosed x29.fResult) (⟨r_30_0.A, r_30_0.n, r_30_0.c⟩ : Hdr) (⟨r_30_1.A, r_30_1.n, r_30_1.c⟩ : Hdr))] : List Rneedlestoreref24_Op) sty_33 rfl rfl rfl (by decide)) ?_
   rintro _ _ ⟨g35, rfl, rfl⟩
   obtain ⟨hu40, hq41⟩ := Rels.apd hq20 hq36 hx37
   refine ap 114 (xs := rs19) (ys := ([(Rneedlestoreref24_Op.mk (Sneedlestoreref24_Op.mk x29.fClient x29.fKind x29.fKey x29.fCookie x29.fData x29.fGot x29.fCall x29.fReturn x29.fClosed x29.fResult) (⟨r_30_0.A, r_30_0.n, r_30_0.c⟩ : Hdr) (⟨r_30_1.A, r_30_1.n, r_30_1.c⟩ : Hdr))] : List Rneedlestoreref24_Op)) sty_33 rfl rfl rfl (RdH.own (k := 135) rfl) hu40 fun A38 c39 => asn rfl <| dn <| k34 _ _ <| bn <| tn <| k27 _ _ <| rg fun _ k42 => ?_
   obtain ⟨x43, hx43, h⟩ := bnd h
   exact ya (Yld.addC rfl rfl hx43) <| mv rfl <| dn <| k42 _ _ <| tn <| kw (k23 ⟨A38, (rs19 ++ ([(Rneedlestoreref24_Op.mk (Sneedlestoreref24_Op.mk x29.fClient x29.fKind x29.fKey x29.fCookie x29.fData x29.fGot x29.fCall x29.fReturn x29.fClosed x29.fResult) (⟨r_30_0.A, r_30_0.n, r_30_0.c⟩ : Hdr) (⟨r_30_1.A, r_30_1.n, r_30_1.c⟩ : Hdr))] : List Rneedlestoreref24_Op)).length, c39, x37, (rs19 ++ ([(Rneedlestoreref24_Op.mk (Sneedlestoreref24_Op.mk x29.fClient x29.fKind x29.fKey x29.fCookie x29.fData x29.fGot x29.fCall x29.fReturn x29.fClosed x29.fResult) (⟨r_30_0.A, r_30_0.n, r_30_0.c⟩ : Hdr) (⟨r_30_1.A, r_30_1.n, r_30_1.c⟩ : Hdr))] : List Rneedlestoreref24_Op)), x43⟩ ⟨h, hq41⟩)
  exact xi <| te <| te <| bx <| tn <| KK.move 114 104 rfl rfl <| kw (k11 ⟨A15, n16, c17, x18, rs19⟩ ⟨h, hq20⟩)
 rintro ⟨A5, n6, c7, x8, rs9⟩ ⟨h, hq10⟩
 unfold m_law24_told_j0 at h
 refine sr fun _ k44 => mv rfl <| asn rfl <| dn <| k44 _ _ <| re ?_
 injection h with h; subst h
 exact rt [104] (ResIs.one rfl rfl) (Ext.refl _ _) ⟨A5, n6, c7, rs9, rfl, rfl, hq10⟩

set_option maxRecDepth 10000 in
theorem w_law24_made (M0 : Mem) (A00 : Option Addr) (n00 c00 : Nat) (rs00 : List Rneedlestoreref24_Event) (x00 : List (Sneedlestoreref24_Event)) (hf00 : SlT M0 A00 n00 c00 rs00) (hq00 : Rels (rel_needlestoreref24_Event M0) rs00 x00) {res : (List (Sneedlestoreref24_Event))} (h : m_law24_made x00 = some res) :
  Fn Try.prog 9 #[.slice A00 n00 c00] M0 fun r M' es => ∃ (A1 : Option Addr) (n1 c1 : Nat), ∃ rs1 : List Rneedlestoreref24_Event, r = .slice A1 n1 c1 ∧ es = [.own 50 (Lay.sz Rneedlestoreref24_Event) A1 n1 c1 (cel rs1)] ∧ Rels (rel_needlestoreref24_Event M') rs1 res := by
 refine Fn.intro (N := 70) Try.func9 rfl rfl (Nat.le_of_ble_eq_true rfl) fun w0 => ?_
 unfold m_law24_made at h
 refine sr fun _ k1 => asn rfl <| dn <| k1 _ _ <| sr fun _ k2 => asn rfl <| dn <| k2 _ _ <| sr fun _ k3 => WL.eff (by decide) (Eff.makeMap 104 rfl) ?_
 rintro _ _ ⟨g4, rfl, rfl⟩
 refine asn rfl <| dn <| k3 _ _ <| ct (σ := (Option Addr) × Nat × Nat × (List (Sneedlestoreref24_Event)) × (List Rneedlestoreref24_Event)) (fun ⟨A7, n8, c9, x10, rs11⟩ => [(3, .slice A7 n8 c9)]) (fun ⟨A7, n8, c9, x10, rs11⟩ => [(0, .mem M0), (106, .own 50 (Lay.sz Rneedlestoreref24_Event) A7 n8 c9 (cel rs11))]) (fun ⟨A7, n8, c9, x10, rs11⟩ => m_law24_made_j0 x10 = some res ∧ Rels (rel_needlestoreref24_Event M0) rs11 x10) (fun _ k13 => ?_) ?_
 ·
  refine sr fun _ k14 => asn rfl <| dn <| k14 _ _ <| bl <| WC.nilOwn 116 50 (Lay.sz Rneedlestoreref24_Event) none <| WC.move 104 123 rfl rfl <| lp (τ := (Option Addr) × Nat × Nat × (List (Sneedlestoreref24_Event)) × (List Rneedlestoreref24_Event) × Nat × (List MapEntry) × Nat × (List (Int × Bool)) × Int) (fun ⟨A17, n18, c19, x20, rs21, g24, es25, cl26, x27, x29⟩ => [(0, .slice A00 n00 c00), (3, .slice A17 n18 c19), (4, .map (some g24)), (5, I64 x29)]) (fun ⟨A17, n18, c19, x20, rs21, g24, es25, cl26, x27, x29⟩ => [(0, .mem M0), (116, .own 50 (Lay.sz Rneedlestoreref24_Event) A17 n18 c19 (cel rs21)), (123, .obj g24 (.map es25.toArray cl26))]) (fun q30 ⟨A17, n18, c19, x20, rs21, g24, es25, cl26, x27, x29⟩ => m_law24_made_l1 x00 q30 x20 x27 x29 = some res ∧ Rels (rel_needlestoreref24_Event M0) rs21 x20 ∧ MapR Value.bool es25 x27) ⟨none, 0, 0, ([] : List (Sneedlestoreref24_Event)), ([] : List Rneedlestoreref24_Event), g4, ([] : List MapEntry), 0, ([] : List (Int × Bool)), (0 : Int)⟩ ?_ (by simp [m_law24_made_l1]) ?_
  ·
   exact ⟨h, (Rels.nil (R := rel_needlestoreref24_Event M0)), MapR.nil⟩
  rintro q30 ⟨A17, n18, c19, x20, rs21, g24, es25, cl26, x27, x29⟩ ⟨h, hq22, hmr28⟩ _ k31
  unfold m_law24_made_l1 at h
  refine ct (σ := Unit) (fun _ => [(0, .slice A00 n00 c00), (3, .slice A17 n18 c19), (4, .map (some g24)), (5, I64 x29)]) (fun _ => [(0, .mem M0), (116, .own 50 (Lay.sz Rneedlestoreref24_Event) A17 n18 c19 (cel rs21)), (123, .obj g24 (.map es25.toArray cl26))]) (fun _ => m_law24_made_j2 x00 x20 x27 x29 (m_law24_made_l1 x00 q30) = some res) (fun _ k32 => ?_) ?_
  ·
   refine sr fun _ k33 => mv rfl <| mv rfl <| ya (Yld.lenD (rs := rs00) (xs := x00) (Rels.len hq00) und_22 rfl (RdH.memM (k := 0) rfl hf00)) <| ya (Yld.lss rfl rfl) <| mv rfl <| spl h decide_eq_true decide_eq_false (fun hc34 h => ?_) fun hc34 h => ?_
   ·
    refine mvg rfl <| yg (Yld.lss rfl rfl) <| pt rfl rfl <| dn <| k33 _ _ <| cnd h rfl decide_eq_true decide_eq_false (fun hc35 h => ?_) fun hc35 h => ?_
    ·
     exact WC.skip <| tn <| kw (k32 () h)
    exact xi <| te <| te <| bx <| tn <| KK.move 116 106 rfl rfl <| kw (k13 ⟨A17, n18, c19, x20, rs21⟩ ⟨h, hq22⟩)
   exact sk <| sk <| pf rfl rfl <| dn <| k33 _ _ <| cdF rfl <| xi <| te <| te <| bx <| tn <| KK.move 116 106 rfl rfl <| kw (k13 ⟨A17, n18, c19, x20, rs21⟩ ⟨h, hq22⟩)
  rintro _ h
  unfold m_law24_made_j2 at h
  refine sq fun _ k36 => bl <| sr fun _ k37 => ?_
  obtain ⟨x38, hx38, h⟩ := bnd h
  refine mv rfl <| mv rfl ?_
  obtain ⟨⟨_, r_39_0⟩, hr40, rfl, hq41_0⟩ := Rels.idx hq00 hx38
  refine ya (Yld.idxC (xs := rs00) sty_22 rfl rfl (RdH.memM (k := 0) rfl hf00) hr40) <| ya (Yld.loadA (xs := rs00) agg_50 rfl (RdH.memM (k := 0) rfl hf00) hr40 rfl) <| al 142 zr_50 fun g42 => sb 142 agg_50 rfl rfl rfl <| dn <| k37 _ _ <| ct (σ := (Option Addr) × Nat × Nat × (List (BitVec 8))) (fun ⟨A43, n44, c45, x46⟩ => [(0, .slice A00 n00 c00), (3, .slice A17 n18 c19), (4, .map (some g24)), (5, I64 x29), (6, .pointer (some ⟨g42, 0, none⟩))]) (fun ⟨A43, n44, c45, x46⟩ => [(0, .mem M0), (116, .own 50 (Lay.sz Rneedlestoreref24_Event) A17 n18 c19 (cel rs21)), (123, .obj g24 (.map es25.toArray cl26)), (142, .blk g42 50 [I64 x38.fKind, I64 x38.fClient, I64 x38.fOp, U64 x38.fKey, U32 x38.fCookie, .slice A43 n44 c45, I64 x38.fResult])]) (fun ⟨A43, n44, c45, x46⟩ => m_law24_made_j3 x20 x27 x29 x38 (m_law24_made_l1 x00 q30) x46 = some res ∧ SlT M0 A43 n44 c45 x46) (fun _ k48 => ?_) ?_
  ·
   refine sr fun _ k49 => ya (Yld.fieldAddr Try.underlying50 rfl nz_40 rfl rfl) <| ya (Yld.loadB (k := 142) scal_40 rfl rfl rfl) <| ya (Yld.lenC (xs := x38.fData) und_40 rfl (RdH.memM (k := 0) rfl hq41_0)) <| ya (Yld.gtr rfl rfl) <| dn <| k49 _ _ <| cnd h rfl decide_eq_true decide_eq_false (fun hc50 h => ?_) fun hc50 h => ?_
   ·
    refine rg fun _ k51 => ?_
    obtain ⟨x52, hx52, h⟩ := bnd h
    exact ya (Yld.fieldAddr Try.underlying50 rfl nz_40 rfl rfl) <| ya (Yld.loadB (k := 142) scal_40 rfl rfl rfl) <| ya (Yld.sliceHC (xs := x38.fData) sty_40 rfl rfl (RdH.memM (k := 0) rfl hq41_0) hx52) <| ya (Yld.fieldAddr Try.underlying50 rfl nz_40 rfl rfl) <| WL.eff0 (Eff0.storeB 142 siz_40 rfl rfl rfl rfl (Nat.le_of_ble_eq_true rfl)) <| dn <| k51 _ _ <| tn <| kw (k48 ⟨r_39_0.A, x52.length, r_39_0.c, x52⟩ ⟨h, (SlT.slc0 hq41_0 hx52)⟩)
   exact WC.skip <| tn <| kw (k48 ⟨r_39_0.A, r_39_0.n, r_39_0.c, x38.fData⟩ ⟨h, hq41_0⟩)
  rintro ⟨A43, n44, c45, x46⟩ ⟨h, hf47⟩
  unfold m_law24_made_j3 at h
  refine sr fun _ k53 => ?_
  obtain ⟨x54, hx54, h⟩ := bnd h
  obtain ⟨x55, hx55, h⟩ := bnd h
  obtain ⟨x56, hx56, h⟩ := bnd h
  refine ya (Yld.fieldAddr Try.underlying50 rfl nz_3 rfl rfl) <| ya (Yld.loadB (k := 142) scal_3 rfl rfl rfl) <| ya (Yld.andC rfl rfl) <| ya (Yld.remC rfl rfl hx54) <| ya (Yld.fieldAddr Try.underlying50 rfl nz_3 rfl rfl) <| ya (Yld.loadB (k := 142) scal_3 rfl rfl rfl) <| ya (Yld.andC rfl rfl) <| ya (Yld.remC rfl rfl hx55) <| ya (Yld.addC rfl rfl hx56) <| ya (Yld.fieldAddr Try.underlying50 rfl nz_38 rfl rfl) <| ya (Yld.loadB (k := 142) scal_38 rfl rfl rfl) <| ya (Yld.and_u64 (a := x38.fKey) (b := 3#64) rfl rfl) <| ya (Yld.fieldAddr Try.underlying50 rfl nz_3 rfl rfl) <| WL.eff0 (Eff0.storeB 142 siz_3 rfl rfl rfl rfl (Nat.le_of_ble_eq_true rfl)) <| ya (Yld.fieldAddr Try.underlying50 rfl nz_3 rfl rfl) <| WL.eff0 (Eff0.storeB 142 siz_3 rfl rfl rfl rfl (Nat.le_of_ble_eq_true rfl)) <| ya (Yld.fieldAddr Try.underlying50 rfl nz_38 rfl rfl) <| WL.eff0 (Eff0.storeB 142 siz_38 rfl rfl rfl rfl (Nat.le_of_ble_eq_true rfl)) <| dn <| k53 _ _ <| sq fun _ k57 => bl <| sr fun _ k58 => ya (Yld.fieldAddr Try.underlying50 rfl nz_3 rfl rfl) <| ya (Yld.loadB (k := 142) scal_3 rfl rfl rfl) <| ya (Yld.andC rfl rfl) <| ya (Yld.eqlI rfl rfl) <| asn rfl <| dn <| k58 _ _ <| cnd h rfl beq_iff_eq.2 beq_eq_false_iff_ne.2 (fun hc59 h => ?_) fun hc59 h => ?_
  ·
   refine rg fun _ k60 => WL.eff (by decide) (Eff.makeMap 161 rfl) ?_
   rintro _ _ ⟨g61, rfl, rfl⟩
   refine ya (Yld.fieldAddr Try.underlying50 rfl nz_3 rfl rfl) <| WL.eff0 (Eff0.storeB 142 siz_3 rfl rfl rfl rfl (Nat.le_of_ble_eq_true rfl)) <| asn rfl <| dn <| k60 _ _ <| bn <| tn <| k57 _ _ <| rg fun _ k62 => ?_
   obtain ⟨x65, hx65, h⟩ := bnd h
   refine mv rfl <| ya (Yld.loadBM (k := 142) agg_50 rfl rfl rfl) ?_
   have hq64 : Rels (rel_needlestoreref24_Event M0) ([(Rneedlestoreref24_Event.mk (Sneedlestoreref24_Event.mk (3 : Int) x54 x56 (x38.fKey &&& 3#64) x38.fCookie x46 x38.fResult) (⟨A43, n44, c45⟩ : Hdr))] : List Rneedlestoreref24_Event) ([(Sneedlestoreref24_Event.mk (3 : Int) x54 x56 (x38.fKey &&& 3#64) x38.fCookie x46 x38.fResult)] : List (Sneedlestoreref24_Event)) := (Rels.cons ⟨rfl, hf47⟩ Rels.nil)
   refine WL.eff (by decide) (Eff.buildCA 163 ([(Rneedlestoreref24_Event.mk (Sneedlestoreref24_Event.mk (3 : Int) x54 x56 (x38.fKey &&& 3#64) x38.fCookie x46 x38.fResult) (⟨A43, n44, c45⟩ : Hdr))] : List Rneedlestoreref24_Event) sty_22 rfl rfl rfl (by decide)) ?_
   rintro _ _ ⟨g63, rfl, rfl⟩
   obtain ⟨hu68, hq69⟩ := Rels.apd hq22 hq64 hx65
   refine ap 116 (xs := rs21) (ys := ([(Rneedlestoreref24_Event.mk (Sneedlestoreref24_Event.mk (3 : Int) x54 x56 (x38.fKey &&& 3#64) x38.fCookie x46 x38.fResult) (⟨A43, n44, c45⟩ : Hdr))] : List Rneedlestoreref24_Event)) sty_22 rfl rfl rfl (RdH.own (k := 163) rfl) hu68 fun A66 c67 => asn rfl <| dn <| k62 _ _ <| bn <| tn <| k36 _ _ <| rg fun _ k70 => ?_
   obtain ⟨x71, hx71, h⟩ := bnd h
   exact mv rfl <| ya (Yld.addC rfl rfl hx71) <| asn rfl <| dn <| k70 _ _ <| tn <| KK.move 161 123 rfl rfl <| kw (k31 ⟨A66, (rs21 ++ ([(Rneedlestoreref24_Event.mk (Sneedlestoreref24_Event.mk (3 : Int) x54 x56 (x38.fKey &&& 3#64) x38.fCookie x46 x38.fResult) (⟨A43, n44, c45⟩ : Hdr))] : List Rneedlestoreref24_Event)).length, c67, x65, (rs21 ++ ([(Rneedlestoreref24_Event.mk (Sneedlestoreref24_Event.mk (3 : Int) x54 x56 (x38.fKey &&& 3#64) x38.fCookie x46 x38.fResult) (⟨A43, n44, c45⟩ : Hdr))] : List Rneedlestoreref24_Event)), g61, ([] : List MapEntry), 0, ([] : List (Int × Bool)), x71⟩ ⟨h, hq69, MapR.nil⟩)
  refine sr fun _ k72 => mv rfl <| ya (Yld.fieldAddr Try.underlying50 rfl nz_3 rfl rfl) <| ya (Yld.loadB (k := 142) scal_3 rfl rfl rfl) <| ya (Yld.lookupM (k := 123) (ev := Value.bool) (m := x27) (q := x54) (zv := false) und_51 und_3 zv_4 rfl rfl rfl hmr28) <| asn rfl <| dn <| k72 _ _ <| cnd h rfl id Bool.eq_false_iff.2 (fun hc73 h => ?_) fun hc73 h => ?_
  ·
   refine rg fun _ k74 => mv rfl <| ya (Yld.fieldAddr Try.underlying50 rfl nz_3 rfl rfl) <| ya (Yld.loadB (k := 142) scal_3 rfl rfl rfl) <| ya (Yld.fieldAddr Try.underlying50 rfl nz_3 rfl rfl) <| WL.eff0 (Eff0.storeB 142 siz_3 rfl rfl rfl rfl (Nat.le_of_ble_eq_true rfl)) <| WL.eff0R (Eff0R.mapUpd 123 (ev := Value.bool) (m := x27) (q := x54) (v := false) und_51 und_3 rfl rfl rfl rfl hmr28) ?_
   rintro _ ⟨es75, cl76, hmr77, rfl⟩
   refine dn <| k74 _ _ <| bn <| tn <| k57 _ _ <| rg fun _ k78 => ?_
   obtain ⟨x81, hx81, h⟩ := bnd h
   refine mv rfl <| ya (Yld.loadBM (k := 142) agg_50 rfl rfl rfl) ?_
   have hq80 : Rels (rel_needlestoreref24_Event M0) ([(Rneedlestoreref24_Event.mk (Sneedlestoreref24_Event.mk (2 : Int) x54 x56 (x38.fKey &&& 3#64) x38.fCookie x46 x38.fResult) (⟨A43, n44, c45⟩ : Hdr))] : List Rneedlestoreref24_Event) ([(Sneedlestoreref24_Event.mk (2 : Int) x54 x56 (x38.fKey &&& 3#64) x38.fCookie x46 x38.fResult)] : List (Sneedlestoreref24_Event)) := (Rels.cons ⟨rfl, hf47⟩ Rels.nil)
   refine WL.eff (by decide) (Eff.buildCA 179 ([(Rneedlestoreref24_Event.mk (Sneedlestoreref24_Event.mk (2 : Int) x54 x56 (x38.fKey &&& 3#64) x38.fCookie x46 x38.fResult) (⟨A43, n44, c45⟩ : Hdr))] : List Rneedlestoreref24_Event) sty_22 rfl rfl rfl (by decide)) ?_
   rintro _ _ ⟨g79, rfl, rfl⟩
   obtain ⟨hu84, hq85⟩ := Rels.apd hq22 hq80 hx81
   refine ap 116 (xs := rs21) (ys := ([(Rneedlestoreref24_Event.mk (Sneedlestoreref24_Event.mk (2 : Int) x54 x56 (x38.fKey &&& 3#64) x38.fCookie x46 x38.fResult) (⟨A43, n44, c45⟩ : Hdr))] : List Rneedlestoreref24_Event)) sty_22 rfl rfl rfl (RdH.own (k := 179) rfl) hu84 fun A82 c83 => asn rfl <| dn <| k78 _ _ <| bn <| tn <| k36 _ _ <| rg fun _ k86 => ?_
   obtain ⟨x87, hx87, h⟩ := bnd h
   exact mv rfl <| ya (Yld.addC rfl rfl hx87) <| asn rfl <| dn <| k86 _ _ <| tn <| kw (k31 ⟨A82, (rs21 ++ ([(Rneedlestoreref24_Event.mk (Sneedlestoreref24_Event.mk (2 : Int) x54 x56 (x38.fKey &&& 3#64) x38.fCookie x46 x38.fResult) (⟨A43, n44, c45⟩ : Hdr))] : List Rneedlestoreref24_Event)).length, c83, x81, (rs21 ++ ([(Rneedlestoreref24_Event.mk (Sneedlestoreref24_Event.mk (2 : Int) x54 x56 (x38.fKey &&& 3#64) x38.fCookie x46 x38.fResult) (⟨A43, n44, c45⟩ : Hdr))] : List Rneedlestoreref24_Event)), g24, es75, cl76, (mset x27 x54 false), x87⟩ ⟨h, hq85, hmr77⟩)
  refine rg fun _ k88 => mv rfl <| ya (Yld.fieldAddr Try.underlying50 rfl nz_3 rfl rfl) <| ya (Yld.loadB (k := 142) scal_3 rfl rfl rfl) <| ya (Yld.fieldAddr Try.underlying50 rfl nz_3 rfl rfl) <| WL.eff0 (Eff0.storeB 142 siz_3 rfl rfl rfl rfl (Nat.le_of_ble_eq_true rfl)) <| WL.eff0R (Eff0R.mapUpd 123 (ev := Value.bool) (m := x27) (q := x54) (v := true) und_51 und_3 rfl rfl rfl rfl hmr28) ?_
  rintro _ ⟨es89, cl90, hmr91, rfl⟩
  refine dn <| k88 _ _ <| bn <| tn <| k57 _ _ <| rg fun _ k92 => ?_
  obtain ⟨x95, hx95, h⟩ := bnd h
  refine mv rfl <| ya (Yld.loadBM (k := 142) agg_50 rfl rfl rfl) ?_
  have hq94 : Rels (rel_needlestoreref24_Event M0) ([(Rneedlestoreref24_Event.mk (Sneedlestoreref24_Event.mk (1 : Int) x54 x56 (x38.fKey &&& 3#64) x38.fCookie x46 x38.fResult) (⟨A43, n44, c45⟩ : Hdr))] : List Rneedlestoreref24_Event) ([(Sneedlestoreref24_Event.mk (1 : Int) x54 x56 (x38.fKey &&& 3#64) x38.fCookie x46 x38.fResult)] : List (Sneedlestoreref24_Event)) := (Rels.cons ⟨rfl, hf47⟩ Rels.nil)
  refine WL.eff (by decide) (Eff.buildCA 193 ([(Rneedlestoreref24_Event.mk (Sneedlestoreref24_Event.mk (1 : Int) x54 x56 (x38.fKey &&& 3#64) x38.fCookie x46 x38.fResult) (⟨A43, n44, c45⟩ : Hdr))] : List Rneedlestoreref24_Event) sty_22 rfl rfl rfl (by decide)) ?_
  rintro _ _ ⟨g93, rfl, rfl⟩
  obtain ⟨hu98, hq99⟩ := Rels.apd hq22 hq94 hx95
  refine ap 116 (xs := rs21) (ys := ([(Rneedlestoreref24_Event.mk (Sneedlestoreref24_Event.mk (1 : Int) x54 x56 (x38.fKey &&& 3#64) x38.fCookie x46 x38.fResult) (⟨A43, n44, c45⟩ : Hdr))] : List Rneedlestoreref24_Event)) sty_22 rfl rfl rfl (RdH.own (k := 193) rfl) hu98 fun A96 c97 => asn rfl <| dn <| k92 _ _ <| bn <| tn <| k36 _ _ <| rg fun _ k100 => ?_
  obtain ⟨x101, hx101, h⟩ := bnd h
  exact mv rfl <| ya (Yld.addC rfl rfl hx101) <| asn rfl <| dn <| k100 _ _ <| tn <| kw (k31 ⟨A96, (rs21 ++ ([(Rneedlestoreref24_Event.mk (Sneedlestoreref24_Event.mk (1 : Int) x54 x56 (x38.fKey &&& 3#64) x38.fCookie x46 x38.fResult) (⟨A43, n44, c45⟩ : Hdr))] : List Rneedlestoreref24_Event)).length, c97, x95, (rs21 ++ ([(Rneedlestoreref24_Event.mk (Sneedlestoreref24_Event.mk (1 : Int) x54 x56 (x38.fKey &&& 3#64) x38.fCookie x46 x38.fResult) (⟨A43, n44, c45⟩ : Hdr))] : List Rneedlestoreref24_Event)), g24, es89, cl90, (mset x27 x54 true), x101⟩ ⟨h, hq99, hmr91⟩)
 rintro ⟨A7, n8, c9, x10, rs11⟩ ⟨h, hq12⟩
 unfold m_law24_made_j0 at h
 refine sr fun _ k102 => mv rfl <| asn rfl <| dn <| k102 _ _ <| re ?_
 injection h with h; subst h
 exact rt [106] (ResIs.one rfl rfl) (Ext.refl _ _) ⟨A7, n8, c9, rs11, rfl, rfl, hq12⟩

set_option maxRecDepth 10000 in
theorem w_law24_awake (M0 : Mem)  {res : Bool} (h : m_law24_awake = some res) :
  Fn Try.prog 8 #[] M0 fun r M' es => r = .bool res ∧ es = [] := by
 refine Fn.intro (N := 58) Try.func8 rfl rfl (Nat.le_of_ble_eq_true rfl) fun w0 => ?_
 unfold m_law24_awake at h
 refine sr fun _ k1 => asn rfl <| dn <| k1 _ _ <| sr fun _ k2 => ?_
 obtain ⟨x3, hx3, h⟩ := bnd h
 refine WL.eff (by decide) (Eff.callM 109 rfl Try.func10 nm_10 rfl rfl rfl (w_history_Build _ none 0 0 ([] : List Rhistory_Event) _ SlT.nil (Rels.nil (R := rel_history_Event M0)) hx3)) ?_
 rintro _ _ ⟨M15, _, ⟨A16, n17, c18, rs19, rfl, rfl, hq20⟩, hm_M15, rfl⟩
 refine mv rfl <| ya (Yld.extract rfl rfl) <| ya (Yld.extract rfl rfl) <| asn rfl <| asn rfl <| dn <| k2 _ _ <| sr fun _ k21 => ?_
 obtain ⟨x24, hx24, h⟩ := bnd h
 refine ya (Yld.build rfl (bu_45_0 (2 : Int))) ?_
 have hq23 : Rels (rel_history_Event M15) ([(Rhistory_Event.mk (Shistory_Event.mk (2 : Int) (0 : Int) (0 : Int) 0#64 0#32 ([] : List (BitVec 8)) (0 : Int)) (⟨none, 0, 0⟩ : Hdr))] : List Rhistory_Event) ([(Shistory_Event.mk (2 : Int) (0 : Int) (0 : Int) 0#64 0#32 ([] : List (BitVec 8)) (0 : Int))] : List (Shistory_Event)) := (Rels.cons ⟨rfl, SlT.nil⟩ Rels.nil)
 refine WL.eff (by decide) (Eff.buildCA 122 ([(Rhistory_Event.mk (Shistory_Event.mk (2 : Int) (0 : Int) (0 : Int) 0#64 0#32 ([] : List (BitVec 8)) (0 : Int)) (⟨none, 0, 0⟩ : Hdr))] : List Rhistory_Event) sty_31 rfl rfl rfl (by decide)) ?_
 rintro _ _ ⟨g22, rfl, rfl⟩
 refine WL.freeze 122 rfl rfl rfl fun M36 hm_M36 hf37 => WL.eff (by decide) (Eff.callM 130 rfl Try.func10 nm_10 rfl rfl rfl (w_history_Build _ (some ⟨g22, 0, none⟩) (([(Rhistory_Event.mk (Shistory_Event.mk (2 : Int) (0 : Int) (0 : Int) 0#64 0#32 ([] : List (BitVec 8)) (0 : Int)) (⟨none, 0, 0⟩ : Hdr))] : List Rhistory_Event).length) (([(Rhistory_Event.mk (Shistory_Event.mk (2 : Int) (0 : Int) (0 : Int) 0#64 0#32 ([] : List (BitVec 8)) (0 : Int)) (⟨none, 0, 0⟩ : Hdr))] : List Rhistory_Event).length) ([(Rhistory_Event.mk (Shistory_Event.mk (2 : Int) (0 : Int) (0 : Int) 0#64 0#32 ([] : List (BitVec 8)) (0 : Int)) (⟨none, 0, 0⟩ : Hdr))] : List Rhistory_Event) _ hf37 (Rels.lift hq23 hm_M36) hx24)) ?_
 rintro _ _ ⟨M38, _, ⟨A39, n40, c41, rs42, rfl, rfl, hq43⟩, hm_M38, rfl⟩
 refine mv rfl <| ya (Yld.extract rfl rfl) <| ya (Yld.extract rfl rfl) <| asn rfl <| asn rfl <| dn <| k21 _ _ <| sr fun _ k44 => ?_
 obtain ⟨x47, hx47, h⟩ := bnd h
 refine ya (Yld.build rfl (bu_45_0_2 (1 : Int) (3 : Int))) <| ya (Yld.build rfl (bu_45_0 (3 : Int))) ?_
 have hq46 : Rels (rel_history_Event M38) ([(Rhistory_Event.mk (Shistory_Event.mk (1 : Int) (0 : Int) (3 : Int) 0#64 0#32 ([] : List (BitVec 8)) (0 : Int)) (⟨none, 0, 0⟩ : Hdr)), (Rhistory_Event.mk (Shistory_Event.mk (3 : Int) (0 : Int) (0 : Int) 0#64 0#32 ([] : List (BitVec 8)) (0 : Int)) (⟨none, 0, 0⟩ : Hdr))] : List Rhistory_Event) ([(Shistory_Event.mk (1 : Int) (0 : Int) (3 : Int) 0#64 0#32 ([] : List (BitVec 8)) (0 : Int)), (Shistory_Event.mk (3 : Int) (0 : Int) (0 : Int) 0#64 0#32 ([] : List (BitVec 8)) (0 : Int))] : List (Shistory_Event)) := (Rels.cons ⟨rfl, SlT.nil⟩ (Rels.cons ⟨rfl, SlT.nil⟩ Rels.nil))
 refine WL.eff (by decide) (Eff.buildCA 145 ([(Rhistory_Event.mk (Shistory_Event.mk (1 : Int) (0 : Int) (3 : Int) 0#64 0#32 ([] : List (BitVec 8)) (0 : Int)) (⟨none, 0, 0⟩ : Hdr)), (Rhistory_Event.mk (Shistory_Event.mk (3 : Int) (0 : Int) (0 : Int) 0#64 0#32 ([] : List (BitVec 8)) (0 : Int)) (⟨none, 0, 0⟩ : Hdr))] : List Rhistory_Event) sty_31 rfl rfl rfl (by decide)) ?_
 rintro _ _ ⟨g45, rfl, rfl⟩
 refine WL.freeze 145 rfl rfl rfl fun M59 hm_M59 hf60 => WL.eff (by decide) (Eff.callM 153 rfl Try.func10 nm_10 rfl rfl rfl (w_history_Build _ (some ⟨g45, 0, none⟩) (([(Rhistory_Event.mk (Shistory_Event.mk (1 : Int) (0 : Int) (3 : Int) 0#64 0#32 ([] : List (BitVec 8)) (0 : Int)) (⟨none, 0, 0⟩ : Hdr)), (Rhistory_Event.mk (Shistory_Event.mk (3 : Int) (0 : Int) (0 : Int) 0#64 0#32 ([] : List (BitVec 8)) (0 : Int)) (⟨none, 0, 0⟩ : Hdr))] : List Rhistory_Event).length) (([(Rhistory_Event.mk (Shistory_Event.mk (1 : Int) (0 : Int) (3 : Int) 0#64 0#32 ([] : List (BitVec 8)) (0 : Int)) (⟨none, 0, 0⟩ : Hdr)), (Rhistory_Event.mk (Shistory_Event.mk (3 : Int) (0 : Int) (0 : Int) 0#64 0#32 ([] : List (BitVec 8)) (0 : Int)) (⟨none, 0, 0⟩ : Hdr))] : List Rhistory_Event).length) ([(Rhistory_Event.mk (Shistory_Event.mk (1 : Int) (0 : Int) (3 : Int) 0#64 0#32 ([] : List (BitVec 8)) (0 : Int)) (⟨none, 0, 0⟩ : Hdr)), (Rhistory_Event.mk (Shistory_Event.mk (3 : Int) (0 : Int) (0 : Int) 0#64 0#32 ([] : List (BitVec 8)) (0 : Int)) (⟨none, 0, 0⟩ : Hdr))] : List Rhistory_Event) _ hf60 (Rels.lift hq46 hm_M59) hx47)) ?_
 rintro _ _ ⟨M61, _, ⟨A62, n63, c64, rs65, rfl, rfl, hq66⟩, hm_M61, rfl⟩
 refine mv rfl <| ya (Yld.extract rfl rfl) <| ya (Yld.extract rfl rfl) <| asn rfl <| asn rfl <| dn <| k44 _ _ <| sr fun _ k67 => mv rfl <| ya (Yld.lenD (rs := rs19) (xs := x3.1) (Rels.len (Rels.lift (Rels.lift (Rels.lift (Rels.lift hq20 hm_M36) hm_M38) hm_M59) hm_M61)) und_27 rfl (RdH.own (k := 109) rfl)) <| ya (Yld.eqlI rfl rfl) <| mv rfl <| spl h beq_iff_eq.2 beq_eq_false_iff_ne.2 (fun hc68 h => ?_) fun hc68 h => ?_
 ·
  refine mvg rfl <| yg (Yld.eqlI rfl rfl) <| pt rfl rfl <| mv rfl <| spl h beq_iff_eq.2 beq_eq_false_iff_ne.2 (fun hc69 h => ?_) fun hc69 h => ?_
  ·
   refine mvg rfl <| yg (Yld.eqlI rfl rfl) <| pt rfl rfl <| mv rfl <| spl h beq_iff_eq.2 beq_eq_false_iff_ne.2 (fun hc70 h => ?_) fun hc70 h => ?_
   ·
    refine mvg rfl <| yg (Yld.eqlI rfl rfl) <| pt rfl rfl <| mv rfl <| spl h beq_iff_eq.2 beq_eq_false_iff_ne.2 (fun hc71 h => ?_) fun hc71 h => ?_
    ·
     refine mvg rfl <| yg (Yld.lenD (rs := rs65) (xs := x47.1) (Rels.len hq66) und_27 rfl (RdH.own (k := 153) rfl)) <| yg (Yld.eqlI rfl rfl) <| pt rfl rfl <| mv rfl <| spl h beq_iff_eq.2 beq_eq_false_iff_ne.2 (fun hc72 h => ?_) fun hc72 h => ?_
     ·
      obtain ⟨x73, hx73, h⟩ := bnd h
      refine mvg rfl ?_
      obtain ⟨⟨_, r_74_0, r_74_1⟩, hr75, rfl, hq76_0, hq76_1⟩ := Rels.idx hq66 hx73
      refine yg (Yld.idxC (xs := rs65) sty_27 rfl rfl (RdH.own (k := 153) rfl) hr75) <| yg (Yld.fieldAddrC Try.underlying42 rfl nz_3 rfl rfl) <| yg (Yld.loadC (xs := rs65) (j := 7) scal_3 rfl (RdH.own (k := 153) rfl) hr75 rfl rfl) <| yg (Yld.eqlI rfl rfl) <| pt rfl rfl <| mv rfl <| spl h beq_iff_eq.2 beq_eq_false_iff_ne.2 (fun hc77 h => ?_) fun hc77 h => ?_
      ·
       obtain ⟨x78, hx78, h⟩ := bnd h
       refine mvg rfl ?_
       obtain ⟨⟨_, r_79_0, r_79_1⟩, hr80, rfl, hq81_0, hq81_1⟩ := Rels.idx hq66 hx78
       refine yg (Yld.idxC (xs := rs65) sty_27 rfl rfl (RdH.own (k := 153) rfl) hr80) <| yg (Yld.fieldAddrC Try.underlying42 rfl nz_3 rfl rfl) <| yg (Yld.loadC (xs := rs65) (j := 8) scal_3 rfl (RdH.own (k := 153) rfl) hr80 rfl rfl) <| yg (Yld.eqlI rfl rfl) <| pt rfl rfl <| asn rfl <| dn <| k67 _ _ <| re ?_
       injection h with h; subst h
       exact rt [] (ResIs.one rfl rfl) (Ext.trans (Ext.trans (Ext.trans (Ext.trans hm_M15 hm_M36) hm_M38) hm_M59) hm_M61) ⟨rfl, rfl⟩
      refine sk <| sk <| sk <| sk <| sk <| pf rfl rfl <| asn rfl <| dn <| k67 _ _ <| re ?_
      injection h with h; subst h
      exact rt [] (ResIs.one rfl rfl) (Ext.trans (Ext.trans (Ext.trans (Ext.trans hm_M15 hm_M36) hm_M38) hm_M59) hm_M61) ⟨rfl, rfl⟩
     refine sk <| sk <| sk <| sk <| sk <| pf rfl rfl <| mv rfl <| sk <| sk <| sk <| sk <| sk <| pf rfl rfl <| asn rfl <| dn <| k67 _ _ <| re ?_
     injection h with h; subst h
     exact rt [] (ResIs.one rfl rfl) (Ext.trans (Ext.trans (Ext.trans (Ext.trans hm_M15 hm_M36) hm_M38) hm_M59) hm_M61) ⟨rfl, rfl⟩
    refine sk <| sk <| sk <| pf rfl rfl <| mv rfl <| sk <| sk <| sk <| sk <| sk <| pf rfl rfl <| mv rfl <| sk <| sk <| sk <| sk <| sk <| pf rfl rfl <| asn rfl <| dn <| k67 _ _ <| re ?_
    injection h with h; subst h
    exact rt [] (ResIs.one rfl rfl) (Ext.trans (Ext.trans (Ext.trans (Ext.trans hm_M15 hm_M36) hm_M38) hm_M59) hm_M61) ⟨rfl, rfl⟩
   refine sk <| sk <| pf rfl rfl <| mv rfl <| sk <| sk <| sk <| pf rfl rfl <| mv rfl <| sk <| sk <| sk <| sk <| sk <| pf rfl rfl <| mv rfl <| sk <| sk <| sk <| sk <| sk <| pf rfl rfl <| asn rfl <| dn <| k67 _ _ <| re ?_
   injection h with h; subst h
   exact rt [] (ResIs.one rfl rfl) (Ext.trans (Ext.trans (Ext.trans (Ext.trans hm_M15 hm_M36) hm_M38) hm_M59) hm_M61) ⟨rfl, rfl⟩
  refine sk <| sk <| pf rfl rfl <| mv rfl <| sk <| sk <| pf rfl rfl <| mv rfl <| sk <| sk <| sk <| pf rfl rfl <| mv rfl <| sk <| sk <| sk <| sk <| sk <| pf rfl rfl <| mv rfl <| sk <| sk <| sk <| sk <| sk <| pf rfl rfl <| asn rfl <| dn <| k67 _ _ <| re ?_
  injection h with h; subst h
  exact rt [] (ResIs.one rfl rfl) (Ext.trans (Ext.trans (Ext.trans (Ext.trans hm_M15 hm_M36) hm_M38) hm_M59) hm_M61) ⟨rfl, rfl⟩
 refine sk <| sk <| pf rfl rfl <| mv rfl <| sk <| sk <| pf rfl rfl <| mv rfl <| sk <| sk <| pf rfl rfl <| mv rfl <| sk <| sk <| sk <| pf rfl rfl <| mv rfl <| sk <| sk <| sk <| sk <| sk <| pf rfl rfl <| mv rfl <| sk <| sk <| sk <| sk <| sk <| pf rfl rfl <| asn rfl <| dn <| k67 _ _ <| re ?_
 injection h with h; subst h
 exact rt [] (ResIs.one rfl rfl) (Ext.trans (Ext.trans (Ext.trans (Ext.trans hm_M15 hm_M36) hm_M38) hm_M59) hm_M61) ⟨rfl, rfl⟩

end Go.Proofs.Ytpebhdepmbnjbaa
