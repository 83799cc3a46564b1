/-
 Walks (f): what a function's model gives, the function returns. Printed by a program of ours (vcm.py) from the function's operations. Conditions: as each theorem says.
-/
import Derived.Test.YtkcccenekglkoaaWkb
import Derived.Test.YtkcccenekglkoaaMdf
namespace Go.Proofs.Ytkcccenekglkoaa
set_option maxRecDepth 10000
open Go Go.RowKit
set_option linter.unusedVariables false
theorem agg_35 : Agg Try.prog 35 3 := ⟨⟨_, Try.underlying35, rfl⟩, by kernel_rfl⟩
theorem bu_35_ : Try.prog.built 35 [] = some ([.bool false, U32 0#32, .slice none 0 0] : List Value).toArray := by kernel_rfl
theorem bu_35_0_1_2 : ∀ (a0 : Bool) (a1 : BitVec 32) (a2 : Option Addr) (n2 c2 : Nat), Try.prog.built 35 [(0, .bool a0), (1, U32 a1), (2, .slice a2 n2 c2)] = some ([.bool a0, U32 a1, .slice a2 n2 c2] : List Value).toArray := fun a0 a1 a2 n2 c2 => by kernel_rfl
theorem nm_14 : (Try.f14.name == "runtime.NumGoroutine") = false := by kernel_rfl
theorem nm_28 : (Try.f28.name == "runtime.NumGoroutine") = false := by kernel_rfl
theorem nm_29 : (Try.f29.name == "runtime.NumGoroutine") = false := by kernel_rfl
theorem nm_30 : (Try.f30.name == "runtime.NumGoroutine") = false := by kernel_rfl
theorem nm_46 : (Try.f46.name == "runtime.NumGoroutine") = false := by kernel_rfl
theorem nz_4 : (Try.prog.info? 4).map (fun i => decide (i.size = 0)) = some false := by kernel_rfl
theorem scal_4 : scal Try.prog 4 = true := by kernel_rfl
theorem zr_35 : (Try.prog.info? 35).map (fun i => i.zero.map (·.cells)) = some (some ([.bool false, U32 0#32, .slice none 0 0] : List Value).toArray) := by kernel_rfl
theorem w_bytes_Equal (M0 : Mem) (A00 : Option Addr) (n00 c00 : Nat) (x00 : List (BitVec 8)) (hf00 : SlT M0 A00 n00 c00 x00) (A01 : Option Addr) (n01 c01 : Nat) (x01 : List (BitVec 8)) (hf01 : SlT M0 A01 n01 c01 x01) {res : Bool} (h : m_bytes_Equal x00 x01 = some res) :
  Fn Try.prog 46 #[.slice A00 n00 c00, .slice A01 n01 c01] M0 fun r M' es => r = .bool res /\ es = [] := by
 refine Fn.intro (N := 10) Try.func46 rfl rfl (Nat.le_of_ble_eq_true rfl) fun w0 => ?_
 unfold m_bytes_Equal at h
 refine sr fun _ k1 => asn rfl <| dn <| k1 _ _ <| sr fun _ k2 => mv rfl <| ya (Yld.b2sC (xs := x00) und_23 und_5 und_9 rfl (RdH.memM (k := 0) rfl hf00)) <| mv rfl <| ya (Yld.b2sC (xs := x01) und_23 und_5 und_9 rfl (RdH.memM (k := 0) rfl hf01)) <| ya (Yld.eqlStr (a := x00) (b := x01) rfl rfl) <| asn rfl <| dn <| k2 _ _ <| re ?_
 injection h with h; subst h
 exact rt0 (ResIs.one rfl rfl)
theorem w_linear_Drops (M0 : Mem) (x00_0 x00_1 : Int) (x00_2 : BitVec 64) (x00_3 : BitVec 32) (A00_4 : Option Addr) (n00_4 c00_4 : Nat) (x00_4 : List (BitVec 8)) (hf00_4 : SlT M0 A00_4 n00_4 c00_4 x00_4) (A00_5 : Option Addr) (n00_5 c00_5 : Nat) (x00_5 : List (BitVec 8)) (hf00_5 : SlT M0 A00_5 n00_5 c00_5 x00_5) (x00_6 x00_7 x00_8 x00_9 : Int) {res : Bool} (h : m_linear_Drops x00_0 x00_1 x00_2 x00_3 x00_4 x00_5 x00_6 x00_7 x00_8 x00_9 = some res) :
  Fn Try.prog 14 #[.agg ([I64 x00_0, I64 x00_1, U64 x00_2, U32 x00_3, .slice A00_4 n00_4 c00_4, .slice A00_5 n00_5 c00_5, I64 x00_6, I64 x00_7, I64 x00_8, I64 x00_9] : List Value).toArray] M0 fun r M' es => r = .bool res /\ es = [] := by
 refine Fn.intro (N := 6) Try.func14 rfl rfl (Nat.le_of_ble_eq_true rfl) fun w0 => ?_
 unfold m_linear_Drops at h
 refine sr fun _ k1 => bb 102 [I64 x00_0, I64 x00_1, U64 x00_2, U32 x00_3, .slice A00_4 n00_4 c00_4, .slice A00_5 n00_5 c00_5, I64 x00_6, I64 x00_7, I64 x00_8, I64 x00_9] rfl fun g2 => asn rfl <| dn <| k1 _ _ <| sr fun _ k3 => ya (Yld.fieldAddr Try.underlying39 rfl nz_3 rfl rfl) <| ya (Yld.loadB (k := 102) scal_3 rfl rfl rfl) <| ya (Yld.eqlI rfl rfl) <| asn rfl <| dn <| k3 _ _ <| re ?_
 injection h with h; subst h
 exact rt0 (ResIs.one rfl rfl)
theorem w_linear_put (M0 : Mem) (x00_0 : Bool) (x00_1 : BitVec 32) (A00_2 : Option Addr) (n00_2 c00_2 : Nat) (x00_2 : List (BitVec 8)) (hf00_2 : SlT M0 A00_2 n00_2 c00_2 x00_2) (x01_0 x01_1 : Int) (x01_2 : BitVec 64) (x01_3 : BitVec 32) (A01_4 : Option Addr) (n01_4 c01_4 : Nat) (x01_4 : List (BitVec 8)) (hf01_4 : SlT M0 A01_4 n01_4 c01_4 x01_4) (A01_5 : Option Addr) (n01_5 c01_5 : Nat) (x01_5 : List (BitVec 8)) (hf01_5 : SlT M0 A01_5 n01_5 c01_5 x01_5) (x01_6 x01_7 x01_8 x01_9 : Int) {res : Bool × (BitVec 32) × (List (BitVec 8)) × Bool} (h : m_linear_put x00_0 x00_1 x00_2 x01_0 x01_1 x01_2 x01_3 x01_4 x01_5 x01_6 x01_7 x01_8 x01_9 = some res) :
  Fn Try.prog 28 #[.agg ([.bool x00_0, U32 x00_1, .slice A00_2 n00_2 c00_2] : List Value).toArray, .agg ([I64 x01_0, I64 x01_1, U64 x01_2, U32 x01_3, .slice A01_4 n01_4 c01_4, .slice A01_5 n01_5 c01_5, I64 x01_6, I64 x01_7, I64 x01_8, I64 x01_9] : List Value).toArray] M0 fun r M' es => ∃ (A1 : Option Addr) (n1 c1 : Nat), r = .tuple #[.agg ([.bool res.1, U32 res.2.1, .slice A1 n1 c1] : List Value).toArray, .bool res.2.2.2] /\ es = [] /\ SlT M' A1 n1 c1 res.2.2.1 := by
 refine Fn.intro (N := 33) Try.func28 rfl rfl (Nat.le_of_ble_eq_true rfl) fun w0 => ?_
 unfold m_linear_put at h
 refine sr fun _ k1 => bb 102 [.bool x00_0, U32 x00_1, .slice A00_2 n00_2 c00_2] rfl fun g2 => bb 103 [I64 x01_0, I64 x01_1, U64 x01_2, U32 x01_3, .slice A01_4 n01_4 c01_4, .slice A01_5 n01_5 c01_5, I64 x01_6, I64 x01_7, I64 x01_8, I64 x01_9] rfl fun g3 => al 104 zr_35 fun g4 => asn rfl <| dn <| k1 _ _ <| ct (σ := Unit) (fun _ => [(2, .pointer (some ⟨g2, 0, none⟩)), (3, .pointer (some ⟨g3, 0, none⟩)), (4, .pointer (some ⟨g4, 0, none⟩))]) (fun _ => [(0, .mem M0), (102, .blk g2 35 [.bool x00_0, U32 x00_1, .slice A00_2 n00_2 c00_2]), (103, .blk g3 39 [I64 x01_0, I64 x01_1, U64 x01_2, U32 x01_3, .slice A01_4 n01_4 c01_4, .slice A01_5 n01_5 c01_5, I64 x01_6, I64 x01_7, I64 x01_8, I64 x01_9]), (104, .blk g4 35 [.bool false, U32 0#32, .slice none 0 0])]) (fun _ => m_linear_put_j0 x00_0 x00_1 x00_2 x01_9 = some res) (fun _ k5 => ?_) ?_
 ·refine sr fun _ k6 => ?_
  obtain ⟨x7, hx7, h⟩ := bnd h
  refine ya (Yld.loadBM (k := 103) agg_39 rfl rfl rfl) <| c0 Try.func14 rfl (fun w hb hh => w_linear_Drops (Mem.snap w) x01_0 x01_1 x01_2 x01_3 A01_4 n01_4 c01_4 _ (RdH.sn (RdH.memM (k := 0) rfl hf01_4) w hb hh) A01_5 n01_5 c01_5 _ (RdH.sn (RdH.memM (k := 0) rfl hf01_5) w hb hh) x01_6 x01_7 x01_8 x01_9 hx7) <| mv rfl <| spl h id Bool.eq_false_iff.2 (fun hc9 h => ?_) fun hc9 h => ?_
  ·refine sk <| sk <| sk <| pt rfl rfl <| dn <| k6 _ _ <| cdT rfl <| sd [(0, _), (102, _), (103, _)] mixed fun _ k10 => ?_
   obtain ⟨x11, hx11, h⟩ := bnd h
   refine du 0 rfl (Yld.fieldAddr Try.underlying39 rfl nz_22 rfl rfl) <| du 1 rfl (Yld.loadB (k := 103) scal_22 rfl rfl rfl) <| du 2 rfl (Yld.fieldAddr Try.underlying39 rfl nz_23 rfl rfl) <| du 3 rfl (Yld.loadB (k := 103) scal_23 rfl rfl rfl) <| on 4 <| WS.eff rfl (by decide) (Eff.callS 115 rfl Try.func31 nm_31 rfl rfl (fun w hb hh => w_bytes_Clone (Mem.snap w) A01_4 n01_4 c01_4 _ (RdH.sn (RdH.memM (k := 0) rfl hf01_4) w hb hh) hx11)) ?_
   rintro _ _ ⟨_, ⟨A16, n17, c18, rfl, rfl⟩, rfl⟩
   refine ad ?_ (by repeat (first | exact sn | refine sc ?_))
   refine du 5 rfl (Yld.build rfl (bu_35_0_1_2 true x01_3 A16 n17 c18)) <| on 6 <| ds 104 rfl agg_35 rfl rfl rfl <| du 7 rfl (Yld.assign rfl) <| dd <| k10 _ _ <| re <| tr <| QK.freeze 115 rfl rfl rfl fun M19 hm_M19 hf20 => ?_
   injection h with h; subst h
   exact rt [] (ResIs.cellTmpM (k := 104) rfl agg_35 rfl rfl rfl rfl) hm_M19 ⟨A16, n17, c18, rfl, rfl, hf20⟩
  refine yg (Yld.fieldAddr Try.underlying39 rfl nz_27 rfl rfl) <| yg (Yld.loadB (k := 103) scal_27 rfl rfl rfl) <| yg (Yld.eqlI rfl rfl) <| pf rfl rfl <| dn <| k6 _ _ <| cnd h rfl beq_iff_eq.2 beq_eq_false_iff_ne.2 (fun hc21 h => ?_) fun hc21 h => ?_
  ·refine sd [(0, _), (102, _), (103, _)] mixed fun _ k22 => ?_
   obtain ⟨x23, hx23, h⟩ := bnd h
   refine du 0 rfl (Yld.fieldAddr Try.underlying39 rfl nz_22 rfl rfl) <| du 1 rfl (Yld.loadB (k := 103) scal_22 rfl rfl rfl) <| du 2 rfl (Yld.fieldAddr Try.underlying39 rfl nz_23 rfl rfl) <| du 3 rfl (Yld.loadB (k := 103) scal_23 rfl rfl rfl) <| on 4 <| WS.eff rfl (by decide) (Eff.callS 127 rfl Try.func31 nm_31 rfl rfl (fun w hb hh => w_bytes_Clone (Mem.snap w) A01_4 n01_4 c01_4 _ (RdH.sn (RdH.memM (k := 0) rfl hf01_4) w hb hh) hx23)) ?_
   rintro _ _ ⟨_, ⟨A28, n29, c30, rfl, rfl⟩, rfl⟩
   refine ad ?_ (by repeat (first | exact sn | refine sc ?_))
   refine du 5 rfl (Yld.build rfl (bu_35_0_1_2 true x01_3 A28 n29 c30)) <| on 6 <| ds 104 rfl agg_35 rfl rfl rfl <| du 7 rfl (Yld.assign rfl) <| dd <| k22 _ _ <| re <| tr <| QK.freeze 127 rfl rfl rfl fun M31 hm_M31 hf32 => ?_
   injection h with h; subst h
   exact rt [] (ResIs.cellTmpM (k := 104) rfl agg_35 rfl rfl rfl rfl) hm_M31 ⟨A28, n29, c30, rfl, rfl, hf32⟩
  exact WC.skip <| tn <| kw (k5 () h)
 rintro _ h
 unfold m_linear_put_j0 at h
 refine sd [(0, _), (102, _), (103, _)] mixed fun _ k33 => ?_
 by_cases hc34 : x01_9 = (8 : Int)
 ·replace h := of_t hc34 h
  refine du 0 rfl (Yld.loadBM (k := 102) agg_35 rfl rfl rfl) <| du 1 rfl (Yld.fieldAddr Try.underlying39 rfl nz_27 rfl rfl) <| du 2 rfl (Yld.loadB (k := 103) scal_27 rfl rfl rfl) <| du 3 rfl (Yld.eqlI rfl rfl) <| dm 4 rfl rfl <| WD.new (v' := .bool true) (congrArg Value.bool (beq_iff_eq.2 hc34)) <| dw 5 rfl <| dw 6 rfl <| dw 7 rfl <| du 8 rfl (Yld.pickT rfl rfl) <| dm 9 rfl rfl <| dw 10 rfl <| dw 11 rfl <| dw 12 rfl <| du 13 rfl (Yld.pickT rfl rfl) <| on 14 <| ds 104 rfl agg_35 rfl rfl rfl <| du 15 rfl (Yld.assign rfl) <| dd <| k33 _ _ <| re ?_
  injection h with h; subst h
  exact rt [] (ResIs.cellTmpM (k := 104) rfl agg_35 rfl rfl rfl rfl) (Ext.refl _ _) ⟨A00_2, n00_2, c00_2, rfl, rfl, hf00_2⟩
 replace h := of_f hc34 h
 by_cases hc35 : x01_9 = (9 : Int)
 ·replace h := of_t hc35 h
  refine du 0 rfl (Yld.loadBM (k := 102) agg_35 rfl rfl rfl) <| du 1 rfl (Yld.fieldAddr Try.underlying39 rfl nz_27 rfl rfl) <| du 2 rfl (Yld.loadB (k := 103) scal_27 rfl rfl rfl) <| du 3 rfl (Yld.eqlI rfl rfl) <| dm 4 rfl rfl <| WD.new (v' := .bool false) (congrArg Value.bool (beq_eq_false_iff_ne.2 hc34)) <| dv 5 rfl (Yld.fieldAddr Try.underlying39 rfl nz_27 rfl rfl) <| dv 6 rfl (Yld.loadB (k := 103) scal_27 rfl rfl rfl) <| dv 7 rfl (Yld.eqlI rfl rfl) <| du 8 rfl (Yld.pickF rfl rfl) <| dm 9 rfl rfl <| WD.new (v' := .bool true) (congrArg Value.bool (beq_iff_eq.2 hc35)) <| dw 10 rfl <| dw 11 rfl <| dw 12 rfl <| du 13 rfl (Yld.pickT rfl rfl) <| on 14 <| ds 104 rfl agg_35 rfl rfl rfl <| du 15 rfl (Yld.assign rfl) <| dd <| k33 _ _ <| re ?_
  injection h with h; subst h
  exact rt [] (ResIs.cellTmpM (k := 104) rfl agg_35 rfl rfl rfl rfl) (Ext.refl _ _) ⟨A00_2, n00_2, c00_2, rfl, rfl, hf00_2⟩
 replace h := of_f hc35 h
 refine du 0 rfl (Yld.loadBM (k := 102) agg_35 rfl rfl rfl) <| du 1 rfl (Yld.fieldAddr Try.underlying39 rfl nz_27 rfl rfl) <| du 2 rfl (Yld.loadB (k := 103) scal_27 rfl rfl rfl) <| du 3 rfl (Yld.eqlI rfl rfl) <| dm 4 rfl rfl <| WD.new (v' := .bool false) (congrArg Value.bool (beq_eq_false_iff_ne.2 hc34)) <| dv 5 rfl (Yld.fieldAddr Try.underlying39 rfl nz_27 rfl rfl) <| dv 6 rfl (Yld.loadB (k := 103) scal_27 rfl rfl rfl) <| dv 7 rfl (Yld.eqlI rfl rfl) <| du 8 rfl (Yld.pickF rfl rfl) <| dm 9 rfl rfl <| WD.new (v' := .bool false) (congrArg Value.bool (beq_eq_false_iff_ne.2 hc35)) <| dv 10 rfl (Yld.fieldAddr Try.underlying39 rfl nz_27 rfl rfl) <| dv 11 rfl (Yld.loadB (k := 103) scal_27 rfl rfl rfl) <| dv 12 rfl (Yld.eqlI rfl rfl) <| du 13 rfl (Yld.pickF rfl rfl) <| on 14 <| ds 104 rfl agg_35 rfl rfl rfl <| du 15 rfl (Yld.assign rfl) <| dd <| k33 _ _ <| re ?_
 injection h with h; subst h
 exact rt [] (ResIs.cellTmpM (k := 104) rfl agg_35 rfl rfl rfl rfl) (Ext.refl _ _) ⟨A00_2, n00_2, c00_2, rfl, rfl, hf00_2⟩
theorem w_linear_State_fits (M0 : Mem) (x00_0 : Bool) (x00_1 : BitVec 32) (A00_2 : Option Addr) (n00_2 c00_2 : Nat) (x00_2 : List (BitVec 8)) (hf00_2 : SlT M0 A00_2 n00_2 c00_2 x00_2) (x01 : BitVec 32) {res : Bool} (h : m_linear_State_fits x00_0 x00_1 x00_2 x01 = some res) :
  Fn Try.prog 45 #[.agg ([.bool x00_0, U32 x00_1, .slice A00_2 n00_2 c00_2] : List Value).toArray, U32 x01] M0 fun r M' es => r = .bool res /\ es = [] := by
 refine Fn.intro (N := 13) Try.func45 rfl rfl (Nat.le_of_ble_eq_true rfl) fun w0 => ?_
 unfold m_linear_State_fits at h
 refine sr fun _ k1 => bb 102 [.bool x00_0, U32 x00_1, .slice A00_2 n00_2 c00_2] rfl fun g2 => asn rfl <| dn <| k1 _ _ <| sr fun _ k3 => ya (Yld.fieldAddr Try.underlying35 rfl nz_4 rfl rfl) <| ya (Yld.loadB (k := 102) scal_4 rfl rfl rfl) <| mv rfl <| spl h id Bool.eq_false_iff.2 (fun hc4 h => ?_) fun hc4 h => ?_
 ·refine yg (Yld.fieldAddr Try.underlying35 rfl nz_22 rfl rfl) <| yg (Yld.loadB (k := 102) scal_22 rfl rfl rfl) <| mvg rfl <| yg (Yld.eql_u32 (a := x00_1) (b := x01) rfl rfl) <| pt rfl rfl <| asn rfl <| dn <| k3 _ _ <| re ?_
  injection h with h; subst h
  exact rt0 (ResIs.one rfl rfl)
 refine sk <| sk <| sk <| sk <| pf rfl rfl <| asn rfl <| dn <| k3 _ _ <| re ?_
 injection h with h; subst h
 exact rt0 (ResIs.one rfl rfl)
theorem w_linear_remove (M0 : Mem) (x00_0 : Bool) (x00_1 : BitVec 32) (A00_2 : Option Addr) (n00_2 c00_2 : Nat) (x00_2 : List (BitVec 8)) (hf00_2 : SlT M0 A00_2 n00_2 c00_2 x00_2) (x01_0 x01_1 : Int) (x01_2 : BitVec 64) (x01_3 : BitVec 32) (A01_4 : Option Addr) (n01_4 c01_4 : Nat) (x01_4 : List (BitVec 8)) (hf01_4 : SlT M0 A01_4 n01_4 c01_4 x01_4) (A01_5 : Option Addr) (n01_5 c01_5 : Nat) (x01_5 : List (BitVec 8)) (hf01_5 : SlT M0 A01_5 n01_5 c01_5 x01_5) (x01_6 x01_7 x01_8 x01_9 : Int) {res : Bool × (BitVec 32) × (List (BitVec 8)) × Bool} (h : m_linear_remove x00_0 x00_1 x00_2 x01_0 x01_1 x01_2 x01_3 x01_4 x01_5 x01_6 x01_7 x01_8 x01_9 = some res) :
  Fn Try.prog 29 #[.agg ([.bool x00_0, U32 x00_1, .slice A00_2 n00_2 c00_2] : List Value).toArray, .agg ([I64 x01_0, I64 x01_1, U64 x01_2, U32 x01_3, .slice A01_4 n01_4 c01_4, .slice A01_5 n01_5 c01_5, I64 x01_6, I64 x01_7, I64 x01_8, I64 x01_9] : List Value).toArray] M0 fun r M' es => ∃ (A1 : Option Addr) (n1 c1 : Nat), r = .tuple #[.agg ([.bool res.1, U32 res.2.1, .slice A1 n1 c1] : List Value).toArray, .bool res.2.2.2] /\ es = [] /\ SlT M' A1 n1 c1 res.2.2.1 := by
 refine Fn.intro (N := 38) Try.func29 rfl rfl (Nat.le_of_ble_eq_true rfl) fun w0 => ?_
 unfold m_linear_remove at h
 refine sr fun _ k1 => bb 102 [.bool x00_0, U32 x00_1, .slice A00_2 n00_2 c00_2] rfl fun g2 => bb 103 [I64 x01_0, I64 x01_1, U64 x01_2, U32 x01_3, .slice A01_4 n01_4 c01_4, .slice A01_5 n01_5 c01_5, I64 x01_6, I64 x01_7, I64 x01_8, I64 x01_9] rfl fun g3 => al 104 zr_35 fun g4 => asn rfl <| dn <| k1 _ _ <| sr fun _ k5 => ?_
 obtain ⟨x6, hx6, h⟩ := bnd h
 refine ya (Yld.loadBM (k := 102) agg_35 rfl rfl rfl) <| ya (Yld.fieldAddr Try.underlying39 rfl nz_22 rfl rfl) <| ya (Yld.loadB (k := 103) scal_22 rfl rfl rfl) <| c0 Try.func45 rfl (fun w hb hh => w_linear_State_fits (Mem.snap w) x00_0 x00_1 A00_2 n00_2 c00_2 _ (RdH.sn (RdH.memM (k := 0) rfl hf00_2) w hb hh) x01_3 hx6) <| asn rfl <| dn <| k5 _ _ <| sq fun _ k8 => bl <| ctr (σ := Bool) (fun x9 => [(2, .pointer (some ⟨g2, 0, none⟩)), (3, .pointer (some ⟨g3, 0, none⟩)), (4, .pointer (some ⟨g4, 0, none⟩)), (6, .bool x6), (11, .bool x9)]) (fun x9 => [(0, .mem M0), (102, .blk g2 35 [.bool x00_0, U32 x00_1, .slice A00_2 n00_2 c00_2]), (103, .blk g3 39 [I64 x01_0, I64 x01_1, U64 x01_2, U32 x01_3, .slice A01_4 n01_4 c01_4, .slice A01_5 n01_5 c01_5, I64 x01_6, I64 x01_7, I64 x01_8, I64 x01_9]), (104, .blk g4 35 [.bool false, U32 0#32, .slice none 0 0])]) (fun x9 => m_linear_remove_j0 x00_0 x00_1 x00_2 x01_0 x01_1 x01_2 x01_3 x01_4 x01_5 x01_6 x01_7 x01_8 x01_9 x6 x9 = some res) (fun _ k10 => ?_) ?_
 ·obtain ⟨x12, hx12, h⟩ := bnd h
  refine ya (Yld.loadBM (k := 103) agg_39 rfl rfl rfl) <| c0 Try.func14 rfl (fun w hb hh => w_linear_Drops (Mem.snap w) x01_0 x01_1 x01_2 x01_3 A01_4 n01_4 c01_4 _ (RdH.sn (RdH.memM (k := 0) rfl hf01_4) w hb hh) A01_5 n01_5 c01_5 _ (RdH.sn (RdH.memM (k := 0) rfl hf01_5) w hb hh) x01_6 x01_7 x01_8 x01_9 hx12) <| mv rfl <| spl h id Bool.eq_false_iff.2 (fun hc14 h => ?_) fun hc14 h => ?_
  ·exact mvg rfl <| yg (Yld.notB rfl) <| pt rfl rfl <| asn rfl <| WL.done <| kw (k10 (!x6) h)
  exact sk <| sk <| pf rfl rfl <| asn rfl <| WL.done <| kw (k10 false h)
 rintro x9 h
 unfold m_linear_remove_j0 at h
 refine cnd h rfl id Bool.eq_false_iff.2 (fun hc15 h => ?_) fun hc15 h => ?_
 ·refine sr fun _ k16 => ya (Yld.loadBM (k := 102) agg_35 rfl rfl rfl) <| sb 104 agg_35 rfl rfl rfl <| asn rfl <| dn <| k16 _ _ <| re <| br <| tr ?_
  injection h with h; subst h
  exact rt [] (ResIs.cellTmpM (k := 104) rfl agg_35 rfl rfl rfl rfl) (Ext.refl _ _) ⟨A00_2, n00_2, c00_2, rfl, rfl, hf00_2⟩
 refine sq fun _ k17 => sr fun _ k18 => ?_
 obtain ⟨x19, hx19, h⟩ := bnd h
 refine ya (Yld.loadBM (k := 103) agg_39 rfl rfl rfl) <| c0 Try.func14 rfl (fun w hb hh => w_linear_Drops (Mem.snap w) x01_0 x01_1 x01_2 x01_3 A01_4 n01_4 c01_4 _ (RdH.sn (RdH.memM (k := 0) rfl hf01_4) w hb hh) A01_5 n01_5 c01_5 _ (RdH.sn (RdH.memM (k := 0) rfl hf01_5) w hb hh) x01_6 x01_7 x01_8 x01_9 hx19) <| asn rfl <| dn <| k18 _ _ <| cnd h rfl id Bool.eq_false_iff.2 (fun hc21 h => ?_) fun hc21 h => ?_
 ·refine ss <| k17 _ _ <| cnd h rfl id Bool.eq_false_iff.2 (fun hc22 h => ?_) fun hc22 h => ?_
  ·refine sr fun _ k23 => ya (Yld.build rfl (bu_35_)) <| mv rfl <| sb 104 agg_35 rfl rfl rfl <| asn rfl <| dn <| k23 _ _ <| re <| br <| tr ?_
   injection h with h; subst h
   exact rt [] (ResIs.cellTmpM (k := 104) rfl agg_35 rfl rfl rfl rfl) (Ext.refl _ _) ⟨none, 0, 0, rfl, rfl, SlT.nil⟩
  refine sr fun _ k24 => ya (Yld.fieldAddr Try.underlying39 rfl nz_27 rfl rfl) <| ya (Yld.loadB (k := 103) scal_27 rfl rfl rfl) <| ya (Yld.eqlI rfl rfl) <| asn rfl <| dn <| k24 _ _ <| cnd h rfl beq_iff_eq.2 beq_eq_false_iff_ne.2 (fun hc25 h => ?_) fun hc25 h => ?_
  ·refine sr fun _ k26 => ya (Yld.loadBM (k := 102) agg_35 rfl rfl rfl) <| mv rfl <| ya (Yld.notB rfl) <| sb 104 agg_35 rfl rfl rfl <| asn rfl <| dn <| k26 _ _ <| re <| br <| tr ?_
   injection h with h; subst h
   exact rt [] (ResIs.cellTmpM (k := 104) rfl agg_35 rfl rfl rfl rfl) (Ext.refl _ _) ⟨A00_2, n00_2, c00_2, rfl, rfl, hf00_2⟩
  refine WC.skip <| bn <| tn <| k8 _ _ <| sd [(0, _), (102, _), (103, _)] mixed fun _ k27 => ?_
  refine du 0 rfl (Yld.loadBM (k := 102) agg_35 rfl rfl rfl) <| du 1 rfl (Yld.fieldAddr Try.underlying39 rfl nz_27 rfl rfl) <| du 2 rfl (Yld.loadB (k := 103) scal_27 rfl rfl rfl) <| du 3 rfl (Yld.eqlI rfl rfl) <| on 4 <| ds 104 rfl agg_35 rfl rfl rfl <| du 5 rfl (Yld.assign rfl) <| dd <| k27 _ _ <| re ?_
  injection h with h; subst h
  exact rt [] (ResIs.cellTmpM (k := 104) rfl agg_35 rfl rfl rfl rfl) (Ext.refl _ _) ⟨A00_2, n00_2, c00_2, rfl, rfl, hf00_2⟩
 refine rg fun _ k28 => ya (Yld.fieldAddr Try.underlying39 rfl nz_27 rfl rfl) <| ya (Yld.loadB (k := 103) scal_27 rfl rfl rfl) <| ya (Yld.eqlI rfl rfl) <| asn rfl <| dn <| k28 _ _ <| tn <| k17 _ _ <| cnd h rfl beq_iff_eq.2 beq_eq_false_iff_ne.2 (fun hc29 h => ?_) fun hc29 h => ?_
 ·refine sr fun _ k30 => ya (Yld.build rfl (bu_35_)) <| mv rfl <| sb 104 agg_35 rfl rfl rfl <| asn rfl <| dn <| k30 _ _ <| re <| br <| tr ?_
  injection h with h; subst h
  exact rt [] (ResIs.cellTmpM (k := 104) rfl agg_35 rfl rfl rfl rfl) (Ext.refl _ _) ⟨none, 0, 0, rfl, rfl, SlT.nil⟩
 refine sr fun _ k31 => ya (Yld.fieldAddr Try.underlying39 rfl nz_27 rfl rfl) <| ya (Yld.loadB (k := 103) scal_27 rfl rfl rfl) <| ya (Yld.eqlI rfl rfl) <| asn rfl <| dn <| k31 _ _ <| cnd h rfl beq_iff_eq.2 beq_eq_false_iff_ne.2 (fun hc32 h => ?_) fun hc32 h => ?_
 ·refine sr fun _ k33 => ya (Yld.loadBM (k := 102) agg_35 rfl rfl rfl) <| mv rfl <| ya (Yld.notB rfl) <| sb 104 agg_35 rfl rfl rfl <| asn rfl <| dn <| k33 _ _ <| re <| br <| tr ?_
  injection h with h; subst h
  exact rt [] (ResIs.cellTmpM (k := 104) rfl agg_35 rfl rfl rfl rfl) (Ext.refl _ _) ⟨A00_2, n00_2, c00_2, rfl, rfl, hf00_2⟩
 refine WC.skip <| bn <| tn <| k8 _ _ <| sd [(0, _), (102, _), (103, _)] mixed fun _ k34 => ?_
 refine du 0 rfl (Yld.loadBM (k := 102) agg_35 rfl rfl rfl) <| du 1 rfl (Yld.fieldAddr Try.underlying39 rfl nz_27 rfl rfl) <| du 2 rfl (Yld.loadB (k := 103) scal_27 rfl rfl rfl) <| du 3 rfl (Yld.eqlI rfl rfl) <| on 4 <| ds 104 rfl agg_35 rfl rfl rfl <| du 5 rfl (Yld.assign rfl) <| dd <| k34 _ _ <| re ?_
 injection h with h; subst h
 exact rt [] (ResIs.cellTmpM (k := 104) rfl agg_35 rfl rfl rfl rfl) (Ext.refl _ _) ⟨A00_2, n00_2, c00_2, rfl, rfl, hf00_2⟩
theorem w_linear_get (M0 : Mem) (x00_0 : Bool) (x00_1 : BitVec 32) (A00_2 : Option Addr) (n00_2 c00_2 : Nat) (x00_2 : List (BitVec 8)) (hf00_2 : SlT M0 A00_2 n00_2 c00_2 x00_2) (x01_0 x01_1 : Int) (x01_2 : BitVec 64) (x01_3 : BitVec 32) (A01_4 : Option Addr) (n01_4 c01_4 : Nat) (x01_4 : List (BitVec 8)) (hf01_4 : SlT M0 A01_4 n01_4 c01_4 x01_4) (A01_5 : Option Addr) (n01_5 c01_5 : Nat) (x01_5 : List (BitVec 8)) (hf01_5 : SlT M0 A01_5 n01_5 c01_5 x01_5) (x01_6 x01_7 x01_8 x01_9 : Int) {res : Bool × (BitVec 32) × (List (BitVec 8)) × Bool} (h : m_linear_get x00_0 x00_1 x00_2 x01_0 x01_1 x01_2 x01_3 x01_4 x01_5 x01_6 x01_7 x01_8 x01_9 = some res) :
  Fn Try.prog 30 #[.agg ([.bool x00_0, U32 x00_1, .slice A00_2 n00_2 c00_2] : List Value).toArray, .agg ([I64 x01_0, I64 x01_1, U64 x01_2, U32 x01_3, .slice A01_4 n01_4 c01_4, .slice A01_5 n01_5 c01_5, I64 x01_6, I64 x01_7, I64 x01_8, I64 x01_9] : List Value).toArray] M0 fun r M' es => ∃ (A1 : Option Addr) (n1 c1 : Nat), r = .tuple #[.agg ([.bool res.1, U32 res.2.1, .slice A1 n1 c1] : List Value).toArray, .bool res.2.2.2] /\ es = [] /\ SlT M' A1 n1 c1 res.2.2.1 := by
 refine Fn.intro (N := 39) Try.func30 rfl rfl (Nat.le_of_ble_eq_true rfl) fun w0 => ?_
 unfold m_linear_get at h
 refine sr fun _ k1 => bb 102 [.bool x00_0, U32 x00_1, .slice A00_2 n00_2 c00_2] rfl fun g2 => bb 103 [I64 x01_0, I64 x01_1, U64 x01_2, U32 x01_3, .slice A01_4 n01_4 c01_4, .slice A01_5 n01_5 c01_5, I64 x01_6, I64 x01_7, I64 x01_8, I64 x01_9] rfl fun g3 => al 104 zr_35 fun g4 => asn rfl <| dn <| k1 _ _ <| sr fun _ k5 => ?_
 obtain ⟨x6, hx6, h⟩ := bnd h
 refine ya (Yld.loadBM (k := 102) agg_35 rfl rfl rfl) <| ya (Yld.fieldAddr Try.underlying39 rfl nz_22 rfl rfl) <| ya (Yld.loadB (k := 103) scal_22 rfl rfl rfl) <| c0 Try.func45 rfl (fun w hb hh => w_linear_State_fits (Mem.snap w) x00_0 x00_1 A00_2 n00_2 c00_2 _ (RdH.sn (RdH.memM (k := 0) rfl hf00_2) w hb hh) x01_3 hx6) <| asn rfl <| dn <| k5 _ _ <| sq fun _ k8 => bl <| ct (σ := Bool) (fun x9 => [(2, .pointer (some ⟨g2, 0, none⟩)), (3, .pointer (some ⟨g3, 0, none⟩)), (4, .pointer (some ⟨g4, 0, none⟩)), (6, .bool x6), (11, .bool x9)]) (fun x9 => [(0, .mem M0), (102, .blk g2 35 [.bool x00_0, U32 x00_1, .slice A00_2 n00_2 c00_2]), (103, .blk g3 39 [I64 x01_0, I64 x01_1, U64 x01_2, U32 x01_3, .slice A01_4 n01_4 c01_4, .slice A01_5 n01_5 c01_5, I64 x01_6, I64 x01_7, I64 x01_8, I64 x01_9]), (104, .blk g4 35 [.bool false, U32 0#32, .slice none 0 0])]) (fun x9 => m_linear_get_j0 x00_0 x00_1 x00_2 x01_5 x01_9 x6 x9 = some res) (fun _ k10 => ?_) ?_
 ·refine sr fun _ k11 => ?_
  obtain ⟨x12, hx12, h⟩ := bnd h
  refine ya (Yld.loadBM (k := 103) agg_39 rfl rfl rfl) <| c0 Try.func14 rfl (fun w hb hh => w_linear_Drops (Mem.snap w) x01_0 x01_1 x01_2 x01_3 A01_4 n01_4 c01_4 _ (RdH.sn (RdH.memM (k := 0) rfl hf01_4) w hb hh) A01_5 n01_5 c01_5 _ (RdH.sn (RdH.memM (k := 0) rfl hf01_5) w hb hh) x01_6 x01_7 x01_8 x01_9 hx12) <| asn rfl <| dn <| k11 _ _ <| cnd h rfl id Bool.eq_false_iff.2 (fun hc14 h => ?_) fun hc14 h => ?_
  ·exact WC.skip <| tn <| kw (k10 x12 h)
  exact rg fun _ k15 => ya (Yld.fieldAddr Try.underlying39 rfl nz_27 rfl rfl) <| ya (Yld.loadB (k := 103) scal_27 rfl rfl rfl) <| ya (Yld.eqlI rfl rfl) <| asn rfl <| dn <| k15 _ _ <| tn <| kw (k10 (x01_9 == (11 : Int)) h)
 rintro x9 h
 unfold m_linear_get_j0 at h
 refine cnd h rfl id Bool.eq_false_iff.2 (fun hc16 h => ?_) fun hc16 h => ?_
 ·refine sr fun _ k17 => ya (Yld.loadBM (k := 102) agg_35 rfl rfl rfl) <| sb 104 agg_35 rfl rfl rfl <| asn rfl <| dn <| k17 _ _ <| re <| br <| tr ?_
  injection h with h; subst h
  exact rt [] (ResIs.cellTmpM (k := 104) rfl agg_35 rfl rfl rfl rfl) (Ext.refl _ _) ⟨A00_2, n00_2, c00_2, rfl, rfl, hf00_2⟩
 refine sr fun _ k18 => ya (Yld.fieldAddr Try.underlying39 rfl nz_27 rfl rfl) <| ya (Yld.loadB (k := 103) scal_27 rfl rfl rfl) <| ya (Yld.eqlI rfl rfl) <| asn rfl <| dn <| k18 _ _ <| cnd h rfl beq_iff_eq.2 beq_eq_false_iff_ne.2 (fun hc19 h => ?_) fun hc19 h => ?_
 ·refine sd [(0, _), (102, _), (103, _)] mixed fun _ k20 => ?_
  by_cases hc21 : x6 = true
  ·replace h := of_t hc21 h
   obtain ⟨x22, hx22, h⟩ := bnd h
   refine du 0 rfl (Yld.loadBM (k := 102) agg_35 rfl rfl rfl) <| dm 1 rfl rfl <| dm 2 rfl rfl <| WD.new (v' := .bool true) (congrArg Value.bool hc21) <| dv 3 rfl (Yld.fieldAddr Try.underlying35 rfl nz_23 rfl rfl) <| dv 4 rfl (Yld.loadB (k := 102) scal_23 rfl rfl rfl) <| dv 5 rfl (Yld.fieldAddr Try.underlying39 rfl nz_23 rfl rfl) <| dv 6 rfl (Yld.loadB (k := 103) scal_23 rfl rfl rfl) <| on 7 <| WS.effG rfl (by decide) rfl (Eff.callS 123 rfl Try.func46 nm_46 rfl rfl (fun w hb hh => w_bytes_Equal (Mem.snap w) A00_2 n00_2 c00_2 _ (RdH.sn (RdH.memM (k := 0) rfl hf00_2) w hb hh) A01_5 n01_5 c01_5 _ (RdH.sn (RdH.memM (k := 0) rfl hf01_5) w hb hh) hx22)) ?_
   rintro _ _ ⟨_, ⟨rfl, rfl⟩, rfl⟩
   refine ad ?_ (by repeat (first | exact sn | refine sc ?_))
   refine du 8 rfl (Yld.pickT rfl rfl) <| on 9 <| ds 104 rfl agg_35 rfl rfl rfl <| du 10 rfl (Yld.assign rfl) <| dd <| k20 _ _ <| re <| br <| tr ?_
   injection h with h; subst h
   exact rt [] (ResIs.cellTmpM (k := 104) rfl agg_35 rfl rfl rfl rfl) (Ext.refl _ _) ⟨A00_2, n00_2, c00_2, rfl, rfl, hf00_2⟩
  replace h := of_f hc21 h
  refine du 0 rfl (Yld.loadBM (k := 102) agg_35 rfl rfl rfl) <| dm 1 rfl rfl <| dm 2 rfl rfl <| WD.new (v' := .bool false) (congrArg Value.bool (Bool.eq_false_iff.2 hc21)) <| dw 3 rfl <| dw 4 rfl <| dw 5 rfl <| dw 6 rfl <| dw 7 rfl <| du 8 rfl (Yld.pickF rfl rfl) <| on 9 <| ds 104 rfl agg_35 rfl rfl rfl <| du 10 rfl (Yld.assign rfl) <| dd <| k20 _ _ <| re <| br <| tr ?_
  injection h with h; subst h
  exact rt [] (ResIs.cellTmpM (k := 104) rfl agg_35 rfl rfl rfl rfl) (Ext.refl _ _) ⟨A00_2, n00_2, c00_2, rfl, rfl, hf00_2⟩
 refine WC.skip <| bn <| tn <| k8 _ _ <| sr fun _ k24 => ya (Yld.loadBM (k := 102) agg_35 rfl rfl rfl) <| ya (Yld.fieldAddr Try.underlying39 rfl nz_27 rfl rfl) <| ya (Yld.loadB (k := 103) scal_27 rfl rfl rfl) <| ya (Yld.eqlI rfl rfl) <| mv rfl <| spl h beq_iff_eq.2 beq_eq_false_iff_ne.2 (fun hc25 h => ?_) fun hc25 h => ?_
 ·refine mvg rfl <| yg (Yld.notB rfl) <| pt rfl rfl <| sb 104 agg_35 rfl rfl rfl <| asn rfl <| dn <| k24 _ _ <| re ?_
  injection h with h; subst h
  exact rt [] (ResIs.cellTmpM (k := 104) rfl agg_35 rfl rfl rfl rfl) (Ext.refl _ _) ⟨A00_2, n00_2, c00_2, rfl, rfl, hf00_2⟩
 refine sk <| sk <| pf rfl rfl <| sb 104 agg_35 rfl rfl rfl <| asn rfl <| dn <| k24 _ _ <| re ?_
 injection h with h; subst h
 exact rt [] (ResIs.cellTmpM (k := 104) rfl agg_35 rfl rfl rfl rfl) (Ext.refl _ _) ⟨A00_2, n00_2, c00_2, rfl, rfl, hf00_2⟩
theorem w_linear_Step (M0 : Mem) (x00_0 : Bool) (x00_1 : BitVec 32) (A00_2 : Option Addr) (n00_2 c00_2 : Nat) (x00_2 : List (BitVec 8)) (hf00_2 : SlT M0 A00_2 n00_2 c00_2 x00_2) (x01_0 x01_1 : Int) (x01_2 : BitVec 64) (x01_3 : BitVec 32) (A01_4 : Option Addr) (n01_4 c01_4 : Nat) (x01_4 : List (BitVec 8)) (hf01_4 : SlT M0 A01_4 n01_4 c01_4 x01_4) (A01_5 : Option Addr) (n01_5 c01_5 : Nat) (x01_5 : List (BitVec 8)) (hf01_5 : SlT M0 A01_5 n01_5 c01_5 x01_5) (x01_6 x01_7 x01_8 x01_9 : Int) {res : Bool × (BitVec 32) × (List (BitVec 8)) × Bool} (h : m_linear_Step x00_0 x00_1 x00_2 x01_0 x01_1 x01_2 x01_3 x01_4 x01_5 x01_6 x01_7 x01_8 x01_9 = some res) :
  Fn Try.prog 10 #[.agg ([.bool x00_0, U32 x00_1, .slice A00_2 n00_2 c00_2] : List Value).toArray, .agg ([I64 x01_0, I64 x01_1, U64 x01_2, U32 x01_3, .slice A01_4 n01_4 c01_4, .slice A01_5 n01_5 c01_5, I64 x01_6, I64 x01_7, I64 x01_8, I64 x01_9] : List Value).toArray] M0 fun r M' es => ∃ (A1 : Option Addr) (n1 c1 : Nat), r = .tuple #[.agg ([.bool res.1, U32 res.2.1, .slice A1 n1 c1] : List Value).toArray, .bool res.2.2.2] /\ es = [.own 5 (Lay.sz (BitVec 8)) A1 n1 c1 (cel res.2.2.1)] := by
 refine Fn.intro (N := 43) Try.func10 rfl rfl (Nat.le_of_ble_eq_true rfl) fun w0 => ?_
 unfold m_linear_Step at h
 refine sr fun _ k1 => bb 102 [.bool x00_0, U32 x00_1, .slice A00_2 n00_2 c00_2] rfl fun g2 => bb 103 [I64 x01_0, I64 x01_1, U64 x01_2, U32 x01_3, .slice A01_4 n01_4 c01_4, .slice A01_5 n01_5 c01_5, I64 x01_6, I64 x01_7, I64 x01_8, I64 x01_9] rfl fun g3 => al 104 zr_35 fun g4 => asn rfl <| dn <| k1 _ _ <| sr fun _ k5 => ya (Yld.build rfl (bu_35_)) <| al 106 zr_35 fun g6 => sb 106 agg_35 rfl rfl rfl <| asn rfl <| dn <| k5 _ _ <| sq fun _ k7 => sr fun _ k8 => ya (Yld.fieldAddr Try.underlying39 rfl nz_3 rfl rfl) <| ya (Yld.loadB (k := 103) scal_3 rfl rfl rfl) <| dn <| k8 _ _ <| bl <| sr fun _ k9 => ya (Yld.eqlI rfl rfl) <| asn rfl <| dn <| k9 _ _ <| cnd h rfl beq_iff_eq.2 beq_eq_false_iff_ne.2 (fun hc10 h => ?_) fun hc10 h => ?_
 ·refine rg fun _ k11 => ?_
  obtain ⟨x12, hx12, h⟩ := bnd h
  refine ya (Yld.loadBM (k := 102) agg_35 rfl rfl rfl) <| ya (Yld.loadBM (k := 103) agg_39 rfl rfl rfl) <| WL.eff (by decide) (Eff.callM 117 rfl Try.func28 nm_28 rfl rfl rfl (w_linear_put _ x00_0 x00_1 A00_2 n00_2 c00_2 _ hf00_2 x01_0 x01_1 x01_2 x01_3 A01_4 n01_4 c01_4 _ hf01_4 A01_5 n01_5 c01_5 _ hf01_5 x01_6 x01_7 x01_8 x01_9 hx12)) ?_
  rintro _ _ ⟨M22, _, ⟨A23, n24, c25, rfl, rfl, hf26⟩, hm_M22, rfl⟩
  refine mv rfl <| ya (Yld.extract rfl rfl) <| ya (Yld.extract rfl rfl) <| sb 106 agg_35 rfl rfl rfl <| asn rfl <| dn <| k11 _ _ <| bn <| tn <| k7 _ _ <| sq fun _ k27 => sr fun _ k28 => mv rfl <| ya (Yld.notB rfl) <| dn <| k28 _ _ <| cnn h rfl not_f (fun q => not_t (Bool.eq_false_iff.2 q)) (fun hc29 h => ?_) fun hc29 h => ?_
  ·refine ss <| k27 _ _ <| sr fun _ k30 => ?_
   obtain ⟨x31, hx31, h⟩ := bnd h
   refine ya (Yld.fieldAddr Try.underlying35 rfl nz_23 rfl rfl) <| ya (Yld.loadB (k := 106) scal_23 rfl rfl rfl) <| c1 135 Try.func31 rfl (fun w hb hh => w_bytes_Clone (Mem.snap w) A23 n24 c25 _ (RdH.sn (RdH.memM (k := 0) rfl hf26) w hb hh) hx31) fun A36 n37 c38 => ya (Yld.fieldAddr Try.underlying35 rfl nz_23 rfl rfl) <| WL.eff0 (Eff0.storeB 106 siz_23 rfl rfl rfl rfl (Nat.le_of_ble_eq_true rfl)) <| dn <| k30 _ _ <| sr fun _ k39 => ya (Yld.loadBM (k := 106) agg_35 rfl rfl rfl) <| sb 104 agg_35 rfl rfl rfl <| asn rfl <| dn <| k39 _ _ <| re ?_
   injection h with h; subst h
   exact rt [135] (ResIs.cellTmpM (k := 104) rfl agg_35 rfl rfl rfl rfl) hm_M22 ⟨A36, n37, c38, rfl, rfl⟩
  refine sr fun _ k40 => ya (Yld.build rfl (bu_35_)) <| sb 104 agg_35 rfl rfl rfl <| asn rfl <| dn <| k40 _ _ <| re <| tr <| QK.nilOwn 141 5 (Lay.sz (BitVec 8)) none ?_
  injection h with h; subst h
  exact rt [141] (ResIs.cellTmpM (k := 104) rfl agg_35 rfl rfl rfl rfl) hm_M22 ⟨none, 0, 0, rfl, rfl⟩
 refine sr fun _ k42 => ya (Yld.eqlI rfl rfl) <| asn rfl <| dn <| k42 _ _ <| cnd h rfl beq_iff_eq.2 beq_eq_false_iff_ne.2 (fun hc43 h => ?_) fun hc43 h => ?_
 ·refine rg fun _ k44 => ?_
  obtain ⟨x45, hx45, h⟩ := bnd h
  refine ya (Yld.loadBM (k := 102) agg_35 rfl rfl rfl) <| ya (Yld.loadBM (k := 103) agg_39 rfl rfl rfl) <| WL.eff (by decide) (Eff.callM 150 rfl Try.func29 nm_29 rfl rfl rfl (w_linear_remove _ x00_0 x00_1 A00_2 n00_2 c00_2 _ hf00_2 x01_0 x01_1 x01_2 x01_3 A01_4 n01_4 c01_4 _ hf01_4 A01_5 n01_5 c01_5 _ hf01_5 x01_6 x01_7 x01_8 x01_9 hx45)) ?_
  rintro _ _ ⟨M55, _, ⟨A56, n57, c58, rfl, rfl, hf59⟩, hm_M55, rfl⟩
  refine mv rfl <| ya (Yld.extract rfl rfl) <| ya (Yld.extract rfl rfl) <| sb 106 agg_35 rfl rfl rfl <| asn rfl <| dn <| k44 _ _ <| bn <| tn <| k7 _ _ <| sq fun _ k60 => sr fun _ k61 => mv rfl <| ya (Yld.notB rfl) <| dn <| k61 _ _ <| cnn h rfl not_f (fun q => not_t (Bool.eq_false_iff.2 q)) (fun hc62 h => ?_) fun hc62 h => ?_
  ·refine ss <| k60 _ _ <| sr fun _ k63 => ?_
   obtain ⟨x64, hx64, h⟩ := bnd h
   refine ya (Yld.fieldAddr Try.underlying35 rfl nz_23 rfl rfl) <| ya (Yld.loadB (k := 106) scal_23 rfl rfl rfl) <| c1 168 Try.func31 rfl (fun w hb hh => w_bytes_Clone (Mem.snap w) A56 n57 c58 _ (RdH.sn (RdH.memM (k := 0) rfl hf59) w hb hh) hx64) fun A69 n70 c71 => ya (Yld.fieldAddr Try.underlying35 rfl nz_23 rfl rfl) <| WL.eff0 (Eff0.storeB 106 siz_23 rfl rfl rfl rfl (Nat.le_of_ble_eq_true rfl)) <| dn <| k63 _ _ <| sr fun _ k72 => ya (Yld.loadBM (k := 106) agg_35 rfl rfl rfl) <| sb 104 agg_35 rfl rfl rfl <| asn rfl <| dn <| k72 _ _ <| re ?_
   injection h with h; subst h
   exact rt [168] (ResIs.cellTmpM (k := 104) rfl agg_35 rfl rfl rfl rfl) hm_M55 ⟨A69, n70, c71, rfl, rfl⟩
  refine sr fun _ k73 => ya (Yld.build rfl (bu_35_)) <| sb 104 agg_35 rfl rfl rfl <| asn rfl <| dn <| k73 _ _ <| re <| tr <| QK.nilOwn 174 5 (Lay.sz (BitVec 8)) none ?_
  injection h with h; subst h
  exact rt [174] (ResIs.cellTmpM (k := 104) rfl agg_35 rfl rfl rfl rfl) hm_M55 ⟨none, 0, 0, rfl, rfl⟩
 refine sr fun _ k75 => ya (Yld.eqlI rfl rfl) <| asn rfl <| dn <| k75 _ _ <| cnd h rfl beq_iff_eq.2 beq_eq_false_iff_ne.2 (fun hc76 h => ?_) fun hc76 h => ?_
 ·refine rg fun _ k77 => ?_
  obtain ⟨x78, hx78, h⟩ := bnd h
  refine ya (Yld.loadBM (k := 102) agg_35 rfl rfl rfl) <| ya (Yld.loadBM (k := 103) agg_39 rfl rfl rfl) <| WL.eff (by decide) (Eff.callM 183 rfl Try.func30 nm_30 rfl rfl rfl (w_linear_get _ x00_0 x00_1 A00_2 n00_2 c00_2 _ hf00_2 x01_0 x01_1 x01_2 x01_3 A01_4 n01_4 c01_4 _ hf01_4 A01_5 n01_5 c01_5 _ hf01_5 x01_6 x01_7 x01_8 x01_9 hx78)) ?_
  rintro _ _ ⟨M88, _, ⟨A89, n90, c91, rfl, rfl, hf92⟩, hm_M88, rfl⟩
  refine mv rfl <| ya (Yld.extract rfl rfl) <| ya (Yld.extract rfl rfl) <| sb 106 agg_35 rfl rfl rfl <| asn rfl <| dn <| k77 _ _ <| bn <| tn <| k7 _ _ <| sq fun _ k93 => sr fun _ k94 => mv rfl <| ya (Yld.notB rfl) <| dn <| k94 _ _ <| cnn h rfl not_f (fun q => not_t (Bool.eq_false_iff.2 q)) (fun hc95 h => ?_) fun hc95 h => ?_
  ·refine ss <| k93 _ _ <| sr fun _ k96 => ?_
   obtain ⟨x97, hx97, h⟩ := bnd h
   refine ya (Yld.fieldAddr Try.underlying35 rfl nz_23 rfl rfl) <| ya (Yld.loadB (k := 106) scal_23 rfl rfl rfl) <| c1 201 Try.func31 rfl (fun w hb hh => w_bytes_Clone (Mem.snap w) A89 n90 c91 _ (RdH.sn (RdH.memM (k := 0) rfl hf92) w hb hh) hx97) fun A102 n103 c104 => ya (Yld.fieldAddr Try.underlying35 rfl nz_23 rfl rfl) <| WL.eff0 (Eff0.storeB 106 siz_23 rfl rfl rfl rfl (Nat.le_of_ble_eq_true rfl)) <| dn <| k96 _ _ <| sr fun _ k105 => ya (Yld.loadBM (k := 106) agg_35 rfl rfl rfl) <| sb 104 agg_35 rfl rfl rfl <| asn rfl <| dn <| k105 _ _ <| re ?_
   injection h with h; subst h
   exact rt [201] (ResIs.cellTmpM (k := 104) rfl agg_35 rfl rfl rfl rfl) hm_M88 ⟨A102, n103, c104, rfl, rfl⟩
  refine sr fun _ k106 => ya (Yld.build rfl (bu_35_)) <| sb 104 agg_35 rfl rfl rfl <| asn rfl <| dn <| k106 _ _ <| re <| tr <| QK.nilOwn 207 5 (Lay.sz (BitVec 8)) none ?_
  injection h with h; subst h
  exact rt [207] (ResIs.cellTmpM (k := 104) rfl agg_35 rfl rfl rfl rfl) hm_M88 ⟨none, 0, 0, rfl, rfl⟩
 refine WC.skip <| bn <| tn <| k7 _ _ <| sq fun _ k108 => sr fun _ k109 => mv rfl <| ya (Yld.notB rfl) <| dn <| k109 _ _ <| cdT rfl <| sr fun _ k110 => ya (Yld.build rfl (bu_35_)) <| sb 104 agg_35 rfl rfl rfl <| asn rfl <| dn <| k110 _ _ <| re <| tr <| QK.nilOwn 211 5 (Lay.sz (BitVec 8)) none ?_
 injection h with h; subst h
 exact rt [211] (ResIs.cellTmpM (k := 104) rfl agg_35 rfl rfl rfl rfl) (Ext.refl _ _) ⟨none, 0, 0, rfl, rfl⟩
end Go.Proofs.Ytkcccenekglkoaa
