/-
 Walks (g): what a function's model gives, the function returns. Printed by a program of ours (vcm.py) from the function's operations. Conditions: as each theorem says.
-/
import Derived.Test.YtkcccenekglkoaaWkf
import Derived.Test.YtkcccenekglkoaaMdg
namespace Go.Proofs.Ytkcccenekglkoaa
set_option maxRecDepth 100000
open Go Go.RowKit
set_option linter.unusedVariables false
def us_Slinear_point (q : Slinear_point) : List Value := [U32 q.fplaced, .bool q.fhas, U32 q.fcookie, .string (bstr q.fdata)]
def ek_Slinear_point (q : Slinear_point) : Value := .agg (us_Slinear_point q).toArray
theorem und_103 : Try.prog.underlying 103 = some (.map 106 4) := by kernel_rfl
theorem und_22 : Try.prog.underlying 22 = some (.int .u32) := by kernel_rfl
theorem und_4 : Try.prog.underlying 4 = some .bool := by kernel_rfl
theorem und_51 : Try.prog.underlying 51 = some (.slice 3) := by kernel_rfl
theorem agg_106 : Agg Try.prog 106 4 := ⟨⟨_, Try.underlying106, rfl⟩, by kernel_rfl⟩
theorem bu_106_0_1_2_3 : ∀ (a0 : BitVec 32) (a1 : Bool) (a2 : BitVec 32) (a3 : List (BitVec 8)), Try.prog.built 106 [(0, U32 a0), (1, .bool a1), (2, U32 a2), (3, .string (bstr a3))] = some ([U32 a0, .bool a1, U32 a2, .string (bstr a3)] : List Value).toArray := fun a0 a1 a2 a3 => by kernel_rfl
theorem nm_24 : (Try.f24.name == "runtime.NumGoroutine") = false := by kernel_rfl
theorem nm_25 : (Try.f25.name == "runtime.NumGoroutine") = false := by kernel_rfl
theorem nm_48 : (Try.f48.name == "runtime.NumGoroutine") = false := by kernel_rfl
theorem scal_103 : scal Try.prog 103 = true := by kernel_rfl
theorem scal_104 : scal Try.prog 104 = true := by kernel_rfl
theorem scal_51 : scal Try.prog 51 = true := by kernel_rfl
theorem scal_9 : scal Try.prog 9 = true := by kernel_rfl
theorem siz_103 : (Try.prog.info? 103).map (·.size) = some 1 := by kernel_rfl
theorem siz_104 : (Try.prog.info? 104).map (·.size) = some 1 := by kernel_rfl
theorem siz_51 : (Try.prog.info? 51).map (·.size) = some 1 := by kernel_rfl
theorem sty_51 : STy Try.prog 51 3 (I64 0) 1 8 := STy.of und_51 (by kernel_rfl) rfl
theorem zeqs_106 : ∀ (a0 b0 : BitVec 32) (a1 b1 : Bool) (a2 b2 : BitVec 32) (a3 b3 : List (BitVec 8)), EqA Try.prog 106 [U32 a0, Value.bool a1, U32 a2, Value.string (bstr a3)] [U32 b0, Value.bool b1, U32 b2, Value.string (bstr b3)] (decide (a0 = b0 /\ a1 = b1 /\ a2 = b2 /\ a3 = b3 /\ True)) := fun a0 b0 a1 b1 a2 b2 a3 b3 => EqA.struct (by kernel_rfl) (by kernel_rfl) (by kernel_rfl) (show (Try.prog.fieldsOf 106).toList = _ by simp only [Program.fieldsOf, Try.underlying106]; rfl) (EqF.cons (by decide) scal_22 rfl rfl (EqV.bv und_22) (EqF.cons (by decide) scal_4 rfl rfl (EqV.bool und_4) (EqF.cons (by decide) scal_22 rfl rfl (EqV.bv und_22) (EqF.cons (by decide) scal_9 rfl rfl (EqV.str und_9) EqF.nil))))
theorem zkeylE_106 : ∀ a b : Slinear_point, (a == b) = decide (a.fplaced = b.fplaced /\ a.fhas = b.fhas /\ a.fcookie = b.fcookie /\ a.fdata = b.fdata /\ True) := fun a b => by cases a; cases b; rw [Bool.eq_iff_iff, beq_iff_eq, decide_eq_true_iff, Slinear_point.mk.injEq]; simp
theorem zkeylF_106 : (Try.prog.fieldsOf 106).toList.all (flatFB Try.prog 4) = true := by kernel_rfl
theorem zkeylG_106 : Try.prog.underlying 106 = some (.struct (Try.prog.fieldsOf 106)) := by kernel_rfl
theorem zkeyl_106 : KeyL Try.prog 106 ek_Slinear_point := KeyL.struct (us := us_Slinear_point) (n := 4) zkeylG_106 (fun _ => rfl) (flatFB_all zkeylF_106) (fun a b => by rw [zkeylE_106 a b]; exact zeqs_106 a.fplaced b.fplaced a.fhas b.fhas a.fcookie b.fcookie a.fdata b.fdata) (fun a b h => by rw [beq_iff_eq] at h; rw [h]) (fun a => by simp [us_Slinear_point, Instr.sameBits, beq_bstr'])
theorem zr_103 : (Try.prog.info? 103).map (fun i => i.zero.map (·.cells)) = some (some ([.map none] : List Value).toArray) := by kernel_rfl
theorem zr_104 : (Try.prog.info? 104).map (fun i => i.zero.map (·.cells)) = some (some ([.nilFunc] : List Value).toArray) := by kernel_rfl
theorem zr_106 : (Try.prog.info? 106).map (fun i => i.zero.map (·.cells)) = some (some ([U32 0#32, .bool false, U32 0#32, .string (bstr ([] : List (BitVec 8)))] : List Value).toArray) := by kernel_rfl
theorem zr_51 : (Try.prog.info? 51).map (fun i => i.zero.map (·.cells)) = some (some ([.slice none 0 0] : List Value).toArray) := by kernel_rfl
theorem zv_4 : (Try.prog.info? 4).map (·.zero) = some (some (.bool false)) := by kernel_rfl
theorem w_linear_complete (M0 : Mem) (A00 : Option Addr) (n00 c00 : Nat) (rs00 : List Rhistory_Op) (x00 : List (Shistory_Op)) (hf00 : SlT M0 A00 n00 c00 rs00) (hq00 : Rels (rel_history_Op M0) rs00 x00) (x01 : BitVec 32) {res : Bool} (h : m_linear_complete x00 x01 = some res) :
  Fn Try.prog 49 #[.slice A00 n00 c00, U32 x01] M0 fun r M' es => r = .bool res /\ es = [] := by
 refine Fn.intro (N := 25) Try.func49 rfl rfl (Nat.le_of_ble_eq_true rfl) fun w0 => ?_
 unfold m_linear_complete at h
 refine sr fun _ k1 => asn rfl <| dn <| k1 _ _ <| ct (σ := Unit) (fun _ => []) (fun _ => [(0, .mem M0)]) (fun _ => m_linear_complete_j0 = some res) (fun _ k2 => ?_) ?_
 ·refine sr fun _ k3 => mv rfl <| ya (Yld.lenD (rs := rs00) (xs := x00) (Rels.len hq00) und_46 rfl (RdH.memM (k := 0) rfl hf00)) <| mv rfl <| dn <| k3 _ _ <| bl <| lp (τ := Int) (fun x4 => [(1, U32 x01), (7, .slice A00 n00 c00), (8, I64 (x00.length : Int)), (9, I64 x4)]) (fun x4 => [(0, .mem M0)]) (fun q5 x4 => m_linear_complete_l1 x00 x01 q5 x4 = some res) ((0 : Int)) ?_ (by simp [m_linear_complete_l1]) ?_
  ·exact h
  rintro q5 x4 h _ k6
  unfold m_linear_complete_l1 at h
  refine sr fun _ k7 => ya (Yld.lss rfl rfl) <| dn <| k7 _ _ <| sq fun _ k8 => cnd h rfl decide_eq_true decide_eq_false (fun hc9 h => ?_) fun hc9 h => ?_
  ·refine ss <| k8 _ _ <| sq fun _ k10 => bl <| sr fun _ k11 => ?_
   obtain ⟨x12, hx12, h⟩ := bnd h
   refine mv rfl ?_
   obtain ⟨⟨_, r_13_0, r_13_1⟩, hr14, rfl, hq15_0, hq15_1⟩ := Rels.idx hq00 hx12
   refine ya (Yld.idxC (xs := rs00) sty_46 rfl rfl (RdH.memM (k := 0) rfl hf00) hr14) <| ya (Yld.loadA (xs := rs00) agg_39 rfl (RdH.memM (k := 0) rfl hf00) hr14 rfl) <| al 116 zr_39 fun g16 => asn rfl <| sb 116 agg_39 rfl rfl rfl <| dn <| k11 _ _ <| sr fun _ k17 => ?_
   obtain ⟨x18, hx18, h⟩ := bnd h
   refine mv rfl <| mv rfl <| ya (Yld.shrC_u32 (a := x01) rfl rfl hx18) <| ya (Yld.and_u32 (a := x18) (b := 1#32) rfl rfl) <| ya (Yld.eql_u32 (a := (x18 &&& 1#32)) (b := 0#32) rfl rfl) <| mv rfl <| spl h beq_iff_eq.2 beq_eq_false_iff_ne.2 (fun hc19 h => ?_) fun hc19 h => ?_
   ·obtain ⟨x20, hx20, h⟩ := bnd h
    refine yg (Yld.loadBM (k := 116) agg_39 rfl rfl rfl) <| c0g Try.func14 rfl (fun w hb hh => w_linear_Drops (Mem.snap w) x12.fClient x12.fKind x12.fKey x12.fCookie r_13_0.A r_13_0.n r_13_0.c _ (RdH.sn (RdH.memM (k := 0) rfl hq15_0) w hb hh) r_13_1.A r_13_1.n r_13_1.c _ (RdH.sn (RdH.memM (k := 0) rfl hq15_1) w hb hh) x12.fCall x12.fReturn x12.fClosed x12.fResult hx20) <| yg (Yld.notB rfl) <| pt rfl rfl <| dn <| k17 _ _ <| cnn h rfl not_f (fun q => not_t (Bool.eq_false_iff.2 q)) (fun hc22 h => ?_) fun hc22 h => ?_
    ·refine WC.skip <| bn <| tn <| k10 _ _ <| rg fun _ k23 => ?_
     obtain ⟨x24, hx24, h⟩ := bnd h
     exact ya (Yld.addC rfl rfl hx24) <| mv rfl <| dn <| k23 _ _ <| tn <| kw (k6 (x24) h)
    refine sr fun _ k25 => asn rfl <| dn <| k25 _ _ <| re <| br <| tr <| tr <| br <| tr ?_
    injection h with h; subst h
    exact rt0 (ResIs.one rfl rfl)
   refine sk <| sk <| sk <| pf rfl rfl <| dn <| k17 _ _ <| cdF rfl <| WC.skip <| bn <| tn <| k10 _ _ <| rg fun _ k26 => ?_
   obtain ⟨x27, hx27, h⟩ := bnd h
   exact ya (Yld.addC rfl rfl hx27) <| mv rfl <| dn <| k26 _ _ <| tn <| kw (k6 (x27) h)
  exact xi <| te <| te <| bx <| tn <| kw (k2 () h)
 rintro _ h
 unfold m_linear_complete_j0 at h
 refine sr fun _ k28 => asn rfl <| dn <| k28 _ _ <| re ?_
 injection h with h; subst h
 exact rt0 (ResIs.one rfl rfl)
theorem w_linear_may (M0 : Mem) (A00 : Option Addr) (n00 c00 : Nat) (rs00 : List Rhistory_Op) (x00 : List (Shistory_Op)) (hf00 : SlT M0 A00 n00 c00 rs00) (hq00 : Rels (rel_history_Op M0) rs00 x00) (x01 : BitVec 32) (x02 : Int) {res : Bool} (h : m_linear_may x00 x01 x02 = some res) :
  Fn Try.prog 50 #[.slice A00 n00 c00, U32 x01, I64 x02] M0 fun r M' es => r = .bool res /\ es = [] := by
 refine Fn.intro (N := 49) Try.func50 rfl rfl (Nat.le_of_ble_eq_true rfl) fun w0 => ?_
 unfold m_linear_may at h
 refine sr fun _ k1 => asn rfl <| dn <| k1 _ _ <| ct (σ := Int) (fun x2 => [(1, U32 x01), (2, I64 x2)]) (fun x2 => [(0, .mem M0)]) (fun x2 => m_linear_may_j0 x01 x2 = some res) (fun _ k3 => ?_) ?_
 ·refine sr fun _ k4 => mv rfl <| ya (Yld.lenD (rs := rs00) (xs := x00) (Rels.len hq00) und_46 rfl (RdH.memM (k := 0) rfl hf00)) <| mv rfl <| dn <| k4 _ _ <| bl <| lp (τ := Int) (fun x5 => [(0, .slice A00 n00 c00), (1, U32 x01), (2, I64 x02), (9, .slice A00 n00 c00), (10, I64 (x00.length : Int)), (11, I64 x5)]) (fun x5 => [(0, .mem M0)]) (fun q6 x5 => m_linear_may_l1 x00 x01 x02 q6 x5 = some res) ((0 : Int)) ?_ (by simp [m_linear_may_l1]) ?_
  ·exact h
  rintro q6 x5 h _ k7
  unfold m_linear_may_l1 at h
  refine sr fun _ k8 => ya (Yld.lss rfl rfl) <| dn <| k8 _ _ <| sq fun _ k9 => cnd h rfl decide_eq_true decide_eq_false (fun hc10 h => ?_) fun hc10 h => ?_
  ·refine ss <| k9 _ _ <| sq fun _ k11 => bl <| sr fun _ k12 => ?_
   obtain ⟨x13, hx13, h⟩ := bnd h
   refine mv rfl ?_
   obtain ⟨⟨_, r_14_0, r_14_1⟩, hr15, rfl, hq16_0, hq16_1⟩ := Rels.idx hq00 hx13
   refine ya (Yld.idxC (xs := rs00) sty_46 rfl rfl (RdH.memM (k := 0) rfl hf00) hr15) <| ya (Yld.loadA (xs := rs00) agg_39 rfl (RdH.memM (k := 0) rfl hf00) hr15 rfl) <| al 117 zr_39 fun g17 => asn rfl <| sb 117 agg_39 rfl rfl rfl <| dn <| k12 _ _ <| sr fun _ k18 => ?_
   obtain ⟨x19, hx19, h⟩ := bnd h
   refine mv rfl <| mv rfl <| ya (Yld.shrC_u32 (a := x01) rfl rfl hx19) <| ya (Yld.and_u32 (a := x19) (b := 1#32) rfl rfl) <| ya (Yld.eql_u32 (a := (x19 &&& 1#32)) (b := 1#32) rfl rfl) <| dn <| k18 _ _ <| cnd h rfl beq_iff_eq.2 beq_eq_false_iff_ne.2 (fun hc20 h => ?_) fun hc20 h => ?_
   ·refine sd [(0, _), (117, _)] mixed fun _ k21 => ?_
    obtain ⟨x22, hx22, h⟩ := bnd h
    obtain ⟨x26, hx26, h⟩ := bnd h
    refine dm 0 rfl rfl <| dm 1 rfl rfl ?_
    obtain ⟨⟨_, r_23_0, r_23_1⟩, hr24, rfl, hq25_0, hq25_1⟩ := Rels.idx hq00 hx22
    refine du 2 rfl (Yld.idxC (xs := rs00) sty_46 rfl rfl (RdH.memM (k := 0) rfl hf00) hr24) <| du 3 rfl (Yld.loadA (xs := rs00) agg_39 rfl (RdH.memM (k := 0) rfl hf00) hr24 rfl) <| du 4 rfl (Yld.loadBM (k := 117) agg_39 rfl rfl rfl) <| on 5 <| d0 rfl Try.func47 rfl (fun w hb hh => w_history_Before (Mem.snap w) x22.fClient x22.fKind x22.fKey x22.fCookie r_23_0.A r_23_0.n r_23_0.c _ (RdH.sn (RdH.memM (k := 0) rfl hq25_0) w hb hh) r_23_1.A r_23_1.n r_23_1.c _ (RdH.sn (RdH.memM (k := 0) rfl hq25_1) w hb hh) x22.fCall x22.fReturn x22.fClosed x22.fResult x13.fClient x13.fKind x13.fKey x13.fCookie r_14_0.A r_14_0.n r_14_0.c _ (RdH.sn (RdH.memM (k := 0) rfl hq16_0) w hb hh) r_14_1.A r_14_1.n r_14_1.c _ (RdH.sn (RdH.memM (k := 0) rfl hq16_1) w hb hh) x13.fCall x13.fReturn x13.fClosed x13.fResult hx26) <| dd <| k21 _ _ <| cnd h rfl id Bool.eq_false_iff.2 (fun hc28 h => ?_) fun hc28 h => ?_
    ·refine sr fun _ k29 => asn rfl <| dn <| k29 _ _ <| re <| br <| tr <| tr <| br <| tr ?_
     injection h with h; subst h
     exact rt0 (ResIs.one rfl rfl)
    refine WC.skip <| bn <| tn <| k11 _ _ <| rg fun _ k30 => ?_
    obtain ⟨x31, hx31, h⟩ := bnd h
    exact ya (Yld.addC rfl rfl hx31) <| mv rfl <| dn <| k30 _ _ <| tn <| kw (k7 (x31) h)
   refine sd [(0, _), (117, _)] mixed fun _ k32 => ?_
   by_cases hc33 : x5 = x02
   ·replace h := of_t hc33 h
    refine dm 0 rfl rfl <| dm 1 rfl rfl <| du 2 rfl (Yld.neqI rfl rfl) <| dm 3 rfl rfl <| WD.new (v' := .bool false) (congrArg Value.bool (bne_eq_false_iff_eq.2 hc33)) <| dw 4 rfl <| dw 5 rfl <| dw 6 rfl <| du 7 rfl (Yld.pickF rfl rfl) <| dm 8 rfl rfl <| dw 9 rfl <| dw 10 rfl <| dw 11 rfl <| dw 12 rfl <| dw 13 rfl <| dw 14 rfl <| du 15 rfl (Yld.pickF rfl rfl) <| dd <| k32 _ _ <| cdF rfl <| WC.skip <| bn <| tn <| k11 _ _ <| rg fun _ k34 => ?_
    obtain ⟨x35, hx35, h⟩ := bnd h
    exact ya (Yld.addC rfl rfl hx35) <| mv rfl <| dn <| k34 _ _ <| tn <| kw (k7 (x35) h)
   replace h := of_f hc33 h
   obtain ⟨x36, hx36, h⟩ := bnd h
   by_cases hc38 : x36 = true
   ·replace h := of_t hc38 h
    refine dm 0 rfl rfl <| dm 1 rfl rfl <| du 2 rfl (Yld.neqI rfl rfl) <| dm 3 rfl rfl <| WD.new (v' := .bool true) (congrArg Value.bool (bne_iff_ne.2 hc33)) <| dv 4 rfl (Yld.loadBM (k := 117) agg_39 rfl rfl rfl) <| on 5 <| WS.effG rfl (by decide) rfl (Eff.callS 137 rfl Try.func14 nm_14 rfl rfl (fun w hb hh => w_linear_Drops (Mem.snap w) x13.fClient x13.fKind x13.fKey x13.fCookie r_14_0.A r_14_0.n r_14_0.c _ (RdH.sn (RdH.memM (k := 0) rfl hq16_0) w hb hh) r_14_1.A r_14_1.n r_14_1.c _ (RdH.sn (RdH.memM (k := 0) rfl hq16_1) w hb hh) x13.fCall x13.fReturn x13.fClosed x13.fResult hx36)) ?_
    rintro _ _ ⟨_, ⟨rfl, rfl⟩, rfl⟩
    refine ad ?_ (by repeat (first | exact sn | refine sc ?_))
    refine dv 6 rfl (Yld.notB rfl) <| du 7 rfl (Yld.pickT rfl rfl) <| dm 8 rfl rfl <| WD.new (v' := .bool false) (congrArg Value.bool (not_f hc38)) <| dw 9 rfl <| dw 10 rfl <| dw 11 rfl <| dw 12 rfl <| dw 13 rfl <| dw 14 rfl <| du 15 rfl (Yld.pickF rfl rfl) <| dd <| k32 _ _ <| cdF rfl <| WC.skip <| bn <| tn <| k11 _ _ <| rg fun _ k39 => ?_
    obtain ⟨x40, hx40, h⟩ := bnd h
    exact ya (Yld.addC rfl rfl hx40) <| mv rfl <| dn <| k39 _ _ <| tn <| kw (k7 (x40) h)
   replace h := of_f hc38 h
   obtain ⟨x41, hx41, h⟩ := bnd h
   obtain ⟨x45, hx45, h⟩ := bnd h
   refine dm 0 rfl rfl <| dm 1 rfl rfl <| du 2 rfl (Yld.neqI rfl rfl) <| dm 3 rfl rfl <| WD.new (v' := .bool true) (congrArg Value.bool (bne_iff_ne.2 hc33)) <| dv 4 rfl (Yld.loadBM (k := 117) agg_39 rfl rfl rfl) <| on 5 <| WS.effG rfl (by decide) rfl (Eff.callS 137 rfl Try.func14 nm_14 rfl rfl (fun w hb hh => w_linear_Drops (Mem.snap w) x13.fClient x13.fKind x13.fKey x13.fCookie r_14_0.A r_14_0.n r_14_0.c _ (RdH.sn (RdH.memM (k := 0) rfl hq16_0) w hb hh) r_14_1.A r_14_1.n r_14_1.c _ (RdH.sn (RdH.memM (k := 0) rfl hq16_1) w hb hh) x13.fCall x13.fReturn x13.fClosed x13.fResult hx36)) ?_
   rintro _ _ ⟨_, ⟨rfl, rfl⟩, rfl⟩
   refine ad ?_ (by repeat (first | exact sn | refine sc ?_))
   refine dv 6 rfl (Yld.notB rfl) <| du 7 rfl (Yld.pickT rfl rfl) <| dm 8 rfl rfl <| WD.new (v' := .bool true) (congrArg Value.bool (not_t (Bool.eq_false_iff.2 hc38))) <| dv 9 rfl (Yld.loadBM (k := 117) agg_39 rfl rfl rfl) <| dv 10 rfl (Yld.move rfl) <| dv 11 rfl (Yld.move rfl) ?_
   obtain ⟨⟨_, r_42_0, r_42_1⟩, hr43, rfl, hq44_0, hq44_1⟩ := Rels.idx hq00 hx41
   refine dv 12 rfl (Yld.idxC (xs := rs00) sty_46 rfl rfl (RdH.memM (k := 0) rfl hf00) hr43) <| dv 13 rfl (Yld.loadA (xs := rs00) agg_39 rfl (RdH.memM (k := 0) rfl hf00) hr43 rfl) <| on 14 <| WS.effG rfl (by decide) rfl (Eff.callS 146 rfl Try.func47 nm_47 rfl rfl (fun w hb hh => w_history_Before (Mem.snap w) x13.fClient x13.fKind x13.fKey x13.fCookie r_14_0.A r_14_0.n r_14_0.c _ (RdH.sn (RdH.memM (k := 0) rfl hq16_0) w hb hh) r_14_1.A r_14_1.n r_14_1.c _ (RdH.sn (RdH.memM (k := 0) rfl hq16_1) w hb hh) x13.fCall x13.fReturn x13.fClosed x13.fResult x41.fClient x41.fKind x41.fKey x41.fCookie r_42_0.A r_42_0.n r_42_0.c _ (RdH.sn (RdH.memM (k := 0) rfl hq44_0) w hb hh) r_42_1.A r_42_1.n r_42_1.c _ (RdH.sn (RdH.memM (k := 0) rfl hq44_1) w hb hh) x41.fCall x41.fReturn x41.fClosed x41.fResult hx45)) ?_
   rintro _ _ ⟨_, ⟨rfl, rfl⟩, rfl⟩
   refine ad ?_ (by repeat (first | exact sn | refine sc ?_))
   refine du 15 rfl (Yld.pickT rfl rfl) <| dd <| k32 _ _ <| cnd h rfl id Bool.eq_false_iff.2 (fun hc47 h => ?_) fun hc47 h => ?_
   ·refine sr fun _ k48 => asn rfl <| dn <| k48 _ _ <| re <| br <| tr <| tr <| br <| tr ?_
    injection h with h; subst h
    exact rt0 (ResIs.one rfl rfl)
   refine WC.skip <| bn <| tn <| k11 _ _ <| rg fun _ k49 => ?_
   obtain ⟨x50, hx50, h⟩ := bnd h
   exact ya (Yld.addC rfl rfl hx50) <| mv rfl <| dn <| k49 _ _ <| tn <| kw (k7 (x50) h)
  exact xi <| te <| te <| bx <| tn <| kw (k3 x02 h)
 rintro x2 h
 unfold m_linear_may_j0 at h
 refine sr fun _ k51 => ?_
 obtain ⟨x52, hx52, h⟩ := bnd h
 refine mv rfl <| mv rfl <| ya (Yld.shrC_u32 (a := x01) rfl rfl hx52) <| ya (Yld.and_u32 (a := x52) (b := 1#32) rfl rfl) <| ya (Yld.eql_u32 (a := (x52 &&& 1#32)) (b := 0#32) rfl rfl) <| asn rfl <| dn <| k51 _ _ <| re ?_
 injection h with h; subst h
 exact rt0 (ResIs.one rfl rfl)
theorem w_linear_find_1F (rc0 : (BitVec 32) -> Bool -> (BitVec 32) -> (List (BitVec 8)) -> (List (Shistory_Op)) -> (List (Slinear_point × Bool)) -> (List (Int)) -> Option (Bool × (List (Slinear_point × Bool)) × (List (Int)))) (hrc0 : ∀ (w0 : World) (e0 : HE) (M0 : Mem) (x00 : BitVec 32) (x01_0 : Bool) (x01_1 : BitVec 32) (A01_2 : Option Addr) (n01_2 c01_2 : Nat) (x01_2 : List (BitVec 8)) (hf01_2 : SlT M0 A01_2 n01_2 c01_2 x01_2) (g1 : Nat) (g2 : Nat) (es2 : List MapEntry) (cl2 : Nat) (x2 : List (Slinear_point × Bool)) (hmr2 : MapK ek_Slinear_point Value.bool es2 x2) (g3 : Nat) (A0c1 : Option Addr) (n0c1 c0c1 : Nat) (rs0c1 : List Rhistory_Op) (x0c1 : List (Shistory_Op)) (hf0c1 : SlT M0 A0c1 n0c1 c0c1 rs0c1) (hq0c1 : Rels (rel_history_Op M0) rs0c1 x0c1) (g4 : Nat) (A5 : Option Addr) (n5 c5 : Nat) (x5 : List (Int)) (g6 : Nat) {res : Bool × (List (Slinear_point × Bool)) × (List (Int))}, rc0 x00 x01_0 x01_1 x01_2 x0c1 x2 x5 = some res -> Tri Try.prog 48 #[U32 x00, .agg ([.bool x01_0, U32 x01_1, .slice A01_2 n01_2 c01_2] : List Value).toArray, .pointer (some ⟨g1, 0, none⟩), .pointer (some ⟨g3, 0, none⟩), .pointer (some ⟨g4, 0, none⟩), .pointer (some ⟨g6, 0, none⟩)] w0 [(1, e0), (0, HE.mem M0), (101, HE.blk g1 103 [.map (some g2)]), (102, HE.obj g2 (.map es2.toArray cl2)), (103, HE.blk g3 46 [.slice A0c1 n0c1 c0c1]), (104, HE.blk g4 51 [.slice A5 n5 c5]), (105, HE.own 3 (Lay.sz Int) A5 n5 c5 (cel x5)), (106, HE.blk g6 104 [.func (.func 48) #[] #[.pointer (some ⟨g1, 0, none⟩), .pointer (some ⟨g3, 0, none⟩), .pointer (some ⟨g4, 0, none⟩), .pointer (some ⟨g6, 0, none⟩)]])] fun r H' => ∃ x : Mem × List MapEntry × Nat × Option Addr × Nat × Nat, (r = .bool res.1 /\ Ext w0.heap.size M0 x.1 /\ MapK ek_Slinear_point Value.bool x.2.1 res.2.1) /\ H' = [(1, e0), (0, HE.mem x.1), (101, HE.blk g1 103 [.map (some g2)]), (102, HE.obj g2 (.map x.2.1.toArray x.2.2.1)), (103, HE.blk g3 46 [.slice A0c1 n0c1 c0c1]), (104, HE.blk g4 51 [.slice x.2.2.2.1 x.2.2.2.2.1 x.2.2.2.2.2]), (105, HE.own 3 (Lay.sz Int) x.2.2.2.1 x.2.2.2.2.1 x.2.2.2.2.2 (cel res.2.2)), (106, HE.blk g6 104 [.func (.func 48) #[] #[.pointer (some ⟨g1, 0, none⟩), .pointer (some ⟨g3, 0, none⟩), .pointer (some ⟨g4, 0, none⟩), .pointer (some ⟨g6, 0, none⟩)]])]) (w0 : World) (e0 : HE) (M0 : Mem) (x00 : BitVec 32) (x01_0 : Bool) (x01_1 : BitVec 32) (A01_2 : Option Addr) (n01_2 c01_2 : Nat) (x01_2 : List (BitVec 8)) (hf01_2 : SlT M0 A01_2 n01_2 c01_2 x01_2) (g1 g2 : Nat) (es2 : List MapEntry) (cl2 : Nat) (x2 : List (Slinear_point × Bool)) (hmr2 : MapK ek_Slinear_point Value.bool es2 x2) (g3 : Nat) (A0c1 : Option Addr) (n0c1 c0c1 : Nat) (rs0c1 : List Rhistory_Op) (x0c1 : List (Shistory_Op)) (hf0c1 : SlT M0 A0c1 n0c1 c0c1 rs0c1) (hq0c1 : Rels (rel_history_Op M0) rs0c1 x0c1) (g4 : Nat) (A5 : Option Addr) (n5 c5 : Nat) (x5 : List (Int)) (g6 : Nat) {res : Bool × (List (Slinear_point × Bool)) × (List (Int))} (h : m_linear_find_1F rc0 x00 x01_0 x01_1 x01_2 x0c1 x2 x5 = some res) :
  Tri Try.prog 48 #[U32 x00, .agg ([.bool x01_0, U32 x01_1, .slice A01_2 n01_2 c01_2] : List Value).toArray, .pointer (some ⟨g1, 0, none⟩), .pointer (some ⟨g3, 0, none⟩), .pointer (some ⟨g4, 0, none⟩), .pointer (some ⟨g6, 0, none⟩)] w0 [(1, e0), (0, HE.mem M0), (101, HE.blk g1 103 [.map (some g2)]), (102, HE.obj g2 (.map es2.toArray cl2)), (103, HE.blk g3 46 [.slice A0c1 n0c1 c0c1]), (104, HE.blk g4 51 [.slice A5 n5 c5]), (105, HE.own 3 (Lay.sz Int) A5 n5 c5 (cel x5)), (106, HE.blk g6 104 [.func (.func 48) #[] #[.pointer (some ⟨g1, 0, none⟩), .pointer (some ⟨g3, 0, none⟩), .pointer (some ⟨g4, 0, none⟩), .pointer (some ⟨g6, 0, none⟩)]])] fun r H' => ∃ x : Mem × List MapEntry × Nat × Option Addr × Nat × Nat, (r = .bool res.1 /\ Ext w0.heap.size M0 x.1 /\ MapK ek_Slinear_point Value.bool x.2.1 res.2.1) /\ H' = [(1, e0), (0, HE.mem x.1), (101, HE.blk g1 103 [.map (some g2)]), (102, HE.obj g2 (.map x.2.1.toArray x.2.2.1)), (103, HE.blk g3 46 [.slice A0c1 n0c1 c0c1]), (104, HE.blk g4 51 [.slice x.2.2.2.1 x.2.2.2.2.1 x.2.2.2.2.2]), (105, HE.own 3 (Lay.sz Int) x.2.2.2.1 x.2.2.2.2.1 x.2.2.2.2.2 (cel res.2.2)), (106, HE.blk g6 104 [.func (.func 48) #[] #[.pointer (some ⟨g1, 0, none⟩), .pointer (some ⟨g3, 0, none⟩), .pointer (some ⟨g4, 0, none⟩), .pointer (some ⟨g6, 0, none⟩)]])] := by
 refine Tri.intro (N := 70) Try.func48 rfl rfl (Nat.le_of_ble_eq_true rfl) ?_
 unfold m_linear_find_1F at h
 refine sr fun _ k8 => bb 109 [.bool x01_0, U32 x01_1, .slice A01_2 n01_2 c01_2] rfl fun g9 => asn rfl <| dn <| k8 _ _ <| sr fun _ k10 => mv rfl <| ya (Yld.fieldAddr Try.underlying35 rfl nz_4 rfl rfl) <| ya (Yld.loadB (k := 109) scal_4 rfl rfl rfl) <| ya (Yld.fieldAddr Try.underlying35 rfl nz_22 rfl rfl) <| ya (Yld.loadB (k := 109) scal_22 rfl rfl rfl) <| ya (Yld.fieldAddr Try.underlying35 rfl nz_23 rfl rfl) <| ya (Yld.loadB (k := 109) scal_23 rfl rfl rfl) <| ya (Yld.b2sC (xs := x01_2) und_23 und_5 und_9 rfl (RdH.memM (k := 0) rfl hf01_2)) <| ya (Yld.build rfl (bu_106_0_1_2_3 x00 x01_0 x01_1 x01_2)) <| al 111 zr_106 fun g11 => sb 111 agg_106 rfl rfl rfl <| dn <| k10 _ _ <| sq fun _ k12 => sr fun _ k13 => ya (Yld.loadB (k := 101) scal_103 rfl rfl rfl) <| ya (Yld.loadBM (k := 111) agg_106 rfl rfl rfl) <| ya (Yld.lookupK (k := 102) (ek := ek_Slinear_point) (ev := Value.bool) (m := x2) (q := (Slinear_point.mk x00 x01_0 x01_1 x01_2)) (zv := false) und_103 zkeyl_106 zv_4 rfl rfl rfl hmr2) <| dn <| k13 _ _ <| cnd h rfl id Bool.eq_false_iff.2 (fun hc14 h => ?_) fun hc14 h => ?_
 ·refine sr fun _ k15 => asn rfl <| dn <| k15 _ _ <| re <| tr ?_
  injection h with h; subst h
  exact Ret.tri [(1, e0), (0, .mem M0), (101, .blk g1 103 [.map (some g2)]), (102, .obj g2 (.map es2.toArray cl2)), (103, .blk g3 46 [.slice A0c1 n0c1 c0c1]), (104, .blk g4 51 [.slice A5 n5 c5]), (105, .own 3 (Lay.sz Int) A5 n5 c5 (cel x5)), (106, .blk g6 104 [.func (.func 48) #[] #[.pointer (some ⟨g1, 0, none⟩), .pointer (some ⟨g3, 0, none⟩), .pointer (some ⟨g4, 0, none⟩), .pointer (some ⟨g6, 0, none⟩)]])] (ResIs.one rfl rfl) (sc (sc (sc (sc (sc (sc (sc (sc sn)))))))) ⟨⟨M0, es2, cl2, A5, n5, c5⟩, ⟨rfl, (Ext.refl _ _), hmr2⟩, rfl⟩
 refine ss <| k12 _ _ <| sq fun _ k16 => sr fun _ k17 => ?_
 obtain ⟨x18, hx18, h⟩ := bnd h
 refine ya (Yld.loadB (k := 103) scal_46 rfl rfl rfl) <| mv rfl <| c0 Try.func49 rfl (fun w hb hh => w_linear_complete (Mem.snap w) A0c1 n0c1 c0c1 rs0c1 _ (RdH.sn (RdH.memM (k := 0) rfl hf0c1) w hb hh) (Rels.sn hq0c1 (hh.sat 0 _ rfl)) x00 hx18) <| dn <| k17 _ _ <| cnd h rfl id Bool.eq_false_iff.2 (fun hc20 h => ?_) fun hc20 h => ?_
 ·refine sr fun _ k21 => asn rfl <| dn <| k21 _ _ <| re <| tr ?_
  injection h with h; subst h
  exact Ret.tri [(1, e0), (0, .mem M0), (101, .blk g1 103 [.map (some g2)]), (102, .obj g2 (.map es2.toArray cl2)), (103, .blk g3 46 [.slice A0c1 n0c1 c0c1]), (104, .blk g4 51 [.slice A5 n5 c5]), (105, .own 3 (Lay.sz Int) A5 n5 c5 (cel x5)), (106, .blk g6 104 [.func (.func 48) #[] #[.pointer (some ⟨g1, 0, none⟩), .pointer (some ⟨g3, 0, none⟩), .pointer (some ⟨g4, 0, none⟩), .pointer (some ⟨g6, 0, none⟩)]])] (ResIs.one rfl rfl) (sc (sc (sc (sc (sc (sc (sc (sc sn)))))))) ⟨⟨M0, es2, cl2, A5, n5, c5⟩, ⟨rfl, (Ext.refl _ _), hmr2⟩, rfl⟩
 refine ss <| k16 _ _ <| ct (σ := Mem × (List MapEntry) × Nat × (List (Slinear_point × Bool)) × (Option Addr) × Nat × Nat × (List (Int))) (fun ⟨M22, es23, cl24, x25, A27, n28, c29, x30⟩ => [(2, .pointer (some ⟨g1, 0, none⟩)), (9, .pointer (some ⟨g11, 0, none⟩))]) (fun ⟨M22, es23, cl24, x25, A27, n28, c29, x30⟩ => [(0, .mem M22), (1, e0), (101, .blk g1 103 [.map (some g2)]), (102, .obj g2 (.map es23.toArray cl24)), (103, .blk g3 46 [.slice A0c1 n0c1 c0c1]), (104, .blk g4 51 [.slice A27 n28 c29]), (105, .own 3 (Lay.sz Int) A27 n28 c29 (cel x30)), (106, .blk g6 104 [.func (.func 48) #[] #[.pointer (some ⟨g1, 0, none⟩), .pointer (some ⟨g3, 0, none⟩), .pointer (some ⟨g4, 0, none⟩), .pointer (some ⟨g6, 0, none⟩)]]), (111, .blk g11 106 [U32 x00, .bool x01_0, U32 x01_1, .string (bstr x01_2)])]) (fun ⟨M22, es23, cl24, x25, A27, n28, c29, x30⟩ => m_linear_find_1_j0 x00 x01_0 x01_1 x01_2 x25 x30 = some res /\ Ext w0.heap.size M0 M22 /\ MapK ek_Slinear_point Value.bool es23 x25) (fun _ k31 => ?_) ?_
 ·refine sr fun _ k32 => ya (Yld.loadB (k := 103) scal_46 rfl rfl rfl) <| ya (Yld.lenD (rs := rs0c1) (xs := x0c1) (Rels.len hq0c1) und_46 rfl (RdH.memM (k := 0) rfl hf0c1)) <| mv rfl <| dn <| k32 _ _ <| bl <| lp (τ := Mem × (List MapEntry) × Nat × (List (Slinear_point × Bool)) × (Option Addr) × Nat × Nat × (List (Int)) × Int) (fun ⟨M33, es34, cl35, x36, A38, n39, c40, x41, x42⟩ => [(0, U32 x00), (2, .pointer (some ⟨g1, 0, none⟩)), (3, .pointer (some ⟨g3, 0, none⟩)), (4, .pointer (some ⟨g4, 0, none⟩)), (5, .pointer (some ⟨g6, 0, none⟩)), (7, .pointer (some ⟨g9, 0, none⟩)), (9, .pointer (some ⟨g11, 0, none⟩)), (29, .slice A0c1 n0c1 c0c1), (30, I64 (x0c1.length : Int)), (31, I64 x42)]) (fun ⟨M33, es34, cl35, x36, A38, n39, c40, x41, x42⟩ => [(0, .mem M33), (1, e0), (101, .blk g1 103 [.map (some g2)]), (102, .obj g2 (.map es34.toArray cl35)), (103, .blk g3 46 [.slice A0c1 n0c1 c0c1]), (104, .blk g4 51 [.slice A38 n39 c40]), (105, .own 3 (Lay.sz Int) A38 n39 c40 (cel x41)), (106, .blk g6 104 [.func (.func 48) #[] #[.pointer (some ⟨g1, 0, none⟩), .pointer (some ⟨g3, 0, none⟩), .pointer (some ⟨g4, 0, none⟩), .pointer (some ⟨g6, 0, none⟩)]]), (109, .blk g9 35 [.bool x01_0, U32 x01_1, .slice A01_2 n01_2 c01_2]), (111, .blk g11 106 [U32 x00, .bool x01_0, U32 x01_1, .string (bstr x01_2)])]) (fun q43 ⟨M33, es34, cl35, x36, A38, n39, c40, x41, x42⟩ => m_linear_find_1_l1 x00 x0c1 x01_0 x01_1 x01_2 rc0 q43 x36 x41 x42 = some res /\ Ext w0.heap.size M0 M33 /\ MapK ek_Slinear_point Value.bool es34 x36) ⟨M0, es2, cl2, x2, A5, n5, c5, x5, (0 : Int)⟩ ?_ (by simp [m_linear_find_1_l1]) ?_
  ·exact ⟨h, (Ext.refl _ _), hmr2⟩
  rintro q43 ⟨M33, es34, cl35, x36, A38, n39, c40, x41, x42⟩ ⟨h, hm_M33, hmr37⟩ _ k44
  unfold m_linear_find_1_l1 at h
  refine sr fun _ k45 => ya (Yld.lss rfl rfl) <| dn <| k45 _ _ <| sq fun _ k46 => cnd h rfl decide_eq_true decide_eq_false (fun hc47 h => ?_) fun hc47 h => ?_
  ·refine ss <| k46 _ _ <| sq fun _ k48 => bl <| sr fun _ k49 => ?_
   obtain ⟨x50, hx50, h⟩ := bnd h
   refine mv rfl ?_
   obtain ⟨⟨_, r_51_0, r_51_1⟩, hr52, rfl, hq53_0, hq53_1⟩ := Rels.idx (Rels.lift hq0c1 hm_M33) hx50
   refine ya (Yld.idxC (xs := rs0c1) sty_46 rfl rfl (RdH.memM (k := 0) rfl (SlRc.lift hf0c1 hm_M33)) hr52) <| ya (Yld.loadA (xs := rs0c1) agg_39 rfl (RdH.memM (k := 0) rfl (SlRc.lift hf0c1 hm_M33)) hr52 rfl) <| al 154 zr_39 fun g54 => asn rfl <| sb 154 agg_39 rfl rfl rfl <| dn <| k49 _ _ <| sr fun _ k55 => ?_
   obtain ⟨x56, hx56, h⟩ := bnd h
   refine ya (Yld.loadBM (k := 109) agg_35 rfl rfl rfl) <| ya (Yld.loadBM (k := 154) agg_39 rfl rfl rfl) <| c1 160 Try.func10 rfl (fun w hb hh => w_linear_Step (Mem.snap w) x01_0 x01_1 A01_2 n01_2 c01_2 _ (RdH.sn (RdH.memM (k := 0) rfl (SlRc.lift hf01_2 hm_M33)) w hb hh) x50.fClient x50.fKind x50.fKey x50.fCookie r_51_0.A r_51_0.n r_51_0.c _ (RdH.sn (RdH.memM (k := 0) rfl hq53_0) w hb hh) r_51_1.A r_51_1.n r_51_1.c _ (RdH.sn (RdH.memM (k := 0) rfl hq53_1) w hb hh) x50.fCall x50.fReturn x50.fClosed x50.fResult hx56) fun A61 n62 c63 => mv rfl <| ya (Yld.extract rfl rfl) <| ya (Yld.extract rfl rfl) <| al 164 zr_35 fun g64 => sb 164 agg_35 rfl rfl rfl <| asn rfl <| dn <| k55 _ _ <| ct (σ := Unit) (fun _ => [(0, U32 x00), (2, .pointer (some ⟨g1, 0, none⟩)), (3, .pointer (some ⟨g3, 0, none⟩)), (4, .pointer (some ⟨g4, 0, none⟩)), (5, .pointer (some ⟨g6, 0, none⟩)), (7, .pointer (some ⟨g9, 0, none⟩)), (9, .pointer (some ⟨g11, 0, none⟩)), (10, I64 x42), (12, .pointer (some ⟨g64, 0, none⟩)), (29, .slice A0c1 n0c1 c0c1), (30, I64 (x0c1.length : Int)), (31, I64 x42)]) (fun _ => [(0, .mem M33), (1, e0), (101, .blk g1 103 [.map (some g2)]), (102, .obj g2 (.map es34.toArray cl35)), (103, .blk g3 46 [.slice A0c1 n0c1 c0c1]), (104, .blk g4 51 [.slice A38 n39 c40]), (105, .own 3 (Lay.sz Int) A38 n39 c40 (cel x41)), (106, .blk g6 104 [.func (.func 48) #[] #[.pointer (some ⟨g1, 0, none⟩), .pointer (some ⟨g3, 0, none⟩), .pointer (some ⟨g4, 0, none⟩), .pointer (some ⟨g6, 0, none⟩)]]), (109, .blk g9 35 [.bool x01_0, U32 x01_1, .slice A01_2 n01_2 c01_2]), (111, .blk g11 106 [U32 x00, .bool x01_0, U32 x01_1, .string (bstr x01_2)]), (160, .own 5 (Lay.sz (BitVec 8)) A61 n62 c63 (cel x56.2.2.1)), (164, .blk g64 35 [.bool x56.1, U32 x56.2.1, .slice A61 n62 c63])]) (fun _ => m_linear_find_1_j2 x00 x0c1 x36 x41 x42 x56 rc0 (m_linear_find_1_l1 x00 x0c1 x01_0 x01_1 x01_2 rc0 q43) = some res) (fun _ k65 => ?_) ?_
   ·refine sr fun _ k66 => mv rfl <| ya (Yld.notB rfl) <| mv rfl <| spn h not_f (fun q => not_t (Bool.eq_false_iff.2 q)) (fun hc67 h => ?_) fun hc67 h => ?_
    ·obtain ⟨x68, hx68, h⟩ := bnd h
     refine yg (Yld.loadB (k := 103) scal_46 rfl rfl rfl) <| mvg rfl <| mvg rfl <| c0g Try.func50 rfl (fun w hb hh => w_linear_may (Mem.snap w) A0c1 n0c1 c0c1 rs0c1 _ (RdH.sn (RdH.memM (k := 0) rfl (SlRc.lift hf0c1 hm_M33)) w hb hh) (Rels.sn (Rels.lift hq0c1 hm_M33) (hh.sat 0 _ rfl)) x00 x42 hx68) <| yg (Yld.notB rfl) <| pf rfl rfl <| dn <| k66 _ _ <| cnn h rfl not_f (fun q => not_t (Bool.eq_false_iff.2 q)) (fun hc70 h => ?_) fun hc70 h => ?_
     ·exact WC.skip <| tn <| kw (k65 () h)
     refine xi <| te <| bx <| tn <| k48 _ _ <| rg fun _ k71 => ?_
     obtain ⟨x72, hx72, h⟩ := bnd h
     exact ya (Yld.addC rfl rfl hx72) <| mv rfl <| dn <| k71 _ _ <| tn <| kw (k44 ⟨M33, es34, cl35, x36, A38, n39, c40, x41, x72⟩ ⟨h, hm_M33, hmr37⟩)
    refine sk <| sk <| sk <| sk <| sk <| pt rfl rfl <| dn <| k66 _ _ <| cdT rfl <| xi <| te <| bx <| tn <| k48 _ _ <| rg fun _ k73 => ?_
    obtain ⟨x74, hx74, h⟩ := bnd h
    exact ya (Yld.addC rfl rfl hx74) <| mv rfl <| dn <| k73 _ _ <| tn <| kw (k44 ⟨M33, es34, cl35, x36, A38, n39, c40, x41, x74⟩ ⟨h, hm_M33, hmr37⟩)
   rintro _ h
   unfold m_linear_find_1_j2 at h
   refine sr fun _ k75 => ?_
   obtain ⟨x77, hx77, h⟩ := bnd h
   refine ya (Yld.loadB (k := 104) scal_51 rfl rfl rfl) <| mv rfl <| WL.eff (by decide) (Eff.buildC 176 ([x42] : List (Int)) sty_51 rfl rfl rfl rfl rfl (by decide)) ?_
   rintro _ _ ⟨g76, rfl, rfl⟩
   refine ap 105 (xs := x41) (ys := ([x42] : List (Int))) sty_51 rfl rfl rfl (RdH.own (k := 176) rfl) hx77 fun A78 c79 => WL.eff0 (Eff0.storeB 104 siz_51 rfl rfl rfl rfl (Nat.le_of_ble_eq_true rfl)) <| dn <| k75 _ _ <| sq fun _ k80 => sd [(1, _), (109, _), (111, _), (164, _), (176, _)] mixed fun _ k81 => ?_
   obtain ⟨x82, hx82, h⟩ := bnd h
   obtain ⟨x85, hx85, h⟩ := bnd h
   refine dm 1 rfl rfl <| dm 2 rfl rfl <| du 3 rfl (Yld.shlC_u32 (a := 1#32) rfl rfl hx82) <| du 4 rfl (Yld.or_u32 (a := x00) (b := x82) rfl rfl) <| du 5 rfl (Yld.loadBM (k := 164) agg_35 rfl rfl rfl) <| on 0 <| dy rfl (Yld.loadB (k := 106) scal_104 rfl rfl rfl) <| on 6 <| WS.freeze 160 rfl rfl rfl rfl rfl fun M83 hm_M83 hf84 => WS.eff rfl (by decide) (Eff.callVT rfl rfl Try.func48 nm_48 rfl rfl (Tri.frame (X := Mem × List MapEntry × Nat × Option Addr × Nat × Nat) [0, 101, 102, 103, 104, 105, 106] [0, 101, 102, 103, 104, 105, 106] [HE.mem M83, HE.blk g1 103 [.map (some g2)], HE.obj g2 (.map es34.toArray cl35), HE.blk g3 46 [.slice A0c1 n0c1 c0c1], HE.blk g4 51 [.slice A78 x77.length c79], HE.own 3 (Lay.sz Int) A78 x77.length c79 (cel x77), HE.blk g6 104 [.func (.func 48) #[] #[.pointer (some ⟨g1, 0, none⟩), .pointer (some ⟨g3, 0, none⟩), .pointer (some ⟨g4, 0, none⟩), .pointer (some ⟨g6, 0, none⟩)]]] (fun x r => r = .bool x85.1 /\ Ext w0.heap.size M83 x.1 /\ MapK ek_Slinear_point Value.bool x.2.1 x85.2.1) (fun x => [HE.mem x.1, HE.blk g1 103 [.map (some g2)], HE.obj g2 (.map x.2.1.toArray x.2.2.1), HE.blk g3 46 [.slice A0c1 n0c1 c0c1], HE.blk g4 51 [.slice x.2.2.2.1 x.2.2.2.2.1 x.2.2.2.2.2], HE.own 3 (Lay.sz Int) x.2.2.2.1 x.2.2.2.2.1 x.2.2.2.2.2 (cel x85.2.2), HE.blk g6 104 [.func (.func 48) #[] #[.pointer (some ⟨g1, 0, none⟩), .pointer (some ⟨g3, 0, none⟩), .pointer (some ⟨g4, 0, none⟩), .pointer (some ⟨g6, 0, none⟩)]]]) rfl (by decide) (by decide) (by decide) rfl (fun _ => rfl) (fun e0 => hrc0 w0 e0 _ (x00 ||| x82) x56.1 x56.2.1 A61 n62 c63 _ hf84 g1 g2 es34 cl35 x36 hmr37 g3 A0c1 n0c1 c0c1 rs0c1 _ (SlRc.lift (SlRc.lift hf0c1 hm_M33) hm_M83) (Rels.lift (Rels.lift hq0c1 hm_M33) hm_M83) g4 A78 x77.length c79 x77 g6 hx85))) ?_
   rintro _ _ ⟨⟨M86, es87, cl88, A89, n90, c91⟩, ⟨rfl, hm_M86, hmr92⟩, rfl⟩
   refine ad ?_ (by repeat (first | exact sn | refine sc ?_))
   refine dd <| k81 _ _ <| cnd h rfl id Bool.eq_false_iff.2 (fun hc93 h => ?_) fun hc93 h => ?_
   ·refine sr fun _ k94 => asn rfl <| dn <| k94 _ _ <| re <| tr <| br <| tr <| tr <| br <| tr ?_
    injection h with h; subst h
    exact Ret.tri [(1, e0), (0, .mem M86), (101, .blk g1 103 [.map (some g2)]), (102, .obj g2 (.map es87.toArray cl88)), (103, .blk g3 46 [.slice A0c1 n0c1 c0c1]), (104, .blk g4 51 [.slice A89 n90 c91]), (105, .own 3 (Lay.sz Int) A89 n90 c91 (cel x85.2.2)), (106, .blk g6 104 [.func (.func 48) #[] #[.pointer (some ⟨g1, 0, none⟩), .pointer (some ⟨g3, 0, none⟩), .pointer (some ⟨g4, 0, none⟩), .pointer (some ⟨g6, 0, none⟩)]])] (ResIs.one rfl rfl) (sc (sc (sc (sc (sc (sc (sc (sc sn)))))))) ⟨⟨M86, es87, cl88, A89, n90, c91⟩, ⟨rfl, (Ext.trans (Ext.trans hm_M33 hm_M83) hm_M86), hmr92⟩, rfl⟩
   refine ss <| k80 _ _ <| rg fun _ k95 => ?_
   obtain ⟨x96, hx96, h⟩ := bnd h
   obtain ⟨x97, hx97, h⟩ := bnd h
   refine ya (Yld.loadB (k := 104) scal_51 rfl rfl rfl) <| ya (Yld.loadB (k := 104) scal_51 rfl rfl rfl) <| ya (Yld.lenC (xs := x85.2.2) und_51 rfl (RdH.own (k := 105) rfl)) <| ya (Yld.subC rfl rfl hx96) <| ya (Yld.sliceHC (xs := x85.2.2) sty_51 rfl rfl (RdH.own (k := 105) rfl) hx97) <| WL.hs (HStep.cutTo (xs := x85.2.2) 105 rfl hx97) <| WL.eff0 (Eff0.storeB 104 siz_51 rfl rfl rfl rfl (Nat.le_of_ble_eq_true rfl)) <| dn <| k95 _ _ <| bn <| tn <| k48 _ _ <| rg fun _ k98 => ?_
   obtain ⟨x99, hx99, h⟩ := bnd h
   exact ya (Yld.addC rfl rfl hx99) <| mv rfl <| dn <| k98 _ _ <| tn <| kw (k44 ⟨M86, es87, cl88, x85.2.1, A89, x97.length, c91, x97, x99⟩ ⟨h, (Ext.trans (Ext.trans hm_M33 hm_M83) hm_M86), hmr92⟩)
  exact xi <| te <| te <| bx <| tn <| kw (k31 ⟨M33, es34, cl35, x36, A38, n39, c40, x41⟩ ⟨h, hm_M33, hmr37⟩)
 rintro ⟨M22, es23, cl24, x25, A27, n28, c29, x30⟩ ⟨h, hm_M22, hmr26⟩
 unfold m_linear_find_1_j0 at h
 refine sr fun _ k100 => ya (Yld.loadB (k := 101) scal_103 rfl rfl rfl) <| ya (Yld.loadBM (k := 111) agg_106 rfl rfl rfl) <| WL.eff0R (Eff0R.mapUpdK 102 (ek := ek_Slinear_point) (ev := Value.bool) (m := x25) (q := (Slinear_point.mk x00 x01_0 x01_1 x01_2)) (v := true) und_103 zkeyl_106 rfl rfl rfl rfl hmr26) ?_
 rintro _ ⟨es101, cl102, hmr103, rfl⟩
 refine dn <| k100 _ _ <| sr fun _ k104 => asn rfl <| dn <| k104 _ _ <| re ?_
 injection h with h; subst h
 exact Ret.tri [(1, e0), (0, .mem M22), (101, .blk g1 103 [.map (some g2)]), (102, .obj g2 (.map es101.toArray cl102)), (103, .blk g3 46 [.slice A0c1 n0c1 c0c1]), (104, .blk g4 51 [.slice A27 n28 c29]), (105, .own 3 (Lay.sz Int) A27 n28 c29 (cel x30)), (106, .blk g6 104 [.func (.func 48) #[] #[.pointer (some ⟨g1, 0, none⟩), .pointer (some ⟨g3, 0, none⟩), .pointer (some ⟨g4, 0, none⟩), .pointer (some ⟨g6, 0, none⟩)]])] (ResIs.one rfl rfl) (sc (sc (sc (sc (sc (sc (sc (sc sn)))))))) ⟨⟨M22, es101, cl102, A27, n28, c29⟩, ⟨rfl, hm_M22, hmr103⟩, rfl⟩
theorem w_linear_find_1R (q : Nat) : ∀ (w0 : World) (e0 : HE) (M0 : Mem) (x00 : BitVec 32) (x01_0 : Bool) (x01_1 : BitVec 32) (A01_2 : Option Addr) (n01_2 c01_2 : Nat) (x01_2 : List (BitVec 8)) (hf01_2 : SlT M0 A01_2 n01_2 c01_2 x01_2) (g1 : Nat) (g2 : Nat) (es2 : List MapEntry) (cl2 : Nat) (x2 : List (Slinear_point × Bool)) (hmr2 : MapK ek_Slinear_point Value.bool es2 x2) (g3 : Nat) (A0c1 : Option Addr) (n0c1 c0c1 : Nat) (rs0c1 : List Rhistory_Op) (x0c1 : List (Shistory_Op)) (hf0c1 : SlT M0 A0c1 n0c1 c0c1 rs0c1) (hq0c1 : Rels (rel_history_Op M0) rs0c1 x0c1) (g4 : Nat) (A5 : Option Addr) (n5 c5 : Nat) (x5 : List (Int)) (g6 : Nat) {res : Bool × (List (Slinear_point × Bool)) × (List (Int))}, m_linear_find_1R q x00 x01_0 x01_1 x01_2 x0c1 x2 x5 = some res -> Tri Try.prog 48 #[U32 x00, .agg ([.bool x01_0, U32 x01_1, .slice A01_2 n01_2 c01_2] : List Value).toArray, .pointer (some ⟨g1, 0, none⟩), .pointer (some ⟨g3, 0, none⟩), .pointer (some ⟨g4, 0, none⟩), .pointer (some ⟨g6, 0, none⟩)] w0 [(1, e0), (0, HE.mem M0), (101, HE.blk g1 103 [.map (some g2)]), (102, HE.obj g2 (.map es2.toArray cl2)), (103, HE.blk g3 46 [.slice A0c1 n0c1 c0c1]), (104, HE.blk g4 51 [.slice A5 n5 c5]), (105, HE.own 3 (Lay.sz Int) A5 n5 c5 (cel x5)), (106, HE.blk g6 104 [.func (.func 48) #[] #[.pointer (some ⟨g1, 0, none⟩), .pointer (some ⟨g3, 0, none⟩), .pointer (some ⟨g4, 0, none⟩), .pointer (some ⟨g6, 0, none⟩)]])] fun r H' => ∃ x : Mem × List MapEntry × Nat × Option Addr × Nat × Nat, (r = .bool res.1 /\ Ext w0.heap.size M0 x.1 /\ MapK ek_Slinear_point Value.bool x.2.1 res.2.1) /\ H' = [(1, e0), (0, HE.mem x.1), (101, HE.blk g1 103 [.map (some g2)]), (102, HE.obj g2 (.map x.2.1.toArray x.2.2.1)), (103, HE.blk g3 46 [.slice A0c1 n0c1 c0c1]), (104, HE.blk g4 51 [.slice x.2.2.2.1 x.2.2.2.2.1 x.2.2.2.2.2]), (105, HE.own 3 (Lay.sz Int) x.2.2.2.1 x.2.2.2.2.1 x.2.2.2.2.2 (cel res.2.2)), (106, HE.blk g6 104 [.func (.func 48) #[] #[.pointer (some ⟨g1, 0, none⟩), .pointer (some ⟨g3, 0, none⟩), .pointer (some ⟨g4, 0, none⟩), .pointer (some ⟨g6, 0, none⟩)]])] := by
 induction q with
 | zero => intro w0 e0 M0 x00 x01_0 x01_1 A01_2 n01_2 c01_2 x01_2 hf01_2 g1 g2 es2 cl2 x2 hmr2 g3 A0c1 n0c1 c0c1 rs0c1 x0c1 hf0c1 hq0c1 g4 A5 n5 c5 x5 g6 res h; cases h
 | succ q ih => intro w0 e0 M0 x00 x01_0 x01_1 A01_2 n01_2 c01_2 x01_2 hf01_2 g1 g2 es2 cl2 x2 hmr2 g3 A0c1 n0c1 c0c1 rs0c1 x0c1 hf0c1 hq0c1 g4 A5 n5 c5 x5 g6 res h; exact w_linear_find_1F (m_linear_find_1R q) ih w0 e0 M0 x00 x01_0 x01_1 A01_2 n01_2 c01_2 x01_2 hf01_2 g1 g2 es2 cl2 x2 hmr2 g3 A0c1 n0c1 c0c1 rs0c1 x0c1 hf0c1 hq0c1 g4 A5 n5 c5 x5 g6 h
theorem w_linear_find_1 (w0 : World) (e0 : HE) (M0 : Mem) (x00 : BitVec 32) (x01_0 : Bool) (x01_1 : BitVec 32) (A01_2 : Option Addr) (n01_2 c01_2 : Nat) (x01_2 : List (BitVec 8)) (hf01_2 : SlT M0 A01_2 n01_2 c01_2 x01_2) (g1 g2 : Nat) (es2 : List MapEntry) (cl2 : Nat) (x2 : List (Slinear_point × Bool)) (hmr2 : MapK ek_Slinear_point Value.bool es2 x2) (g3 : Nat) (A0c1 : Option Addr) (n0c1 c0c1 : Nat) (rs0c1 : List Rhistory_Op) (x0c1 : List (Shistory_Op)) (hf0c1 : SlT M0 A0c1 n0c1 c0c1 rs0c1) (hq0c1 : Rels (rel_history_Op M0) rs0c1 x0c1) (g4 : Nat) (A5 : Option Addr) (n5 c5 : Nat) (x5 : List (Int)) (g6 : Nat) {res : Bool × (List (Slinear_point × Bool)) × (List (Int))} (h : m_linear_find_1 x00 x01_0 x01_1 x01_2 x0c1 x2 x5 = some res) :
  Tri Try.prog 48 #[U32 x00, .agg ([.bool x01_0, U32 x01_1, .slice A01_2 n01_2 c01_2] : List Value).toArray, .pointer (some ⟨g1, 0, none⟩), .pointer (some ⟨g3, 0, none⟩), .pointer (some ⟨g4, 0, none⟩), .pointer (some ⟨g6, 0, none⟩)] w0 [(1, e0), (0, HE.mem M0), (101, HE.blk g1 103 [.map (some g2)]), (102, HE.obj g2 (.map es2.toArray cl2)), (103, HE.blk g3 46 [.slice A0c1 n0c1 c0c1]), (104, HE.blk g4 51 [.slice A5 n5 c5]), (105, HE.own 3 (Lay.sz Int) A5 n5 c5 (cel x5)), (106, HE.blk g6 104 [.func (.func 48) #[] #[.pointer (some ⟨g1, 0, none⟩), .pointer (some ⟨g3, 0, none⟩), .pointer (some ⟨g4, 0, none⟩), .pointer (some ⟨g6, 0, none⟩)]])] fun r H' => ∃ x : Mem × List MapEntry × Nat × Option Addr × Nat × Nat, (r = .bool res.1 /\ Ext w0.heap.size M0 x.1 /\ MapK ek_Slinear_point Value.bool x.2.1 res.2.1) /\ H' = [(1, e0), (0, HE.mem x.1), (101, HE.blk g1 103 [.map (some g2)]), (102, HE.obj g2 (.map x.2.1.toArray x.2.2.1)), (103, HE.blk g3 46 [.slice A0c1 n0c1 c0c1]), (104, HE.blk g4 51 [.slice x.2.2.2.1 x.2.2.2.2.1 x.2.2.2.2.2]), (105, HE.own 3 (Lay.sz Int) x.2.2.2.1 x.2.2.2.2.1 x.2.2.2.2.2 (cel res.2.2)), (106, HE.blk g6 104 [.func (.func 48) #[] #[.pointer (some ⟨g1, 0, none⟩), .pointer (some ⟨g3, 0, none⟩), .pointer (some ⟨g4, 0, none⟩), .pointer (some ⟨g6, 0, none⟩)]])] := by
 exact w_linear_find_1R forever w0 e0 M0 x00 x01_0 x01_1 A01_2 n01_2 c01_2 x01_2 hf01_2 g1 g2 es2 cl2 x2 hmr2 g3 A0c1 n0c1 c0c1 rs0c1 x0c1 hf0c1 hq0c1 g4 A5 n5 c5 x5 g6 h
theorem w_linear_find (M0 : Mem) (A00 : Option Addr) (n00 c00 : Nat) (rs00 : List Rhistory_Op) (x00 : List (Shistory_Op)) (hf00 : SlT M0 A00 n00 c00 rs00) (hq00 : Rels (rel_history_Op M0) rs00 x00) (x01_0 : Bool) (x01_1 : BitVec 32) (A01_2 : Option Addr) (n01_2 c01_2 : Nat) (x01_2 : List (BitVec 8)) (hf01_2 : SlT M0 A01_2 n01_2 c01_2 x01_2) {res : (List (Int)) × Bool} (h : m_linear_find x00 x01_0 x01_1 x01_2 = some res) :
  Fn Try.prog 33 #[.slice A00 n00 c00, .agg ([.bool x01_0, U32 x01_1, .slice A01_2 n01_2 c01_2] : List Value).toArray] M0 fun r M' es => ∃ (A1 : Option Addr) (n1 c1 : Nat), r = .tuple #[.slice A1 n1 c1, .bool res.2] /\ es = [.own 3 (Lay.sz Int) A1 n1 c1 (cel res.1)] := by
 refine Fn.intro (N := 17) Try.func33 rfl rfl (Nat.le_of_ble_eq_true rfl) fun w0 => ?_
 unfold m_linear_find at h
 refine sr fun _ k1 => bb 102 [.slice A00 n00 c00] rfl fun g2 => bb 103 [.bool x01_0, U32 x01_1, .slice A01_2 n01_2 c01_2] rfl fun g3 => asn rfl <| asn rfl <| dn <| k1 _ _ <| sr fun _ k4 => al 105 zr_51 fun g5 => dn <| k4 _ _ <| sr fun _ k6 => WL.eff (by decide) (Eff.makeMap 107 rfl) ?_
 rintro _ _ ⟨g7, rfl, rfl⟩
 refine al 108 zr_103 fun g8 => WL.eff0 (Eff0.storeB 108 siz_103 rfl rfl rfl rfl (Nat.le_of_ble_eq_true rfl)) <| dn <| k6 _ _ <| sr fun _ k9 => al 110 zr_104 fun g10 => dn <| k9 _ _ <| sr fun _ k11 => ya (Yld.makeFunc rfl rfl) <| WL.eff0 (Eff0.storeB 110 siz_104 rfl rfl rfl rfl (Nat.le_of_ble_eq_true rfl)) <| dn <| k11 _ _ <| sr fun _ k12 => ?_
 obtain ⟨x14, hx14, h⟩ := bnd h
 refine ya (Yld.loadB (k := 110) scal_104 rfl rfl rfl) <| ya (Yld.loadBM (k := 103) agg_35 rfl rfl rfl) <| WL.nilOwn 113 3 (Lay.sz Int) none <| WL.eff (by decide) (Eff.callVT rfl rfl Try.func48 nm_48 rfl rfl (Tri.frame (X := Mem × List MapEntry × Nat × Option Addr × Nat × Nat) [0, 101, 102, 103, 104, 105, 106] [0, 108, 107, 102, 105, 113, 110] [HE.mem M0, HE.blk g8 103 [.map (some g7)], HE.obj g7 (.map ([] : List MapEntry).toArray 0), HE.blk g2 46 [.slice A00 n00 c00], HE.blk g5 51 [.slice none 0 0], HE.own 3 (Lay.sz Int) none 0 0 (cel ([] : List (Int))), HE.blk g10 104 [.func (.func 48) #[] #[.pointer (some ⟨g8, 0, none⟩), .pointer (some ⟨g2, 0, none⟩), .pointer (some ⟨g5, 0, none⟩), .pointer (some ⟨g10, 0, none⟩)]]] (fun x r => r = .bool x14.1 /\ Ext w0.heap.size M0 x.1 /\ MapK ek_Slinear_point Value.bool x.2.1 x14.2.1) (fun x => [HE.mem x.1, HE.blk g8 103 [.map (some g7)], HE.obj g7 (.map x.2.1.toArray x.2.2.1), HE.blk g2 46 [.slice A00 n00 c00], HE.blk g5 51 [.slice x.2.2.2.1 x.2.2.2.2.1 x.2.2.2.2.2], HE.own 3 (Lay.sz Int) x.2.2.2.1 x.2.2.2.2.1 x.2.2.2.2.2 (cel x14.2.2), HE.blk g10 104 [.func (.func 48) #[] #[.pointer (some ⟨g8, 0, none⟩), .pointer (some ⟨g2, 0, none⟩), .pointer (some ⟨g5, 0, none⟩), .pointer (some ⟨g10, 0, none⟩)]]]) rfl (by decide) (by decide) (by decide) rfl (fun _ => rfl) (fun e0 => w_linear_find_1 w0 e0 _ 0#32 x01_0 x01_1 A01_2 n01_2 c01_2 _ hf01_2 g8 g7 ([] : List MapEntry) 0 ([] : List (Slinear_point × Bool)) MapK.nil g2 A00 n00 c00 rs00 _ hf00 hq00 g5 none 0 0 ([] : List (Int)) g10 hx14))) ?_
 rintro _ _ ⟨⟨M15, es16, cl17, A18, n19, c20⟩, ⟨rfl, hm_M15, hmr21⟩, rfl⟩
 refine asn rfl <| dn <| k12 _ _ <| sr fun _ k22 => ya (Yld.loadB (k := 105) scal_51 rfl rfl rfl) <| mv rfl <| asn rfl <| asn rfl <| dn <| k22 _ _ <| re ?_
 injection h with h; subst h
 exact rt [113] (ResIs.two rfl rfl rfl) hm_M15 ⟨A18, n19, c20, rfl, rfl⟩
theorem w_linear_Check (M0 : Mem) (A00 : Option Addr) (n00 c00 : Nat) (rs00 : List Rhistory_Op) (x00 : List (Shistory_Op)) (hf00 : SlT M0 A00 n00 c00 rs00) (hq00 : Rels (rel_history_Op M0) rs00 x00) {res : Bool × Int} (h : m_linear_Check x00 = some res) :
  Fn Try.prog 16 #[.slice A00 n00 c00] M0 fun r M' es => r = .tuple #[.bool res.1, I64 res.2] /\ es = [] := by
 refine Fn.intro (N := 45) Try.func16 rfl rfl (Nat.le_of_ble_eq_true rfl) fun w0 => ?_
 unfold m_linear_Check at h
 refine sr fun _ k1 => asn rfl <| asn rfl <| dn <| k1 _ _ <| sq fun _ k2 => sr fun _ k3 => ?_
 obtain ⟨x4, hx4, h⟩ := bnd h
 refine mv rfl <| c0 Try.func32 rfl (fun w hb hh => w_history_Valid (Mem.snap w) A00 n00 c00 rs00 _ (RdH.sn (RdH.memM (k := 0) rfl hf00) w hb hh) (Rels.sn hq00 (hh.sat 0 _ rfl)) hx4) <| ya (Yld.notB rfl) <| dn <| k3 _ _ <| cnn h rfl not_f (fun q => not_t (Bool.eq_false_iff.2 q)) (fun hc6 h => ?_) fun hc6 h => ?_
 ·refine ss <| k2 _ _ <| sr fun _ k7 => ?_
  obtain ⟨x8, hx8, h⟩ := bnd h
  refine mv rfl <| WL.eff (by decide) (Eff.callM 113 rfl Try.func24 nm_24 rfl rfl rfl (w_history_Keys _ A00 n00 c00 rs00 _ hf00 hq00 hx8)) ?_
  rintro _ _ ⟨M18, _, ⟨A19, n20, c21, rfl, rfl, hf22⟩, hm_M18, rfl⟩
  refine asn rfl <| dn <| k7 _ _ <| ct (σ := Mem) (fun M23 => [(0, .slice A00 n00 c00), (4, .slice A19 n20 c21)]) (fun M23 => [(0, .mem M23)]) (fun M23 => m_linear_Check_j0 x00 x8 = some res /\ Ext w0.heap.size M18 M23) (fun _ k24 => ?_) ?_
  ·refine sr fun _ k25 => mv rfl <| ya (Yld.lenC (xs := x8) und_63 rfl (RdH.memM (k := 0) rfl hf22)) <| mv rfl <| dn <| k25 _ _ <| bl <| lp (τ := Mem × Int) (fun ⟨M26, x27⟩ => [(0, .slice A00 n00 c00), (4, .slice A19 n20 c21), (16, .slice A19 n20 c21), (17, I64 (x8.length : Int)), (18, I64 x27)]) (fun ⟨M26, x27⟩ => [(0, .mem M26)]) (fun q28 ⟨M26, x27⟩ => m_linear_Check_l1 x00 x8 q28 x27 = some res /\ Ext w0.heap.size M18 M26) ⟨M18, (0 : Int)⟩ ?_ (by simp [m_linear_Check_l1]) ?_
   ·exact ⟨h, (Ext.refl _ _)⟩
   rintro q28 ⟨M26, x27⟩ ⟨h, hm_M26⟩ _ k29
   unfold m_linear_Check_l1 at h
   refine sr fun _ k30 => ya (Yld.lss rfl rfl) <| dn <| k30 _ _ <| sq fun _ k31 => cnd h rfl decide_eq_true decide_eq_false (fun hc32 h => ?_) fun hc32 h => ?_
   ·refine ss <| k31 _ _ <| sq fun _ k33 => bl <| sr fun _ k34 => ?_
    obtain ⟨x35, hx35, h⟩ := bnd h
    refine ya (Yld.idxC (xs := x8) sty_63 rfl rfl (RdH.memM (k := 0) rfl (SlRc.lift hf22 hm_M26)) hx35) <| ya (Yld.loadC0 (xs := x8) scal_26 rfl (RdH.memM (k := 0) rfl (SlRc.lift hf22 hm_M26)) hx35 rfl) <| asn rfl <| dn <| k34 _ _ <| sr fun _ k36 => ?_
    obtain ⟨x37, hx37, h⟩ := bnd h
    refine mv rfl <| mv rfl <| WL.eff (by decide) (Eff.callM 143 rfl Try.func25 nm_25 rfl rfl rfl (w_history_Only _ A00 n00 c00 rs00 _ (SlRc.lift (SlRc.lift hf00 hm_M18) hm_M26) (Rels.lift (Rels.lift hq00 hm_M18) hm_M26) x35 hx37)) ?_
    rintro _ _ ⟨M49, _, ⟨A50, n51, c52, rs53, rfl, rfl, hq54⟩, hm_M49, rfl⟩
    refine ya (Yld.lenD (rs := rs53) (xs := x37) (Rels.len hq54) und_46 rfl (RdH.own (k := 143) rfl)) <| ya (Yld.gtr rfl rfl) <| dn <| k36 _ _ <| cnd h rfl decide_eq_true decide_eq_false (fun hc55 h => ?_) fun hc55 h => ?_
    ·refine sr fun _ k56 => asn rfl <| asn rfl <| dn <| k56 _ _ <| re <| br <| tr <| tr <| br <| tr ?_
     injection h with h; subst h
     exact rt [] (ResIs.two rfl rfl rfl) (Ext.trans (Ext.trans hm_M18 hm_M26) hm_M49) ⟨rfl, rfl⟩
    refine WC.skip <| bn <| tn <| k33 _ _ <| rg fun _ k57 => ?_
    obtain ⟨x58, hx58, h⟩ := bnd h
    exact ya (Yld.addC rfl rfl hx58) <| mv rfl <| dn <| k57 _ _ <| tn <| kw (k29 ⟨M49, x58⟩ ⟨h, (Ext.trans hm_M26 hm_M49)⟩)
   exact xi <| te <| te <| bx <| tn <| kw (k24 M26 ⟨h, hm_M26⟩)
  rintro M23 ⟨h, hm_M23⟩
  unfold m_linear_Check_j0 at h
  refine ct (σ := Mem) (fun M59 => []) (fun M59 => [(0, .mem M59)]) (fun M59 => m_linear_Check_j2 = some res /\ Ext w0.heap.size M23 M59) (fun _ k60 => ?_) ?_
  ·refine sr fun _ k61 => mv rfl <| ya (Yld.lenC (xs := x8) und_63 rfl (RdH.memM (k := 0) rfl (SlRc.lift hf22 hm_M23))) <| mv rfl <| dn <| k61 _ _ <| bl <| lp (τ := Mem × Int) (fun ⟨M62, x63⟩ => [(0, .slice A00 n00 c00), (28, .slice A19 n20 c21), (29, I64 (x8.length : Int)), (30, I64 x63)]) (fun ⟨M62, x63⟩ => [(0, .mem M62)]) (fun q64 ⟨M62, x63⟩ => m_linear_Check_l3 x00 x8 q64 x63 = some res /\ Ext w0.heap.size M23 M62) ⟨M23, (0 : Int)⟩ ?_ (by simp [m_linear_Check_l3]) ?_
   ·exact ⟨h, (Ext.refl _ _)⟩
   rintro q64 ⟨M62, x63⟩ ⟨h, hm_M62⟩ _ k65
   unfold m_linear_Check_l3 at h
   refine sr fun _ k66 => ya (Yld.lss rfl rfl) <| dn <| k66 _ _ <| sq fun _ k67 => cnd h rfl decide_eq_true decide_eq_false (fun hc68 h => ?_) fun hc68 h => ?_
   ·refine ss <| k67 _ _ <| sq fun _ k69 => bl <| sr fun _ k70 => ?_
    obtain ⟨x71, hx71, h⟩ := bnd h
    refine ya (Yld.idxC (xs := x8) sty_63 rfl rfl (RdH.memM (k := 0) rfl (SlRc.lift (SlRc.lift hf22 hm_M23) hm_M62)) hx71) <| ya (Yld.loadC0 (xs := x8) scal_26 rfl (RdH.memM (k := 0) rfl (SlRc.lift (SlRc.lift hf22 hm_M23) hm_M62)) hx71 rfl) <| asn rfl <| dn <| k70 _ _ <| sr fun _ k72 => ?_
    obtain ⟨x73, hx73, h⟩ := bnd h
    obtain ⟨x91, hx91, h⟩ := bnd h
    refine mv rfl <| mv rfl <| WL.eff (by decide) (Eff.callM 179 rfl Try.func25 nm_25 rfl rfl rfl (w_history_Only _ A00 n00 c00 rs00 _ (SlRc.lift (SlRc.lift (SlRc.lift hf00 hm_M18) hm_M23) hm_M62) (Rels.lift (Rels.lift (Rels.lift hq00 hm_M18) hm_M23) hm_M62) x71 hx73)) ?_
    rintro _ _ ⟨M85, _, ⟨A86, n87, c88, rs89, rfl, rfl, hq90⟩, hm_M85, rfl⟩
    refine ya (Yld.build rfl (bu_35_)) <| c1 195 Try.func33 rfl (fun w hb hh => w_linear_find (Mem.snap w) A86 n87 c88 rs89 _ (RdH.sn (RdH.own (k := 179) rfl) w hb hh) (Rels.sn hq90 (hh.sat 0 _ rfl)) false 0#32 none 0 0 _ (RdH.sn (RdT.nil (α := BitVec 8)) w hb hh) hx91) fun A96 n97 c98 => mv rfl <| ya (Yld.extract rfl rfl) <| ya (Yld.extract rfl rfl) <| asn rfl <| asn rfl <| dn <| k72 _ _ <| sr fun _ k99 => mv rfl <| ya (Yld.notB rfl) <| dn <| k99 _ _ <| cnn h rfl not_f (fun q => not_t (Bool.eq_false_iff.2 q)) (fun hc100 h => ?_) fun hc100 h => ?_
    ·refine WC.skip <| bn <| tn <| k69 _ _ <| rg fun _ k101 => ?_
     obtain ⟨x102, hx102, h⟩ := bnd h
     exact ya (Yld.addC rfl rfl hx102) <| mv rfl <| dn <| k101 _ _ <| tn <| kw (k65 ⟨M85, x102⟩ ⟨h, (Ext.trans hm_M62 hm_M85)⟩)
    refine sr fun _ k103 => asn rfl <| asn rfl <| dn <| k103 _ _ <| re <| br <| tr <| tr <| br <| tr ?_
    injection h with h; subst h
    exact rt [] (ResIs.two rfl rfl rfl) (Ext.trans (Ext.trans (Ext.trans hm_M18 hm_M23) hm_M62) hm_M85) ⟨rfl, rfl⟩
   exact xi <| te <| te <| bx <| tn <| kw (k60 M62 ⟨h, hm_M62⟩)
  rintro M59 ⟨h, hm_M59⟩
  unfold m_linear_Check_j2 at h
  refine sr fun _ k104 => asn rfl <| asn rfl <| dn <| k104 _ _ <| re ?_
  injection h with h; subst h
  exact rt [] (ResIs.two rfl rfl rfl) (Ext.trans (Ext.trans hm_M18 hm_M23) hm_M59) ⟨rfl, rfl⟩
 refine sr fun _ k105 => asn rfl <| asn rfl <| dn <| k105 _ _ <| re <| tr ?_
 injection h with h; subst h
 exact rt0 (ResIs.two rfl rfl rfl)
end Go.Proofs.Ytkcccenekglkoaa
