/-
 Walks (h): what a function's model gives, the function returns. Printed by a program of ours (vcm.py) from the function's operations. Conditions: as each theorem says.
-/
import Derived.Test.YtkcccenekglkoaaWkg
import Derived.Test.YtkcccenekglkoaaMdh
namespace Go.Proofs.Ytkcccenekglkoaa
set_option maxRecDepth 10000
open Go Go.RowKit
set_option linter.unusedVariables false
theorem und_86 : Try.prog.underlying 86 = some (.map 9 4) := by kernel_rfl
theorem keyl_9 : KeyL Try.prog 9 (MKey.ek (κ := List (BitVec 8))) := KeyL.flat (by kernel_rfl)
theorem nm_13 : (Try.f13.name == "runtime.NumGoroutine") = false := by kernel_rfl
theorem nm_36 : (Try.f36.name == "runtime.NumGoroutine") = false := by kernel_rfl
theorem some_22 : (Try.prog.underlying 22).isSome = true := by kernel_rfl
theorem w_r25_waits (M0 : Mem) (A00 : Option Addr) (n00 c00 : Nat) (rs00 : List Rneedlestoreref24_Op) (x00 : List (Sneedlestoreref24_Op)) (hf00 : SlT M0 A00 n00 c00 rs00) (hq00 : Rels (rel_needlestoreref24_Op M0) rs00 x00) (x01 x02 : Int) {res : Bool} (h : m_r25_waits x00 x01 x02 = some res) :
  Fn Try.prog 52 #[.slice A00 n00 c00, I64 x01, I64 x02] M0 fun r M' es => r = .bool res /\ es = [] := by
 refine Fn.intro (N := 31) Try.func52 rfl rfl (Nat.le_of_ble_eq_true rfl) fun w0 => ?_
 unfold m_r25_waits at h
 refine sr fun _ k1 => asn rfl <| dn <| k1 _ _ <| ct (σ := Unit) (fun _ => []) (fun _ => [(0, .mem M0)]) (fun _ => m_r25_waits_j0 = some res) (fun _ k2 => ?_) ?_
 ·refine sr fun _ k3 => asn rfl <| dn <| k3 _ _ <| bl <| lp (τ := Int) (fun x4 => [(0, .slice A00 n00 c00), (1, I64 x01), (2, I64 x02), (7, I64 x4)]) (fun x4 => [(0, .mem M0)]) (fun q5 x4 => m_r25_waits_l1 x00 x01 x02 q5 x4 = some res) ((0 : Int)) ?_ (by simp [m_r25_waits_l1]) ?_
  ·exact h
  rintro q5 x4 h _ k6
  unfold m_r25_waits_l1 at h
  refine sq fun _ k7 => sr fun _ k8 => mv rfl <| mv rfl <| ya (Yld.lenD (rs := rs00) (xs := x00) (Rels.len hq00) und_32 rfl (RdH.memM (k := 0) rfl hf00)) <| ya (Yld.lss rfl rfl) <| dn <| k8 _ _ <| cnd h rfl decide_eq_true decide_eq_false (fun hc9 h => ?_) fun hc9 h => ?_
  ·refine ss <| k7 _ _ <| sq fun _ k10 => bl <| sd [(0, _)] mixed fun _ k11 => ?_
   obtain ⟨x12, hx12, h⟩ := bnd h
   by_cases hc13 : (andi x12 (1 : Int)) = (0 : Int)
   ·replace h := of_t hc13 h
    obtain ⟨x14, hx14, h⟩ := bnd h
    obtain ⟨x18, hx18, h⟩ := bnd h
    obtain ⟨x22, hx22, h⟩ := bnd h
    refine dm 0 rfl rfl <| dm 1 rfl rfl <| du 2 rfl (Yld.conv_i64_u64 some_3 und_75 rfl) <| du 3 rfl (Yld.shrC rfl rfl hx12) <| du 4 rfl (Yld.andC rfl rfl) <| du 5 rfl (Yld.eqlI rfl rfl) <| dm 6 rfl rfl <| WD.new (v' := .bool true) (congrArg Value.bool (beq_iff_eq.2 hc13)) <| dv 7 rfl (Yld.move rfl) <| dv 8 rfl (Yld.move rfl) ?_
    obtain ⟨⟨_, r_15_0, r_15_1⟩, hr16, rfl, hq17_0, hq17_1⟩ := Rels.idx hq00 hx14
    refine dv 9 rfl (Yld.idxC (xs := rs00) sty_32 rfl rfl (RdH.memM (k := 0) rfl hf00) hr16) <| dv 10 rfl (Yld.loadA (xs := rs00) agg_29 rfl (RdH.memM (k := 0) rfl hf00) hr16 rfl) <| dv 11 rfl (Yld.move rfl) <| dv 12 rfl (Yld.move rfl) ?_
    obtain ⟨⟨_, r_19_0, r_19_1⟩, hr20, rfl, hq21_0, hq21_1⟩ := Rels.idx hq00 hx18
    refine dv 13 rfl (Yld.idxC (xs := rs00) sty_32 rfl rfl (RdH.memM (k := 0) rfl hf00) hr20) <| dv 14 rfl (Yld.loadA (xs := rs00) agg_29 rfl (RdH.memM (k := 0) rfl hf00) hr20 rfl) <| on 15 <| WS.effG rfl (by decide) rfl (Eff.callS 123 rfl Try.func35 nm_35 rfl rfl (fun w hb hh => w_r24_Before (Mem.snap w) x14.fClient x14.fKind x14.fKey x14.fCookie r_15_0.A r_15_0.n r_15_0.c _ (RdH.sn (RdH.memM (k := 0) rfl hq17_0) w hb hh) r_15_1.A r_15_1.n r_15_1.c _ (RdH.sn (RdH.memM (k := 0) rfl hq17_1) w hb hh) x14.fCall x14.fReturn x14.fClosed x14.fResult x18.fClient x18.fKind x18.fKey x18.fCookie r_19_0.A r_19_0.n r_19_0.c _ (RdH.sn (RdH.memM (k := 0) rfl hq21_0) w hb hh) r_19_1.A r_19_1.n r_19_1.c _ (RdH.sn (RdH.memM (k := 0) rfl hq21_1) w hb hh) x18.fCall x18.fReturn x18.fClosed x18.fResult hx22)) ?_
    rintro _ _ ⟨_, ⟨rfl, rfl⟩, rfl⟩
    refine ad ?_ (by repeat (first | exact sn | refine sc ?_))
    refine du 16 rfl (Yld.pickT rfl rfl) <| dd <| k11 _ _ <| cnd h rfl id Bool.eq_false_iff.2 (fun hc24 h => ?_) fun hc24 h => ?_
    ·refine sr fun _ k25 => asn rfl <| dn <| k25 _ _ <| re <| br <| tr <| tr <| br <| tr ?_
     injection h with h; subst h
     exact rt0 (ResIs.one rfl rfl)
    refine WC.skip <| bn <| tn <| k10 _ _ <| rg fun _ k26 => ?_
    obtain ⟨x27, hx27, h⟩ := bnd h
    exact mv rfl <| ya (Yld.addC rfl rfl hx27) <| asn rfl <| dn <| k26 _ _ <| tn <| kw (k6 (x27) h)
   replace h := of_f hc13 h
   refine dm 0 rfl rfl <| dm 1 rfl rfl <| du 2 rfl (Yld.conv_i64_u64 some_3 und_75 rfl) <| du 3 rfl (Yld.shrC rfl rfl hx12) <| du 4 rfl (Yld.andC rfl rfl) <| du 5 rfl (Yld.eqlI rfl rfl) <| dm 6 rfl rfl <| WD.new (v' := .bool false) (congrArg Value.bool (beq_eq_false_iff_ne.2 hc13)) <| dw 7 rfl <| dw 8 rfl <| dw 9 rfl <| dw 10 rfl <| dw 11 rfl <| dw 12 rfl <| dw 13 rfl <| dw 14 rfl <| dw 15 rfl <| du 16 rfl (Yld.pickF rfl rfl) <| dd <| k11 _ _ <| cdF rfl <| WC.skip <| bn <| tn <| k10 _ _ <| rg fun _ k28 => ?_
   obtain ⟨x29, hx29, h⟩ := bnd h
   exact mv rfl <| ya (Yld.addC rfl rfl hx29) <| asn rfl <| dn <| k28 _ _ <| tn <| kw (k6 (x29) h)
  exact xi <| te <| te <| bx <| tn <| kw (k2 () h)
 rintro _ h
 unfold m_r25_waits_j0 at h
 refine sr fun _ k30 => asn rfl <| dn <| k30 _ _ <| re ?_
 injection h with h; subst h
 exact rt0 (ResIs.one rfl rfl)
theorem w_r25_restF (rc0 : (List (Sneedlestoreref24_Op)) -> Bool -> (BitVec 32) -> (List (BitVec 8)) -> Int -> (List ((List (BitVec 8)) × Bool)) -> Option (Bool × (List ((List (BitVec 8)) × Bool)))) (hrc0 : ∀ (w0 : World) (e0 : HE) (M0 : Mem) (A00 : Option Addr) (n00 c00 : Nat) (rs00 : List Rneedlestoreref24_Op) (x00 : List (Sneedlestoreref24_Op)) (hf00 : SlT M0 A00 n00 c00 rs00) (hq00 : Rels (rel_needlestoreref24_Op M0) rs00 x00) (x01_0 : Bool) (x01_1 : BitVec 32) (A01_2 : Option Addr) (n01_2 c01_2 : Nat) (x01_2 : List (BitVec 8)) (hf01_2 : SlT M0 A01_2 n01_2 c01_2 x01_2) (x02 : Int) (g1 : Nat) (es1 : List MapEntry) (cl1 : Nat) (x1 : List ((List (BitVec 8)) × Bool)) (hmr1 : MapK (MKey.ek (κ := List (BitVec 8))) Value.bool es1 x1) {res : Bool × (List ((List (BitVec 8)) × Bool))}, rc0 x00 x01_0 x01_1 x01_2 x02 x1 = some res -> Tri Try.prog 36 #[.slice A00 n00 c00, .agg ([.bool x01_0, U32 x01_1, .slice A01_2 n01_2 c01_2] : List Value).toArray, I64 x02, .map (some g1)] w0 [(1, e0), (0, HE.mem M0), (101, HE.obj g1 (.map es1.toArray cl1))] fun r H' => ∃ x : Mem × List MapEntry × Nat, (r = .bool res.1 /\ Ext w0.heap.size M0 x.1 /\ MapK (MKey.ek (κ := List (BitVec 8))) Value.bool x.2.1 res.2) /\ H' = [(1, e0), (0, HE.mem x.1), (101, HE.obj g1 (.map x.2.1.toArray x.2.2))]) (w0 : World) (e0 : HE) (M0 : Mem) (A00 : Option Addr) (n00 c00 : Nat) (rs00 : List Rneedlestoreref24_Op) (x00 : List (Sneedlestoreref24_Op)) (hf00 : SlT M0 A00 n00 c00 rs00) (hq00 : Rels (rel_needlestoreref24_Op M0) rs00 x00) (x01_0 : Bool) (x01_1 : BitVec 32) (A01_2 : Option Addr) (n01_2 c01_2 : Nat) (x01_2 : List (BitVec 8)) (hf01_2 : SlT M0 A01_2 n01_2 c01_2 x01_2) (x02 : Int) (g1 : Nat) (es1 : List MapEntry) (cl1 : Nat) (x1 : List ((List (BitVec 8)) × Bool)) (hmr1 : MapK (MKey.ek (κ := List (BitVec 8))) Value.bool es1 x1) {res : Bool × (List ((List (BitVec 8)) × Bool))} (h : m_r25_restF rc0 x00 x01_0 x01_1 x01_2 x02 x1 = some res) :
  Tri Try.prog 36 #[.slice A00 n00 c00, .agg ([.bool x01_0, U32 x01_1, .slice A01_2 n01_2 c01_2] : List Value).toArray, I64 x02, .map (some g1)] w0 [(1, e0), (0, HE.mem M0), (101, HE.obj g1 (.map es1.toArray cl1))] fun r H' => ∃ x : Mem × List MapEntry × Nat, (r = .bool res.1 /\ Ext w0.heap.size M0 x.1 /\ MapK (MKey.ek (κ := List (BitVec 8))) Value.bool x.2.1 res.2) /\ H' = [(1, e0), (0, HE.mem x.1), (101, HE.obj g1 (.map x.2.1.toArray x.2.2))] := by
 refine Tri.intro (N := 133) Try.func36 rfl rfl (Nat.le_of_ble_eq_true rfl) ?_
 unfold m_r25_restF at h
 refine sr fun _ k3 => bb 104 [.bool x01_0, U32 x01_1, .slice A01_2 n01_2 c01_2] rfl fun g4 => asn rfl <| dn <| k3 _ _ <| sr fun _ k5 => asn rfl <| dn <| k5 _ _ <| ct (σ := Bool) (fun x6 => [(0, .slice A00 n00 c00), (2, I64 x02), (3, .map (some g1)), (5, .pointer (some ⟨g4, 0, none⟩)), (9, .bool x6)]) (fun x6 => [(0, .mem M0), (1, e0), (101, .obj g1 (.map es1.toArray cl1)), (104, .blk g4 25 [.bool x01_0, U32 x01_1, .slice A01_2 n01_2 c01_2])]) (fun x6 => m_r25_rest_j0 x00 x01_0 x01_1 x01_2 x02 x1 rc0 x6 = some res) (fun _ k7 => ?_) ?_
 ·refine sr fun _ k8 => asn rfl <| dn <| k8 _ _ <| bl <| lp (τ := Bool × Int) (fun ⟨x9, x10⟩ => [(0, .slice A00 n00 c00), (2, I64 x02), (3, .map (some g1)), (5, .pointer (some ⟨g4, 0, none⟩)), (9, .bool x9), (10, I64 x10)]) (fun ⟨x9, x10⟩ => [(0, .mem M0), (1, e0), (101, .obj g1 (.map es1.toArray cl1)), (104, .blk g4 25 [.bool x01_0, U32 x01_1, .slice A01_2 n01_2 c01_2])]) (fun q11 ⟨x9, x10⟩ => m_r25_rest_l1 x00 x01_0 x01_1 x01_2 x02 x1 rc0 q11 x9 x10 = some res) ⟨true, (0 : Int)⟩ ?_ (by simp [m_r25_rest_l1]) ?_
  ·exact h
  rintro q11 ⟨x9, x10⟩ h _ k12
  unfold m_r25_rest_l1 at h
  refine sq fun _ k13 => sr fun _ k14 => mv rfl <| mv rfl <| ya (Yld.lenD (rs := rs00) (xs := x00) (Rels.len hq00) und_32 rfl (RdH.memM (k := 0) rfl hf00)) <| ya (Yld.lss rfl rfl) <| dn <| k14 _ _ <| cnd h rfl decide_eq_true decide_eq_false (fun hc15 h => ?_) fun hc15 h => ?_
  ·refine ss <| k13 _ _ <| sq fun _ k16 => bl <| rg fun _ k17 => mv rfl <| mv rfl <| spl h id Bool.eq_false_iff.2 (fun hc18 h => ?_) fun hc18 h => ?_
   ·obtain ⟨x19, hx19, h⟩ := bnd h
    refine mvg rfl <| mvg rfl <| yg (Yld.conv_i64_u64 some_3 und_75 rfl) <| yg (Yld.shrC rfl rfl hx19) <| yg (Yld.andC rfl rfl) <| yg (Yld.eqlI rfl rfl) <| mvg rfl <| spl h beq_iff_eq.2 beq_eq_false_iff_ne.2 (fun hc20 h => ?_) fun hc20 h => ?_
    ·refine sk <| sk <| sk <| sk <| sk <| yg (Yld.pickT rfl rfl) <| pt rfl rfl <| asn rfl <| dn <| k17 _ _ <| bn <| tn <| k16 _ _ <| rg fun _ k21 => ?_
     obtain ⟨x22, hx22, h⟩ := bnd h
     exact mv rfl <| ya (Yld.addC rfl rfl hx22) <| asn rfl <| dn <| k21 _ _ <| tn <| kw (k12 ⟨true, x22⟩ h)
    obtain ⟨x23, hx23, h⟩ := bnd h
    obtain ⟨x27, hx27, h⟩ := bnd h
    refine mvg rfl <| mvg rfl ?_
    obtain ⟨⟨_, r_24_0, r_24_1⟩, hr25, rfl, hq26_0, hq26_1⟩ := Rels.idx hq00 hx23
    refine yg (Yld.idxC (xs := rs00) sty_32 rfl rfl (RdH.memM (k := 0) rfl hf00) hr25) <| yg (Yld.loadA (xs := rs00) agg_29 rfl (RdH.memM (k := 0) rfl hf00) hr25 rfl) <| c0g Try.func15 rfl (fun w hb hh => w_r25_Drops (Mem.snap w) x23.fClient x23.fKind x23.fKey x23.fCookie r_24_0.A r_24_0.n r_24_0.c _ (RdH.sn (RdH.memM (k := 0) rfl hq26_0) w hb hh) r_24_1.A r_24_1.n r_24_1.c _ (RdH.sn (RdH.memM (k := 0) rfl hq26_1) w hb hh) x23.fCall x23.fReturn x23.fClosed x23.fResult hx27) <| yg (Yld.pickF rfl rfl) <| pt rfl rfl <| asn rfl <| dn <| k17 _ _ <| bn <| tn <| k16 _ _ <| rg fun _ k29 => ?_
    obtain ⟨x30, hx30, h⟩ := bnd h
    exact mv rfl <| ya (Yld.addC rfl rfl hx30) <| asn rfl <| dn <| k29 _ _ <| tn <| kw (k12 ⟨x27, x30⟩ h)
   refine sk <| sk <| sk <| sk <| sk <| sk <| sk <| WL.skipU (by decide) rfl <| WL.skipU (by decide) rfl <| WL.skipU (by decide) rfl <| WL.skipU (by decide) rfl <| WL.skipU (by decide) rfl <| sk <| pf rfl rfl <| asn rfl <| dn <| k17 _ _ <| bn <| tn <| k16 _ _ <| rg fun _ k31 => ?_
   obtain ⟨x32, hx32, h⟩ := bnd h
   exact mv rfl <| ya (Yld.addC rfl rfl hx32) <| asn rfl <| dn <| k31 _ _ <| tn <| kw (k12 ⟨false, x32⟩ h)
  exact xi <| te <| te <| bx <| tn <| kw (k7 x9 h)
 rintro x6 h
 unfold m_r25_rest_j0 at h
 refine sq fun _ k33 => sr fun _ k34 => mv rfl <| dn <| k34 _ _ <| cnd h rfl id Bool.eq_false_iff.2 (fun hc35 h => ?_) fun hc35 h => ?_
 ·refine sr fun _ k36 => asn rfl <| dn <| k36 _ _ <| re <| tr ?_
  injection h with h; subst h
  exact Ret.tri [(1, e0), (0, .mem M0), (101, .obj g1 (.map es1.toArray cl1))] (ResIs.one rfl rfl) (sc (sc (sc sn))) ⟨⟨M0, es1, cl1⟩, ⟨rfl, (Ext.refl _ _), hmr1⟩, rfl⟩
 refine ss <| k33 _ _ <| sr fun _ k37 => ?_
 obtain ⟨x38, hx38, h⟩ := bnd h
 obtain ⟨x39, hx39, h⟩ := bnd h
 refine mv rfl <| ya (Yld.conv_i64_u8 some_3 und_5 rfl) <| mv rfl <| ya (Yld.shrC rfl rfl hx38) <| ya (Yld.conv_i64_u8 some_3 und_5 rfl) <| mv rfl <| ya (Yld.shrC rfl rfl hx39) <| ya (Yld.conv_i64_u8 some_3 und_5 rfl) <| WL.eff (by decide) (Eff.buildC 140 ([BitVec.ofInt 8 x02, BitVec.ofInt 8 x38, BitVec.ofInt 8 x39] : List (BitVec 8)) sty_23 rfl rfl rfl rfl rfl (by decide)) ?_
 rintro _ _ ⟨g40, rfl, rfl⟩
 refine ya (Yld.b2sC (xs := ([BitVec.ofInt 8 x02, BitVec.ofInt 8 x38, BitVec.ofInt 8 x39] : List (BitVec 8))) und_23 und_5 und_9 rfl (RdH.own (k := 140) rfl)) <| asn rfl <| dn <| k37 _ _ <| ct (σ := (List (BitVec 8))) (fun x41 => [(0, .slice A00 n00 c00), (2, I64 x02), (3, .map (some g1)), (5, .pointer (some ⟨g4, 0, none⟩)), (11, .string (bstr x41))]) (fun x41 => [(0, .mem M0), (1, e0), (101, .obj g1 (.map es1.toArray cl1)), (104, .blk g4 25 [.bool x01_0, U32 x01_1, .slice A01_2 n01_2 c01_2])]) (fun x41 => m_r25_rest_j2 x00 x01_0 x01_1 x01_2 x02 x1 rc0 x41 = some res) (fun _ k42 => ?_) ?_
 ·refine sr fun _ k43 => ya (Yld.fieldAddr Try.underlying25 rfl nz_4 rfl rfl) <| ya (Yld.loadB (k := 104) scal_4 rfl rfl rfl) <| dn <| k43 _ _ <| cnd h rfl id Bool.eq_false_iff.2 (fun hc44 h => ?_) fun hc44 h => ?_
  ·refine rg fun _ k45 => ?_
   obtain ⟨x47, hx47, h⟩ := bnd h
   obtain ⟨x48, hx48, h⟩ := bnd h
   refine mv rfl <| ya (Yld.fieldAddr Try.underlying25 rfl nz_22 rfl rfl) <| ya (Yld.loadB (k := 104) scal_22 rfl rfl rfl) <| ya (Yld.conv_u32_u8 (a := x01_1) some_22 und_5 rfl) <| ya (Yld.fieldAddr Try.underlying25 rfl nz_22 rfl rfl) <| ya (Yld.loadB (k := 104) scal_22 rfl rfl rfl) <| ya (Yld.shrU_u32 (a := x01_1) (m := 8) rfl rfl) <| ya (Yld.conv_u32_u8 (a := (x01_1 >>> 8)) some_22 und_5 rfl) <| ya (Yld.fieldAddr Try.underlying25 rfl nz_22 rfl rfl) <| ya (Yld.loadB (k := 104) scal_22 rfl rfl rfl) <| ya (Yld.shrU_u32 (a := x01_1) (m := 16) rfl rfl) <| ya (Yld.conv_u32_u8 (a := (x01_1 >>> 16)) some_22 und_5 rfl) <| ya (Yld.fieldAddr Try.underlying25 rfl nz_22 rfl rfl) <| ya (Yld.loadB (k := 104) scal_22 rfl rfl rfl) <| ya (Yld.shrU_u32 (a := x01_1) (m := 24) rfl rfl) <| ya (Yld.conv_u32_u8 (a := (x01_1 >>> 24)) some_22 und_5 rfl) <| WL.eff (by decide) (Eff.buildC 146 ([1#8, x01_1.setWidth 8, (x01_1 >>> 8).setWidth 8, (x01_1 >>> 16).setWidth 8, (x01_1 >>> 24).setWidth 8] : List (BitVec 8)) sty_23 rfl rfl rfl rfl rfl (by decide)) ?_
   rintro _ _ ⟨g46, rfl, rfl⟩
   exact ya (Yld.b2sC (xs := ([1#8, x01_1.setWidth 8, (x01_1 >>> 8).setWidth 8, (x01_1 >>> 16).setWidth 8, (x01_1 >>> 24).setWidth 8] : List (BitVec 8))) und_23 und_5 und_9 rfl (RdH.own (k := 146) rfl)) <| ya (Yld.catStr (a := ([BitVec.ofInt 8 x02, BitVec.ofInt 8 x38, BitVec.ofInt 8 x39] : List (BitVec 8))) (b := ([1#8, x01_1.setWidth 8, (x01_1 >>> 8).setWidth 8, (x01_1 >>> 16).setWidth 8, (x01_1 >>> 24).setWidth 8] : List (BitVec 8))) rfl rfl hx47) <| ya (Yld.fieldAddr Try.underlying25 rfl nz_23 rfl rfl) <| ya (Yld.loadB (k := 104) scal_23 rfl rfl rfl) <| ya (Yld.b2sC (xs := x01_2) und_23 und_5 und_9 rfl (RdH.memM (k := 0) rfl hf01_2)) <| ya (Yld.catStr (a := x47) (b := x01_2) rfl rfl hx48) <| asn rfl <| dn <| k45 _ _ <| tn <| kw (k42 x48 h)
  exact WC.skip <| tn <| kw (k42 ([BitVec.ofInt 8 x02, BitVec.ofInt 8 x38, BitVec.ofInt 8 x39] : List (BitVec 8)) h)
 rintro x41 h
 unfold m_r25_rest_j2 at h
 refine sq fun _ k49 => sr fun _ k50 => mv rfl <| mv rfl <| ya (Yld.lookupK (k := 101) (ek := (MKey.ek (κ := List (BitVec 8)))) (ev := Value.bool) (m := x1) (q := x41) (zv := false) und_86 keyl_9 zv_4 rfl rfl rfl hmr1) <| dn <| k50 _ _ <| cnd h rfl id Bool.eq_false_iff.2 (fun hc51 h => ?_) fun hc51 h => ?_
 ·refine sr fun _ k52 => asn rfl <| dn <| k52 _ _ <| re <| tr ?_
  injection h with h; subst h
  exact Ret.tri [(1, e0), (0, .mem M0), (101, .obj g1 (.map es1.toArray cl1))] (ResIs.one rfl rfl) (sc (sc (sc sn))) ⟨⟨M0, es1, cl1⟩, ⟨rfl, (Ext.refl _ _), hmr1⟩, rfl⟩
 refine ss <| k49 _ _ <| sr fun _ k53 => mv rfl <| mv rfl <| WL.eff0R (Eff0R.mapUpdK 101 (ek := (MKey.ek (κ := List (BitVec 8)))) (ev := Value.bool) (m := x1) (q := x41) (v := true) und_86 keyl_9 rfl rfl rfl rfl hmr1) ?_
 rintro _ ⟨es54, cl55, hmr56, rfl⟩
 refine dn <| k53 _ _ <| ct (σ := Mem × (List MapEntry) × Nat × (List ((List (BitVec 8)) × Bool))) (fun ⟨M57, es58, cl59, x60⟩ => []) (fun ⟨M57, es58, cl59, x60⟩ => [(0, .mem M57), (1, e0), (101, .obj g1 (.map es58.toArray cl59))]) (fun ⟨M57, es58, cl59, x60⟩ => m_r25_rest_j3 x60 = some res /\ Ext w0.heap.size M0 M57 /\ MapK (MKey.ek (κ := List (BitVec 8))) Value.bool es58 x60) (fun _ k62 => ?_) ?_
 ·refine sr fun _ k63 => asn rfl <| dn <| k63 _ _ <| bl <| lp (τ := Mem × (List MapEntry) × Nat × (List ((List (BitVec 8)) × Bool)) × Int) (fun ⟨M64, es65, cl66, x67, x69⟩ => [(0, .slice A00 n00 c00), (2, I64 x02), (3, .map (some g1)), (5, .pointer (some ⟨g4, 0, none⟩)), (12, I64 x69)]) (fun ⟨M64, es65, cl66, x67, x69⟩ => [(0, .mem M64), (1, e0), (101, .obj g1 (.map es65.toArray cl66)), (104, .blk g4 25 [.bool x01_0, U32 x01_1, .slice A01_2 n01_2 c01_2])]) (fun q70 ⟨M64, es65, cl66, x67, x69⟩ => m_r25_rest_l4 x00 x01_0 x01_1 x01_2 x02 rc0 q70 x67 x69 = some res /\ Ext w0.heap.size M0 M64 /\ MapK (MKey.ek (κ := List (BitVec 8))) Value.bool es65 x67) ⟨M0, es54, cl55, (mset x1 x41 true), (0 : Int)⟩ ?_ (by simp [m_r25_rest_l4]) ?_
  ·exact ⟨h, (Ext.refl _ _), hmr56⟩
  rintro q70 ⟨M64, es65, cl66, x67, x69⟩ ⟨h, hm_M64, hmr68⟩ _ k71
  unfold m_r25_rest_l4 at h
  refine sq fun _ k72 => sr fun _ k73 => mv rfl <| mv rfl <| ya (Yld.lenD (rs := rs00) (xs := x00) (Rels.len (Rels.lift hq00 hm_M64)) und_32 rfl (RdH.memM (k := 0) rfl (SlRc.lift hf00 hm_M64))) <| ya (Yld.lss rfl rfl) <| dn <| k73 _ _ <| cnd h rfl decide_eq_true decide_eq_false (fun hc74 h => ?_) fun hc74 h => ?_
  ·refine ss <| k72 _ _ <| sq fun _ k75 => bl <| ct (σ := Unit) (fun _ => [(0, .slice A00 n00 c00), (2, I64 x02), (3, .map (some g1)), (5, .pointer (some ⟨g4, 0, none⟩)), (12, I64 x69)]) (fun _ => [(0, .mem M64), (1, e0), (101, .obj g1 (.map es65.toArray cl66)), (104, .blk g4 25 [.bool x01_0, U32 x01_1, .slice A01_2 n01_2 c01_2])]) (fun _ => m_r25_rest_j5 x00 x01_0 x01_1 x01_2 x02 x67 x69 rc0 (m_r25_rest_l4 x00 x01_0 x01_1 x01_2 x02 rc0 q70) = some res) (fun _ k76 => ?_) ?_
   ·refine sr fun _ k77 => ?_
    obtain ⟨x78, hx78, h⟩ := bnd h
    refine mv rfl <| mv rfl <| ya (Yld.conv_i64_u64 some_3 und_75 rfl) <| ya (Yld.shrC rfl rfl hx78) <| ya (Yld.andC rfl rfl) <| ya (Yld.eqlI rfl rfl) <| mv rfl <| spl h beq_iff_eq.2 beq_eq_false_iff_ne.2 (fun hc79 h => ?_) fun hc79 h => ?_
    ·refine sk <| sk <| sk <| sk <| pt rfl rfl <| dn <| k77 _ _ <| cdT rfl <| xi <| te <| bx <| tn <| k75 _ _ <| rg fun _ k80 => ?_
     obtain ⟨x81, hx81, h⟩ := bnd h
     exact mv rfl <| ya (Yld.addC rfl rfl hx81) <| asn rfl <| dn <| k80 _ _ <| tn <| kw (k71 ⟨M64, es65, cl66, x67, x81⟩ ⟨h, hm_M64, hmr68⟩)
    obtain ⟨x82, hx82, h⟩ := bnd h
    refine mvg rfl <| mvg rfl <| mvg rfl <| c0g Try.func52 rfl (fun w hb hh => w_r25_waits (Mem.snap w) A00 n00 c00 rs00 _ (RdH.sn (RdH.memM (k := 0) rfl (SlRc.lift hf00 hm_M64)) w hb hh) (Rels.sn (Rels.lift hq00 hm_M64) (hh.sat 0 _ rfl)) x02 x69 hx82) <| pf rfl rfl <| dn <| k77 _ _ <| cnd h rfl id Bool.eq_false_iff.2 (fun hc84 h => ?_) fun hc84 h => ?_
    ·refine xi <| te <| bx <| tn <| k75 _ _ <| rg fun _ k85 => ?_
     obtain ⟨x86, hx86, h⟩ := bnd h
     exact mv rfl <| ya (Yld.addC rfl rfl hx86) <| asn rfl <| dn <| k85 _ _ <| tn <| kw (k71 ⟨M64, es65, cl66, x67, x86⟩ ⟨h, hm_M64, hmr68⟩)
    exact WC.skip <| tn <| kw (k76 () h)
   rintro _ h
   unfold m_r25_rest_j5 at h
   refine sq fun _ k87 => sd [(1, _), (101, _), (104, _)] mixed fun _ k88 => ?_
   obtain ⟨x89, hx89, h⟩ := bnd h
   obtain ⟨x93, hx93, h⟩ := bnd h
   refine du 0 rfl (Yld.loadBM (k := 104) agg_25 rfl rfl rfl) <| dm 1 rfl rfl <| dm 2 rfl rfl <| WD.two 3 9 (by kernel_rfl) ?_ ?_
   ·obtain ⟨⟨_, r_90_0, r_90_1⟩, hr91, rfl, hq92_0, hq92_1⟩ := Rels.idx (Rels.lift hq00 hm_M64) hx89
    refine dy rfl (Yld.idxC (xs := rs00) sty_32 rfl rfl (RdH.memM (k := 0) rfl (SlRc.lift hf00 hm_M64)) hr91) <| WD.two 4 9 (by kernel_rfl) ?_ ?_
    ·refine dy rfl (Yld.loadA (xs := rs00) agg_29 rfl (RdH.memM (k := 0) rfl (SlRc.lift hf00 hm_M64)) hr91 rfl) <| WD.two 5 9 (by kernel_rfl) ?_ ?_
     ·refine WS.eff rfl (by decide) (Eff.callM 198 rfl Try.func13 nm_13 rfl rfl rfl (w_r25_Step _ x01_0 x01_1 A01_2 n01_2 c01_2 _ (SlRc.lift hf01_2 hm_M64) x89.fClient x89.fKind x89.fKey x89.fCookie r_90_0.A r_90_0.n r_90_0.c _ hq92_0 r_90_1.A r_90_1.n r_90_1.c _ hq92_1 x89.fCall x89.fReturn x89.fClosed x89.fResult hx93)) ?_
      rintro _ _ ⟨M103, _, ⟨A104, n105, c106, rfl, rfl, hf107⟩, hm_M103, rfl⟩
      refine ad ?_ (by repeat (first | exact sn | refine sc ?_))
      refine dm 6 rfl rfl <| du 7 rfl (Yld.extract rfl rfl) <| du 8 rfl (Yld.extract rfl rfl) <| on 9 <| WS.eff rfl (by decide) (Eff.alloc 208 rfl zr_25) ?_
      rintro _ _ ⟨g108, rfl, rfl⟩
      refine ad ?_ (by repeat (first | exact sn | refine sc ?_))
      refine on 10 <| ds 208 rfl agg_25 rfl rfl rfl <| du 11 rfl (Yld.assign rfl) <| dd <| k88 _ _ <| sr fun _ k109 => mv rfl <| mv rfl <| spl h id Bool.eq_false_iff.2 (fun hc110 h => ?_) fun hc110 h => ?_
      ·obtain ⟨x111, hx111, h⟩ := bnd h
       obtain ⟨x112, hx112, h⟩ := bnd h
       refine mvg rfl <| yg (Yld.loadBM (k := 208) agg_25 rfl rfl rfl) <| mvg rfl <| mvg rfl <| yg (Yld.conv_i64_u64 some_3 und_75 rfl) <| yg (Yld.shlC rfl rfl hx111) <| yg (Yld.orC rfl rfl) <| mvg rfl <| WL.effG (by decide) rfl (Eff.callT rfl Try.func36 nm_36 rfl rfl (Tri.frame (X := Mem × List MapEntry × Nat) [0, 101] [0, 101] [HE.mem M103, HE.obj g1 (.map es65.toArray cl66)] (fun x r => r = .bool x112.1 /\ Ext w0.heap.size M103 x.1 /\ MapK (MKey.ek (κ := List (BitVec 8))) Value.bool x.2.1 x112.2) (fun x => [HE.mem x.1, HE.obj g1 (.map x.2.1.toArray x.2.2)]) rfl (by decide) (by decide) (by decide) rfl (fun _ => rfl) (fun e0 => hrc0 w0 e0 _ A00 n00 c00 rs00 _ (SlRc.lift (SlRc.lift hf00 hm_M64) hm_M103) (Rels.lift (Rels.lift hq00 hm_M64) hm_M103) x93.1 x93.2.1 A104 n105 c106 _ hf107 (ori x02 x111) g1 es65 cl66 x67 hmr68 hx112))) ?_
       rintro _ _ ⟨⟨M113, es114, cl115⟩, ⟨rfl, hm_M113, hmr116⟩, rfl⟩
       refine pt rfl rfl <| dn <| k109 _ _ <| cnd h rfl id Bool.eq_false_iff.2 (fun hc117 h => ?_) fun hc117 h => ?_
       ·refine sr fun _ k118 => asn rfl <| dn <| k118 _ _ <| re <| tr <| br <| tr <| tr <| br <| tr ?_
        injection h with h; subst h
        exact Ret.tri [(1, e0), (0, .mem M113), (101, .obj g1 (.map es114.toArray cl115))] (ResIs.one rfl rfl) (sc (sc (sc sn))) ⟨⟨M113, es114, cl115⟩, ⟨rfl, (Ext.trans (Ext.trans hm_M64 hm_M103) hm_M113), hmr116⟩, rfl⟩
       refine ss <| k87 _ _ <| sr fun _ k119 => ?_
       obtain ⟨x120, hx120, h⟩ := bnd h
       obtain ⟨x124, hx124, h⟩ := bnd h
       refine mv rfl <| mv rfl ?_
       obtain ⟨⟨_, r_121_0, r_121_1⟩, hr122, rfl, hq123_0, hq123_1⟩ := Rels.idx (Rels.lift (Rels.lift (Rels.lift hq00 hm_M64) hm_M103) hm_M113) hx120
       refine ya (Yld.idxC (xs := rs00) sty_32 rfl rfl (RdH.memM (k := 0) rfl (SlRc.lift (SlRc.lift (SlRc.lift hf00 hm_M64) hm_M103) hm_M113)) hr122) <| ya (Yld.loadA (xs := rs00) agg_29 rfl (RdH.memM (k := 0) rfl (SlRc.lift (SlRc.lift (SlRc.lift hf00 hm_M64) hm_M103) hm_M113)) hr122 rfl) <| c0 Try.func15 rfl (fun w hb hh => w_r25_Drops (Mem.snap w) x120.fClient x120.fKind x120.fKey x120.fCookie r_121_0.A r_121_0.n r_121_0.c _ (RdH.sn (RdH.memM (k := 0) rfl hq123_0) w hb hh) r_121_1.A r_121_1.n r_121_1.c _ (RdH.sn (RdH.memM (k := 0) rfl hq123_1) w hb hh) x120.fCall x120.fReturn x120.fClosed x120.fResult hx124) <| mv rfl <| spl h id Bool.eq_false_iff.2 (fun hc126 h => ?_) fun hc126 h => ?_
       ·obtain ⟨x127, hx127, h⟩ := bnd h
        obtain ⟨x128, hx128, h⟩ := bnd h
        refine mvg rfl <| yg (Yld.loadBM (k := 104) agg_25 rfl rfl rfl) <| mvg rfl <| mvg rfl <| yg (Yld.conv_i64_u64 some_3 und_75 rfl) <| yg (Yld.shlC rfl rfl hx127) <| yg (Yld.orC rfl rfl) <| mvg rfl <| WL.effG (by decide) rfl (Eff.callT rfl Try.func36 nm_36 rfl rfl (Tri.frame (X := Mem × List MapEntry × Nat) [0, 101] [0, 101] [HE.mem M113, HE.obj g1 (.map es114.toArray cl115)] (fun x r => r = .bool x128.1 /\ Ext w0.heap.size M113 x.1 /\ MapK (MKey.ek (κ := List (BitVec 8))) Value.bool x.2.1 x128.2) (fun x => [HE.mem x.1, HE.obj g1 (.map x.2.1.toArray x.2.2)]) rfl (by decide) (by decide) (by decide) rfl (fun _ => rfl) (fun e0 => hrc0 w0 e0 _ A00 n00 c00 rs00 _ (SlRc.lift (SlRc.lift (SlRc.lift hf00 hm_M64) hm_M103) hm_M113) (Rels.lift (Rels.lift (Rels.lift hq00 hm_M64) hm_M103) hm_M113) x01_0 x01_1 A01_2 n01_2 c01_2 _ (SlRc.lift (SlRc.lift (SlRc.lift hf01_2 hm_M64) hm_M103) hm_M113) (ori x02 x127) g1 es114 cl115 x112.2 hmr116 hx128))) ?_
        rintro _ _ ⟨⟨M129, es130, cl131⟩, ⟨rfl, hm_M129, hmr132⟩, rfl⟩
        refine pt rfl rfl <| dn <| k119 _ _ <| cnd h rfl id Bool.eq_false_iff.2 (fun hc133 h => ?_) fun hc133 h => ?_
        ·refine sr fun _ k134 => asn rfl <| dn <| k134 _ _ <| re <| br <| tr <| tr <| br <| tr ?_
         injection h with h; subst h
         exact Ret.tri [(1, e0), (0, .mem M129), (101, .obj g1 (.map es130.toArray cl131))] (ResIs.one rfl rfl) (sc (sc (sc sn))) ⟨⟨M129, es130, cl131⟩, ⟨rfl, (Ext.trans (Ext.trans (Ext.trans hm_M64 hm_M103) hm_M113) hm_M129), hmr132⟩, rfl⟩
        refine WC.skip <| bn <| tn <| k75 _ _ <| rg fun _ k135 => ?_
        obtain ⟨x136, hx136, h⟩ := bnd h
        exact mv rfl <| ya (Yld.addC rfl rfl hx136) <| asn rfl <| dn <| k135 _ _ <| tn <| kw (k71 ⟨M129, es130, cl131, x128.2, x136⟩ ⟨h, (Ext.trans (Ext.trans (Ext.trans hm_M64 hm_M103) hm_M113) hm_M129), hmr132⟩)
       refine sk <| sk <| sk <| sk <| sk <| sk <| sk <| sk <| sk <| pf rfl rfl <| dn <| k119 _ _ <| cdF rfl <| WC.skip <| bn <| tn <| k75 _ _ <| rg fun _ k137 => ?_
       obtain ⟨x138, hx138, h⟩ := bnd h
       exact mv rfl <| ya (Yld.addC rfl rfl hx138) <| asn rfl <| dn <| k137 _ _ <| tn <| kw (k71 ⟨M113, es114, cl115, x112.2, x138⟩ ⟨h, (Ext.trans (Ext.trans hm_M64 hm_M103) hm_M113), hmr116⟩)
      refine sk <| sk <| sk <| sk <| sk <| sk <| sk <| sk <| sk <| pf rfl rfl <| dn <| k109 _ _ <| cdF rfl <| ss <| k87 _ _ <| sr fun _ k139 => ?_
      obtain ⟨x140, hx140, h⟩ := bnd h
      obtain ⟨x144, hx144, h⟩ := bnd h
      refine mv rfl <| mv rfl ?_
      obtain ⟨⟨_, r_141_0, r_141_1⟩, hr142, rfl, hq143_0, hq143_1⟩ := Rels.idx (Rels.lift (Rels.lift hq00 hm_M64) hm_M103) hx140
      refine ya (Yld.idxC (xs := rs00) sty_32 rfl rfl (RdH.memM (k := 0) rfl (SlRc.lift (SlRc.lift hf00 hm_M64) hm_M103)) hr142) <| ya (Yld.loadA (xs := rs00) agg_29 rfl (RdH.memM (k := 0) rfl (SlRc.lift (SlRc.lift hf00 hm_M64) hm_M103)) hr142 rfl) <| c0 Try.func15 rfl (fun w hb hh => w_r25_Drops (Mem.snap w) x140.fClient x140.fKind x140.fKey x140.fCookie r_141_0.A r_141_0.n r_141_0.c _ (RdH.sn (RdH.memM (k := 0) rfl hq143_0) w hb hh) r_141_1.A r_141_1.n r_141_1.c _ (RdH.sn (RdH.memM (k := 0) rfl hq143_1) w hb hh) x140.fCall x140.fReturn x140.fClosed x140.fResult hx144) <| mv rfl <| spl h id Bool.eq_false_iff.2 (fun hc146 h => ?_) fun hc146 h => ?_
      ·obtain ⟨x147, hx147, h⟩ := bnd h
       obtain ⟨x148, hx148, h⟩ := bnd h
       refine mvg rfl <| yg (Yld.loadBM (k := 104) agg_25 rfl rfl rfl) <| mvg rfl <| mvg rfl <| yg (Yld.conv_i64_u64 some_3 und_75 rfl) <| yg (Yld.shlC rfl rfl hx147) <| yg (Yld.orC rfl rfl) <| mvg rfl <| WL.effG (by decide) rfl (Eff.callT rfl Try.func36 nm_36 rfl rfl (Tri.frame (X := Mem × List MapEntry × Nat) [0, 101] [0, 101] [HE.mem M103, HE.obj g1 (.map es65.toArray cl66)] (fun x r => r = .bool x148.1 /\ Ext w0.heap.size M103 x.1 /\ MapK (MKey.ek (κ := List (BitVec 8))) Value.bool x.2.1 x148.2) (fun x => [HE.mem x.1, HE.obj g1 (.map x.2.1.toArray x.2.2)]) rfl (by decide) (by decide) (by decide) rfl (fun _ => rfl) (fun e0 => hrc0 w0 e0 _ A00 n00 c00 rs00 _ (SlRc.lift (SlRc.lift hf00 hm_M64) hm_M103) (Rels.lift (Rels.lift hq00 hm_M64) hm_M103) x01_0 x01_1 A01_2 n01_2 c01_2 _ (SlRc.lift (SlRc.lift hf01_2 hm_M64) hm_M103) (ori x02 x147) g1 es65 cl66 x67 hmr68 hx148))) ?_
       rintro _ _ ⟨⟨M149, es150, cl151⟩, ⟨rfl, hm_M149, hmr152⟩, rfl⟩
       refine pt rfl rfl <| dn <| k139 _ _ <| cnd h rfl id Bool.eq_false_iff.2 (fun hc153 h => ?_) fun hc153 h => ?_
       ·refine sr fun _ k154 => asn rfl <| dn <| k154 _ _ <| re <| br <| tr <| tr <| br <| tr ?_
        injection h with h; subst h
        exact Ret.tri [(1, e0), (0, .mem M149), (101, .obj g1 (.map es150.toArray cl151))] (ResIs.one rfl rfl) (sc (sc (sc sn))) ⟨⟨M149, es150, cl151⟩, ⟨rfl, (Ext.trans (Ext.trans hm_M64 hm_M103) hm_M149), hmr152⟩, rfl⟩
       refine WC.skip <| bn <| tn <| k75 _ _ <| rg fun _ k155 => ?_
       obtain ⟨x156, hx156, h⟩ := bnd h
       exact mv rfl <| ya (Yld.addC rfl rfl hx156) <| asn rfl <| dn <| k155 _ _ <| tn <| kw (k71 ⟨M149, es150, cl151, x148.2, x156⟩ ⟨h, (Ext.trans (Ext.trans hm_M64 hm_M103) hm_M149), hmr152⟩)
      refine sk <| sk <| sk <| sk <| sk <| sk <| sk <| sk <| sk <| pf rfl rfl <| dn <| k139 _ _ <| cdF rfl <| WC.skip <| bn <| tn <| k75 _ _ <| rg fun _ k157 => ?_
      obtain ⟨x158, hx158, h⟩ := bnd h
      exact mv rfl <| ya (Yld.addC rfl rfl hx158) <| asn rfl <| dn <| k157 _ _ <| tn <| kw (k71 ⟨M103, es65, cl66, x67, x158⟩ ⟨h, (Ext.trans hm_M64 hm_M103), hmr68⟩)
     skip
     refine WS.eff rfl (by decide) (Eff.alloc 208 rfl zr_25) ?_
     rintro _ _ ⟨g108, rfl, rfl⟩
     refine ad ?_ (by repeat (first | exact sn | refine sc ?_))
     refine on 5 <| WS.eff rfl (by decide) (Eff.callM 198 rfl Try.func13 nm_13 rfl rfl rfl (w_r25_Step _ x01_0 x01_1 A01_2 n01_2 c01_2 _ (SlRc.lift hf01_2 hm_M64) x89.fClient x89.fKind x89.fKey x89.fCookie r_90_0.A r_90_0.n r_90_0.c _ hq92_0 r_90_1.A r_90_1.n r_90_1.c _ hq92_1 x89.fCall x89.fReturn x89.fClosed x89.fResult hx93)) ?_
     rintro _ _ ⟨M103, _, ⟨A104, n105, c106, rfl, rfl, hf107⟩, hm_M103, rfl⟩
     refine ad ?_ (by repeat (first | exact sn | refine sc ?_))
     refine dm 6 rfl rfl <| du 7 rfl (Yld.extract rfl rfl) <| du 8 rfl (Yld.extract rfl rfl) <| on 10 <| ds 208 rfl agg_25 rfl rfl rfl <| du 11 rfl (Yld.assign rfl) <| dd <| k88 _ _ <| sr fun _ k159 => mv rfl <| mv rfl <| spl h id Bool.eq_false_iff.2 (fun hc160 h => ?_) fun hc160 h => ?_
     ·obtain ⟨x161, hx161, h⟩ := bnd h
      obtain ⟨x162, hx162, h⟩ := bnd h
      refine mvg rfl <| yg (Yld.loadBM (k := 208) agg_25 rfl rfl rfl) <| mvg rfl <| mvg rfl <| yg (Yld.conv_i64_u64 some_3 und_75 rfl) <| yg (Yld.shlC rfl rfl hx161) <| yg (Yld.orC rfl rfl) <| mvg rfl <| WL.effG (by decide) rfl (Eff.callT rfl Try.func36 nm_36 rfl rfl (Tri.frame (X := Mem × List MapEntry × Nat) [0, 101] [0, 101] [HE.mem M103, HE.obj g1 (.map es65.toArray cl66)] (fun x r => r = .bool x162.1 /\ Ext w0.heap.size M103 x.1 /\ MapK (MKey.ek (κ := List (BitVec 8))) Value.bool x.2.1 x162.2) (fun x => [HE.mem x.1, HE.obj g1 (.map x.2.1.toArray x.2.2)]) rfl (by decide) (by decide) (by decide) rfl (fun _ => rfl) (fun e0 => hrc0 w0 e0 _ A00 n00 c00 rs00 _ (SlRc.lift (SlRc.lift hf00 hm_M64) hm_M103) (Rels.lift (Rels.lift hq00 hm_M64) hm_M103) x93.1 x93.2.1 A104 n105 c106 _ hf107 (ori x02 x161) g1 es65 cl66 x67 hmr68 hx162))) ?_
      rintro _ _ ⟨⟨M163, es164, cl165⟩, ⟨rfl, hm_M163, hmr166⟩, rfl⟩
      refine pt rfl rfl <| dn <| k159 _ _ <| cnd h rfl id Bool.eq_false_iff.2 (fun hc167 h => ?_) fun hc167 h => ?_
      ·refine sr fun _ k168 => asn rfl <| dn <| k168 _ _ <| re <| tr <| br <| tr <| tr <| br <| tr ?_
       injection h with h; subst h
       exact Ret.tri [(1, e0), (0, .mem M163), (101, .obj g1 (.map es164.toArray cl165))] (ResIs.one rfl rfl) (sc (sc (sc sn))) ⟨⟨M163, es164, cl165⟩, ⟨rfl, (Ext.trans (Ext.trans hm_M64 hm_M103) hm_M163), hmr166⟩, rfl⟩
      refine ss <| k87 _ _ <| sr fun _ k169 => ?_
      obtain ⟨x170, hx170, h⟩ := bnd h
      obtain ⟨x174, hx174, h⟩ := bnd h
      refine mv rfl <| mv rfl ?_
      obtain ⟨⟨_, r_171_0, r_171_1⟩, hr172, rfl, hq173_0, hq173_1⟩ := Rels.idx (Rels.lift (Rels.lift (Rels.lift hq00 hm_M64) hm_M103) hm_M163) hx170
      refine ya (Yld.idxC (xs := rs00) sty_32 rfl rfl (RdH.memM (k := 0) rfl (SlRc.lift (SlRc.lift (SlRc.lift hf00 hm_M64) hm_M103) hm_M163)) hr172) <| ya (Yld.loadA (xs := rs00) agg_29 rfl (RdH.memM (k := 0) rfl (SlRc.lift (SlRc.lift (SlRc.lift hf00 hm_M64) hm_M103) hm_M163)) hr172 rfl) <| c0 Try.func15 rfl (fun w hb hh => w_r25_Drops (Mem.snap w) x170.fClient x170.fKind x170.fKey x170.fCookie r_171_0.A r_171_0.n r_171_0.c _ (RdH.sn (RdH.memM (k := 0) rfl hq173_0) w hb hh) r_171_1.A r_171_1.n r_171_1.c _ (RdH.sn (RdH.memM (k := 0) rfl hq173_1) w hb hh) x170.fCall x170.fReturn x170.fClosed x170.fResult hx174) <| mv rfl <| spl h id Bool.eq_false_iff.2 (fun hc176 h => ?_) fun hc176 h => ?_
      ·obtain ⟨x177, hx177, h⟩ := bnd h
       obtain ⟨x178, hx178, h⟩ := bnd h
       refine mvg rfl <| yg (Yld.loadBM (k := 104) agg_25 rfl rfl rfl) <| mvg rfl <| mvg rfl <| yg (Yld.conv_i64_u64 some_3 und_75 rfl) <| yg (Yld.shlC rfl rfl hx177) <| yg (Yld.orC rfl rfl) <| mvg rfl <| WL.effG (by decide) rfl (Eff.callT rfl Try.func36 nm_36 rfl rfl (Tri.frame (X := Mem × List MapEntry × Nat) [0, 101] [0, 101] [HE.mem M163, HE.obj g1 (.map es164.toArray cl165)] (fun x r => r = .bool x178.1 /\ Ext w0.heap.size M163 x.1 /\ MapK (MKey.ek (κ := List (BitVec 8))) Value.bool x.2.1 x178.2) (fun x => [HE.mem x.1, HE.obj g1 (.map x.2.1.toArray x.2.2)]) rfl (by decide) (by decide) (by decide) rfl (fun _ => rfl) (fun e0 => hrc0 w0 e0 _ A00 n00 c00 rs00 _ (SlRc.lift (SlRc.lift (SlRc.lift hf00 hm_M64) hm_M103) hm_M163) (Rels.lift (Rels.lift (Rels.lift hq00 hm_M64) hm_M103) hm_M163) x01_0 x01_1 A01_2 n01_2 c01_2 _ (SlRc.lift (SlRc.lift (SlRc.lift hf01_2 hm_M64) hm_M103) hm_M163) (ori x02 x177) g1 es164 cl165 x162.2 hmr166 hx178))) ?_
       rintro _ _ ⟨⟨M179, es180, cl181⟩, ⟨rfl, hm_M179, hmr182⟩, rfl⟩
       refine pt rfl rfl <| dn <| k169 _ _ <| cnd h rfl id Bool.eq_false_iff.2 (fun hc183 h => ?_) fun hc183 h => ?_
       ·refine sr fun _ k184 => asn rfl <| dn <| k184 _ _ <| re <| br <| tr <| tr <| br <| tr ?_
        injection h with h; subst h
        exact Ret.tri [(1, e0), (0, .mem M179), (101, .obj g1 (.map es180.toArray cl181))] (ResIs.one rfl rfl) (sc (sc (sc sn))) ⟨⟨M179, es180, cl181⟩, ⟨rfl, (Ext.trans (Ext.trans (Ext.trans hm_M64 hm_M103) hm_M163) hm_M179), hmr182⟩, rfl⟩
       refine WC.skip <| bn <| tn <| k75 _ _ <| rg fun _ k185 => ?_
       obtain ⟨x186, hx186, h⟩ := bnd h
       exact mv rfl <| ya (Yld.addC rfl rfl hx186) <| asn rfl <| dn <| k185 _ _ <| tn <| kw (k71 ⟨M179, es180, cl181, x178.2, x186⟩ ⟨h, (Ext.trans (Ext.trans (Ext.trans hm_M64 hm_M103) hm_M163) hm_M179), hmr182⟩)
      refine sk <| sk <| sk <| sk <| sk <| sk <| sk <| sk <| sk <| pf rfl rfl <| dn <| k169 _ _ <| cdF rfl <| WC.skip <| bn <| tn <| k75 _ _ <| rg fun _ k187 => ?_
      obtain ⟨x188, hx188, h⟩ := bnd h
      exact mv rfl <| ya (Yld.addC rfl rfl hx188) <| asn rfl <| dn <| k187 _ _ <| tn <| kw (k71 ⟨M163, es164, cl165, x162.2, x188⟩ ⟨h, (Ext.trans (Ext.trans hm_M64 hm_M103) hm_M163), hmr166⟩)
     refine sk <| sk <| sk <| sk <| sk <| sk <| sk <| sk <| sk <| pf rfl rfl <| dn <| k159 _ _ <| cdF rfl <| ss <| k87 _ _ <| sr fun _ k189 => ?_
     obtain ⟨x190, hx190, h⟩ := bnd h
     obtain ⟨x194, hx194, h⟩ := bnd h
     refine mv rfl <| mv rfl ?_
     obtain ⟨⟨_, r_191_0, r_191_1⟩, hr192, rfl, hq193_0, hq193_1⟩ := Rels.idx (Rels.lift (Rels.lift hq00 hm_M64) hm_M103) hx190
     refine ya (Yld.idxC (xs := rs00) sty_32 rfl rfl (RdH.memM (k := 0) rfl (SlRc.lift (SlRc.lift hf00 hm_M64) hm_M103)) hr192) <| ya (Yld.loadA (xs := rs00) agg_29 rfl (RdH.memM (k := 0) rfl (SlRc.lift (SlRc.lift hf00 hm_M64) hm_M103)) hr192 rfl) <| c0 Try.func15 rfl (fun w hb hh => w_r25_Drops (Mem.snap w) x190.fClient x190.fKind x190.fKey x190.fCookie r_191_0.A r_191_0.n r_191_0.c _ (RdH.sn (RdH.memM (k := 0) rfl hq193_0) w hb hh) r_191_1.A r_191_1.n r_191_1.c _ (RdH.sn (RdH.memM (k := 0) rfl hq193_1) w hb hh) x190.fCall x190.fReturn x190.fClosed x190.fResult hx194) <| mv rfl <| spl h id Bool.eq_false_iff.2 (fun hc196 h => ?_) fun hc196 h => ?_
     ·obtain ⟨x197, hx197, h⟩ := bnd h
      obtain ⟨x198, hx198, h⟩ := bnd h
      refine mvg rfl <| yg (Yld.loadBM (k := 104) agg_25 rfl rfl rfl) <| mvg rfl <| mvg rfl <| yg (Yld.conv_i64_u64 some_3 und_75 rfl) <| yg (Yld.shlC rfl rfl hx197) <| yg (Yld.orC rfl rfl) <| mvg rfl <| WL.effG (by decide) rfl (Eff.callT rfl Try.func36 nm_36 rfl rfl (Tri.frame (X := Mem × List MapEntry × Nat) [0, 101] [0, 101] [HE.mem M103, HE.obj g1 (.map es65.toArray cl66)] (fun x r => r = .bool x198.1 /\ Ext w0.heap.size M103 x.1 /\ MapK (MKey.ek (κ := List (BitVec 8))) Value.bool x.2.1 x198.2) (fun x => [HE.mem x.1, HE.obj g1 (.map x.2.1.toArray x.2.2)]) rfl (by decide) (by decide) (by decide) rfl (fun _ => rfl) (fun e0 => hrc0 w0 e0 _ A00 n00 c00 rs00 _ (SlRc.lift (SlRc.lift hf00 hm_M64) hm_M103) (Rels.lift (Rels.lift hq00 hm_M64) hm_M103) x01_0 x01_1 A01_2 n01_2 c01_2 _ (SlRc.lift (SlRc.lift hf01_2 hm_M64) hm_M103) (ori x02 x197) g1 es65 cl66 x67 hmr68 hx198))) ?_
      rintro _ _ ⟨⟨M199, es200, cl201⟩, ⟨rfl, hm_M199, hmr202⟩, rfl⟩
      refine pt rfl rfl <| dn <| k189 _ _ <| cnd h rfl id Bool.eq_false_iff.2 (fun hc203 h => ?_) fun hc203 h => ?_
      ·refine sr fun _ k204 => asn rfl <| dn <| k204 _ _ <| re <| br <| tr <| tr <| br <| tr ?_
       injection h with h; subst h
       exact Ret.tri [(1, e0), (0, .mem M199), (101, .obj g1 (.map es200.toArray cl201))] (ResIs.one rfl rfl) (sc (sc (sc sn))) ⟨⟨M199, es200, cl201⟩, ⟨rfl, (Ext.trans (Ext.trans hm_M64 hm_M103) hm_M199), hmr202⟩, rfl⟩
      refine WC.skip <| bn <| tn <| k75 _ _ <| rg fun _ k205 => ?_
      obtain ⟨x206, hx206, h⟩ := bnd h
      exact mv rfl <| ya (Yld.addC rfl rfl hx206) <| asn rfl <| dn <| k205 _ _ <| tn <| kw (k71 ⟨M199, es200, cl201, x198.2, x206⟩ ⟨h, (Ext.trans (Ext.trans hm_M64 hm_M103) hm_M199), hmr202⟩)
     refine sk <| sk <| sk <| sk <| sk <| sk <| sk <| sk <| sk <| pf rfl rfl <| dn <| k189 _ _ <| cdF rfl <| WC.skip <| bn <| tn <| k75 _ _ <| rg fun _ k207 => ?_
     obtain ⟨x208, hx208, h⟩ := bnd h
     exact mv rfl <| ya (Yld.addC rfl rfl hx208) <| asn rfl <| dn <| k207 _ _ <| tn <| kw (k71 ⟨M103, es65, cl66, x67, x208⟩ ⟨h, (Ext.trans hm_M64 hm_M103), hmr68⟩)
    skip
    refine WS.eff rfl (by decide) (Eff.alloc 208 rfl zr_25) ?_
    rintro _ _ ⟨g108, rfl, rfl⟩
    refine ad ?_ (by repeat (first | exact sn | refine sc ?_))
    refine on 4 <| dy rfl (Yld.loadA (xs := rs00) agg_29 rfl (RdH.memM (k := 0) rfl (SlRc.lift hf00 hm_M64)) hr91 rfl) <| on 5 <| WS.eff rfl (by decide) (Eff.callM 198 rfl Try.func13 nm_13 rfl rfl rfl (w_r25_Step _ x01_0 x01_1 A01_2 n01_2 c01_2 _ (SlRc.lift hf01_2 hm_M64) x89.fClient x89.fKind x89.fKey x89.fCookie r_90_0.A r_90_0.n r_90_0.c _ hq92_0 r_90_1.A r_90_1.n r_90_1.c _ hq92_1 x89.fCall x89.fReturn x89.fClosed x89.fResult hx93)) ?_
    rintro _ _ ⟨M103, _, ⟨A104, n105, c106, rfl, rfl, hf107⟩, hm_M103, rfl⟩
    refine ad ?_ (by repeat (first | exact sn | refine sc ?_))
    refine dm 6 rfl rfl <| du 7 rfl (Yld.extract rfl rfl) <| du 8 rfl (Yld.extract rfl rfl) <| on 10 <| ds 208 rfl agg_25 rfl rfl rfl <| du 11 rfl (Yld.assign rfl) <| dd <| k88 _ _ <| sr fun _ k209 => mv rfl <| mv rfl <| spl h id Bool.eq_false_iff.2 (fun hc210 h => ?_) fun hc210 h => ?_
    ·obtain ⟨x211, hx211, h⟩ := bnd h
     obtain ⟨x212, hx212, h⟩ := bnd h
     refine mvg rfl <| yg (Yld.loadBM (k := 208) agg_25 rfl rfl rfl) <| mvg rfl <| mvg rfl <| yg (Yld.conv_i64_u64 some_3 und_75 rfl) <| yg (Yld.shlC rfl rfl hx211) <| yg (Yld.orC rfl rfl) <| mvg rfl <| WL.effG (by decide) rfl (Eff.callT rfl Try.func36 nm_36 rfl rfl (Tri.frame (X := Mem × List MapEntry × Nat) [0, 101] [0, 101] [HE.mem M103, HE.obj g1 (.map es65.toArray cl66)] (fun x r => r = .bool x212.1 /\ Ext w0.heap.size M103 x.1 /\ MapK (MKey.ek (κ := List (BitVec 8))) Value.bool x.2.1 x212.2) (fun x => [HE.mem x.1, HE.obj g1 (.map x.2.1.toArray x.2.2)]) rfl (by decide) (by decide) (by decide) rfl (fun _ => rfl) (fun e0 => hrc0 w0 e0 _ A00 n00 c00 rs00 _ (SlRc.lift (SlRc.lift hf00 hm_M64) hm_M103) (Rels.lift (Rels.lift hq00 hm_M64) hm_M103) x93.1 x93.2.1 A104 n105 c106 _ hf107 (ori x02 x211) g1 es65 cl66 x67 hmr68 hx212))) ?_
     rintro _ _ ⟨⟨M213, es214, cl215⟩, ⟨rfl, hm_M213, hmr216⟩, rfl⟩
     refine pt rfl rfl <| dn <| k209 _ _ <| cnd h rfl id Bool.eq_false_iff.2 (fun hc217 h => ?_) fun hc217 h => ?_
     ·refine sr fun _ k218 => asn rfl <| dn <| k218 _ _ <| re <| tr <| br <| tr <| tr <| br <| tr ?_
      injection h with h; subst h
      exact Ret.tri [(1, e0), (0, .mem M213), (101, .obj g1 (.map es214.toArray cl215))] (ResIs.one rfl rfl) (sc (sc (sc sn))) ⟨⟨M213, es214, cl215⟩, ⟨rfl, (Ext.trans (Ext.trans hm_M64 hm_M103) hm_M213), hmr216⟩, rfl⟩
     refine ss <| k87 _ _ <| sr fun _ k219 => ?_
     obtain ⟨x220, hx220, h⟩ := bnd h
     obtain ⟨x224, hx224, h⟩ := bnd h
     refine mv rfl <| mv rfl ?_
     obtain ⟨⟨_, r_221_0, r_221_1⟩, hr222, rfl, hq223_0, hq223_1⟩ := Rels.idx (Rels.lift (Rels.lift (Rels.lift hq00 hm_M64) hm_M103) hm_M213) hx220
     refine ya (Yld.idxC (xs := rs00) sty_32 rfl rfl (RdH.memM (k := 0) rfl (SlRc.lift (SlRc.lift (SlRc.lift hf00 hm_M64) hm_M103) hm_M213)) hr222) <| ya (Yld.loadA (xs := rs00) agg_29 rfl (RdH.memM (k := 0) rfl (SlRc.lift (SlRc.lift (SlRc.lift hf00 hm_M64) hm_M103) hm_M213)) hr222 rfl) <| c0 Try.func15 rfl (fun w hb hh => w_r25_Drops (Mem.snap w) x220.fClient x220.fKind x220.fKey x220.fCookie r_221_0.A r_221_0.n r_221_0.c _ (RdH.sn (RdH.memM (k := 0) rfl hq223_0) w hb hh) r_221_1.A r_221_1.n r_221_1.c _ (RdH.sn (RdH.memM (k := 0) rfl hq223_1) w hb hh) x220.fCall x220.fReturn x220.fClosed x220.fResult hx224) <| mv rfl <| spl h id Bool.eq_false_iff.2 (fun hc226 h => ?_) fun hc226 h => ?_
     ·obtain ⟨x227, hx227, h⟩ := bnd h
      obtain ⟨x228, hx228, h⟩ := bnd h
      refine mvg rfl <| yg (Yld.loadBM (k := 104) agg_25 rfl rfl rfl) <| mvg rfl <| mvg rfl <| yg (Yld.conv_i64_u64 some_3 und_75 rfl) <| yg (Yld.shlC rfl rfl hx227) <| yg (Yld.orC rfl rfl) <| mvg rfl <| WL.effG (by decide) rfl (Eff.callT rfl Try.func36 nm_36 rfl rfl (Tri.frame (X := Mem × List MapEntry × Nat) [0, 101] [0, 101] [HE.mem M213, HE.obj g1 (.map es214.toArray cl215)] (fun x r => r = .bool x228.1 /\ Ext w0.heap.size M213 x.1 /\ MapK (MKey.ek (κ := List (BitVec 8))) Value.bool x.2.1 x228.2) (fun x => [HE.mem x.1, HE.obj g1 (.map x.2.1.toArray x.2.2)]) rfl (by decide) (by decide) (by decide) rfl (fun _ => rfl) (fun e0 => hrc0 w0 e0 _ A00 n00 c00 rs00 _ (SlRc.lift (SlRc.lift (SlRc.lift hf00 hm_M64) hm_M103) hm_M213) (Rels.lift (Rels.lift (Rels.lift hq00 hm_M64) hm_M103) hm_M213) x01_0 x01_1 A01_2 n01_2 c01_2 _ (SlRc.lift (SlRc.lift (SlRc.lift hf01_2 hm_M64) hm_M103) hm_M213) (ori x02 x227) g1 es214 cl215 x212.2 hmr216 hx228))) ?_
      rintro _ _ ⟨⟨M229, es230, cl231⟩, ⟨rfl, hm_M229, hmr232⟩, rfl⟩
      refine pt rfl rfl <| dn <| k219 _ _ <| cnd h rfl id Bool.eq_false_iff.2 (fun hc233 h => ?_) fun hc233 h => ?_
      ·refine sr fun _ k234 => asn rfl <| dn <| k234 _ _ <| re <| br <| tr <| tr <| br <| tr ?_
       injection h with h; subst h
       exact Ret.tri [(1, e0), (0, .mem M229), (101, .obj g1 (.map es230.toArray cl231))] (ResIs.one rfl rfl) (sc (sc (sc sn))) ⟨⟨M229, es230, cl231⟩, ⟨rfl, (Ext.trans (Ext.trans (Ext.trans hm_M64 hm_M103) hm_M213) hm_M229), hmr232⟩, rfl⟩
      refine WC.skip <| bn <| tn <| k75 _ _ <| rg fun _ k235 => ?_
      obtain ⟨x236, hx236, h⟩ := bnd h
      exact mv rfl <| ya (Yld.addC rfl rfl hx236) <| asn rfl <| dn <| k235 _ _ <| tn <| kw (k71 ⟨M229, es230, cl231, x228.2, x236⟩ ⟨h, (Ext.trans (Ext.trans (Ext.trans hm_M64 hm_M103) hm_M213) hm_M229), hmr232⟩)
     refine sk <| sk <| sk <| sk <| sk <| sk <| sk <| sk <| sk <| pf rfl rfl <| dn <| k219 _ _ <| cdF rfl <| WC.skip <| bn <| tn <| k75 _ _ <| rg fun _ k237 => ?_
     obtain ⟨x238, hx238, h⟩ := bnd h
     exact mv rfl <| ya (Yld.addC rfl rfl hx238) <| asn rfl <| dn <| k237 _ _ <| tn <| kw (k71 ⟨M213, es214, cl215, x212.2, x238⟩ ⟨h, (Ext.trans (Ext.trans hm_M64 hm_M103) hm_M213), hmr216⟩)
    refine sk <| sk <| sk <| sk <| sk <| sk <| sk <| sk <| sk <| pf rfl rfl <| dn <| k209 _ _ <| cdF rfl <| ss <| k87 _ _ <| sr fun _ k239 => ?_
    obtain ⟨x240, hx240, h⟩ := bnd h
    obtain ⟨x244, hx244, h⟩ := bnd h
    refine mv rfl <| mv rfl ?_
    obtain ⟨⟨_, r_241_0, r_241_1⟩, hr242, rfl, hq243_0, hq243_1⟩ := Rels.idx (Rels.lift (Rels.lift hq00 hm_M64) hm_M103) hx240
    refine ya (Yld.idxC (xs := rs00) sty_32 rfl rfl (RdH.memM (k := 0) rfl (SlRc.lift (SlRc.lift hf00 hm_M64) hm_M103)) hr242) <| ya (Yld.loadA (xs := rs00) agg_29 rfl (RdH.memM (k := 0) rfl (SlRc.lift (SlRc.lift hf00 hm_M64) hm_M103)) hr242 rfl) <| c0 Try.func15 rfl (fun w hb hh => w_r25_Drops (Mem.snap w) x240.fClient x240.fKind x240.fKey x240.fCookie r_241_0.A r_241_0.n r_241_0.c _ (RdH.sn (RdH.memM (k := 0) rfl hq243_0) w hb hh) r_241_1.A r_241_1.n r_241_1.c _ (RdH.sn (RdH.memM (k := 0) rfl hq243_1) w hb hh) x240.fCall x240.fReturn x240.fClosed x240.fResult hx244) <| mv rfl <| spl h id Bool.eq_false_iff.2 (fun hc246 h => ?_) fun hc246 h => ?_
    ·obtain ⟨x247, hx247, h⟩ := bnd h
     obtain ⟨x248, hx248, h⟩ := bnd h
     refine mvg rfl <| yg (Yld.loadBM (k := 104) agg_25 rfl rfl rfl) <| mvg rfl <| mvg rfl <| yg (Yld.conv_i64_u64 some_3 und_75 rfl) <| yg (Yld.shlC rfl rfl hx247) <| yg (Yld.orC rfl rfl) <| mvg rfl <| WL.effG (by decide) rfl (Eff.callT rfl Try.func36 nm_36 rfl rfl (Tri.frame (X := Mem × List MapEntry × Nat) [0, 101] [0, 101] [HE.mem M103, HE.obj g1 (.map es65.toArray cl66)] (fun x r => r = .bool x248.1 /\ Ext w0.heap.size M103 x.1 /\ MapK (MKey.ek (κ := List (BitVec 8))) Value.bool x.2.1 x248.2) (fun x => [HE.mem x.1, HE.obj g1 (.map x.2.1.toArray x.2.2)]) rfl (by decide) (by decide) (by decide) rfl (fun _ => rfl) (fun e0 => hrc0 w0 e0 _ A00 n00 c00 rs00 _ (SlRc.lift (SlRc.lift hf00 hm_M64) hm_M103) (Rels.lift (Rels.lift hq00 hm_M64) hm_M103) x01_0 x01_1 A01_2 n01_2 c01_2 _ (SlRc.lift (SlRc.lift hf01_2 hm_M64) hm_M103) (ori x02 x247) g1 es65 cl66 x67 hmr68 hx248))) ?_
     rintro _ _ ⟨⟨M249, es250, cl251⟩, ⟨rfl, hm_M249, hmr252⟩, rfl⟩
     refine pt rfl rfl <| dn <| k239 _ _ <| cnd h rfl id Bool.eq_false_iff.2 (fun hc253 h => ?_) fun hc253 h => ?_
     ·refine sr fun _ k254 => asn rfl <| dn <| k254 _ _ <| re <| br <| tr <| tr <| br <| tr ?_
      injection h with h; subst h
      exact Ret.tri [(1, e0), (0, .mem M249), (101, .obj g1 (.map es250.toArray cl251))] (ResIs.one rfl rfl) (sc (sc (sc sn))) ⟨⟨M249, es250, cl251⟩, ⟨rfl, (Ext.trans (Ext.trans hm_M64 hm_M103) hm_M249), hmr252⟩, rfl⟩
     refine WC.skip <| bn <| tn <| k75 _ _ <| rg fun _ k255 => ?_
     obtain ⟨x256, hx256, h⟩ := bnd h
     exact mv rfl <| ya (Yld.addC rfl rfl hx256) <| asn rfl <| dn <| k255 _ _ <| tn <| kw (k71 ⟨M249, es250, cl251, x248.2, x256⟩ ⟨h, (Ext.trans (Ext.trans hm_M64 hm_M103) hm_M249), hmr252⟩)
    refine sk <| sk <| sk <| sk <| sk <| sk <| sk <| sk <| sk <| pf rfl rfl <| dn <| k239 _ _ <| cdF rfl <| WC.skip <| bn <| tn <| k75 _ _ <| rg fun _ k257 => ?_
    obtain ⟨x258, hx258, h⟩ := bnd h
    exact mv rfl <| ya (Yld.addC rfl rfl hx258) <| asn rfl <| dn <| k257 _ _ <| tn <| kw (k71 ⟨M103, es65, cl66, x67, x258⟩ ⟨h, (Ext.trans hm_M64 hm_M103), hmr68⟩)
   skip
   refine WS.eff rfl (by decide) (Eff.alloc 208 rfl zr_25) ?_
   rintro _ _ ⟨g108, rfl, rfl⟩
   refine ad ?_ (by repeat (first | exact sn | refine sc ?_))
   refine on 3 ?_
   obtain ⟨⟨_, r_90_0, r_90_1⟩, hr91, rfl, hq92_0, hq92_1⟩ := Rels.idx (Rels.lift hq00 hm_M64) hx89
   refine dy rfl (Yld.idxC (xs := rs00) sty_32 rfl rfl (RdH.memM (k := 0) rfl (SlRc.lift hf00 hm_M64)) hr91) <| on 4 <| dy rfl (Yld.loadA (xs := rs00) agg_29 rfl (RdH.memM (k := 0) rfl (SlRc.lift hf00 hm_M64)) hr91 rfl) <| on 5 <| WS.eff rfl (by decide) (Eff.callM 198 rfl Try.func13 nm_13 rfl rfl rfl (w_r25_Step _ x01_0 x01_1 A01_2 n01_2 c01_2 _ (SlRc.lift hf01_2 hm_M64) x89.fClient x89.fKind x89.fKey x89.fCookie r_90_0.A r_90_0.n r_90_0.c _ hq92_0 r_90_1.A r_90_1.n r_90_1.c _ hq92_1 x89.fCall x89.fReturn x89.fClosed x89.fResult hx93)) ?_
   rintro _ _ ⟨M103, _, ⟨A104, n105, c106, rfl, rfl, hf107⟩, hm_M103, rfl⟩
   refine ad ?_ (by repeat (first | exact sn | refine sc ?_))
   refine dm 6 rfl rfl <| du 7 rfl (Yld.extract rfl rfl) <| du 8 rfl (Yld.extract rfl rfl) <| on 10 <| ds 208 rfl agg_25 rfl rfl rfl <| du 11 rfl (Yld.assign rfl) <| dd <| k88 _ _ <| sr fun _ k259 => mv rfl <| mv rfl <| spl h id Bool.eq_false_iff.2 (fun hc260 h => ?_) fun hc260 h => ?_
   ·obtain ⟨x261, hx261, h⟩ := bnd h
    obtain ⟨x262, hx262, h⟩ := bnd h
    refine mvg rfl <| yg (Yld.loadBM (k := 208) agg_25 rfl rfl rfl) <| mvg rfl <| mvg rfl <| yg (Yld.conv_i64_u64 some_3 und_75 rfl) <| yg (Yld.shlC rfl rfl hx261) <| yg (Yld.orC rfl rfl) <| mvg rfl <| WL.effG (by decide) rfl (Eff.callT rfl Try.func36 nm_36 rfl rfl (Tri.frame (X := Mem × List MapEntry × Nat) [0, 101] [0, 101] [HE.mem M103, HE.obj g1 (.map es65.toArray cl66)] (fun x r => r = .bool x262.1 /\ Ext w0.heap.size M103 x.1 /\ MapK (MKey.ek (κ := List (BitVec 8))) Value.bool x.2.1 x262.2) (fun x => [HE.mem x.1, HE.obj g1 (.map x.2.1.toArray x.2.2)]) rfl (by decide) (by decide) (by decide) rfl (fun _ => rfl) (fun e0 => hrc0 w0 e0 _ A00 n00 c00 rs00 _ (SlRc.lift (SlRc.lift hf00 hm_M64) hm_M103) (Rels.lift (Rels.lift hq00 hm_M64) hm_M103) x93.1 x93.2.1 A104 n105 c106 _ hf107 (ori x02 x261) g1 es65 cl66 x67 hmr68 hx262))) ?_
    rintro _ _ ⟨⟨M263, es264, cl265⟩, ⟨rfl, hm_M263, hmr266⟩, rfl⟩
    refine pt rfl rfl <| dn <| k259 _ _ <| cnd h rfl id Bool.eq_false_iff.2 (fun hc267 h => ?_) fun hc267 h => ?_
    ·refine sr fun _ k268 => asn rfl <| dn <| k268 _ _ <| re <| tr <| br <| tr <| tr <| br <| tr ?_
     injection h with h; subst h
     exact Ret.tri [(1, e0), (0, .mem M263), (101, .obj g1 (.map es264.toArray cl265))] (ResIs.one rfl rfl) (sc (sc (sc sn))) ⟨⟨M263, es264, cl265⟩, ⟨rfl, (Ext.trans (Ext.trans hm_M64 hm_M103) hm_M263), hmr266⟩, rfl⟩
    refine ss <| k87 _ _ <| sr fun _ k269 => ?_
    obtain ⟨x270, hx270, h⟩ := bnd h
    obtain ⟨x274, hx274, h⟩ := bnd h
    refine mv rfl <| mv rfl ?_
    obtain ⟨⟨_, r_271_0, r_271_1⟩, hr272, rfl, hq273_0, hq273_1⟩ := Rels.idx (Rels.lift (Rels.lift (Rels.lift hq00 hm_M64) hm_M103) hm_M263) hx270
    refine ya (Yld.idxC (xs := rs00) sty_32 rfl rfl (RdH.memM (k := 0) rfl (SlRc.lift (SlRc.lift (SlRc.lift hf00 hm_M64) hm_M103) hm_M263)) hr272) <| ya (Yld.loadA (xs := rs00) agg_29 rfl (RdH.memM (k := 0) rfl (SlRc.lift (SlRc.lift (SlRc.lift hf00 hm_M64) hm_M103) hm_M263)) hr272 rfl) <| c0 Try.func15 rfl (fun w hb hh => w_r25_Drops (Mem.snap w) x270.fClient x270.fKind x270.fKey x270.fCookie r_271_0.A r_271_0.n r_271_0.c _ (RdH.sn (RdH.memM (k := 0) rfl hq273_0) w hb hh) r_271_1.A r_271_1.n r_271_1.c _ (RdH.sn (RdH.memM (k := 0) rfl hq273_1) w hb hh) x270.fCall x270.fReturn x270.fClosed x270.fResult hx274) <| mv rfl <| spl h id Bool.eq_false_iff.2 (fun hc276 h => ?_) fun hc276 h => ?_
    ·obtain ⟨x277, hx277, h⟩ := bnd h
     obtain ⟨x278, hx278, h⟩ := bnd h
     refine mvg rfl <| yg (Yld.loadBM (k := 104) agg_25 rfl rfl rfl) <| mvg rfl <| mvg rfl <| yg (Yld.conv_i64_u64 some_3 und_75 rfl) <| yg (Yld.shlC rfl rfl hx277) <| yg (Yld.orC rfl rfl) <| mvg rfl <| WL.effG (by decide) rfl (Eff.callT rfl Try.func36 nm_36 rfl rfl (Tri.frame (X := Mem × List MapEntry × Nat) [0, 101] [0, 101] [HE.mem M263, HE.obj g1 (.map es264.toArray cl265)] (fun x r => r = .bool x278.1 /\ Ext w0.heap.size M263 x.1 /\ MapK (MKey.ek (κ := List (BitVec 8))) Value.bool x.2.1 x278.2) (fun x => [HE.mem x.1, HE.obj g1 (.map x.2.1.toArray x.2.2)]) rfl (by decide) (by decide) (by decide) rfl (fun _ => rfl) (fun e0 => hrc0 w0 e0 _ A00 n00 c00 rs00 _ (SlRc.lift (SlRc.lift (SlRc.lift hf00 hm_M64) hm_M103) hm_M263) (Rels.lift (Rels.lift (Rels.lift hq00 hm_M64) hm_M103) hm_M263) x01_0 x01_1 A01_2 n01_2 c01_2 _ (SlRc.lift (SlRc.lift (SlRc.lift hf01_2 hm_M64) hm_M103) hm_M263) (ori x02 x277) g1 es264 cl265 x262.2 hmr266 hx278))) ?_
     rintro _ _ ⟨⟨M279, es280, cl281⟩, ⟨rfl, hm_M279, hmr282⟩, rfl⟩
     refine pt rfl rfl <| dn <| k269 _ _ <| cnd h rfl id Bool.eq_false_iff.2 (fun hc283 h => ?_) fun hc283 h => ?_
     ·refine sr fun _ k284 => asn rfl <| dn <| k284 _ _ <| re <| br <| tr <| tr <| br <| tr ?_
      injection h with h; subst h
      exact Ret.tri [(1, e0), (0, .mem M279), (101, .obj g1 (.map es280.toArray cl281))] (ResIs.one rfl rfl) (sc (sc (sc sn))) ⟨⟨M279, es280, cl281⟩, ⟨rfl, (Ext.trans (Ext.trans (Ext.trans hm_M64 hm_M103) hm_M263) hm_M279), hmr282⟩, rfl⟩
     refine WC.skip <| bn <| tn <| k75 _ _ <| rg fun _ k285 => ?_
     obtain ⟨x286, hx286, h⟩ := bnd h
     exact mv rfl <| ya (Yld.addC rfl rfl hx286) <| asn rfl <| dn <| k285 _ _ <| tn <| kw (k71 ⟨M279, es280, cl281, x278.2, x286⟩ ⟨h, (Ext.trans (Ext.trans (Ext.trans hm_M64 hm_M103) hm_M263) hm_M279), hmr282⟩)
    refine sk <| sk <| sk <| sk <| sk <| sk <| sk <| sk <| sk <| pf rfl rfl <| dn <| k269 _ _ <| cdF rfl <| WC.skip <| bn <| tn <| k75 _ _ <| rg fun _ k287 => ?_
    obtain ⟨x288, hx288, h⟩ := bnd h
    exact mv rfl <| ya (Yld.addC rfl rfl hx288) <| asn rfl <| dn <| k287 _ _ <| tn <| kw (k71 ⟨M263, es264, cl265, x262.2, x288⟩ ⟨h, (Ext.trans (Ext.trans hm_M64 hm_M103) hm_M263), hmr266⟩)
   refine sk <| sk <| sk <| sk <| sk <| sk <| sk <| sk <| sk <| pf rfl rfl <| dn <| k259 _ _ <| cdF rfl <| ss <| k87 _ _ <| sr fun _ k289 => ?_
   obtain ⟨x290, hx290, h⟩ := bnd h
   obtain ⟨x294, hx294, h⟩ := bnd h
   refine mv rfl <| mv rfl ?_
   obtain ⟨⟨_, r_291_0, r_291_1⟩, hr292, rfl, hq293_0, hq293_1⟩ := Rels.idx (Rels.lift (Rels.lift hq00 hm_M64) hm_M103) hx290
   refine ya (Yld.idxC (xs := rs00) sty_32 rfl rfl (RdH.memM (k := 0) rfl (SlRc.lift (SlRc.lift hf00 hm_M64) hm_M103)) hr292) <| ya (Yld.loadA (xs := rs00) agg_29 rfl (RdH.memM (k := 0) rfl (SlRc.lift (SlRc.lift hf00 hm_M64) hm_M103)) hr292 rfl) <| c0 Try.func15 rfl (fun w hb hh => w_r25_Drops (Mem.snap w) x290.fClient x290.fKind x290.fKey x290.fCookie r_291_0.A r_291_0.n r_291_0.c _ (RdH.sn (RdH.memM (k := 0) rfl hq293_0) w hb hh) r_291_1.A r_291_1.n r_291_1.c _ (RdH.sn (RdH.memM (k := 0) rfl hq293_1) w hb hh) x290.fCall x290.fReturn x290.fClosed x290.fResult hx294) <| mv rfl <| spl h id Bool.eq_false_iff.2 (fun hc296 h => ?_) fun hc296 h => ?_
   ·obtain ⟨x297, hx297, h⟩ := bnd h
    obtain ⟨x298, hx298, h⟩ := bnd h
    refine mvg rfl <| yg (Yld.loadBM (k := 104) agg_25 rfl rfl rfl) <| mvg rfl <| mvg rfl <| yg (Yld.conv_i64_u64 some_3 und_75 rfl) <| yg (Yld.shlC rfl rfl hx297) <| yg (Yld.orC rfl rfl) <| mvg rfl <| WL.effG (by decide) rfl (Eff.callT rfl Try.func36 nm_36 rfl rfl (Tri.frame (X := Mem × List MapEntry × Nat) [0, 101] [0, 101] [HE.mem M103, HE.obj g1 (.map es65.toArray cl66)] (fun x r => r = .bool x298.1 /\ Ext w0.heap.size M103 x.1 /\ MapK (MKey.ek (κ := List (BitVec 8))) Value.bool x.2.1 x298.2) (fun x => [HE.mem x.1, HE.obj g1 (.map x.2.1.toArray x.2.2)]) rfl (by decide) (by decide) (by decide) rfl (fun _ => rfl) (fun e0 => hrc0 w0 e0 _ A00 n00 c00 rs00 _ (SlRc.lift (SlRc.lift hf00 hm_M64) hm_M103) (Rels.lift (Rels.lift hq00 hm_M64) hm_M103) x01_0 x01_1 A01_2 n01_2 c01_2 _ (SlRc.lift (SlRc.lift hf01_2 hm_M64) hm_M103) (ori x02 x297) g1 es65 cl66 x67 hmr68 hx298))) ?_
    rintro _ _ ⟨⟨M299, es300, cl301⟩, ⟨rfl, hm_M299, hmr302⟩, rfl⟩
    refine pt rfl rfl <| dn <| k289 _ _ <| cnd h rfl id Bool.eq_false_iff.2 (fun hc303 h => ?_) fun hc303 h => ?_
    ·refine sr fun _ k304 => asn rfl <| dn <| k304 _ _ <| re <| br <| tr <| tr <| br <| tr ?_
     injection h with h; subst h
     exact Ret.tri [(1, e0), (0, .mem M299), (101, .obj g1 (.map es300.toArray cl301))] (ResIs.one rfl rfl) (sc (sc (sc sn))) ⟨⟨M299, es300, cl301⟩, ⟨rfl, (Ext.trans (Ext.trans hm_M64 hm_M103) hm_M299), hmr302⟩, rfl⟩
    refine WC.skip <| bn <| tn <| k75 _ _ <| rg fun _ k305 => ?_
    obtain ⟨x306, hx306, h⟩ := bnd h
    exact mv rfl <| ya (Yld.addC rfl rfl hx306) <| asn rfl <| dn <| k305 _ _ <| tn <| kw (k71 ⟨M299, es300, cl301, x298.2, x306⟩ ⟨h, (Ext.trans (Ext.trans hm_M64 hm_M103) hm_M299), hmr302⟩)
   refine sk <| sk <| sk <| sk <| sk <| sk <| sk <| sk <| sk <| pf rfl rfl <| dn <| k289 _ _ <| cdF rfl <| WC.skip <| bn <| tn <| k75 _ _ <| rg fun _ k307 => ?_
   obtain ⟨x308, hx308, h⟩ := bnd h
   exact mv rfl <| ya (Yld.addC rfl rfl hx308) <| asn rfl <| dn <| k307 _ _ <| tn <| kw (k71 ⟨M103, es65, cl66, x67, x308⟩ ⟨h, (Ext.trans hm_M64 hm_M103), hmr68⟩)
  exact xi <| te <| te <| bx <| tn <| kw (k62 ⟨M64, es65, cl66, x67⟩ ⟨h, hm_M64, hmr68⟩)
 rintro ⟨M57, es58, cl59, x60⟩ ⟨h, hm_M57, hmr61⟩
 unfold m_r25_rest_j3 at h
 refine sr fun _ k309 => asn rfl <| dn <| k309 _ _ <| re ?_
 injection h with h; subst h
 exact Ret.tri [(1, e0), (0, .mem M57), (101, .obj g1 (.map es58.toArray cl59))] (ResIs.one rfl rfl) (sc (sc (sc sn))) ⟨⟨M57, es58, cl59⟩, ⟨rfl, hm_M57, hmr61⟩, rfl⟩
theorem w_r25_restR (q : Nat) : ∀ (w0 : World) (e0 : HE) (M0 : Mem) (A00 : Option Addr) (n00 c00 : Nat) (rs00 : List Rneedlestoreref24_Op) (x00 : List (Sneedlestoreref24_Op)) (hf00 : SlT M0 A00 n00 c00 rs00) (hq00 : Rels (rel_needlestoreref24_Op M0) rs00 x00) (x01_0 : Bool) (x01_1 : BitVec 32) (A01_2 : Option Addr) (n01_2 c01_2 : Nat) (x01_2 : List (BitVec 8)) (hf01_2 : SlT M0 A01_2 n01_2 c01_2 x01_2) (x02 : Int) (g1 : Nat) (es1 : List MapEntry) (cl1 : Nat) (x1 : List ((List (BitVec 8)) × Bool)) (hmr1 : MapK (MKey.ek (κ := List (BitVec 8))) Value.bool es1 x1) {res : Bool × (List ((List (BitVec 8)) × Bool))}, m_r25_restR q x00 x01_0 x01_1 x01_2 x02 x1 = some res -> Tri Try.prog 36 #[.slice A00 n00 c00, .agg ([.bool x01_0, U32 x01_1, .slice A01_2 n01_2 c01_2] : List Value).toArray, I64 x02, .map (some g1)] w0 [(1, e0), (0, HE.mem M0), (101, HE.obj g1 (.map es1.toArray cl1))] fun r H' => ∃ x : Mem × List MapEntry × Nat, (r = .bool res.1 /\ Ext w0.heap.size M0 x.1 /\ MapK (MKey.ek (κ := List (BitVec 8))) Value.bool x.2.1 res.2) /\ H' = [(1, e0), (0, HE.mem x.1), (101, HE.obj g1 (.map x.2.1.toArray x.2.2))] := by
 induction q with
 | zero => intro w0 e0 M0 A00 n00 c00 rs00 x00 hf00 hq00 x01_0 x01_1 A01_2 n01_2 c01_2 x01_2 hf01_2 x02 g1 es1 cl1 x1 hmr1 res h; cases h
 | succ q ih => intro w0 e0 M0 A00 n00 c00 rs00 x00 hf00 hq00 x01_0 x01_1 A01_2 n01_2 c01_2 x01_2 hf01_2 x02 g1 es1 cl1 x1 hmr1 res h; exact w_r25_restF (m_r25_restR q) ih w0 e0 M0 A00 n00 c00 rs00 x00 hf00 hq00 x01_0 x01_1 A01_2 n01_2 c01_2 x01_2 hf01_2 x02 g1 es1 cl1 x1 hmr1 h
theorem w_r25_rest (w0 : World) (e0 : HE) (M0 : Mem) (A00 : Option Addr) (n00 c00 : Nat) (rs00 : List Rneedlestoreref24_Op) (x00 : List (Sneedlestoreref24_Op)) (hf00 : SlT M0 A00 n00 c00 rs00) (hq00 : Rels (rel_needlestoreref24_Op M0) rs00 x00) (x01_0 : Bool) (x01_1 : BitVec 32) (A01_2 : Option Addr) (n01_2 c01_2 : Nat) (x01_2 : List (BitVec 8)) (hf01_2 : SlT M0 A01_2 n01_2 c01_2 x01_2) (x02 : Int) (g1 : Nat) (es1 : List MapEntry) (cl1 : Nat) (x1 : List ((List (BitVec 8)) × Bool)) (hmr1 : MapK (MKey.ek (κ := List (BitVec 8))) Value.bool es1 x1) {res : Bool × (List ((List (BitVec 8)) × Bool))} (h : m_r25_rest x00 x01_0 x01_1 x01_2 x02 x1 = some res) :
  Tri Try.prog 36 #[.slice A00 n00 c00, .agg ([.bool x01_0, U32 x01_1, .slice A01_2 n01_2 c01_2] : List Value).toArray, I64 x02, .map (some g1)] w0 [(1, e0), (0, HE.mem M0), (101, HE.obj g1 (.map es1.toArray cl1))] fun r H' => ∃ x : Mem × List MapEntry × Nat, (r = .bool res.1 /\ Ext w0.heap.size M0 x.1 /\ MapK (MKey.ek (κ := List (BitVec 8))) Value.bool x.2.1 res.2) /\ H' = [(1, e0), (0, HE.mem x.1), (101, HE.obj g1 (.map x.2.1.toArray x.2.2))] := by
 exact w_r25_restR forever w0 e0 M0 A00 n00 c00 rs00 x00 hf00 hq00 x01_0 x01_1 A01_2 n01_2 c01_2 x01_2 hf01_2 x02 g1 es1 cl1 x1 hmr1 h
theorem w_r25_Has (M0 : Mem) (A00 : Option Addr) (n00 c00 : Nat) (rs00 : List Rneedlestoreref24_Op) (x00 : List (Sneedlestoreref24_Op)) (hf00 : SlT M0 A00 n00 c00 rs00) (hq00 : Rels (rel_needlestoreref24_Op M0) rs00 x00) (x01_0 : Bool) (x01_1 : BitVec 32) (A01_2 : Option Addr) (n01_2 c01_2 : Nat) (x01_2 : List (BitVec 8)) (hf01_2 : SlT M0 A01_2 n01_2 c01_2 x01_2) {res : Bool} (h : m_r25_Has x00 x01_0 x01_1 x01_2 = some res) :
  Fn Try.prog 20 #[.slice A00 n00 c00, .agg ([.bool x01_0, U32 x01_1, .slice A01_2 n01_2 c01_2] : List Value).toArray] M0 fun r M' es => r = .bool res /\ es = [] := by
 refine Fn.intro (N := 9) Try.func20 rfl rfl (Nat.le_of_ble_eq_true rfl) fun w0 => ?_
 unfold m_r25_Has at h
 refine sr fun _ k1 => bb 102 [.bool x01_0, U32 x01_1, .slice A01_2 n01_2 c01_2] rfl fun g2 => asn rfl <| dn <| k1 _ _ <| sr fun _ k3 => ?_
 obtain ⟨x5, hx5, h⟩ := bnd h
 refine mv rfl <| ya (Yld.loadBM (k := 102) agg_25 rfl rfl rfl) <| WL.eff (by decide) (Eff.makeMap 104 rfl) ?_
 rintro _ _ ⟨g4, rfl, rfl⟩
 refine WL.eff (by decide) (Eff.callT rfl Try.func36 nm_36 rfl rfl (Tri.frame (X := Mem × List MapEntry × Nat) [0, 101] [0, 104] [HE.mem M0, HE.obj g4 (.map ([] : List MapEntry).toArray 0)] (fun x r => r = .bool x5.1 /\ Ext w0.heap.size M0 x.1 /\ MapK (MKey.ek (κ := List (BitVec 8))) Value.bool x.2.1 x5.2) (fun x => [HE.mem x.1, HE.obj g4 (.map x.2.1.toArray x.2.2)]) rfl (by decide) (by decide) (by decide) rfl (fun _ => rfl) (fun e0 => w_r25_rest w0 e0 _ A00 n00 c00 rs00 _ hf00 hq00 x01_0 x01_1 A01_2 n01_2 c01_2 _ hf01_2 (0 : Int) g4 ([] : List MapEntry) 0 ([] : List ((List (BitVec 8)) × Bool)) MapK.nil hx5))) ?_
 rintro _ _ ⟨⟨M6, es7, cl8⟩, ⟨rfl, hm_M6, hmr9⟩, rfl⟩
 refine asn rfl <| dn <| k3 _ _ <| re ?_
 injection h with h; subst h
 exact rt [] (ResIs.one rfl rfl) hm_M6 ⟨rfl, rfl⟩
theorem w_r25_Legal (M0 : Mem) (A00 : Option Addr) (n00 c00 : Nat) (rs00 : List Rneedlestoreref24_Op) (x00 : List (Sneedlestoreref24_Op)) (hf00 : SlT M0 A00 n00 c00 rs00) (hq00 : Rels (rel_needlestoreref24_Op M0) rs00 x00) (x01_0 : Bool) (x01_1 : BitVec 32) (A01_2 : Option Addr) (n01_2 c01_2 : Nat) (x01_2 : List (BitVec 8)) (hf01_2 : SlT M0 A01_2 n01_2 c01_2 x01_2) (A02 : Option Addr) (n02 c02 : Nat) (x02 : List (Int)) (hf02 : SlT M0 A02 n02 c02 x02) {res : Bool} (h : m_r25_Legal x00 x01_0 x01_1 x01_2 x02 = some res) :
  Fn Try.prog 21 #[.slice A00 n00 c00, .agg ([.bool x01_0, U32 x01_1, .slice A01_2 n01_2 c01_2] : List Value).toArray, .slice A02 n02 c02] M0 fun r M' es => r = .bool res /\ es = [] := by
 refine Fn.intro (N := 121) Try.func21 rfl rfl (Nat.le_of_ble_eq_true rfl) fun w0 => ?_
 unfold m_r25_Legal at h
 refine sr fun _ k1 => bb 102 [.bool x01_0, U32 x01_1, .slice A01_2 n01_2 c01_2] rfl fun g2 => asn rfl <| dn <| k1 _ _ <| sq fun _ k3 => sr fun _ k4 => ?_
 obtain ⟨x5, hx5, h⟩ := bnd h
 refine mv rfl <| c0 Try.func19 rfl (fun w hb hh => w_r24_Valid (Mem.snap w) A00 n00 c00 rs00 _ (RdH.sn (RdH.memM (k := 0) rfl hf00) w hb hh) (Rels.sn hq00 (hh.sat 0 _ rfl)) hx5) <| ya (Yld.notB rfl) <| dn <| k4 _ _ <| cnn h rfl not_f (fun q => not_t (Bool.eq_false_iff.2 q)) (fun hc7 h => ?_) fun hc7 h => ?_
 ·refine ss <| k3 _ _ <| sr fun _ k8 => ?_
  obtain ⟨x10, hx10, h⟩ := bnd h
  refine mv rfl <| ya (Yld.lenD (rs := rs00) (xs := x00) (Rels.len hq00) und_32 rfl (RdH.memM (k := 0) rfl hf00)) <| WL.eff (by decide) (Eff.makeC 109 (0 : Int) sty_51 rfl rfl rfl rfl rfl rfl hx10) ?_
  rintro _ _ ⟨g9, rfl, rfl⟩
  refine asn rfl <| dn <| k8 _ _ <| ct (σ := Mem × (List (Int))) (fun ⟨M11, x12⟩ => [(0, .slice A00 n00 c00), (7, .slice (some ⟨g9, 0, none⟩) x10.length x10.length)]) (fun ⟨M11, x12⟩ => [(0, .mem M11), (109, .own 3 (Lay.sz Int) (some ⟨g9, 0, none⟩) x10.length x10.length (cel x12))]) (fun ⟨M11, x12⟩ => m_r25_Legal_j0 x00 x12 = some res /\ Ext w0.heap.size M0 M11) (fun _ k13 => ?_) ?_
  ·refine sr fun _ k14 => asn rfl <| dn <| k14 _ _ <| bl <| lp (τ := Mem × Bool × (BitVec 32) × (Option Addr) × Nat × Nat × (List (BitVec 8)) × (List (Int)) × Int) (fun ⟨M15, x16, x17, A18, n19, c20, x21, x23, x24⟩ => [(0, .slice A00 n00 c00), (2, .slice A02 n02 c02), (4, .pointer (some ⟨g2, 0, none⟩)), (7, .slice (some ⟨g9, 0, none⟩) x10.length x10.length), (8, I64 x24)]) (fun ⟨M15, x16, x17, A18, n19, c20, x21, x23, x24⟩ => [(0, .mem M15), (102, .blk g2 25 [.bool x16, U32 x17, .slice A18 n19 c20]), (109, .own 3 (Lay.sz Int) (some ⟨g9, 0, none⟩) x10.length x10.length (cel x23))]) (fun q25 ⟨M15, x16, x17, A18, n19, c20, x21, x23, x24⟩ => m_r25_Legal_l1 x00 x02 q25 x16 x17 x21 x23 x24 = some res /\ Ext w0.heap.size M0 M15 /\ SlT M15 A18 n19 c20 x21) ⟨M0, x01_0, x01_1, A01_2, n01_2, c01_2, x01_2, x10, (0 : Int)⟩ ?_ (by simp [m_r25_Legal_l1]) ?_
   ·exact ⟨h, (Ext.refl _ _), hf01_2⟩
   rintro q25 ⟨M15, x16, x17, A18, n19, c20, x21, x23, x24⟩ ⟨h, hm_M15, hf22⟩ _ k26
   unfold m_r25_Legal_l1 at h
   refine sq fun _ k27 => sr fun _ k28 => mv rfl <| mv rfl <| ya (Yld.lenC (xs := x02) und_51 rfl (RdH.memM (k := 0) rfl (SlRc.lift hf02 hm_M15))) <| ya (Yld.lss rfl rfl) <| dn <| k28 _ _ <| cnd h rfl decide_eq_true decide_eq_false (fun hc29 h => ?_) fun hc29 h => ?_
   ·refine ss <| k27 _ _ <| sq fun _ k30 => bl <| sr fun _ k31 => ?_
    obtain ⟨x32, hx32, h⟩ := bnd h
    refine mv rfl <| mv rfl <| ya (Yld.idxC (xs := x02) sty_51 rfl rfl (RdH.memM (k := 0) rfl (SlRc.lift hf02 hm_M15)) hx32) <| ya (Yld.loadC0 (xs := x02) scal_3 rfl (RdH.memM (k := 0) rfl (SlRc.lift hf02 hm_M15)) hx32 rfl) <| asn rfl <| dn <| k31 _ _ <| ct (σ := Unit) (fun _ => [(0, .slice A00 n00 c00), (2, .slice A02 n02 c02), (4, .pointer (some ⟨g2, 0, none⟩)), (7, .slice (some ⟨g9, 0, none⟩) x10.length x10.length), (8, I64 x24), (9, I64 x32)]) (fun _ => [(0, .mem M15), (102, .blk g2 25 [.bool x16, U32 x17, .slice A18 n19 c20]), (109, .own 3 (Lay.sz Int) (some ⟨g9, 0, none⟩) x10.length x10.length (cel x23))]) (fun _ => m_r25_Legal_j2 x00 x16 x17 x21 x23 x24 x32 (m_r25_Legal_l1 x00 x02 q25) = some res) (fun _ k33 => ?_) ?_
    ·refine sr fun _ k34 => mv rfl <| ya (Yld.lss rfl rfl) <| mv rfl <| spl h decide_eq_true decide_eq_false (fun hc35 h => ?_) fun hc35 h => ?_
     ·refine sk <| sk <| sk <| sk <| pt rfl rfl <| mv rfl <| sk <| sk <| sk <| sk <| sk <| pt rfl rfl <| dn <| k34 _ _ <| cdT rfl <| sr fun _ k36 => asn rfl <| dn <| k36 _ _ <| re <| tr <| br <| tr <| tr <| br <| tr ?_
      injection h with h; subst h
      exact rt [] (ResIs.one rfl rfl) hm_M15 ⟨rfl, rfl⟩
     refine mvg rfl <| mvg rfl <| yg (Yld.lenD (rs := rs00) (xs := x00) (Rels.len (Rels.lift hq00 hm_M15)) und_32 rfl (RdH.memM (k := 0) rfl (SlRc.lift hf00 hm_M15))) <| yg (Yld.geq rfl rfl) <| pf rfl rfl <| mv rfl <| spl h decide_eq_true decide_eq_false (fun hc37 h => ?_) fun hc37 h => ?_
     ·refine sk <| sk <| sk <| sk <| sk <| pt rfl rfl <| dn <| k34 _ _ <| cdT rfl <| sr fun _ k38 => asn rfl <| dn <| k38 _ _ <| re <| tr <| br <| tr <| tr <| br <| tr ?_
      injection h with h; subst h
      exact rt [] (ResIs.one rfl rfl) hm_M15 ⟨rfl, rfl⟩
     obtain ⟨x39, hx39, h⟩ := bnd h
     refine mvg rfl <| mvg rfl <| yg (Yld.idxC (xs := x23) sty_51 rfl rfl (RdH.own (k := 109) rfl) hx39) <| yg (Yld.loadC0 (xs := x23) scal_3 rfl (RdH.own (k := 109) rfl) hx39 rfl) <| yg (Yld.gtr rfl rfl) <| pf rfl rfl <| dn <| k34 _ _ <| cnd h rfl decide_eq_true decide_eq_false (fun hc40 h => ?_) fun hc40 h => ?_
     ·refine sr fun _ k41 => asn rfl <| dn <| k41 _ _ <| re <| tr <| br <| tr <| tr <| br <| tr ?_
      injection h with h; subst h
      exact rt [] (ResIs.one rfl rfl) hm_M15 ⟨rfl, rfl⟩
     exact WC.skip <| tn <| kw (k33 () h)
    rintro _ h
    unfold m_r25_Legal_j2 at h
    refine sr fun _ k42 => ?_
    obtain ⟨x43, hx43, h⟩ := bnd h
    obtain ⟨x44, hx44, h⟩ := bnd h
    obtain ⟨x45, hx45, h⟩ := bnd h
    refine mv rfl <| mv rfl <| mv rfl <| ya (Yld.addC rfl rfl hx43) <| ya (Yld.idxC (xs := x23) sty_51 rfl rfl (RdH.own (k := 109) rfl) hx44) <| WL.eff0 (Eff0.storeC1 109 (xs := x23) (a' := x43) siz_3 rfl rfl rfl rfl rfl rfl hx45) <| dn <| k42 _ _ <| sd [(102, _), (109, _)] mixed fun _ k46 => ?_
    obtain ⟨x47, hx47, h⟩ := bnd h
    obtain ⟨x51, hx51, h⟩ := bnd h
    refine du 0 rfl (Yld.loadBM (k := 102) agg_25 rfl rfl rfl) <| dm 1 rfl rfl <| dm 2 rfl rfl <| WD.two 3 9 (by kernel_rfl) ?_ ?_
    ·obtain ⟨⟨_, r_48_0, r_48_1⟩, hr49, rfl, hq50_0, hq50_1⟩ := Rels.idx (Rels.lift hq00 hm_M15) hx47
     refine dy rfl (Yld.idxC (xs := rs00) sty_32 rfl rfl (RdH.memM (k := 0) rfl (SlRc.lift hf00 hm_M15)) hr49) <| WD.two 4 9 (by kernel_rfl) ?_ ?_
     ·refine dy rfl (Yld.loadA (xs := rs00) agg_29 rfl (RdH.memM (k := 0) rfl (SlRc.lift hf00 hm_M15)) hr49 rfl) <| WD.two 5 9 (by kernel_rfl) ?_ ?_
      ·refine WS.eff rfl (by decide) (Eff.callM 156 rfl Try.func13 nm_13 rfl rfl rfl (w_r25_Step _ x16 x17 A18 n19 c20 _ hf22 x47.fClient x47.fKind x47.fKey x47.fCookie r_48_0.A r_48_0.n r_48_0.c _ hq50_0 r_48_1.A r_48_1.n r_48_1.c _ hq50_1 x47.fCall x47.fReturn x47.fClosed x47.fResult hx51)) ?_
       rintro _ _ ⟨M61, _, ⟨A62, n63, c64, rfl, rfl, hf65⟩, hm_M61, rfl⟩
       refine ad ?_ (by repeat (first | exact sn | refine sc ?_))
       refine dm 6 rfl rfl <| du 7 rfl (Yld.extract rfl rfl) <| du 8 rfl (Yld.extract rfl rfl) <| on 9 <| WS.eff rfl (by decide) (Eff.alloc 166 rfl zr_25) ?_
       rintro _ _ ⟨g66, rfl, rfl⟩
       refine ad ?_ (by repeat (first | exact sn | refine sc ?_))
       refine on 10 <| ds 166 rfl agg_25 rfl rfl rfl <| du 11 rfl (Yld.assign rfl) <| dd <| k46 _ _ <| sq fun _ k67 => sr fun _ k68 => mv rfl <| ya (Yld.notB rfl) <| dn <| k68 _ _ <| cnn h rfl not_f (fun q => not_t (Bool.eq_false_iff.2 q)) (fun hc69 h => ?_) fun hc69 h => ?_
       ·refine ss <| k67 _ _ <| rg fun _ k70 => ya (Yld.loadBM (k := 166) agg_25 rfl rfl rfl) <| sb 102 agg_25 rfl rfl rfl <| dn <| k70 _ _ <| bn <| tn <| k30 _ _ <| rg fun _ k71 => ?_
        obtain ⟨x72, hx72, h⟩ := bnd h
        exact mv rfl <| ya (Yld.addC rfl rfl hx72) <| asn rfl <| dn <| k71 _ _ <| tn <| kw (k26 ⟨M61, x51.1, x51.2.1, A62, n63, c64, x51.2.2.1, x45, x72⟩ ⟨h, (Ext.trans hm_M15 hm_M61), hf65⟩)
       refine sr fun _ k73 => asn rfl <| dn <| k73 _ _ <| re <| tr <| br <| tr <| tr <| br <| tr ?_
       injection h with h; subst h
       exact rt [] (ResIs.one rfl rfl) (Ext.trans hm_M15 hm_M61) ⟨rfl, rfl⟩
      skip
      refine WS.eff rfl (by decide) (Eff.alloc 166 rfl zr_25) ?_
      rintro _ _ ⟨g66, rfl, rfl⟩
      refine ad ?_ (by repeat (first | exact sn | refine sc ?_))
      refine on 5 <| WS.eff rfl (by decide) (Eff.callM 156 rfl Try.func13 nm_13 rfl rfl rfl (w_r25_Step _ x16 x17 A18 n19 c20 _ hf22 x47.fClient x47.fKind x47.fKey x47.fCookie r_48_0.A r_48_0.n r_48_0.c _ hq50_0 r_48_1.A r_48_1.n r_48_1.c _ hq50_1 x47.fCall x47.fReturn x47.fClosed x47.fResult hx51)) ?_
      rintro _ _ ⟨M61, _, ⟨A62, n63, c64, rfl, rfl, hf65⟩, hm_M61, rfl⟩
      refine ad ?_ (by repeat (first | exact sn | refine sc ?_))
      refine dm 6 rfl rfl <| du 7 rfl (Yld.extract rfl rfl) <| du 8 rfl (Yld.extract rfl rfl) <| on 10 <| ds 166 rfl agg_25 rfl rfl rfl <| du 11 rfl (Yld.assign rfl) <| dd <| k46 _ _ <| sq fun _ k74 => sr fun _ k75 => mv rfl <| ya (Yld.notB rfl) <| dn <| k75 _ _ <| cnn h rfl not_f (fun q => not_t (Bool.eq_false_iff.2 q)) (fun hc76 h => ?_) fun hc76 h => ?_
      ·refine ss <| k74 _ _ <| rg fun _ k77 => ya (Yld.loadBM (k := 166) agg_25 rfl rfl rfl) <| sb 102 agg_25 rfl rfl rfl <| dn <| k77 _ _ <| bn <| tn <| k30 _ _ <| rg fun _ k78 => ?_
       obtain ⟨x79, hx79, h⟩ := bnd h
       exact mv rfl <| ya (Yld.addC rfl rfl hx79) <| asn rfl <| dn <| k78 _ _ <| tn <| kw (k26 ⟨M61, x51.1, x51.2.1, A62, n63, c64, x51.2.2.1, x45, x79⟩ ⟨h, (Ext.trans hm_M15 hm_M61), hf65⟩)
      refine sr fun _ k80 => asn rfl <| dn <| k80 _ _ <| re <| tr <| br <| tr <| tr <| br <| tr ?_
      injection h with h; subst h
      exact rt [] (ResIs.one rfl rfl) (Ext.trans hm_M15 hm_M61) ⟨rfl, rfl⟩
     skip
     refine WS.eff rfl (by decide) (Eff.alloc 166 rfl zr_25) ?_
     rintro _ _ ⟨g66, rfl, rfl⟩
     refine ad ?_ (by repeat (first | exact sn | refine sc ?_))
     refine on 4 <| dy rfl (Yld.loadA (xs := rs00) agg_29 rfl (RdH.memM (k := 0) rfl (SlRc.lift hf00 hm_M15)) hr49 rfl) <| on 5 <| WS.eff rfl (by decide) (Eff.callM 156 rfl Try.func13 nm_13 rfl rfl rfl (w_r25_Step _ x16 x17 A18 n19 c20 _ hf22 x47.fClient x47.fKind x47.fKey x47.fCookie r_48_0.A r_48_0.n r_48_0.c _ hq50_0 r_48_1.A r_48_1.n r_48_1.c _ hq50_1 x47.fCall x47.fReturn x47.fClosed x47.fResult hx51)) ?_
     rintro _ _ ⟨M61, _, ⟨A62, n63, c64, rfl, rfl, hf65⟩, hm_M61, rfl⟩
     refine ad ?_ (by repeat (first | exact sn | refine sc ?_))
     refine dm 6 rfl rfl <| du 7 rfl (Yld.extract rfl rfl) <| du 8 rfl (Yld.extract rfl rfl) <| on 10 <| ds 166 rfl agg_25 rfl rfl rfl <| du 11 rfl (Yld.assign rfl) <| dd <| k46 _ _ <| sq fun _ k81 => sr fun _ k82 => mv rfl <| ya (Yld.notB rfl) <| dn <| k82 _ _ <| cnn h rfl not_f (fun q => not_t (Bool.eq_false_iff.2 q)) (fun hc83 h => ?_) fun hc83 h => ?_
     ·refine ss <| k81 _ _ <| rg fun _ k84 => ya (Yld.loadBM (k := 166) agg_25 rfl rfl rfl) <| sb 102 agg_25 rfl rfl rfl <| dn <| k84 _ _ <| bn <| tn <| k30 _ _ <| rg fun _ k85 => ?_
      obtain ⟨x86, hx86, h⟩ := bnd h
      exact mv rfl <| ya (Yld.addC rfl rfl hx86) <| asn rfl <| dn <| k85 _ _ <| tn <| kw (k26 ⟨M61, x51.1, x51.2.1, A62, n63, c64, x51.2.2.1, x45, x86⟩ ⟨h, (Ext.trans hm_M15 hm_M61), hf65⟩)
     refine sr fun _ k87 => asn rfl <| dn <| k87 _ _ <| re <| tr <| br <| tr <| tr <| br <| tr ?_
     injection h with h; subst h
     exact rt [] (ResIs.one rfl rfl) (Ext.trans hm_M15 hm_M61) ⟨rfl, rfl⟩
    skip
    refine WS.eff rfl (by decide) (Eff.alloc 166 rfl zr_25) ?_
    rintro _ _ ⟨g66, rfl, rfl⟩
    refine ad ?_ (by repeat (first | exact sn | refine sc ?_))
    refine on 3 ?_
    obtain ⟨⟨_, r_48_0, r_48_1⟩, hr49, rfl, hq50_0, hq50_1⟩ := Rels.idx (Rels.lift hq00 hm_M15) hx47
    refine dy rfl (Yld.idxC (xs := rs00) sty_32 rfl rfl (RdH.memM (k := 0) rfl (SlRc.lift hf00 hm_M15)) hr49) <| on 4 <| dy rfl (Yld.loadA (xs := rs00) agg_29 rfl (RdH.memM (k := 0) rfl (SlRc.lift hf00 hm_M15)) hr49 rfl) <| on 5 <| WS.eff rfl (by decide) (Eff.callM 156 rfl Try.func13 nm_13 rfl rfl rfl (w_r25_Step _ x16 x17 A18 n19 c20 _ hf22 x47.fClient x47.fKind x47.fKey x47.fCookie r_48_0.A r_48_0.n r_48_0.c _ hq50_0 r_48_1.A r_48_1.n r_48_1.c _ hq50_1 x47.fCall x47.fReturn x47.fClosed x47.fResult hx51)) ?_
    rintro _ _ ⟨M61, _, ⟨A62, n63, c64, rfl, rfl, hf65⟩, hm_M61, rfl⟩
    refine ad ?_ (by repeat (first | exact sn | refine sc ?_))
    refine dm 6 rfl rfl <| du 7 rfl (Yld.extract rfl rfl) <| du 8 rfl (Yld.extract rfl rfl) <| on 10 <| ds 166 rfl agg_25 rfl rfl rfl <| du 11 rfl (Yld.assign rfl) <| dd <| k46 _ _ <| sq fun _ k88 => sr fun _ k89 => mv rfl <| ya (Yld.notB rfl) <| dn <| k89 _ _ <| cnn h rfl not_f (fun q => not_t (Bool.eq_false_iff.2 q)) (fun hc90 h => ?_) fun hc90 h => ?_
    ·refine ss <| k88 _ _ <| rg fun _ k91 => ya (Yld.loadBM (k := 166) agg_25 rfl rfl rfl) <| sb 102 agg_25 rfl rfl rfl <| dn <| k91 _ _ <| bn <| tn <| k30 _ _ <| rg fun _ k92 => ?_
     obtain ⟨x93, hx93, h⟩ := bnd h
     exact mv rfl <| ya (Yld.addC rfl rfl hx93) <| asn rfl <| dn <| k92 _ _ <| tn <| kw (k26 ⟨M61, x51.1, x51.2.1, A62, n63, c64, x51.2.2.1, x45, x93⟩ ⟨h, (Ext.trans hm_M15 hm_M61), hf65⟩)
    refine sr fun _ k94 => asn rfl <| dn <| k94 _ _ <| re <| tr <| br <| tr <| tr <| br <| tr ?_
    injection h with h; subst h
    exact rt [] (ResIs.one rfl rfl) (Ext.trans hm_M15 hm_M61) ⟨rfl, rfl⟩
   exact xi <| te <| te <| bx <| tn <| kw (k13 ⟨M15, x23⟩ ⟨h, hm_M15⟩)
  rintro ⟨M11, x12⟩ ⟨h, hm_M11⟩
  unfold m_r25_Legal_j0 at h
  refine ct (σ := Unit) (fun _ => []) (fun _ => [(0, .mem M11)]) (fun _ => m_r25_Legal_j3 = some res) (fun _ k95 => ?_) ?_
  ·refine sr fun _ k96 => asn rfl <| dn <| k96 _ _ <| bl <| lp (τ := Int) (fun x97 => [(0, .slice A00 n00 c00), (7, .slice (some ⟨g9, 0, none⟩) x10.length x10.length), (12, I64 x97)]) (fun x97 => [(0, .mem M11), (109, .own 3 (Lay.sz Int) (some ⟨g9, 0, none⟩) x10.length x10.length (cel x12))]) (fun q98 x97 => m_r25_Legal_l4 x00 x12 q98 x97 = some res) ((0 : Int)) ?_ (by simp [m_r25_Legal_l4]) ?_
   ·exact h
   rintro q98 x97 h _ k99
   unfold m_r25_Legal_l4 at h
   refine sq fun _ k100 => sr fun _ k101 => mv rfl <| mv rfl <| ya (Yld.lenD (rs := rs00) (xs := x00) (Rels.len (Rels.lift hq00 hm_M11)) und_32 rfl (RdH.memM (k := 0) rfl (SlRc.lift hf00 hm_M11))) <| ya (Yld.lss rfl rfl) <| dn <| k101 _ _ <| cnd h rfl decide_eq_true decide_eq_false (fun hc102 h => ?_) fun hc102 h => ?_
   ·refine ss <| k100 _ _ <| ct (σ := Unit) (fun _ => [(0, .slice A00 n00 c00), (7, .slice (some ⟨g9, 0, none⟩) x10.length x10.length), (12, I64 x97)]) (fun _ => [(0, .mem M11), (109, .own 3 (Lay.sz Int) (some ⟨g9, 0, none⟩) x10.length x10.length (cel x12))]) (fun _ => m_r25_Legal_j5 x97 (m_r25_Legal_l4 x00 x12 q98) = some res) (fun _ k103 => ?_) ?_
    ·refine bl <| ct (σ := Unit) (fun _ => [(0, .slice A00 n00 c00), (7, .slice (some ⟨g9, 0, none⟩) x10.length x10.length), (12, I64 x97)]) (fun _ => [(0, .mem M11), (109, .own 3 (Lay.sz Int) (some ⟨g9, 0, none⟩) x10.length x10.length (cel x12))]) (fun _ => m_r25_Legal_j6 x00 x12 x97 (m_r25_Legal_l4 x00 x12 q98) = some res) (fun _ k104 => ?_) ?_
     ·refine sr fun _ k105 => ?_
      obtain ⟨x106, hx106, h⟩ := bnd h
      refine mv rfl <| mv rfl <| ya (Yld.idxC (xs := x12) sty_51 rfl rfl (RdH.own (k := 109) rfl) hx106) <| ya (Yld.loadC0 (xs := x12) scal_3 rfl (RdH.own (k := 109) rfl) hx106 rfl) <| ya (Yld.eqlI rfl rfl) <| mv rfl <| spl h beq_iff_eq.2 beq_eq_false_iff_ne.2 (fun hc107 h => ?_) fun hc107 h => ?_
      ·obtain ⟨x108, hx108, h⟩ := bnd h
       obtain ⟨x112, hx112, h⟩ := bnd h
       refine mvg rfl <| mvg rfl ?_
       obtain ⟨⟨_, r_109_0, r_109_1⟩, hr110, rfl, hq111_0, hq111_1⟩ := Rels.idx (Rels.lift hq00 hm_M11) hx108
       refine yg (Yld.idxC (xs := rs00) sty_32 rfl rfl (RdH.memM (k := 0) rfl (SlRc.lift hf00 hm_M11)) hr110) <| yg (Yld.loadA (xs := rs00) agg_29 rfl (RdH.memM (k := 0) rfl (SlRc.lift hf00 hm_M11)) hr110 rfl) <| c0g Try.func15 rfl (fun w hb hh => w_r25_Drops (Mem.snap w) x108.fClient x108.fKind x108.fKey x108.fCookie r_109_0.A r_109_0.n r_109_0.c _ (RdH.sn (RdH.memM (k := 0) rfl hq111_0) w hb hh) r_109_1.A r_109_1.n r_109_1.c _ (RdH.sn (RdH.memM (k := 0) rfl hq111_1) w hb hh) x108.fCall x108.fReturn x108.fClosed x108.fResult hx112) <| yg (Yld.notB rfl) <| pt rfl rfl <| dn <| k105 _ _ <| cnn h rfl not_f (fun q => not_t (Bool.eq_false_iff.2 q)) (fun hc114 h => ?_) fun hc114 h => ?_
       ·exact WC.skip <| tn <| kw (k104 () h)
       refine sr fun _ k115 => asn rfl <| dn <| k115 _ _ <| re <| tr <| br <| tr <| tr <| br <| tr ?_
       injection h with h; subst h
       exact rt [] (ResIs.one rfl rfl) hm_M11 ⟨rfl, rfl⟩
      exact sk <| sk <| sk <| sk <| sk <| sk <| pf rfl rfl <| dn <| k105 _ _ <| cdF rfl <| WC.skip <| tn <| kw (k104 () h)
     rintro _ h
     unfold m_r25_Legal_j6 at h
     refine sr fun _ k116 => asn rfl <| dn <| k116 _ _ <| bl <| lp (τ := Int) (fun x117 => [(0, .slice A00 n00 c00), (7, .slice (some ⟨g9, 0, none⟩) x10.length x10.length), (12, I64 x97), (13, I64 x117)]) (fun x117 => [(0, .mem M11), (109, .own 3 (Lay.sz Int) (some ⟨g9, 0, none⟩) x10.length x10.length (cel x12))]) (fun q118 x117 => m_r25_Legal_l7 x00 x12 x97 (m_r25_Legal_l4 x00 x12 q98) q118 x117 = some res) ((0 : Int)) ?_ (by simp [m_r25_Legal_l7]) ?_
     ·exact h
     rintro q118 x117 h _ k119
     unfold m_r25_Legal_l7 at h
     refine sq fun _ k120 => sr fun _ k121 => mv rfl <| mv rfl <| ya (Yld.lenD (rs := rs00) (xs := x00) (Rels.len (Rels.lift hq00 hm_M11)) und_32 rfl (RdH.memM (k := 0) rfl (SlRc.lift hf00 hm_M11))) <| ya (Yld.lss rfl rfl) <| dn <| k121 _ _ <| cnd h rfl decide_eq_true decide_eq_false (fun hc122 h => ?_) fun hc122 h => ?_
     ·refine ss <| k120 _ _ <| sq fun _ k123 => bl <| sd [(0, _), (109, _)] mixed fun _ k124 => ?_
      obtain ⟨x125, hx125, h⟩ := bnd h
      by_cases hc126 : (0 : Int) < x125
      ·replace h := of_t hc126 h
       obtain ⟨x127, hx127, h⟩ := bnd h
       by_cases hc128 : (0 : Int) < x127
       ·replace h := of_t hc128 h
        obtain ⟨x129, hx129, h⟩ := bnd h
        obtain ⟨x133, hx133, h⟩ := bnd h
        obtain ⟨x137, hx137, h⟩ := bnd h
        by_cases hc139 : x137 = true
        ·replace h := of_t hc139 h
         obtain ⟨x140, hx140, h⟩ := bnd h
         obtain ⟨x141, hx141, h⟩ := bnd h
         refine dm 0 rfl rfl <| dm 1 rfl rfl <| du 2 rfl (Yld.idxC (xs := x12) sty_51 rfl rfl (RdH.own (k := 109) rfl) hx125) <| du 3 rfl (Yld.loadC0 (xs := x12) scal_3 rfl (RdH.own (k := 109) rfl) hx125 rfl) <| du 4 rfl (Yld.gtr rfl rfl) <| dm 5 rfl rfl <| WD.new (v' := .bool true) (congrArg Value.bool (decide_eq_true hc126)) <| dv 6 rfl (Yld.move rfl) <| dv 7 rfl (Yld.move rfl) <| dv 8 rfl (Yld.idxC (xs := x12) sty_51 rfl rfl (RdH.own (k := 109) rfl) hx127) <| dv 9 rfl (Yld.loadC0 (xs := x12) scal_3 rfl (RdH.own (k := 109) rfl) hx127 rfl) <| dv 10 rfl (Yld.gtr rfl rfl) <| du 11 rfl (Yld.pickT rfl rfl) <| dm 12 rfl rfl <| WD.new (v' := .bool true) (congrArg Value.bool (decide_eq_true hc128)) <| dv 13 rfl (Yld.move rfl) <| dv 14 rfl (Yld.move rfl) ?_
         obtain ⟨⟨_, r_130_0, r_130_1⟩, hr131, rfl, hq132_0, hq132_1⟩ := Rels.idx (Rels.lift hq00 hm_M11) hx129
         refine dv 15 rfl (Yld.idxC (xs := rs00) sty_32 rfl rfl (RdH.memM (k := 0) rfl (SlRc.lift hf00 hm_M11)) hr131) <| dv 16 rfl (Yld.loadA (xs := rs00) agg_29 rfl (RdH.memM (k := 0) rfl (SlRc.lift hf00 hm_M11)) hr131 rfl) <| dv 17 rfl (Yld.move rfl) <| dv 18 rfl (Yld.move rfl) ?_
         obtain ⟨⟨_, r_134_0, r_134_1⟩, hr135, rfl, hq136_0, hq136_1⟩ := Rels.idx (Rels.lift hq00 hm_M11) hx133
         refine dv 19 rfl (Yld.idxC (xs := rs00) sty_32 rfl rfl (RdH.memM (k := 0) rfl (SlRc.lift hf00 hm_M11)) hr135) <| dv 20 rfl (Yld.loadA (xs := rs00) agg_29 rfl (RdH.memM (k := 0) rfl (SlRc.lift hf00 hm_M11)) hr135 rfl) <| on 21 <| WS.effG rfl (by decide) rfl (Eff.callS 238 rfl Try.func35 nm_35 rfl rfl (fun w hb hh => w_r24_Before (Mem.snap w) x129.fClient x129.fKind x129.fKey x129.fCookie r_130_0.A r_130_0.n r_130_0.c _ (RdH.sn (RdH.memM (k := 0) rfl hq132_0) w hb hh) r_130_1.A r_130_1.n r_130_1.c _ (RdH.sn (RdH.memM (k := 0) rfl hq132_1) w hb hh) x129.fCall x129.fReturn x129.fClosed x129.fResult x133.fClient x133.fKind x133.fKey x133.fCookie r_134_0.A r_134_0.n r_134_0.c _ (RdH.sn (RdH.memM (k := 0) rfl hq136_0) w hb hh) r_134_1.A r_134_1.n r_134_1.c _ (RdH.sn (RdH.memM (k := 0) rfl hq136_1) w hb hh) x133.fCall x133.fReturn x133.fClosed x133.fResult hx137)) ?_
         rintro _ _ ⟨_, ⟨rfl, rfl⟩, rfl⟩
         refine ad ?_ (by repeat (first | exact sn | refine sc ?_))
         refine du 22 rfl (Yld.pickT rfl rfl) <| dm 23 rfl rfl <| WD.new (v' := .bool true) (congrArg Value.bool hc139) <| dv 24 rfl (Yld.move rfl) <| dv 25 rfl (Yld.move rfl) <| dv 26 rfl (Yld.idxC (xs := x12) sty_51 rfl rfl (RdH.own (k := 109) rfl) hx140) <| dv 27 rfl (Yld.loadC0 (xs := x12) scal_3 rfl (RdH.own (k := 109) rfl) hx140 rfl) <| dv 28 rfl (Yld.move rfl) <| dv 29 rfl (Yld.move rfl) <| dv 30 rfl (Yld.idxC (xs := x12) sty_51 rfl rfl (RdH.own (k := 109) rfl) hx141) <| dv 31 rfl (Yld.loadC0 (xs := x12) scal_3 rfl (RdH.own (k := 109) rfl) hx141 rfl) <| dv 32 rfl (Yld.gtr rfl rfl) <| du 33 rfl (Yld.pickT rfl rfl) <| dd <| k124 _ _ <| cnd h rfl decide_eq_true decide_eq_false (fun hc142 h => ?_) fun hc142 h => ?_
         ·refine sr fun _ k143 => asn rfl <| dn <| k143 _ _ <| re <| br <| tr <| tr <| br <| br <| tr <| tr <| br <| tr ?_
          injection h with h; subst h
          exact rt [] (ResIs.one rfl rfl) hm_M11 ⟨rfl, rfl⟩
         refine WC.skip <| bn <| tn <| k123 _ _ <| rg fun _ k144 => ?_
         obtain ⟨x145, hx145, h⟩ := bnd h
         exact mv rfl <| ya (Yld.addC rfl rfl hx145) <| asn rfl <| dn <| k144 _ _ <| tn <| kw (k119 (x145) h)
        replace h := of_f hc139 h
        refine dm 0 rfl rfl <| dm 1 rfl rfl <| du 2 rfl (Yld.idxC (xs := x12) sty_51 rfl rfl (RdH.own (k := 109) rfl) hx125) <| du 3 rfl (Yld.loadC0 (xs := x12) scal_3 rfl (RdH.own (k := 109) rfl) hx125 rfl) <| du 4 rfl (Yld.gtr rfl rfl) <| dm 5 rfl rfl <| WD.new (v' := .bool true) (congrArg Value.bool (decide_eq_true hc126)) <| dv 6 rfl (Yld.move rfl) <| dv 7 rfl (Yld.move rfl) <| dv 8 rfl (Yld.idxC (xs := x12) sty_51 rfl rfl (RdH.own (k := 109) rfl) hx127) <| dv 9 rfl (Yld.loadC0 (xs := x12) scal_3 rfl (RdH.own (k := 109) rfl) hx127 rfl) <| dv 10 rfl (Yld.gtr rfl rfl) <| du 11 rfl (Yld.pickT rfl rfl) <| dm 12 rfl rfl <| WD.new (v' := .bool true) (congrArg Value.bool (decide_eq_true hc128)) <| dv 13 rfl (Yld.move rfl) <| dv 14 rfl (Yld.move rfl) ?_
        obtain ⟨⟨_, r_130_0, r_130_1⟩, hr131, rfl, hq132_0, hq132_1⟩ := Rels.idx (Rels.lift hq00 hm_M11) hx129
        refine dv 15 rfl (Yld.idxC (xs := rs00) sty_32 rfl rfl (RdH.memM (k := 0) rfl (SlRc.lift hf00 hm_M11)) hr131) <| dv 16 rfl (Yld.loadA (xs := rs00) agg_29 rfl (RdH.memM (k := 0) rfl (SlRc.lift hf00 hm_M11)) hr131 rfl) <| dv 17 rfl (Yld.move rfl) <| dv 18 rfl (Yld.move rfl) ?_
        obtain ⟨⟨_, r_134_0, r_134_1⟩, hr135, rfl, hq136_0, hq136_1⟩ := Rels.idx (Rels.lift hq00 hm_M11) hx133
        refine dv 19 rfl (Yld.idxC (xs := rs00) sty_32 rfl rfl (RdH.memM (k := 0) rfl (SlRc.lift hf00 hm_M11)) hr135) <| dv 20 rfl (Yld.loadA (xs := rs00) agg_29 rfl (RdH.memM (k := 0) rfl (SlRc.lift hf00 hm_M11)) hr135 rfl) <| on 21 <| WS.effG rfl (by decide) rfl (Eff.callS 238 rfl Try.func35 nm_35 rfl rfl (fun w hb hh => w_r24_Before (Mem.snap w) x129.fClient x129.fKind x129.fKey x129.fCookie r_130_0.A r_130_0.n r_130_0.c _ (RdH.sn (RdH.memM (k := 0) rfl hq132_0) w hb hh) r_130_1.A r_130_1.n r_130_1.c _ (RdH.sn (RdH.memM (k := 0) rfl hq132_1) w hb hh) x129.fCall x129.fReturn x129.fClosed x129.fResult x133.fClient x133.fKind x133.fKey x133.fCookie r_134_0.A r_134_0.n r_134_0.c _ (RdH.sn (RdH.memM (k := 0) rfl hq136_0) w hb hh) r_134_1.A r_134_1.n r_134_1.c _ (RdH.sn (RdH.memM (k := 0) rfl hq136_1) w hb hh) x133.fCall x133.fReturn x133.fClosed x133.fResult hx137)) ?_
        rintro _ _ ⟨_, ⟨rfl, rfl⟩, rfl⟩
        refine ad ?_ (by repeat (first | exact sn | refine sc ?_))
        refine du 22 rfl (Yld.pickT rfl rfl) <| dm 23 rfl rfl <| WD.new (v' := .bool false) (congrArg Value.bool (Bool.eq_false_iff.2 hc139)) <| dw 24 rfl <| dw 25 rfl <| dw 26 rfl <| dw 27 rfl <| dw 28 rfl <| dw 29 rfl <| dw 30 rfl <| dw 31 rfl <| dw 32 rfl <| du 33 rfl (Yld.pickF rfl rfl) <| dd <| k124 _ _ <| cdF rfl <| WC.skip <| bn <| tn <| k123 _ _ <| rg fun _ k146 => ?_
        obtain ⟨x147, hx147, h⟩ := bnd h
        exact mv rfl <| ya (Yld.addC rfl rfl hx147) <| asn rfl <| dn <| k146 _ _ <| tn <| kw (k119 (x147) h)
       replace h := of_f hc128 h
       refine dm 0 rfl rfl <| dm 1 rfl rfl <| du 2 rfl (Yld.idxC (xs := x12) sty_51 rfl rfl (RdH.own (k := 109) rfl) hx125) <| du 3 rfl (Yld.loadC0 (xs := x12) scal_3 rfl (RdH.own (k := 109) rfl) hx125 rfl) <| du 4 rfl (Yld.gtr rfl rfl) <| dm 5 rfl rfl <| WD.new (v' := .bool true) (congrArg Value.bool (decide_eq_true hc126)) <| dv 6 rfl (Yld.move rfl) <| dv 7 rfl (Yld.move rfl) <| dv 8 rfl (Yld.idxC (xs := x12) sty_51 rfl rfl (RdH.own (k := 109) rfl) hx127) <| dv 9 rfl (Yld.loadC0 (xs := x12) scal_3 rfl (RdH.own (k := 109) rfl) hx127 rfl) <| dv 10 rfl (Yld.gtr rfl rfl) <| du 11 rfl (Yld.pickT rfl rfl) <| dm 12 rfl rfl <| WD.new (v' := .bool false) (congrArg Value.bool (decide_eq_false hc128)) <| dw 13 rfl <| dw 14 rfl <| dw 15 rfl <| dw 16 rfl <| dw 17 rfl <| dw 18 rfl <| dw 19 rfl <| dw 20 rfl <| dw 21 rfl <| du 22 rfl (Yld.pickF rfl rfl) <| dm 23 rfl rfl <| dw 24 rfl <| dw 25 rfl <| dw 26 rfl <| dw 27 rfl <| dw 28 rfl <| dw 29 rfl <| dw 30 rfl <| dw 31 rfl <| dw 32 rfl <| du 33 rfl (Yld.pickF rfl rfl) <| dd <| k124 _ _ <| cdF rfl <| WC.skip <| bn <| tn <| k123 _ _ <| rg fun _ k148 => ?_
       obtain ⟨x149, hx149, h⟩ := bnd h
       exact mv rfl <| ya (Yld.addC rfl rfl hx149) <| asn rfl <| dn <| k148 _ _ <| tn <| kw (k119 (x149) h)
      replace h := of_f hc126 h
      refine dm 0 rfl rfl <| dm 1 rfl rfl <| du 2 rfl (Yld.idxC (xs := x12) sty_51 rfl rfl (RdH.own (k := 109) rfl) hx125) <| du 3 rfl (Yld.loadC0 (xs := x12) scal_3 rfl (RdH.own (k := 109) rfl) hx125 rfl) <| du 4 rfl (Yld.gtr rfl rfl) <| dm 5 rfl rfl <| WD.new (v' := .bool false) (congrArg Value.bool (decide_eq_false hc126)) <| dw 6 rfl <| dw 7 rfl <| dw 8 rfl <| dw 9 rfl <| dw 10 rfl <| du 11 rfl (Yld.pickF rfl rfl) <| dm 12 rfl rfl <| dw 13 rfl <| dw 14 rfl <| dw 15 rfl <| dw 16 rfl <| dw 17 rfl <| dw 18 rfl <| dw 19 rfl <| dw 20 rfl <| dw 21 rfl <| du 22 rfl (Yld.pickF rfl rfl) <| dm 23 rfl rfl <| dw 24 rfl <| dw 25 rfl <| dw 26 rfl <| dw 27 rfl <| dw 28 rfl <| dw 29 rfl <| dw 30 rfl <| dw 31 rfl <| dw 32 rfl <| du 33 rfl (Yld.pickF rfl rfl) <| dd <| k124 _ _ <| cdF rfl <| WC.skip <| bn <| tn <| k123 _ _ <| rg fun _ k150 => ?_
      obtain ⟨x151, hx151, h⟩ := bnd h
      exact mv rfl <| ya (Yld.addC rfl rfl hx151) <| asn rfl <| dn <| k150 _ _ <| tn <| kw (k119 (x151) h)
     exact xi <| te <| te <| bx <| bn <| tn <| kw (k103 () h)
    rintro _ h
    unfold m_r25_Legal_j5 at h
    refine rg fun _ k152 => ?_
    obtain ⟨x153, hx153, h⟩ := bnd h
    exact mv rfl <| ya (Yld.addC rfl rfl hx153) <| asn rfl <| dn <| k152 _ _ <| tn <| kw (k99 (x153) h)
   exact xi <| te <| te <| bx <| tn <| kw (k95 () h)
  rintro _ h
  unfold m_r25_Legal_j3 at h
  refine sr fun _ k154 => asn rfl <| dn <| k154 _ _ <| re ?_
  injection h with h; subst h
  exact rt [] (ResIs.one rfl rfl) hm_M11 ⟨rfl, rfl⟩
 refine sr fun _ k155 => asn rfl <| dn <| k155 _ _ <| re <| tr ?_
 injection h with h; subst h
 exact rt0 (ResIs.one rfl rfl)
end Go.Proofs.Ytkcccenekglkoaa
