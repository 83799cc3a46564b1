/-
 Walks (d): what a function's model gives, the function returns. Printed by a program of ours (vcm.py) from the function's operations. Conditions: as each theorem says.
-/
import Derived.Test.YtkcccenekglkoaaWka
import Derived.Test.YtkcccenekglkoaaMdd
namespace Go.Proofs.Ytkcccenekglkoaa
set_option maxRecDepth 10000
open Go Go.RowKit
set_option linter.unusedVariables false
theorem nm_47 : (Try.f47.name == "runtime.NumGoroutine") = false := by kernel_rfl
theorem w_history_End (M0 : Mem) (x00_0 x00_1 : Int) (x00_2 : BitVec 64) (x00_3 : BitVec 32) (A00_4 : Option Addr) (n00_4 c00_4 : Nat) (x00_4 : List (BitVec 8)) (hf00_4 : SlT M0 A00_4 n00_4 c00_4 x00_4) (A00_5 : Option Addr) (n00_5 c00_5 : Nat) (x00_5 : List (BitVec 8)) (hf00_5 : SlT M0 A00_5 n00_5 c00_5 x00_5) (x00_6 x00_7 x00_8 x00_9 : Int) {res : Int} (h : m_history_End x00_0 x00_1 x00_2 x00_3 x00_4 x00_5 x00_6 x00_7 x00_8 x00_9 = some res) :
  Fn Try.prog 57 #[.agg ([I64 x00_0, I64 x00_1, U64 x00_2, U32 x00_3, .slice A00_4 n00_4 c00_4, .slice A00_5 n00_5 c00_5, I64 x00_6, I64 x00_7, I64 x00_8, I64 x00_9] : List Value).toArray] M0 fun r M' es => r = I64 res /\ es = [] := by
 refine Fn.intro (N := 15) Try.func57 rfl rfl (Nat.le_of_ble_eq_true rfl) fun w0 => ?_
 unfold m_history_End at h
 refine sr fun _ k1 => bb 102 [I64 x00_0, I64 x00_1, U64 x00_2, U32 x00_3, .slice A00_4 n00_4 c00_4, .slice A00_5 n00_5 c00_5, I64 x00_6, I64 x00_7, I64 x00_8, I64 x00_9] rfl fun g2 => asn rfl <| dn <| k1 _ _ <| sq fun _ k3 => bl <| sr fun _ k4 => ya (Yld.fieldAddr Try.underlying39 rfl nz_3 rfl rfl) <| ya (Yld.loadB (k := 102) scal_3 rfl rfl rfl) <| ya (Yld.neqI rfl rfl) <| asn rfl <| dn <| k4 _ _ <| cnn h rfl bne_eq_false_iff_eq.2 bne_iff_ne.2 (fun hc5 h => ?_) fun hc5 h => ?_
 ·refine sr fun _ k6 => ya (Yld.fieldAddr Try.underlying39 rfl nz_3 rfl rfl) <| ya (Yld.loadB (k := 102) scal_3 rfl rfl rfl) <| ya (Yld.neqI rfl rfl) <| asn rfl <| dn <| k6 _ _ <| cnn h rfl bne_eq_false_iff_eq.2 bne_iff_ne.2 (fun hc7 h => ?_) fun hc7 h => ?_
  ·refine WC.skip <| bn <| tn <| k3 _ _ <| sr fun _ k8 => asn rfl <| dn <| k8 _ _ <| re ?_
   injection h with h; subst h
   exact rt0 (ResIs.one rfl rfl)
  refine sr fun _ k9 => ya (Yld.fieldAddr Try.underlying39 rfl nz_3 rfl rfl) <| ya (Yld.loadB (k := 102) scal_3 rfl rfl rfl) <| asn rfl <| dn <| k9 _ _ <| re <| br <| tr ?_
  injection h with h; subst h
  exact rt0 (ResIs.one rfl rfl)
 refine sr fun _ k10 => ya (Yld.fieldAddr Try.underlying39 rfl nz_3 rfl rfl) <| ya (Yld.loadB (k := 102) scal_3 rfl rfl rfl) <| asn rfl <| dn <| k10 _ _ <| re <| br <| tr ?_
 injection h with h; subst h
 exact rt0 (ResIs.one rfl rfl)
theorem w_history_Before (M0 : Mem) (x00_0 x00_1 : Int) (x00_2 : BitVec 64) (x00_3 : BitVec 32) (A00_4 : Option Addr) (n00_4 c00_4 : Nat) (x00_4 : List (BitVec 8)) (hf00_4 : SlT M0 A00_4 n00_4 c00_4 x00_4) (A00_5 : Option Addr) (n00_5 c00_5 : Nat) (x00_5 : List (BitVec 8)) (hf00_5 : SlT M0 A00_5 n00_5 c00_5 x00_5) (x00_6 x00_7 x00_8 x00_9 x01_0 x01_1 : Int) (x01_2 : BitVec 64) (x01_3 : BitVec 32) (A01_4 : Option Addr) (n01_4 c01_4 : Nat) (x01_4 : List (BitVec 8)) (hf01_4 : SlT M0 A01_4 n01_4 c01_4 x01_4) (A01_5 : Option Addr) (n01_5 c01_5 : Nat) (x01_5 : List (BitVec 8)) (hf01_5 : SlT M0 A01_5 n01_5 c01_5 x01_5) (x01_6 x01_7 x01_8 x01_9 : Int) {res : Bool} (h : m_history_Before x00_0 x00_1 x00_2 x00_3 x00_4 x00_5 x00_6 x00_7 x00_8 x00_9 x01_0 x01_1 x01_2 x01_3 x01_4 x01_5 x01_6 x01_7 x01_8 x01_9 = some res) :
  Fn Try.prog 47 #[.agg ([I64 x00_0, I64 x00_1, U64 x00_2, U32 x00_3, .slice A00_4 n00_4 c00_4, .slice A00_5 n00_5 c00_5, I64 x00_6, I64 x00_7, I64 x00_8, I64 x00_9] : List Value).toArray, .agg ([I64 x01_0, I64 x01_1, U64 x01_2, U32 x01_3, .slice A01_4 n01_4 c01_4, .slice A01_5 n01_5 c01_5, I64 x01_6, I64 x01_7, I64 x01_8, I64 x01_9] : List Value).toArray] M0 fun r M' es => r = .bool res /\ es = [] := by
 refine Fn.intro (N := 10) Try.func47 rfl rfl (Nat.le_of_ble_eq_true rfl) fun w0 => ?_
 unfold m_history_Before at h
 refine sr fun _ k1 => bb 102 [I64 x00_0, I64 x00_1, U64 x00_2, U32 x00_3, .slice A00_4 n00_4 c00_4, .slice A00_5 n00_5 c00_5, I64 x00_6, I64 x00_7, I64 x00_8, I64 x00_9] rfl fun g2 => bb 103 [I64 x01_0, I64 x01_1, U64 x01_2, U32 x01_3, .slice A01_4 n01_4 c01_4, .slice A01_5 n01_5 c01_5, I64 x01_6, I64 x01_7, I64 x01_8, I64 x01_9] rfl fun g3 => asn rfl <| dn <| k1 _ _ <| sd [(0, _), (102, _), (103, _)] mixed fun _ k4 => ?_
 obtain ⟨x5, hx5, h⟩ := bnd h
 refine du 0 rfl (Yld.loadBM (k := 102) agg_39 rfl rfl rfl) <| du 2 rfl (Yld.fieldAddr Try.underlying39 rfl nz_3 rfl rfl) <| du 3 rfl (Yld.loadB (k := 103) scal_3 rfl rfl rfl) <| on 1 <| d0 rfl Try.func57 rfl (fun w hb hh => w_history_End (Mem.snap w) x00_0 x00_1 x00_2 x00_3 A00_4 n00_4 c00_4 _ (RdH.sn (RdH.memM (k := 0) rfl hf00_4) w hb hh) A00_5 n00_5 c00_5 _ (RdH.sn (RdH.memM (k := 0) rfl hf00_5) w hb hh) x00_6 x00_7 x00_8 x00_9 hx5) <| du 4 rfl (Yld.lss rfl rfl) <| du 5 rfl (Yld.assign rfl) <| dd <| k4 _ _ <| re ?_
 injection h with h; subst h
 exact rt0 (ResIs.one rfl rfl)
theorem w_history_Valid (M0 : Mem) (A00 : Option Addr) (n00 c00 : Nat) (rs00 : List Rhistory_Op) (x00 : List (Shistory_Op)) (hf00 : SlT M0 A00 n00 c00 rs00) (hq00 : Rels (rel_history_Op M0) rs00 x00) {res : Bool} (h : m_history_Valid x00 = some res) :
  Fn Try.prog 32 #[.slice A00 n00 c00] M0 fun r M' es => r = .bool res /\ es = [] := by
 refine Fn.intro (N := 86) Try.func32 rfl rfl (Nat.le_of_ble_eq_true rfl) fun w0 => ?_
 unfold m_history_Valid at h
 refine sr fun _ k1 => asn rfl <| dn <| k1 _ _ <| ct (σ := Unit) (fun _ => []) (fun _ => [(0, .mem M0)]) (fun _ => m_history_Valid_j0 = some res) (fun _ k2 => ?_) ?_
 ·refine sr fun _ k3 => mv rfl <| ya (Yld.lenD (rs := rs00) (xs := x00) (Rels.len hq00) und_46 rfl (RdH.memM (k := 0) rfl hf00)) <| mv rfl <| dn <| k3 _ _ <| bl <| lp (τ := Int) (fun x4 => [(0, .slice A00 n00 c00), (7, .slice A00 n00 c00), (8, I64 (x00.length : Int)), (9, I64 x4)]) (fun x4 => [(0, .mem M0)]) (fun q5 x4 => m_history_Valid_l1 x00 q5 x4 = some res) ((0 : Int)) ?_ (by simp [m_history_Valid_l1]) ?_
  ·exact h
  rintro q5 x4 h _ k6
  unfold m_history_Valid_l1 at h
  refine sr fun _ k7 => ya (Yld.lss rfl rfl) <| dn <| k7 _ _ <| sq fun _ k8 => cnd h rfl decide_eq_true decide_eq_false (fun hc9 h => ?_) fun hc9 h => ?_
  ·refine ss <| k8 _ _ <| ct (σ := Unit) (fun _ => [(0, .slice A00 n00 c00), (7, .slice A00 n00 c00), (8, I64 (x00.length : Int)), (9, I64 x4)]) (fun _ => [(0, .mem M0)]) (fun _ => m_history_Valid_j2 x4 (m_history_Valid_l1 x00 q5) = some res) (fun _ k10 => ?_) ?_
   ·refine bl <| sr fun _ k11 => ?_
    obtain ⟨x12, hx12, h⟩ := bnd h
    refine mv rfl ?_
    obtain ⟨⟨_, r_13_0, r_13_1⟩, hr14, rfl, hq15_0, hq15_1⟩ := Rels.idx hq00 hx12
    refine ya (Yld.idxC (xs := rs00) sty_46 rfl rfl (RdH.memM (k := 0) rfl hf00) hr14) <| ya (Yld.loadA (xs := rs00) agg_39 rfl (RdH.memM (k := 0) rfl hf00) hr14 rfl) <| al 116 zr_39 fun g16 => asn rfl <| sb 116 agg_39 rfl rfl rfl <| dn <| k11 _ _ <| ct (σ := Unit) (fun _ => [(0, .slice A00 n00 c00), (3, I64 x4), (4, .pointer (some ⟨g16, 0, none⟩)), (7, .slice A00 n00 c00), (8, I64 (x00.length : Int)), (9, I64 x4)]) (fun _ => [(0, .mem M0), (116, .blk g16 39 [I64 x12.fClient, I64 x12.fKind, U64 x12.fKey, U32 x12.fCookie, .slice r_13_0.A r_13_0.n r_13_0.c, .slice r_13_1.A r_13_1.n r_13_1.c, I64 x12.fCall, I64 x12.fReturn, I64 x12.fClosed, I64 x12.fResult])]) (fun _ => m_history_Valid_j3 x00 x4 x12 (m_history_Valid_l1 x00 q5) = some res) (fun _ k17 => ?_) ?_
    ·refine sd [(0, _), (116, _)] mixed fun _ k18 => ?_
     obtain ⟨x19, hx19, h⟩ := bnd h
     by_cases hc21 : x19 = true
     ·replace h := of_t hc21 h
      by_cases hc22 : x12.fCall < (0 : Int)
      ·replace h := of_t hc22 h
       refine du 0 rfl (Yld.fieldAddr Try.underlying39 rfl nz_3 rfl rfl) <| du 1 rfl (Yld.loadB (k := 116) scal_3 rfl rfl rfl) <| on 2 <| d0 rfl Try.func38 rfl (fun w hb hh => w_history_known (Mem.snap w) x12.fKind hx19) <| du 3 rfl (Yld.notB rfl) <| dm 4 rfl rfl <| WD.new (v' := .bool false) (congrArg Value.bool (not_f hc21)) <| dv 5 rfl (Yld.fieldAddr Try.underlying39 rfl nz_3 rfl rfl) <| dv 6 rfl (Yld.loadB (k := 116) scal_3 rfl rfl rfl) <| dv 7 rfl (Yld.lss rfl rfl) <| du 8 rfl (Yld.pickF rfl rfl) <| dm 9 rfl rfl <| WD.new (v' := .bool true) (congrArg Value.bool (decide_eq_true hc22)) <| dw 10 rfl <| dw 11 rfl <| dw 12 rfl <| WD.takeU 13 rfl (by kernel_rfl) (by kernel_rfl) (by kernel_rfl) (by decide) rfl <| WD.takeU 14 rfl (by kernel_rfl) (by kernel_rfl) (by kernel_rfl) (by decide) rfl <| WD.takeU 15 rfl (by kernel_rfl) (by kernel_rfl) (by kernel_rfl) (by decide) rfl <| WD.takeU 16 rfl (by kernel_rfl) (by kernel_rfl) (by kernel_rfl) (by decide) rfl <| WD.takeU 17 rfl (by kernel_rfl) (by kernel_rfl) (by kernel_rfl) (by decide) rfl <| WD.takeU 18 rfl (by kernel_rfl) (by kernel_rfl) (by kernel_rfl) (by decide) rfl <| WD.takeU 19 rfl (by kernel_rfl) (by kernel_rfl) (by kernel_rfl) (by decide) rfl <| WD.takeU 20 rfl (by kernel_rfl) (by kernel_rfl) (by kernel_rfl) (by decide) rfl <| WD.takeU 21 rfl (by kernel_rfl) (by kernel_rfl) (by kernel_rfl) (by decide) rfl <| dw 22 rfl <| du 23 rfl (Yld.pickT rfl rfl) <| dd <| k18 _ _ <| cdT rfl <| sr fun _ k23 => asn rfl <| dn <| k23 _ _ <| re <| tr <| br <| tr <| tr <| br <| tr ?_
       injection h with h; subst h
       exact rt0 (ResIs.one rfl rfl)
      replace h := of_f hc22 h
      by_cases hc24 : (0 : Int) < x4
      ·replace h := of_t hc24 h
       obtain ⟨x25, hx25, h⟩ := bnd h
       obtain ⟨x26, hx26, h⟩ := bnd h
       refine du 0 rfl (Yld.fieldAddr Try.underlying39 rfl nz_3 rfl rfl) <| du 1 rfl (Yld.loadB (k := 116) scal_3 rfl rfl rfl) <| on 2 <| d0 rfl Try.func38 rfl (fun w hb hh => w_history_known (Mem.snap w) x12.fKind hx19) <| du 3 rfl (Yld.notB rfl) <| dm 4 rfl rfl <| WD.new (v' := .bool false) (congrArg Value.bool (not_f hc21)) <| dv 5 rfl (Yld.fieldAddr Try.underlying39 rfl nz_3 rfl rfl) <| dv 6 rfl (Yld.loadB (k := 116) scal_3 rfl rfl rfl) <| dv 7 rfl (Yld.lss rfl rfl) <| du 8 rfl (Yld.pickF rfl rfl) <| dm 9 rfl rfl <| WD.new (v' := .bool false) (congrArg Value.bool (decide_eq_false hc22)) <| dv 10 rfl (Yld.move rfl) <| dv 11 rfl (Yld.gtr rfl rfl) <| dv 12 rfl (Yld.move rfl) <| WD.new (v' := .bool true) (congrArg Value.bool (decide_eq_true hc24)) <| dv 13 rfl (Yld.fieldAddr Try.underlying39 rfl nz_3 rfl rfl) <| dv 14 rfl (Yld.loadB (k := 116) scal_3 rfl rfl rfl) <| dv 15 rfl (Yld.move rfl) <| dv 16 rfl (Yld.move rfl) <| dv 17 rfl (Yld.subC rfl rfl hx25) ?_
       obtain ⟨⟨_, r_27_0, r_27_1⟩, hr28, rfl, hq29_0, hq29_1⟩ := Rels.idx hq00 hx26
       refine dv 18 rfl (Yld.idxC (xs := rs00) sty_46 rfl rfl (RdH.memM (k := 0) rfl hf00) hr28) <| dv 19 rfl (Yld.fieldAddrC Try.underlying39 rfl nz_3 rfl rfl) <| dv 20 rfl (Yld.loadC (xs := rs00) (j := 6) scal_3 rfl (RdH.memM (k := 0) rfl hf00) hr28 rfl rfl) <| dv 21 rfl (Yld.leq rfl rfl) <| dv 22 rfl (Yld.pickT rfl rfl) <| du 23 rfl (Yld.pickF rfl rfl) <| dd <| k18 _ _ <| cnd h rfl decide_eq_true decide_eq_false (fun hc30 h => ?_) fun hc30 h => ?_
       ·refine sr fun _ k31 => asn rfl <| dn <| k31 _ _ <| re <| tr <| br <| tr <| tr <| br <| tr ?_
        injection h with h; subst h
        exact rt0 (ResIs.one rfl rfl)
       exact WC.skip <| tn <| kw (k17 () h)
      replace h := of_f hc24 h
      exact du 0 rfl (Yld.fieldAddr Try.underlying39 rfl nz_3 rfl rfl) <| du 1 rfl (Yld.loadB (k := 116) scal_3 rfl rfl rfl) <| on 2 <| d0 rfl Try.func38 rfl (fun w hb hh => w_history_known (Mem.snap w) x12.fKind hx19) <| du 3 rfl (Yld.notB rfl) <| dm 4 rfl rfl <| WD.new (v' := .bool false) (congrArg Value.bool (not_f hc21)) <| dv 5 rfl (Yld.fieldAddr Try.underlying39 rfl nz_3 rfl rfl) <| dv 6 rfl (Yld.loadB (k := 116) scal_3 rfl rfl rfl) <| dv 7 rfl (Yld.lss rfl rfl) <| du 8 rfl (Yld.pickF rfl rfl) <| dm 9 rfl rfl <| WD.new (v' := .bool false) (congrArg Value.bool (decide_eq_false hc22)) <| dv 10 rfl (Yld.move rfl) <| dv 11 rfl (Yld.gtr rfl rfl) <| dv 12 rfl (Yld.move rfl) <| WD.new (v' := .bool false) (congrArg Value.bool (decide_eq_false hc24)) <| dw 13 rfl <| dw 14 rfl <| dw 15 rfl <| dw 16 rfl <| dw 17 rfl <| dw 18 rfl <| dw 19 rfl <| dw 20 rfl <| dw 21 rfl <| dv 22 rfl (Yld.pickF rfl rfl) <| du 23 rfl (Yld.pickF rfl rfl) <| dd <| k18 _ _ <| cdF rfl <| WC.skip <| tn <| kw (k17 () h)
     replace h := of_f hc21 h
     refine du 0 rfl (Yld.fieldAddr Try.underlying39 rfl nz_3 rfl rfl) <| du 1 rfl (Yld.loadB (k := 116) scal_3 rfl rfl rfl) <| on 2 <| d0 rfl Try.func38 rfl (fun w hb hh => w_history_known (Mem.snap w) x12.fKind hx19) <| du 3 rfl (Yld.notB rfl) <| dm 4 rfl rfl <| WD.new (v' := .bool true) (congrArg Value.bool (not_t (Bool.eq_false_iff.2 hc21))) <| dw 5 rfl <| dw 6 rfl <| dw 7 rfl <| du 8 rfl (Yld.pickT rfl rfl) <| dm 9 rfl rfl <| dw 10 rfl <| dw 11 rfl <| dw 12 rfl <| WD.takeU 13 rfl (by kernel_rfl) (by kernel_rfl) (by kernel_rfl) (by decide) rfl <| WD.takeU 14 rfl (by kernel_rfl) (by kernel_rfl) (by kernel_rfl) (by decide) rfl <| WD.takeU 15 rfl (by kernel_rfl) (by kernel_rfl) (by kernel_rfl) (by decide) rfl <| WD.takeU 16 rfl (by kernel_rfl) (by kernel_rfl) (by kernel_rfl) (by decide) rfl <| WD.takeU 17 rfl (by kernel_rfl) (by kernel_rfl) (by kernel_rfl) (by decide) rfl <| WD.takeU 18 rfl (by kernel_rfl) (by kernel_rfl) (by kernel_rfl) (by decide) rfl <| WD.takeU 19 rfl (by kernel_rfl) (by kernel_rfl) (by kernel_rfl) (by decide) rfl <| WD.takeU 20 rfl (by kernel_rfl) (by kernel_rfl) (by kernel_rfl) (by decide) rfl <| WD.takeU 21 rfl (by kernel_rfl) (by kernel_rfl) (by kernel_rfl) (by decide) rfl <| dw 22 rfl <| du 23 rfl (Yld.pickT rfl rfl) <| dd <| k18 _ _ <| cdT rfl <| sr fun _ k32 => asn rfl <| dn <| k32 _ _ <| re <| tr <| br <| tr <| tr <| br <| tr ?_
     injection h with h; subst h
     exact rt0 (ResIs.one rfl rfl)
    rintro _ h
    unfold m_history_Valid_j3 at h
    refine ct (σ := Unit) (fun _ => [(0, .slice A00 n00 c00), (3, I64 x4), (4, .pointer (some ⟨g16, 0, none⟩)), (7, .slice A00 n00 c00), (8, I64 (x00.length : Int)), (9, I64 x4)]) (fun _ => [(0, .mem M0), (116, .blk g16 39 [I64 x12.fClient, I64 x12.fKind, U64 x12.fKey, U32 x12.fCookie, .slice r_13_0.A r_13_0.n r_13_0.c, .slice r_13_1.A r_13_1.n r_13_1.c, I64 x12.fCall, I64 x12.fReturn, I64 x12.fClosed, I64 x12.fResult])]) (fun _ => m_history_Valid_j4 x00 x4 x12 (m_history_Valid_l1 x00 q5) = some res) (fun _ k33 => ?_) ?_
    ·refine sr fun _ k34 => ya (Yld.fieldAddr Try.underlying39 rfl nz_3 rfl rfl) <| ya (Yld.loadB (k := 116) scal_3 rfl rfl rfl) <| ya (Yld.neqI rfl rfl) <| mv rfl <| spn h bne_eq_false_iff_eq.2 bne_iff_ne.2 (fun hc35 h => ?_) fun hc35 h => ?_
     ·refine sk <| sk <| sk <| sk <| sk <| sk <| WL.skipU (by decide) rfl <| WL.skipU (by decide) rfl <| WL.skipU (by decide) rfl <| sk <| pf rfl rfl <| mv rfl <| yg (Yld.fieldAddr Try.underlying39 rfl nz_3 rfl rfl) <| yg (Yld.loadB (k := 116) scal_3 rfl rfl rfl) <| yg (Yld.neqI rfl rfl) <| mvg rfl <| spn h bne_eq_false_iff_eq.2 bne_iff_ne.2 (fun hc36 h => ?_) fun hc36 h => ?_
      ·exact sk <| sk <| sk <| sk <| sk <| yg (Yld.pickF rfl rfl) <| pf rfl rfl <| dn <| k34 _ _ <| cdF rfl <| WC.skip <| tn <| kw (k33 () h)
      refine yg (Yld.fieldAddr Try.underlying39 rfl nz_3 rfl rfl) <| yg (Yld.loadB (k := 116) scal_3 rfl rfl rfl) <| yg (Yld.fieldAddr Try.underlying39 rfl nz_3 rfl rfl) <| yg (Yld.loadB (k := 116) scal_3 rfl rfl rfl) <| yg (Yld.leq rfl rfl) <| yg (Yld.pickT rfl rfl) <| pf rfl rfl <| dn <| k34 _ _ <| cnd h rfl decide_eq_true decide_eq_false (fun hc37 h => ?_) fun hc37 h => ?_
      ·refine sr fun _ k38 => asn rfl <| dn <| k38 _ _ <| re <| tr <| br <| tr <| tr <| br <| tr ?_
       injection h with h; subst h
       exact rt0 (ResIs.one rfl rfl)
      exact WC.skip <| tn <| kw (k33 () h)
     refine yg (Yld.fieldAddr Try.underlying39 rfl nz_3 rfl rfl) <| yg (Yld.loadB (k := 116) scal_3 rfl rfl rfl) <| yg (Yld.fieldAddr Try.underlying39 rfl nz_3 rfl rfl) <| yg (Yld.loadB (k := 116) scal_3 rfl rfl rfl) <| yg (Yld.leq rfl rfl) <| mvg rfl <| spl h decide_eq_true decide_eq_false (fun hc39 h => ?_) fun hc39 h => ?_
     ·refine sk <| sk <| sk <| yg (Yld.pickT rfl rfl) <| pt rfl rfl <| mv rfl <| sk <| sk <| sk <| sk <| WL.skipU (by decide) rfl <| WL.skipU (by decide) rfl <| WL.skipU (by decide) rfl <| WL.skipU (by decide) rfl <| WL.skipU (by decide) rfl <| sk <| pt rfl rfl <| dn <| k34 _ _ <| cdT rfl <| sr fun _ k40 => asn rfl <| dn <| k40 _ _ <| re <| tr <| br <| tr <| tr <| br <| tr ?_
      injection h with h; subst h
      exact rt0 (ResIs.one rfl rfl)
     refine yg (Yld.fieldAddr Try.underlying39 rfl nz_3 rfl rfl) <| yg (Yld.loadB (k := 116) scal_3 rfl rfl rfl) <| yg (Yld.neqI rfl rfl) <| yg (Yld.pickF rfl rfl) <| pt rfl rfl <| mv rfl <| spn h bne_eq_false_iff_eq.2 bne_iff_ne.2 (fun hc41 h => ?_) fun hc41 h => ?_
     ·refine yg (Yld.fieldAddr Try.underlying39 rfl nz_3 rfl rfl) <| yg (Yld.loadB (k := 116) scal_3 rfl rfl rfl) <| yg (Yld.neqI rfl rfl) <| mvg rfl <| spn h bne_eq_false_iff_eq.2 bne_iff_ne.2 (fun hc42 h => ?_) fun hc42 h => ?_
      ·exact sk <| sk <| sk <| sk <| sk <| yg (Yld.pickF rfl rfl) <| pf rfl rfl <| dn <| k34 _ _ <| cdF rfl <| WC.skip <| tn <| kw (k33 () h)
      refine yg (Yld.fieldAddr Try.underlying39 rfl nz_3 rfl rfl) <| yg (Yld.loadB (k := 116) scal_3 rfl rfl rfl) <| yg (Yld.fieldAddr Try.underlying39 rfl nz_3 rfl rfl) <| yg (Yld.loadB (k := 116) scal_3 rfl rfl rfl) <| yg (Yld.leq rfl rfl) <| yg (Yld.pickT rfl rfl) <| pf rfl rfl <| dn <| k34 _ _ <| cnd h rfl decide_eq_true decide_eq_false (fun hc43 h => ?_) fun hc43 h => ?_
      ·refine sr fun _ k44 => asn rfl <| dn <| k44 _ _ <| re <| tr <| br <| tr <| tr <| br <| tr ?_
       injection h with h; subst h
       exact rt0 (ResIs.one rfl rfl)
      exact WC.skip <| tn <| kw (k33 () h)
     refine sk <| sk <| sk <| sk <| WL.skipU (by decide) rfl <| WL.skipU (by decide) rfl <| WL.skipU (by decide) rfl <| WL.skipU (by decide) rfl <| WL.skipU (by decide) rfl <| sk <| pt rfl rfl <| dn <| k34 _ _ <| cdT rfl <| sr fun _ k45 => asn rfl <| dn <| k45 _ _ <| re <| tr <| br <| tr <| tr <| br <| tr ?_
     injection h with h; subst h
     exact rt0 (ResIs.one rfl rfl)
    rintro _ h
    unfold m_history_Valid_j4 at h
    refine sr fun _ k46 => ?_
    obtain ⟨x47, hx47, h⟩ := bnd h
    refine mv rfl <| mv rfl ?_
    obtain ⟨rs48, hs49, hq50⟩ := Rels.slc hq00 hx47
    refine ya (Yld.sliceHC (xs := rs00) sty_46 rfl rfl (RdH.memM (k := 0) rfl hf00) hs49) <| ya (Yld.lenD (rs := rs48) (xs := x47) (Rels.len hq50) und_46 rfl (RdT.slc0 (RdH.memM (k := 0) rfl hf00) hs49)) <| mv rfl <| dn <| k46 _ _ <| bl <| lp (τ := Int) (fun x51 => [(0, .slice A00 n00 c00), (4, .pointer (some ⟨g16, 0, none⟩)), (7, .slice A00 n00 c00), (8, I64 (x00.length : Int)), (9, I64 x4), (67, .slice A00 rs48.length c00), (68, I64 (x47.length : Int)), (69, I64 x51)]) (fun x51 => [(0, .mem M0), (116, .blk g16 39 [I64 x12.fClient, I64 x12.fKind, U64 x12.fKey, U32 x12.fCookie, .slice r_13_0.A r_13_0.n r_13_0.c, .slice r_13_1.A r_13_1.n r_13_1.c, I64 x12.fCall, I64 x12.fReturn, I64 x12.fClosed, I64 x12.fResult])]) (fun q52 x51 => m_history_Valid_l5 x4 x12 x47 (m_history_Valid_l1 x00 q5) q52 x51 = some res) ((0 : Int)) ?_ (by simp [m_history_Valid_l5]) ?_
    ·exact h
    rintro q52 x51 h _ k53
    unfold m_history_Valid_l5 at h
    refine sr fun _ k54 => ya (Yld.lss rfl rfl) <| dn <| k54 _ _ <| sq fun _ k55 => cnd h rfl decide_eq_true decide_eq_false (fun hc56 h => ?_) fun hc56 h => ?_
    ·refine ss <| k55 _ _ <| sq fun _ k57 => bl <| sr fun _ k58 => ?_
     obtain ⟨x59, hx59, h⟩ := bnd h
     obtain ⟨⟨_, r_60_0, r_60_1⟩, hr61, rfl, hq62_0, hq62_1⟩ := Rels.idx hq50 hx59
     refine ya (Yld.idxC (xs := rs48) sty_46 rfl rfl (RdT.slc0 (RdH.memM (k := 0) rfl hf00) hs49) hr61) <| ya (Yld.loadA (xs := rs48) agg_39 rfl (RdT.slc0 (RdH.memM (k := 0) rfl hf00) hs49) hr61 rfl) <| al 163 zr_39 fun g63 => sb 163 agg_39 rfl rfl rfl <| dn <| k58 _ _ <| sr fun _ k64 => ya (Yld.fieldAddr Try.underlying39 rfl nz_3 rfl rfl) <| ya (Yld.loadB (k := 163) scal_3 rfl rfl rfl) <| ya (Yld.fieldAddr Try.underlying39 rfl nz_3 rfl rfl) <| ya (Yld.loadB (k := 116) scal_3 rfl rfl rfl) <| ya (Yld.eqlI rfl rfl) <| mv rfl <| spl h beq_iff_eq.2 beq_eq_false_iff_ne.2 (fun hc65 h => ?_) fun hc65 h => ?_
     ·obtain ⟨x66, hx66, h⟩ := bnd h
      refine yg (Yld.loadBM (k := 163) agg_39 rfl rfl rfl) <| yg (Yld.loadBM (k := 116) agg_39 rfl rfl rfl) <| c0g Try.func47 rfl (fun w hb hh => w_history_Before (Mem.snap w) x59.fClient x59.fKind x59.fKey x59.fCookie r_60_0.A r_60_0.n r_60_0.c _ (RdH.sn (RdH.memM (k := 0) rfl hq62_0) w hb hh) r_60_1.A r_60_1.n r_60_1.c _ (RdH.sn (RdH.memM (k := 0) rfl hq62_1) w hb hh) x59.fCall x59.fReturn x59.fClosed x59.fResult x12.fClient x12.fKind x12.fKey x12.fCookie r_13_0.A r_13_0.n r_13_0.c _ (RdH.sn (RdH.memM (k := 0) rfl hq15_0) w hb hh) r_13_1.A r_13_1.n r_13_1.c _ (RdH.sn (RdH.memM (k := 0) rfl hq15_1) w hb hh) x12.fCall x12.fReturn x12.fClosed x12.fResult hx66) <| yg (Yld.notB rfl) <| pt rfl rfl <| dn <| k64 _ _ <| cnn h rfl not_f (fun q => not_t (Bool.eq_false_iff.2 q)) (fun hc68 h => ?_) fun hc68 h => ?_
      ·refine WC.skip <| bn <| tn <| k57 _ _ <| rg fun _ k69 => ?_
       obtain ⟨x70, hx70, h⟩ := bnd h
       exact ya (Yld.addC rfl rfl hx70) <| mv rfl <| dn <| k69 _ _ <| tn <| kw (k53 (x70) h)
      refine sr fun _ k71 => asn rfl <| dn <| k71 _ _ <| re <| br <| tr <| tr <| br <| br <| tr <| tr <| br <| tr ?_
      injection h with h; subst h
      exact rt0 (ResIs.one rfl rfl)
     refine sk <| sk <| sk <| sk <| pf rfl rfl <| dn <| k64 _ _ <| cdF rfl <| WC.skip <| bn <| tn <| k57 _ _ <| rg fun _ k72 => ?_
     obtain ⟨x73, hx73, h⟩ := bnd h
     exact ya (Yld.addC rfl rfl hx73) <| mv rfl <| dn <| k72 _ _ <| tn <| kw (k53 (x73) h)
    exact xi <| te <| te <| bx <| bn <| tn <| kw (k10 () h)
   rintro _ h
   unfold m_history_Valid_j2 at h
   refine rg fun _ k74 => ?_
   obtain ⟨x75, hx75, h⟩ := bnd h
   exact ya (Yld.addC rfl rfl hx75) <| mv rfl <| dn <| k74 _ _ <| tn <| kw (k6 (x75) h)
  exact xi <| te <| te <| bx <| tn <| kw (k2 () h)
 rintro _ h
 unfold m_history_Valid_j0 at h
 refine sr fun _ k76 => asn rfl <| dn <| k76 _ _ <| re ?_
 injection h with h; subst h
 exact rt0 (ResIs.one rfl rfl)
end Go.Proofs.Ytkcccenekglkoaa
