/-
 Walks (j): what a function's model gives, the function returns. Printed by a program of ours (vcm.py) from the function's operations. Conditions: as each theorem says.
-/
import Derived.Test.YtcncappgheopgaaGreatWki
import Derived.Test.YtcncappgheopgaaGreatMdj
namespace Go.Proofs.YtcncappgheopgaaGreat
set_option maxRecDepth 10000
open Go Go.RowKit
set_option linter.unusedVariables false
theorem agg_28 : Agg Tryz.prog 28 11 := ⟨⟨_, Tryz.underlying28, rfl⟩, by kernel_rfl⟩
theorem agg_96 : Agg Tryz.prog 96 3 := ⟨⟨_, Tryz.underlying96, rfl⟩, by kernel_rfl⟩
theorem nm_36 : (Tryz.f36.name == "runtime.NumGoroutine") = false := by kernel_rfl
theorem nm_60 : (Tryz.f60.name == "runtime.NumGoroutine") = false := by kernel_rfl
theorem zr_96 : (Tryz.prog.info? 96).map (fun i => i.zero.map (·.cells)) = some (some ([I64 (0 : Int), I64 (0 : Int), I64 (0 : Int)] : List Value).toArray) := by kernel_rfl
theorem w_r18_usable (M0 : Mem) (x00_0 x00_1 x00_2 x00_3 : Int) (x00_4 x00_5 x00_6 x00_7 x00_8 x00_9 : BitVec 32) (A00_10 : Option Addr) (n00_10 c00_10 : Nat) (x00_10 : List (Sapi_Item)) (hf00_10 : SlT M0 A00_10 n00_10 c00_10 x00_10) (A01 : Option Addr) (n01 c01 : Nat) (rs01 : List Hdr) (x01 : List (List (BitVec 8))) (hf01 : SlT M0 A01 n01 c01 rs01) (hq01 : Rels ((RelB (α := BitVec 8)) M0) rs01 x01) (A02 : Option Addr) (n02 c02 : Nat) (x02 : List (Bool)) (hf02 : SlT M0 A02 n02 c02 x02) (A03 : Option Addr) (n03 c03 : Nat) (x03 : List (Int)) (hf03 : SlT M0 A03 n03 c03 x03) {res : (List (Bool))} (h : m_r18_usable x00_0 x00_1 x00_2 x00_3 x00_4 x00_5 x00_6 x00_7 x00_8 x00_9 x00_10 x01 x02 x03 = some res) :
  Fn Tryz.prog 34 #[.agg ([I64 x00_0, I64 x00_1, I64 x00_2, I64 x00_3, U32 x00_4, U32 x00_5, U32 x00_6, U32 x00_7, U32 x00_8, U32 x00_9, .slice A00_10 n00_10 c00_10] : List Value).toArray, .slice A01 n01 c01, .slice A02 n02 c02, .slice A03 n03 c03] M0 fun r M' es => ∃ (A1 : Option Addr) (n1 c1 : Nat), r = .slice A1 n1 c1 /\ es = [.own 4 (Lay.sz Bool) A1 n1 c1 (cel res)] := by
 refine Fn.intro (N := 57) Tryz.func34 rfl rfl (Nat.le_of_ble_eq_true rfl) fun w0 => ?_
 unfold m_r18_usable at h
 refine sr fun _ k1 => bb 102 [I64 x00_0, I64 x00_1, I64 x00_2, I64 x00_3, U32 x00_4, U32 x00_5, U32 x00_6, U32 x00_7, U32 x00_8, U32 x00_9, .slice A00_10 n00_10 c00_10] rfl fun g2 => asn rfl <| dn <| k1 _ _ <| sr fun _ k3 => ?_
 obtain ⟨x5, hx5, h⟩ := bnd h
 refine WL.eff (by decide) (Eff.makeC 104 false sty_30 rfl rfl rfl rfl rfl rfl hx5) ?_
 rintro _ _ ⟨g4, rfl, rfl⟩
 refine asn rfl <| dn <| k3 _ _ <| ct (σ := (List (Bool))) (fun x6 => [(9, .slice (some ⟨g4, 0, none⟩) x5.length x5.length)]) (fun x6 => [(0, .mem M0), (104, .own 4 (Lay.sz Bool) (some ⟨g4, 0, none⟩) x5.length x5.length (cel x6))]) (fun x6 => m_r18_usable_j0 x6 = some res) (fun _ k7 => ?_) ?_
 ·refine sr fun _ k8 => asn rfl <| dn <| k8 _ _ <| bl <| lp (τ := (List (Bool)) × Int) (fun ⟨x9, x10⟩ => [(1, .slice A01 n01 c01), (2, .slice A02 n02 c02), (3, .slice A03 n03 c03), (4, .pointer (some ⟨g2, 0, none⟩)), (9, .slice (some ⟨g4, 0, none⟩) x5.length x5.length), (10, I64 x10)]) (fun ⟨x9, x10⟩ => [(0, .mem M0), (102, .blk g2 28 [I64 x00_0, I64 x00_1, I64 x00_2, I64 x00_3, U32 x00_4, U32 x00_5, U32 x00_6, U32 x00_7, U32 x00_8, U32 x00_9, .slice A00_10 n00_10 c00_10]), (104, .own 4 (Lay.sz Bool) (some ⟨g4, 0, none⟩) x5.length x5.length (cel x9))]) (fun q11 ⟨x9, x10⟩ => m_r18_usable_l1 x00_3 x01 x02 x03 q11 x9 x10 = some res) ⟨x5, (0 : Int)⟩ ?_ (by simp [m_r18_usable_l1]) ?_
  ·exact h
  rintro q11 ⟨x9, x10⟩ h _ k12
  unfold m_r18_usable_l1 at h
  refine sq fun _ k13 => sr fun _ k14 => mv rfl <| ya (Yld.lss rfl rfl) <| dn <| k14 _ _ <| cnd h rfl decide_eq_true decide_eq_false (fun hc15 h => ?_) fun hc15 h => ?_
  ·refine ss <| k13 _ _ <| ct (σ := (List (Bool))) (fun x16 => [(1, .slice A01 n01 c01), (2, .slice A02 n02 c02), (3, .slice A03 n03 c03), (4, .pointer (some ⟨g2, 0, none⟩)), (9, .slice (some ⟨g4, 0, none⟩) x5.length x5.length), (10, I64 x10)]) (fun x16 => [(0, .mem M0), (102, .blk g2 28 [I64 x00_0, I64 x00_1, I64 x00_2, I64 x00_3, U32 x00_4, U32 x00_5, U32 x00_6, U32 x00_7, U32 x00_8, U32 x00_9, .slice A00_10 n00_10 c00_10]), (104, .own 4 (Lay.sz Bool) (some ⟨g4, 0, none⟩) x5.length x5.length (cel x16))]) (fun x16 => m_r18_usable_j2 x10 (m_r18_usable_l1 x00_3 x01 x02 x03 q11) x16 = some res) (fun _ k17 => ?_) ?_
   ·refine bl <| ctd [(0, _), (102, _)] (σ := (List (Bool))) (fun x18 => [(1, .slice A01 n01 c01), (2, .slice A02 n02 c02), (3, .slice A03 n03 c03), (4, .pointer (some ⟨g2, 0, none⟩)), (9, .slice (some ⟨g4, 0, none⟩) x5.length x5.length), (10, I64 x10)]) (fun x18 => [(0, .mem M0), (102, .blk g2 28 [I64 x00_0, I64 x00_1, I64 x00_2, I64 x00_3, U32 x00_4, U32 x00_5, U32 x00_6, U32 x00_7, U32 x00_8, U32 x00_9, .slice A00_10 n00_10 c00_10]), (104, .own 4 (Lay.sz Bool) (some ⟨g4, 0, none⟩) x5.length x5.length (cel x18))]) (fun x18 => m_r18_usable_j3 x03 x10 (m_r18_usable_l1 x00_3 x01 x02 x03 q11) x18 = some res) mixed (fun _ k19 => ?_) ?_
    ·obtain ⟨x21, hx21, h⟩ := bnd h
     by_cases hc22 : x21 = true
     ·replace h := of_t hc22 h
      obtain ⟨x23, hx23, h⟩ := bnd h
      obtain ⟨x27, hx27, h⟩ := bnd h
      obtain ⟨x29, hx29, h⟩ := bnd h
      obtain ⟨x30, hx30, h⟩ := bnd h
      refine dm 0 rfl rfl <| dm 1 rfl rfl <| dm 2 rfl rfl <| dm 3 rfl rfl <| du 4 rfl (Yld.idxC (xs := x02) sty_30 rfl rfl (RdH.memM (k := 0) rfl hf02) hx21) <| du 5 rfl (Yld.loadC0 (xs := x02) scal_4 rfl (RdH.memM (k := 0) rfl hf02) hx21 rfl) <| dm 6 rfl rfl <| WD.new (v' := .bool true) (congrArg Value.bool hc22) <| dv 7 rfl (Yld.move rfl) <| dv 8 rfl (Yld.move rfl) ?_
      obtain ⟨r_24, hr25, hq26⟩ := Rels.idx hq01 hx23
      refine dv 9 rfl (Yld.idxC (xs := rs01) sty_29 rfl rfl (RdH.memM (k := 0) rfl hf01) hr25) <| dv 10 rfl (Yld.loadC0 (xs := rs01) scal_35 rfl (RdH.memM (k := 0) rfl hf01) hr25 rfl) <| dv 11 rfl (Yld.lenC (xs := x23) und_35 rfl (RdH.memM (k := 0) rfl hq26)) <| dv 12 rfl (Yld.fieldAddr Tryz.underlying28 rfl nz_2 rfl rfl) <| dv 13 rfl (Yld.loadB (k := 102) scal_2 rfl rfl rfl) <| on 14 <| WS.effG rfl (by decide) rfl (Eff.callS 128 rfl Tryz.func60 nm_60 rfl rfl (fun w hb hh => w_r05_Size (Mem.snap w) x00_3 hx27)) ?_
      rintro _ _ ⟨_, ⟨rfl, rfl⟩, rfl⟩
      refine ad ?_ (by repeat (first | exact sn | refine sc ?_))
      exact dv 15 rfl (Yld.eqlI rfl rfl) <| du 16 rfl (Yld.pickT rfl rfl) <| on 17 <| dy rfl (Yld.idxC (xs := x9) sty_30 rfl rfl (RdH.own (k := 104) rfl) hx29) <| on 18 <| WS.eff0 rfl (Eff0.storeC1 104 (xs := x9) (a' := ((x23.length : Int) == x27)) siz_4 rfl rfl rfl rfl rfl rfl hx30) (sc (sc sn)) <| WD.done (by kernel_rfl) <| kw (k19 x30 h)
     replace h := of_f hc22 h
     obtain ⟨x31, hx31, h⟩ := bnd h
     obtain ⟨x32, hx32, h⟩ := bnd h
     exact dm 0 rfl rfl <| dm 1 rfl rfl <| dm 2 rfl rfl <| dm 3 rfl rfl <| du 4 rfl (Yld.idxC (xs := x02) sty_30 rfl rfl (RdH.memM (k := 0) rfl hf02) hx21) <| du 5 rfl (Yld.loadC0 (xs := x02) scal_4 rfl (RdH.memM (k := 0) rfl hf02) hx21 rfl) <| dm 6 rfl rfl <| WD.new (v' := .bool false) (congrArg Value.bool (Bool.eq_false_iff.2 hc22)) <| dw 7 rfl <| dw 8 rfl <| dw 9 rfl <| dw 10 rfl <| dw 11 rfl <| dw 12 rfl <| dw 13 rfl <| dw 14 rfl <| dw 15 rfl <| du 16 rfl (Yld.pickF rfl rfl) <| on 17 <| dy rfl (Yld.idxC (xs := x9) sty_30 rfl rfl (RdH.own (k := 104) rfl) hx31) <| on 18 <| WS.eff0 rfl (Eff0.storeC1 104 (xs := x9) (a' := false) siz_4 rfl rfl rfl rfl rfl rfl hx32) (sc (sc sn)) <| WD.done (by kernel_rfl) <| kw (k19 x32 h)
    rintro x18 h
    unfold m_r18_usable_j3 at h
    refine sr fun _ k33 => asn rfl <| dn <| k33 _ _ <| bl <| lp (τ := (List (Bool)) × Int) (fun ⟨x34, x35⟩ => [(1, .slice A01 n01 c01), (2, .slice A02 n02 c02), (3, .slice A03 n03 c03), (4, .pointer (some ⟨g2, 0, none⟩)), (9, .slice (some ⟨g4, 0, none⟩) x5.length x5.length), (10, I64 x10), (11, I64 x35)]) (fun ⟨x34, x35⟩ => [(0, .mem M0), (102, .blk g2 28 [I64 x00_0, I64 x00_1, I64 x00_2, I64 x00_3, U32 x00_4, U32 x00_5, U32 x00_6, U32 x00_7, U32 x00_8, U32 x00_9, .slice A00_10 n00_10 c00_10]), (104, .own 4 (Lay.sz Bool) (some ⟨g4, 0, none⟩) x5.length x5.length (cel x34))]) (fun q36 ⟨x34, x35⟩ => m_r18_usable_l4 x03 x10 (m_r18_usable_l1 x00_3 x01 x02 x03 q11) q36 x34 x35 = some res) ⟨x18, (0 : Int)⟩ ?_ (by simp [m_r18_usable_l4]) ?_
    ·exact h
    rintro q36 ⟨x34, x35⟩ h _ k37
    unfold m_r18_usable_l4 at h
    refine sq fun _ k38 => sr fun _ k39 => mv rfl <| mv rfl <| ya (Yld.lenC (xs := x03) und_32 rfl (RdH.memM (k := 0) rfl hf03)) <| ya (Yld.lss rfl rfl) <| dn <| k39 _ _ <| cnd h rfl decide_eq_true decide_eq_false (fun hc40 h => ?_) fun hc40 h => ?_
    ·refine ss <| k38 _ _ <| sq fun _ k41 => bl <| rg fun _ k42 => ?_
     obtain ⟨x43, hx43, h⟩ := bnd h
     refine mv rfl <| mv rfl <| mv rfl <| mv rfl <| ya (Yld.idxC (xs := x34) sty_30 rfl rfl (RdH.own (k := 104) rfl) hx43) <| ya (Yld.loadC0 (xs := x34) scal_4 rfl (RdH.own (k := 104) rfl) hx43 rfl) <| mv rfl <| spl h id Bool.eq_false_iff.2 (fun hc44 h => ?_) fun hc44 h => ?_
     ·obtain ⟨x45, hx45, h⟩ := bnd h
      obtain ⟨x46, hx46, h⟩ := bnd h
      obtain ⟨x47, hx47, h⟩ := bnd h
      refine mvg rfl <| mvg rfl <| yg (Yld.idxC (xs := x03) sty_32 rfl rfl (RdH.memM (k := 0) rfl hf03) hx45) <| yg (Yld.loadC0 (xs := x03) scal_3 rfl (RdH.memM (k := 0) rfl hf03) hx45 rfl) <| mvg rfl <| yg (Yld.neqI rfl rfl) <| pt rfl rfl <| ya (Yld.idxC (xs := x34) sty_30 rfl rfl (RdH.own (k := 104) rfl) hx46) <| WL.eff0 (Eff0.storeC1 104 (xs := x34) (a' := (x45 != x10)) siz_4 rfl rfl rfl rfl rfl rfl hx47) <| dn <| k42 _ _ <| bn <| tn <| k41 _ _ <| rg fun _ k48 => ?_
      obtain ⟨x49, hx49, h⟩ := bnd h
      exact mv rfl <| ya (Yld.addC rfl rfl hx49) <| asn rfl <| dn <| k48 _ _ <| tn <| kw (k37 ⟨x47, x49⟩ h)
     obtain ⟨x50, hx50, h⟩ := bnd h
     obtain ⟨x51, hx51, h⟩ := bnd h
     refine sk <| sk <| sk <| sk <| sk <| sk <| pf rfl rfl <| ya (Yld.idxC (xs := x34) sty_30 rfl rfl (RdH.own (k := 104) rfl) hx50) <| WL.eff0 (Eff0.storeC1 104 (xs := x34) (a' := false) siz_4 rfl rfl rfl rfl rfl rfl hx51) <| dn <| k42 _ _ <| bn <| tn <| k41 _ _ <| rg fun _ k52 => ?_
     obtain ⟨x53, hx53, h⟩ := bnd h
     exact mv rfl <| ya (Yld.addC rfl rfl hx53) <| asn rfl <| dn <| k52 _ _ <| tn <| kw (k37 ⟨x51, x53⟩ h)
    exact xi <| te <| te <| bx <| bn <| tn <| kw (k17 x34 h)
   rintro x16 h
   unfold m_r18_usable_j2 at h
   refine rg fun _ k54 => ?_
   obtain ⟨x55, hx55, h⟩ := bnd h
   exact mv rfl <| ya (Yld.addC rfl rfl hx55) <| asn rfl <| dn <| k54 _ _ <| tn <| kw (k12 ⟨x16, x55⟩ h)
  exact xi <| te <| te <| bx <| tn <| kw (k7 x9 h)
 rintro x6 h
 unfold m_r18_usable_j0 at h
 refine sr fun _ k56 => mv rfl <| asn rfl <| dn <| k56 _ _ <| re ?_
 injection h with h; subst h
 exact rt [104] (ResIs.one rfl rfl) (Ext.refl _ _) ⟨(some ⟨g4, 0, none⟩), x5.length, x5.length, rfl, rfl⟩
theorem w_r18_Bytes (M0 : Mem) (x00_0 x00_1 x00_2 x00_3 : Int) (x00_4 x00_5 x00_6 x00_7 x00_8 x00_9 : BitVec 32) (A00_10 : Option Addr) (n00_10 c00_10 : Nat) (x00_10 : List (Sapi_Item)) (hf00_10 : SlT M0 A00_10 n00_10 c00_10 x00_10) (A01 : Option Addr) (n01 c01 : Nat) (rs01 : List Hdr) (x01 : List (List (BitVec 8))) (hf01 : SlT M0 A01 n01 c01 rs01) (hq01 : Rels ((RelB (α := BitVec 8)) M0) rs01 x01) (A02 : Option Addr) (n02 c02 : Nat) (x02 : List (Bool)) (hf02 : SlT M0 A02 n02 c02 x02) (A03 : Option Addr) (n03 c03 : Nat) (x03 : List (Int)) (hf03 : SlT M0 A03 n03 c03 x03) (x04 x05 : Int) {res : (List (BitVec 8)) × Bool} (h : m_r18_Bytes x00_0 x00_1 x00_2 x00_3 x00_4 x00_5 x00_6 x00_7 x00_8 x00_9 x00_10 x01 x02 x03 x04 x05 = some res) :
  Fn Tryz.prog 14 #[.agg ([I64 x00_0, I64 x00_1, I64 x00_2, I64 x00_3, U32 x00_4, U32 x00_5, U32 x00_6, U32 x00_7, U32 x00_8, U32 x00_9, .slice A00_10 n00_10 c00_10] : List Value).toArray, .slice A01 n01 c01, .slice A02 n02 c02, .slice A03 n03 c03, I64 x04, I64 x05] M0 fun r M' es => ∃ (A1 : Option Addr) (n1 c1 : Nat), r = .tuple #[.slice A1 n1 c1, .bool res.2] /\ es = [.own 5 (Lay.sz (BitVec 8)) A1 n1 c1 (cel res.1)] := by
 refine Fn.intro (N := 128) Tryz.func14 rfl rfl (Nat.le_of_ble_eq_true rfl) fun w0 => ?_
 unfold m_r18_Bytes at h
 refine sr fun _ k1 => bb 102 [I64 x00_0, I64 x00_1, I64 x00_2, I64 x00_3, U32 x00_4, U32 x00_5, U32 x00_6, U32 x00_7, U32 x00_8, U32 x00_9, .slice A00_10 n00_10 c00_10] rfl fun g2 => asn rfl <| asn rfl <| dn <| k1 _ _ <| ct (σ := (Option Addr) × Nat × Nat × (List (Int)) × Int × Int) (fun ⟨A3, n4, c5, x6, x8, x9⟩ => [(1, .slice A01 n01 c01), (2, .slice A02 n02 c02), (3, .slice A3 n4 c5), (4, I64 x8), (5, I64 x9), (6, .pointer (some ⟨g2, 0, none⟩))]) (fun ⟨A3, n4, c5, x6, x8, x9⟩ => [(0, .mem M0), (102, .blk g2 28 [I64 x00_0, I64 x00_1, I64 x00_2, I64 x00_3, U32 x00_4, U32 x00_5, U32 x00_6, U32 x00_7, U32 x00_8, U32 x00_9, .slice A00_10 n00_10 c00_10])]) (fun ⟨A3, n4, c5, x6, x8, x9⟩ => m_r18_Bytes_j0 x00_0 x00_1 x00_10 x00_2 x00_3 x00_4 x00_5 x00_6 x00_7 x00_8 x00_9 x01 x02 x6 x8 x9 = some res /\ SlT M0 A3 n4 c5 x6) (fun _ k10 => ?_) ?_
 ·refine sr fun _ k11 => ?_
  obtain ⟨x12, hx12, h⟩ := bnd h
  refine ya (Yld.loadBM (k := 102) agg_28 rfl rfl rfl) <| c0 Tryz.func33 rfl (fun w hb hh => w_r17_Valid (Mem.snap w) x00_0 x00_1 x00_2 x00_3 x00_4 x00_5 x00_6 x00_7 x00_8 x00_9 A00_10 n00_10 c00_10 _ (RdH.sn (RdH.memM (k := 0) rfl hf00_10) w hb hh) hx12) <| ya (Yld.notB rfl) <| mv rfl <| spn h not_f (fun q => not_t (Bool.eq_false_iff.2 q)) (fun hc14 h => ?_) fun hc14 h => ?_
  ·refine mvg rfl <| yg (Yld.lenD (rs := rs01) (xs := x01) (Rels.len hq01) und_29 rfl (RdH.memM (k := 0) rfl hf01)) <| yg (Yld.neqI rfl rfl) <| pf rfl rfl <| mv rfl <| spn h bne_eq_false_iff_eq.2 bne_iff_ne.2 (fun hc15 h => ?_) fun hc15 h => ?_
   ·refine mvg rfl <| yg (Yld.lenC (xs := x02) und_30 rfl (RdH.memM (k := 0) rfl hf02)) <| yg (Yld.neqI rfl rfl) <| pf rfl rfl <| mv rfl <| spn h bne_eq_false_iff_eq.2 bne_iff_ne.2 (fun hc16 h => ?_) fun hc16 h => ?_
    ·refine mvg rfl <| yg (Yld.lss rfl rfl) <| pf rfl rfl <| mv rfl <| spl h decide_eq_true decide_eq_false (fun hc17 h => ?_) fun hc17 h => ?_
     ·refine sk <| sk <| pt rfl rfl <| mv rfl <| sk <| sk <| sk <| sk <| pt rfl rfl <| mv rfl <| sk <| sk <| sk <| sk <| sk <| sk <| pt rfl rfl <| dn <| k11 _ _ <| cdT rfl <| sr fun _ k18 => asn rfl <| asn rfl <| dn <| k18 _ _ <| re <| tr <| QK.nilOwn 119 5 (Lay.sz (BitVec 8)) none ?_
      injection h with h; subst h
      exact rt [119] (ResIs.two rfl rfl rfl) (Ext.refl _ _) ⟨none, 0, 0, rfl, rfl⟩
     refine mvg rfl <| yg (Yld.lss rfl rfl) <| pf rfl rfl <| mv rfl <| spl h decide_eq_true decide_eq_false (fun hc20 h => ?_) fun hc20 h => ?_
     ·refine sk <| sk <| sk <| sk <| pt rfl rfl <| mv rfl <| sk <| sk <| sk <| sk <| sk <| sk <| pt rfl rfl <| dn <| k11 _ _ <| cdT rfl <| sr fun _ k21 => asn rfl <| asn rfl <| dn <| k21 _ _ <| re <| tr <| QK.nilOwn 122 5 (Lay.sz (BitVec 8)) none ?_
      injection h with h; subst h
      exact rt [122] (ResIs.two rfl rfl rfl) (Ext.refl _ _) ⟨none, 0, 0, rfl, rfl⟩
     refine mvg rfl <| yg (Yld.fieldAddr Tryz.underlying28 rfl nz_2 rfl rfl) <| yg (Yld.loadB (k := 102) scal_2 rfl rfl rfl) <| yg (Yld.gtr rfl rfl) <| pf rfl rfl <| mv rfl <| spl h decide_eq_true decide_eq_false (fun hc23 h => ?_) fun hc23 h => ?_
     ·refine sk <| sk <| sk <| sk <| sk <| sk <| pt rfl rfl <| dn <| k11 _ _ <| cdT rfl <| sr fun _ k24 => asn rfl <| asn rfl <| dn <| k24 _ _ <| re <| tr <| QK.nilOwn 125 5 (Lay.sz (BitVec 8)) none ?_
      injection h with h; subst h
      exact rt [125] (ResIs.two rfl rfl rfl) (Ext.refl _ _) ⟨none, 0, 0, rfl, rfl⟩
     obtain ⟨x26, hx26, h⟩ := bnd h
     refine mvg rfl <| yg (Yld.fieldAddr Tryz.underlying28 rfl nz_2 rfl rfl) <| yg (Yld.loadB (k := 102) scal_2 rfl rfl rfl) <| mvg rfl <| yg (Yld.subC rfl rfl hx26) <| yg (Yld.gtr rfl rfl) <| pf rfl rfl <| dn <| k11 _ _ <| cnd h rfl decide_eq_true decide_eq_false (fun hc27 h => ?_) fun hc27 h => ?_
     ·refine sr fun _ k28 => asn rfl <| asn rfl <| dn <| k28 _ _ <| re <| tr <| QK.nilOwn 129 5 (Lay.sz (BitVec 8)) none ?_
      injection h with h; subst h
      exact rt [129] (ResIs.two rfl rfl rfl) (Ext.refl _ _) ⟨none, 0, 0, rfl, rfl⟩
     exact WC.skip <| tn <| kw (k10 ⟨A03, n03, c03, x03, x04, x05⟩ ⟨h, hf03⟩)
    refine sk <| sk <| pt rfl rfl <| mv rfl <| sk <| sk <| pt rfl rfl <| mv rfl <| sk <| sk <| sk <| sk <| pt rfl rfl <| mv rfl <| sk <| sk <| sk <| sk <| sk <| sk <| pt rfl rfl <| dn <| k11 _ _ <| cdT rfl <| sr fun _ k30 => asn rfl <| asn rfl <| dn <| k30 _ _ <| re <| tr <| QK.nilOwn 131 5 (Lay.sz (BitVec 8)) none ?_
    injection h with h; subst h
    exact rt [131] (ResIs.two rfl rfl rfl) (Ext.refl _ _) ⟨none, 0, 0, rfl, rfl⟩
   refine sk <| sk <| sk <| pt rfl rfl <| mv rfl <| sk <| sk <| pt rfl rfl <| mv rfl <| sk <| sk <| pt rfl rfl <| mv rfl <| sk <| sk <| sk <| sk <| pt rfl rfl <| mv rfl <| sk <| sk <| sk <| sk <| sk <| sk <| pt rfl rfl <| dn <| k11 _ _ <| cdT rfl <| sr fun _ k32 => asn rfl <| asn rfl <| dn <| k32 _ _ <| re <| tr <| QK.nilOwn 133 5 (Lay.sz (BitVec 8)) none ?_
   injection h with h; subst h
   exact rt [133] (ResIs.two rfl rfl rfl) (Ext.refl _ _) ⟨none, 0, 0, rfl, rfl⟩
  refine sk <| sk <| sk <| pt rfl rfl <| mv rfl <| sk <| sk <| sk <| pt rfl rfl <| mv rfl <| sk <| sk <| pt rfl rfl <| mv rfl <| sk <| sk <| pt rfl rfl <| mv rfl <| sk <| sk <| sk <| sk <| pt rfl rfl <| mv rfl <| sk <| sk <| sk <| sk <| sk <| sk <| pt rfl rfl <| dn <| k11 _ _ <| cdT rfl <| sr fun _ k34 => asn rfl <| asn rfl <| dn <| k34 _ _ <| re <| tr <| QK.nilOwn 135 5 (Lay.sz (BitVec 8)) none ?_
  injection h with h; subst h
  exact rt [135] (ResIs.two rfl rfl rfl) (Ext.refl _ _) ⟨none, 0, 0, rfl, rfl⟩
 rintro ⟨A3, n4, c5, x6, x8, x9⟩ ⟨h, hf7⟩
 unfold m_r18_Bytes_j0 at h
 refine sr fun _ k36 => ?_
 obtain ⟨x37, hx37, h⟩ := bnd h
 refine ya (Yld.loadBM (k := 102) agg_28 rfl rfl rfl) <| mv rfl <| mv rfl <| mv rfl <| c1 141 Tryz.func34 rfl (fun w hb hh => w_r18_usable (Mem.snap w) x00_0 x00_1 x00_2 x00_3 x00_4 x00_5 x00_6 x00_7 x00_8 x00_9 A00_10 n00_10 c00_10 _ (RdH.sn (RdH.memM (k := 0) rfl hf00_10) w hb hh) A01 n01 c01 rs01 _ (RdH.sn (RdH.memM (k := 0) rfl hf01) w hb hh) (Rels.sn hq01 (hh.sat 0 _ rfl)) A02 n02 c02 _ (RdH.sn (RdH.memM (k := 0) rfl hf02) w hb hh) A3 n4 c5 _ (RdH.sn (RdH.memM (k := 0) rfl hf7) w hb hh) hx37) fun A42 n43 c44 => asn rfl <| dn <| k36 _ _ <| sr fun _ k45 => ?_
 obtain ⟨x46, hx46, h⟩ := bnd h
 refine mv rfl <| mv rfl <| c1 150 Tryz.func35 rfl (fun w hb hh => w_r05_Pieces (Mem.snap w) x8 x9 hx46) fun A51 n52 c53 => mv rfl <| ya (Yld.extract rfl rfl) <| ya (Yld.extract rfl rfl) <| asn rfl <| asn rfl <| dn <| k45 _ _ <| sr fun _ k54 => asn rfl <| dn <| k54 _ _ <| ct (σ := Mem × (Option Addr) × Nat × Nat × (List (BitVec 8))) (fun ⟨M55, A58, n59, c60, x61⟩ => [(17, .slice A58 n59 c60)]) (fun ⟨M55, A58, n59, c60, x61⟩ => [(0, .mem M55), (157, .own 5 (Lay.sz (BitVec 8)) A58 n59 c60 (cel x61))]) (fun ⟨M55, A58, n59, c60, x61⟩ => m_r18_Bytes_j1 x61 = some res /\ Ext w0.heap.size M0 M55) (fun _ k62 => ?_) ?_
 ·refine sr fun _ k63 => asn rfl <| dn <| k63 _ _ <| bl <| WC.freeze 141 rfl rfl rfl fun M80 hm_M80 hf81 => WC.nilOwn 173 5 (Lay.sz (BitVec 8)) none <| lp (τ := Mem × (Option Addr) × Nat × Nat × (List (Bool)) × (Option Addr) × Nat × Nat × (List (BitVec 8)) × Int) (fun ⟨M66, A67, n68, c69, x70, A74, n75, c76, x77, x78⟩ => [(1, .slice A01 n01 c01), (14, .slice A67 n68 c69), (15, .slice A51 n52 c53), (17, .slice A74 n75 c76), (18, I64 x78)]) (fun ⟨M66, A67, n68, c69, x70, A74, n75, c76, x77, x78⟩ => [(0, .mem M66), (150, .own 96 (Lay.sz Sneedlestoreref05_Piece) A51 n52 c53 (cel x46.1)), (173, .own 5 (Lay.sz (BitVec 8)) A74 n75 c76 (cel x77))]) (fun q79 ⟨M66, A67, n68, c69, x70, A74, n75, c76, x77, x78⟩ => m_r18_Bytes_l2 x01 x46 q79 x70 x77 x78 = some res /\ Ext w0.heap.size M0 M66 /\ SlT M66 A67 n68 c69 x70) ⟨M80, A42, n43, c44, x37, none, 0, 0, ([] : List (BitVec 8)), (0 : Int)⟩ ?_ (by simp [m_r18_Bytes_l2]) ?_
  ·exact ⟨h, hm_M80, hf81⟩
  rintro q79 ⟨M66, A67, n68, c69, x70, A74, n75, c76, x77, x78⟩ ⟨h, hm_M66, hf71⟩ _ k82
  unfold m_r18_Bytes_l2 at h
  refine sq fun _ k83 => sr fun _ k84 => mv rfl <| mv rfl <| ya (Yld.lenC (xs := x46.1) und_93 rfl (RdH.own (k := 150) rfl)) <| ya (Yld.lss rfl rfl) <| dn <| k84 _ _ <| cnd h rfl decide_eq_true decide_eq_false (fun hc85 h => ?_) fun hc85 h => ?_
  ·refine ss <| k83 _ _ <| ct (σ := Mem × (Option Addr) × Nat × Nat × (List (BitVec 8))) (fun ⟨M86, A87, n88, c89, x90⟩ => [(1, .slice A01 n01 c01), (14, .slice A67 n68 c69), (15, .slice A51 n52 c53), (17, .slice A87 n88 c89), (18, I64 x78)]) (fun ⟨M86, A87, n88, c89, x90⟩ => [(0, .mem M86), (150, .own 96 (Lay.sz Sneedlestoreref05_Piece) A51 n52 c53 (cel x46.1)), (173, .own 5 (Lay.sz (BitVec 8)) A87 n88 c89 (cel x90))]) (fun ⟨M86, A87, n88, c89, x90⟩ => m_r18_Bytes_j3 x70 x78 (m_r18_Bytes_l2 x01 x46 q79) x90 = some res /\ Ext w0.heap.size M66 M86) (fun _ k91 => ?_) ?_
   ·refine bl <| sr fun _ k92 => ?_
    obtain ⟨x93, hx93, h⟩ := bnd h
    refine mv rfl <| mv rfl <| ya (Yld.idxC (xs := x46.1) sty_93 rfl rfl (RdH.own (k := 150) rfl) hx93) <| ya (Yld.loadA (xs := x46.1) agg_96 rfl (RdH.own (k := 150) rfl) hx93 rfl) <| al 194 zr_96 fun g94 => sb 194 agg_96 rfl rfl rfl <| dn <| k92 _ _ <| sr fun _ k95 => asn rfl <| dn <| k95 _ _ <| ct (σ := (Option Addr) × Nat × Nat × (List (List (BitVec 8))) × (List Hdr)) (fun ⟨A98, n99, c100, x101, rs102⟩ => [(1, .slice A01 n01 c01), (14, .slice A67 n68 c69), (15, .slice A51 n52 c53), (17, .slice A74 n75 c76), (18, I64 x78), (19, .pointer (some ⟨g94, 0, none⟩)), (20, .slice A98 n99 c100)]) (fun ⟨A98, n99, c100, x101, rs102⟩ => [(0, .mem M66), (150, .own 96 (Lay.sz Sneedlestoreref05_Piece) A51 n52 c53 (cel x46.1)), (173, .own 5 (Lay.sz (BitVec 8)) A74 n75 c76 (cel x77)), (194, .blk g94 96 [I64 x93.fShard, I64 x93.fAt, I64 x93.fLen]), (197, .own 35 (Lay.sz Hdr) A98 n99 c100 (cel rs102))]) (fun ⟨A98, n99, c100, x101, rs102⟩ => m_r18_Bytes_j4 x70 x77 x78 x93 (m_r18_Bytes_l2 x01 x46 q79) x101 = some res /\ Rels ((RelB (α := BitVec 8)) M66) rs102 x101) (fun _ k104 => ?_) ?_
    ·refine sr fun _ k105 => asn rfl <| dn <| k105 _ _ <| bl <| WC.nilOwn 207 35 (Lay.sz Hdr) none <| lp (τ := (Option Addr) × Nat × Nat × (List (List (BitVec 8))) × (List Hdr) × Int) (fun ⟨A108, n109, c110, x111, rs112, x114⟩ => [(1, .slice A01 n01 c01), (14, .slice A67 n68 c69), (15, .slice A51 n52 c53), (17, .slice A74 n75 c76), (18, I64 x78), (19, .pointer (some ⟨g94, 0, none⟩)), (20, .slice A108 n109 c110), (21, I64 x114)]) (fun ⟨A108, n109, c110, x111, rs112, x114⟩ => [(0, .mem M66), (150, .own 96 (Lay.sz Sneedlestoreref05_Piece) A51 n52 c53 (cel x46.1)), (173, .own 5 (Lay.sz (BitVec 8)) A74 n75 c76 (cel x77)), (194, .blk g94 96 [I64 x93.fShard, I64 x93.fAt, I64 x93.fLen]), (207, .own 35 (Lay.sz Hdr) A108 n109 c110 (cel rs112))]) (fun q115 ⟨A108, n109, c110, x111, rs112, x114⟩ => m_r18_Bytes_l5 x01 x70 x77 x78 x93 (m_r18_Bytes_l2 x01 x46 q79) q115 x111 x114 = some res /\ Rels ((RelB (α := BitVec 8)) M66) rs112 x111) ⟨none, 0, 0, ([] : List (List (BitVec 8))), ([] : List Hdr), (0 : Int)⟩ ?_ (by simp [m_r18_Bytes_l5]) ?_
     ·exact ⟨h, (Rels.nil (R := (RelB (α := BitVec 8)) M66))⟩
     rintro q115 ⟨A108, n109, c110, x111, rs112, x114⟩ ⟨h, hq113⟩ _ k116
     unfold m_r18_Bytes_l5 at h
     refine sq fun _ k117 => sr fun _ k118 => mv rfl <| ya (Yld.lss rfl rfl) <| dn <| k118 _ _ <| cnd h rfl decide_eq_true decide_eq_false (fun hc119 h => ?_) fun hc119 h => ?_
     ·refine ss <| k117 _ _ <| sq fun _ k120 => bl <| sr fun _ k121 => asn rfl <| dn <| k121 _ _ <| sq fun _ k122 => sr fun _ k123 => ?_
      obtain ⟨x124, hx124, h⟩ := bnd h
      refine mv rfl <| mv rfl <| ya (Yld.idxC (xs := x70) sty_30 rfl rfl (RdH.memM (k := 0) rfl hf71) hx124) <| ya (Yld.loadC0 (xs := x70) scal_4 rfl (RdH.memM (k := 0) rfl hf71) hx124 rfl) <| dn <| k123 _ _ <| cnd h rfl id Bool.eq_false_iff.2 (fun hc125 h => ?_) fun hc125 h => ?_
      ·refine rd [(0, _), (150, _), (173, _), (194, _), (207, _)] mixed fun _ k126 => ?_
       obtain ⟨x127, hx127, h⟩ := bnd h
       obtain ⟨x131, hx131, h⟩ := bnd h
       obtain ⟨x132, hx132, h⟩ := bnd h
       refine dm 0 rfl rfl <| dm 1 rfl rfl ?_
       obtain ⟨r_128, hr129, hq130⟩ := Rels.idx (Rels.lift hq01 hm_M66) hx127
       refine du 2 rfl (Yld.idxC (xs := rs01) sty_29 rfl rfl (RdH.memM (k := 0) rfl (SlRc.lift hf01 hm_M66)) hr129) <| du 3 rfl (Yld.loadC0 (xs := rs01) scal_35 rfl (RdH.memM (k := 0) rfl (SlRc.lift hf01 hm_M66)) hr129 rfl) <| du 4 rfl (Yld.fieldAddr Tryz.underlying96 rfl nz_2 rfl rfl) <| du 5 rfl (Yld.loadB (k := 194) scal_2 rfl rfl rfl) <| du 6 rfl (Yld.fieldAddr Tryz.underlying96 rfl nz_2 rfl rfl) <| du 7 rfl (Yld.loadB (k := 194) scal_2 rfl rfl rfl) <| du 8 rfl (Yld.fieldAddr Tryz.underlying96 rfl nz_2 rfl rfl) <| du 9 rfl (Yld.loadB (k := 194) scal_2 rfl rfl rfl) <| du 10 rfl (Yld.addC rfl rfl hx131) <| du 11 rfl (Yld.sliceLHC (xs := x127) sty_35 rfl rfl rfl (RdH.memM (k := 0) rfl hq130) hx132) <| du 12 rfl (Yld.assign rfl) <| dd <| k126 _ _ <| tn <| k122 _ _ <| rg fun _ k133 => ?_
       obtain ⟨x136, hx136, h⟩ := bnd h
       refine mv rfl <| mv rfl ?_
       have hq135 : Rels ((RelB (α := BitVec 8)) M66) ([(⟨(subA r_128.A r_128.c (x93.fAt).toNat (Lay.sz (BitVec 8))), x132.length, (r_128.c - (x93.fAt).toNat)⟩ : Hdr)] : List Hdr) ([x132] : List (List (BitVec 8))) := (Rels.cons (SlT.slc hq130 hx132) Rels.nil)
       refine WL.eff (by decide) (Eff.buildC 234 ([(⟨(subA r_128.A r_128.c (x93.fAt).toNat (Lay.sz (BitVec 8))), x132.length, (r_128.c - (x93.fAt).toNat)⟩ : Hdr)] : List Hdr) sty_29 rfl rfl rfl rfl rfl (by decide)) ?_
       rintro _ _ ⟨g134, rfl, rfl⟩
       obtain ⟨hu139, hq140⟩ := Rels.apd hq113 hq135 hx136
       refine ap 207 (xs := rs112) (ys := ([(⟨(subA r_128.A r_128.c (x93.fAt).toNat (Lay.sz (BitVec 8))), x132.length, (r_128.c - (x93.fAt).toNat)⟩ : Hdr)] : List Hdr)) sty_29 rfl rfl rfl (RdH.own (k := 234) rfl) hu139 fun A137 c138 => asn rfl <| dn <| k133 _ _ <| bn <| tn <| k120 _ _ <| rg fun _ k141 => ?_
       obtain ⟨x142, hx142, h⟩ := bnd h
       exact mv rfl <| ya (Yld.addC rfl rfl hx142) <| asn rfl <| dn <| k141 _ _ <| tn <| kw (k116 ⟨A137, (rs112 ++ ([(⟨(subA r_128.A r_128.c (x93.fAt).toNat (Lay.sz (BitVec 8))), x132.length, (r_128.c - (x93.fAt).toNat)⟩ : Hdr)] : List Hdr)).length, c138, x136, (rs112 ++ ([(⟨(subA r_128.A r_128.c (x93.fAt).toNat (Lay.sz (BitVec 8))), x132.length, (r_128.c - (x93.fAt).toNat)⟩ : Hdr)] : List Hdr)), x142⟩ ⟨h, hq140⟩)
      refine ss <| k122 _ _ <| rg fun _ k143 => ?_
      obtain ⟨x146, hx146, h⟩ := bnd h
      refine mv rfl <| mv rfl ?_
      have hq145 : Rels ((RelB (α := BitVec 8)) M66) ([(⟨none, 0, 0⟩ : Hdr)] : List Hdr) ([([] : List (BitVec 8))] : List (List (BitVec 8))) := (Rels.cons SlT.nil Rels.nil)
      refine WL.eff (by decide) (Eff.buildC 244 ([(⟨none, 0, 0⟩ : Hdr)] : List Hdr) sty_29 rfl rfl rfl rfl rfl (by decide)) ?_
      rintro _ _ ⟨g144, rfl, rfl⟩
      obtain ⟨hu149, hq150⟩ := Rels.apd hq113 hq145 hx146
      refine ap 207 (xs := rs112) (ys := ([(⟨none, 0, 0⟩ : Hdr)] : List Hdr)) sty_29 rfl rfl rfl (RdH.own (k := 244) rfl) hu149 fun A147 c148 => asn rfl <| dn <| k143 _ _ <| bn <| tn <| k120 _ _ <| rg fun _ k151 => ?_
      obtain ⟨x152, hx152, h⟩ := bnd h
      exact mv rfl <| ya (Yld.addC rfl rfl hx152) <| asn rfl <| dn <| k151 _ _ <| tn <| kw (k116 ⟨A147, (rs112 ++ ([(⟨none, 0, 0⟩ : Hdr)] : List Hdr)).length, c148, x146, (rs112 ++ ([(⟨none, 0, 0⟩ : Hdr)] : List Hdr)), x152⟩ ⟨h, hq150⟩)
     exact xi <| te <| te <| bx <| tn <| KK.move 207 197 rfl rfl <| kw (k104 ⟨A108, n109, c110, x111, rs112⟩ ⟨h, hq113⟩)
    rintro ⟨A98, n99, c100, x101, rs102⟩ ⟨h, hq103⟩
    unfold m_r18_Bytes_j4 at h
    refine sq fun _ k153 => sr fun _ k154 => ?_
    obtain ⟨x155, hx155, h⟩ := bnd h
    refine mv rfl <| ya (Yld.fieldAddr Tryz.underlying96 rfl nz_3 rfl rfl) <| ya (Yld.loadB (k := 194) scal_3 rfl rfl rfl) <| ya (Yld.idxC (xs := x70) sty_30 rfl rfl (RdH.memM (k := 0) rfl hf71) hx155) <| ya (Yld.loadC0 (xs := x70) scal_4 rfl (RdH.memM (k := 0) rfl hf71) hx155 rfl) <| ya (Yld.notB rfl) <| dn <| k154 _ _ <| cnn h rfl not_f (fun q => not_t (Bool.eq_false_iff.2 q)) (fun hc156 h => ?_) fun hc156 h => ?_
    ·refine ss <| k153 _ _ <| rg fun _ k157 => ?_
     obtain ⟨x158, hx158, h⟩ := bnd h
     obtain ⟨x162, hx162, h⟩ := bnd h
     refine mv rfl <| mv rfl <| ya (Yld.fieldAddr Tryz.underlying96 rfl nz_3 rfl rfl) <| ya (Yld.loadB (k := 194) scal_3 rfl rfl rfl) ?_
     obtain ⟨r_159, hr160, hq161⟩ := Rels.idx hq103 hx158
     exact ya (Yld.idxC (xs := rs102) sty_29 rfl rfl (RdH.own (k := 197) rfl) hr160) <| ya (Yld.loadC0 (xs := rs102) scal_35 rfl (RdH.own (k := 197) rfl) hr160 rfl) <| ap 173 (xs := x77) (ys := x158) sty_35 rfl rfl rfl (RdH.memM (k := 0) rfl hq161) hx162 fun A163 c164 => asn rfl <| dn <| k157 _ _ <| bn <| tn <| kw (k91 ⟨M66, A163, x162.length, c164, x162⟩ ⟨h, (Ext.refl _ _)⟩)
    refine sr fun _ k165 => ?_
    obtain ⟨x166, hx166, h⟩ := bnd h
    refine mv rfl <| mv rfl <| WL.freeze 197 rfl rfl rfl fun M178 hm_M178 hf179 => WL.eff (by decide) (Eff.callM 272 rfl Tryz.func36 nm_36 rfl rfl rfl (w_r04_Restore _ A98 n99 c100 rs102 _ hf179 (Rels.lift hq103 hm_M178) A67 n68 c69 _ (SlRc.lift hf71 hm_M178) hx166)) ?_
    rintro _ _ ⟨M180, _, ⟨A181, n182, c183, rs184, rfl, rfl, hq185⟩, hm_M180, rfl⟩
    refine mv rfl <| ya (Yld.extract rfl rfl) <| ya (Yld.extract rfl rfl) <| asn rfl <| asn rfl <| dn <| k165 _ _ <| sq fun _ k186 => sr fun _ k187 => mv rfl <| ya (Yld.neqI rfl rfl) <| dn <| k187 _ _ <| cnn h rfl bne_eq_false_iff_eq.2 bne_iff_ne.2 (fun hc188 h => ?_) fun hc188 h => ?_
    ·refine ss <| k186 _ _ <| rg fun _ k189 => mv rfl <| asn rfl <| dn <| k189 _ _ <| tn <| k153 _ _ <| rg fun _ k190 => ?_
     obtain ⟨x191, hx191, h⟩ := bnd h
     obtain ⟨x195, hx195, h⟩ := bnd h
     refine mv rfl <| mv rfl <| ya (Yld.fieldAddr Tryz.underlying96 rfl nz_3 rfl rfl) <| ya (Yld.loadB (k := 194) scal_3 rfl rfl rfl) ?_
     obtain ⟨r_192, hr193, hq194⟩ := Rels.idx hq185 hx191
     exact ya (Yld.idxC (xs := rs184) sty_29 rfl rfl (RdH.own (k := 272) rfl) hr193) <| ya (Yld.loadC0 (xs := rs184) scal_35 rfl (RdH.own (k := 272) rfl) hr193 rfl) <| ap 173 (xs := x77) (ys := x191) sty_35 rfl rfl rfl (RdH.memM (k := 0) rfl hq194) hx195 fun A196 c197 => asn rfl <| dn <| k190 _ _ <| bn <| tn <| kw (k91 ⟨M180, A196, x195.length, c197, x195⟩ ⟨h, (Ext.trans hm_M178 hm_M180)⟩)
    refine sr fun _ k198 => asn rfl <| asn rfl <| dn <| k198 _ _ <| re <| tr <| tr <| br <| tr <| tr <| br <| tr <| QK.nilOwn 299 5 (Lay.sz (BitVec 8)) none ?_
    injection h with h; subst h
    exact rt [299] (ResIs.two rfl rfl rfl) (Ext.trans (Ext.trans hm_M66 hm_M178) hm_M180) ⟨none, 0, 0, rfl, rfl⟩
   rintro ⟨M86, A87, n88, c89, x90⟩ ⟨h, hm_M86⟩
   unfold m_r18_Bytes_j3 at h
   refine rg fun _ k200 => ?_
   obtain ⟨x201, hx201, h⟩ := bnd h
   exact mv rfl <| ya (Yld.addC rfl rfl hx201) <| asn rfl <| dn <| k200 _ _ <| tn <| kw (k82 ⟨M86, A67, n68, c69, x70, A87, n88, c89, x90, x201⟩ ⟨h, (Ext.trans hm_M66 hm_M86), (SlRc.lift hf71 hm_M86)⟩)
  exact xi <| te <| te <| bx <| tn <| KK.move 173 157 rfl rfl <| kw (k62 ⟨M66, A74, n75, c76, x77⟩ ⟨h, hm_M66⟩)
 rintro ⟨M55, A58, n59, c60, x61⟩ ⟨h, hm_M55⟩
 unfold m_r18_Bytes_j1 at h
 refine sr fun _ k202 => mv rfl <| asn rfl <| asn rfl <| dn <| k202 _ _ <| re ?_
 injection h with h; subst h
 exact rt [157] (ResIs.two rfl rfl rfl) hm_M55 ⟨A58, n59, c60, rfl, rfl⟩
end Go.Proofs.YtcncappgheopgaaGreat
