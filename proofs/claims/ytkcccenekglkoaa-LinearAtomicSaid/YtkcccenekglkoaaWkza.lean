/-
 Walks (za): what a function's model gives, the function returns. Printed by a program of ours (vcm.py) from the function's operations. Conditions: as each theorem says.
-/
import Derived.Test.YtkcccenekglkoaaWkd
import Derived.Test.YtkcccenekglkoaaMdza
namespace Go.Proofs.Ytkcccenekglkoaa
set_option maxRecDepth 10000
open Go Go.RowKit
set_option linter.unusedVariables false
theorem und_63 : Try.prog.underlying 63 = some (.slice 26) := by kernel_rfl
theorem nm_67 : (Try.f67.name == "runtime.NumGoroutine") = false := by kernel_rfl
theorem nm_72 : (Try.f72.name == "runtime.NumGoroutine") = false := by kernel_rfl
theorem nm_77 : (Try.f77.name == "runtime.NumGoroutine") = false := by kernel_rfl
theorem siz_26 : (Try.prog.info? 26).map (·.size) = some 1 := by kernel_rfl
theorem sty_63 : STy Try.prog 63 26 (U64 0#64) 1 8 := STy.of und_63 (by kernel_rfl) rfl
theorem w_cmp_Less_uint64 (M0 : Mem) (x00 x01 : BitVec 64) {res : Bool} (h : m_cmp_Less_uint64 x00 x01 = some res) :
  Fn Try.prog 67 #[U64 x00, U64 x01] M0 fun r M' es => r = .bool res /\ es = [] := by
 refine Fn.intro (N := 17) Try.func67 rfl rfl (Nat.le_of_ble_eq_true rfl) fun w0 => ?_
 unfold m_cmp_Less_uint64 at h
 refine sr fun _ k1 => asn rfl <| dn <| k1 _ _ <| sr fun _ k2 => mv rfl <| WL.inl (by decide) Try.func77 nm_77 rfl rfl (Tri.intro (N := 6) Try.func77 rfl rfl (Nat.le_of_ble_eq_true rfl) ?_)
 refine sr fun _ k3 => asn rfl <| dn <| k3 _ _ <| sr fun _ k4 => mv rfl <| mv rfl <| ya (Yld.neq_u64 (a := x00) (b := x00) rfl rfl) <| asn rfl <| dn <| k4 _ _ <| re <| Ret.go (ResIs.one rfl rfl) <| mv rfl <| spn h bne_eq_false_iff_eq.2 bne_iff_ne.2 (fun hc5 h => ?_) fun hc5 h => ?_
 ·refine sk <| sk <| sk <| pf rfl rfl <| mv rfl <| mvg rfl <| mvg rfl <| yg (Yld.lss_u64 (a := x00) (b := x01) rfl rfl) <| pf rfl rfl <| asn rfl <| dn <| k2 _ _ <| re ?_
  injection h with h; subst h
  exact rt0 (ResIs.one rfl rfl)
 refine mvg rfl <| WL.inlG (by decide) rfl Try.func77 nm_77 rfl rfl (Tri.intro (N := 6) Try.func77 rfl rfl (Nat.le_of_ble_eq_true rfl) ?_)
 refine sr fun _ k6 => asn rfl <| dn <| k6 _ _ <| sr fun _ k7 => mv rfl <| mv rfl <| ya (Yld.neq_u64 (a := x01) (b := x01) rfl rfl) <| asn rfl <| dn <| k7 _ _ <| re <| Ret.go (ResIs.one rfl rfl) <| yg (Yld.notB rfl) <| pt rfl rfl <| mv rfl <| spl h (fun q => not_t (bne_eq_false_iff_eq.2 q)) (fun q => not_f (bne_iff_ne.2 q)) (fun hc8 h => ?_) fun hc8 h => ?_
 ·refine sk <| sk <| sk <| pt rfl rfl <| asn rfl <| dn <| k2 _ _ <| re ?_
  injection h with h; subst h
  exact rt0 (ResIs.one rfl rfl)
 refine mvg rfl <| mvg rfl <| yg (Yld.lss_u64 (a := x00) (b := x01) rfl rfl) <| pf rfl rfl <| asn rfl <| dn <| k2 _ _ <| re ?_
 injection h with h; subst h
 exact rt0 (ResIs.one rfl rfl)
theorem w_slices_insertionSortOrdered_uint64 (A : Option Addr) (n c : Nat) (x0c : List (BitVec 64)) (x01 x02 : Int) {res : List (BitVec 64)} (h : m_slices_insertionSortOrdered_uint64 x0c x01 x02 = some res) :
  Mut Try.prog 61 #[.slice A n c, I64 x01, I64 x02] 26 (Lay.sz (BitVec 64)) A n c (cel x0c) fun r ds => r = .tuple #[] /\ ds = cel res := by
 refine Mut.intro (N := 49) Try.func61 rfl rfl (Nat.le_of_ble_eq_true rfl) fun w0 e0 => ?_
 unfold m_slices_insertionSortOrdered_uint64 at h
 refine sr fun _ k1 => ?_
 obtain ⟨x2, hx2, h⟩ := bnd h
 refine mv rfl <| ya (Yld.addC rfl rfl hx2) <| asn rfl <| dn <| k1 _ _ <| bl <| lp (τ := (List (BitVec 64)) × Int) (fun ⟨x3, x4⟩ => [(0, .slice A n c), (1, I64 x01), (2, I64 x02), (6, I64 x4)]) (fun ⟨x3, x4⟩ => [(1, e0), (2, .own 26 (Lay.sz (BitVec 64)) A n c (cel x3))]) (fun q5 ⟨x3, x4⟩ => m_slices_insertionSortOrdered_uint64_l0 x01 x02 q5 x3 x4 = some res) ⟨x0c, x2⟩ ?_ (by simp [m_slices_insertionSortOrdered_uint64_l0]) ?_
 ·exact h
 rintro q5 ⟨x3, x4⟩ h _ k6
 unfold m_slices_insertionSortOrdered_uint64_l0 at h
 refine sq fun _ k7 => sr fun _ k8 => mv rfl <| mv rfl <| ya (Yld.lss rfl rfl) <| dn <| k8 _ _ <| cnd h rfl decide_eq_true decide_eq_false (fun hc9 h => ?_) fun hc9 h => ?_
 ·refine ss <| k7 _ _ <| ct (σ := (List (BitVec 64))) (fun x10 => [(0, .slice A n c), (1, I64 x01), (2, I64 x02), (6, I64 x4)]) (fun x10 => [(1, e0), (2, .own 26 (Lay.sz (BitVec 64)) A n c (cel x10))]) (fun x10 => m_slices_insertionSortOrdered_uint64_j1 x4 (m_slices_insertionSortOrdered_uint64_l0 x01 x02 q5) x10 = some res) (fun _ k11 => ?_) ?_
  ·refine bl <| sr fun _ k12 => mv rfl <| asn rfl <| dn <| k12 _ _ <| bl <| lp (τ := (List (BitVec 64)) × Int) (fun ⟨x13, x14⟩ => [(0, .slice A n c), (1, I64 x01), (2, I64 x02), (6, I64 x4), (7, I64 x14)]) (fun ⟨x13, x14⟩ => [(1, e0), (2, .own 26 (Lay.sz (BitVec 64)) A n c (cel x13))]) (fun q15 ⟨x13, x14⟩ => m_slices_insertionSortOrdered_uint64_l2 x01 x4 (m_slices_insertionSortOrdered_uint64_l0 x01 x02 q5) q15 x13 x14 = some res) ⟨x3, x4⟩ ?_ (by simp [m_slices_insertionSortOrdered_uint64_l2]) ?_
   ·exact h
   rintro q15 ⟨x13, x14⟩ h _ k16
   unfold m_slices_insertionSortOrdered_uint64_l2 at h
   refine ct (σ := Unit) (fun _ => [(0, .slice A n c), (1, I64 x01), (2, I64 x02), (6, I64 x4), (7, I64 x14)]) (fun _ => [(1, e0), (2, .own 26 (Lay.sz (BitVec 64)) A n c (cel x13))]) (fun _ => m_slices_insertionSortOrdered_uint64_j3 x13 x14 (m_slices_insertionSortOrdered_uint64_l2 x01 x4 (m_slices_insertionSortOrdered_uint64_l0 x01 x02 q5) q15) = some res) (fun _ k17 => ?_) ?_
   ·refine sd [(1, _), (2, _)] mixed fun _ k18 => ?_
    by_cases hc19 : x01 < x14
    ·replace h := of_t hc19 h
     obtain ⟨x20, hx20, h⟩ := bnd h
     obtain ⟨x21, hx21, h⟩ := bnd h
     obtain ⟨x22, hx22, h⟩ := bnd h
     obtain ⟨x23, hx23, h⟩ := bnd h
     refine dm 0 rfl rfl <| dm 1 rfl rfl <| du 2 rfl (Yld.gtr rfl rfl) <| dm 3 rfl rfl <| WD.new (v' := .bool true) (congrArg Value.bool (decide_eq_true hc19)) <| dv 4 rfl (Yld.move rfl) <| dv 5 rfl (Yld.move rfl) <| dv 6 rfl (Yld.idxC (xs := x13) sty_63 rfl rfl (RdH.own (k := 2) rfl) hx20) <| dv 7 rfl (Yld.loadC0 (xs := x13) scal_26 rfl (RdH.own (k := 2) rfl) hx20 rfl) <| dv 8 rfl (Yld.move rfl) <| dv 9 rfl (Yld.move rfl) <| dv 10 rfl (Yld.subC rfl rfl hx21) <| dv 11 rfl (Yld.idxC (xs := x13) sty_63 rfl rfl (RdH.own (k := 2) rfl) hx22) <| dv 12 rfl (Yld.loadC0 (xs := x13) scal_26 rfl (RdH.own (k := 2) rfl) hx22 rfl) <| on 13 <| WS.effG rfl (by decide) rfl (Eff.callS 124 rfl Try.func67 nm_67 rfl rfl (fun w hb hh => w_cmp_Less_uint64 (Mem.snap w) x20 x22 hx23)) ?_
     rintro _ _ ⟨_, ⟨rfl, rfl⟩, rfl⟩
     refine ad ?_ (by repeat (first | exact sn | refine sc ?_))
     refine du 14 rfl (Yld.pickT rfl rfl) <| dd <| k18 _ _ <| cnd h rfl id Bool.eq_false_iff.2 (fun hc25 h => ?_) fun hc25 h => ?_
     ·exact WC.skip <| tn <| kw (k17 () h)
     exact xi <| te <| te <| bx <| bn <| tn <| kw (k11 x13 h)
    replace h := of_f hc19 h
    exact dm 0 rfl rfl <| dm 1 rfl rfl <| du 2 rfl (Yld.gtr rfl rfl) <| dm 3 rfl rfl <| WD.new (v' := .bool false) (congrArg Value.bool (decide_eq_false hc19)) <| dw 4 rfl <| dw 5 rfl <| dw 6 rfl <| dw 7 rfl <| dw 8 rfl <| dw 9 rfl <| dw 10 rfl <| dw 11 rfl <| dw 12 rfl <| dw 13 rfl <| du 14 rfl (Yld.pickF rfl rfl) <| dd <| k18 _ _ <| cdF rfl <| xi <| te <| te <| bx <| bn <| tn <| kw (k11 x13 h)
   rintro _ h
   unfold m_slices_insertionSortOrdered_uint64_j3 at h
   refine sq fun _ k26 => bl <| rd [(1, _)] mixed fun _ k27 => ?_
   obtain ⟨x28, hx28, h⟩ := bnd h
   obtain ⟨x29, hx29, h⟩ := bnd h
   obtain ⟨x30, hx30, h⟩ := bnd h
   obtain ⟨x31, hx31, h⟩ := bnd h
   obtain ⟨x32, hx32, h⟩ := bnd h
   obtain ⟨x33, hx33, h⟩ := bnd h
   obtain ⟨x34, hx34, h⟩ := bnd h
   obtain ⟨x35, hx35, h⟩ := bnd h
   refine dm 0 rfl rfl <| dm 1 rfl rfl <| dm 2 rfl rfl <| dm 3 rfl rfl <| du 4 rfl (Yld.subC rfl rfl hx28) <| dm 5 rfl rfl <| dm 6 rfl rfl <| du 7 rfl (Yld.subC rfl rfl hx29) <| dm 10 rfl rfl <| dm 11 rfl rfl <| WD.two 8 12 (by kernel_rfl) ?_ ?_
   ·refine dy rfl (Yld.idxC (xs := x13) sty_63 rfl rfl (RdH.own (k := 2) rfl) hx30) <| WD.two 9 12 (by kernel_rfl) ?_ ?_
    ·refine dy rfl (Yld.loadC0 (xs := x13) scal_26 rfl (RdH.own (k := 2) rfl) hx30 rfl) <| on 12 <| dy rfl (Yld.idxC (xs := x13) sty_63 rfl rfl (RdH.own (k := 2) rfl) hx31) <| on 13 <| dy rfl (Yld.loadC0 (xs := x13) scal_26 rfl (RdH.own (k := 2) rfl) hx31 rfl) <| on 14 <| dy rfl (Yld.idxC (xs := x13) sty_63 rfl rfl (RdH.own (k := 2) rfl) hx32) <| on 15 <| WS.eff0 rfl (Eff0.storeC1 2 (xs := x13) (a' := x30) siz_26 rfl rfl rfl rfl rfl rfl hx33) (sc sn) <| on 16 <| dy rfl (Yld.idxC (xs := x33) sty_63 rfl rfl (RdH.own (k := 2) rfl) hx34) <| on 17 <| WS.eff0 rfl (Eff0.storeC1 2 (xs := x33) (a' := x31) siz_26 rfl rfl rfl rfl rfl rfl hx35) (sc sn) <| dd <| k27 _ _ <| bn <| tn <| k26 _ _ <| rg fun _ k36 => ?_
     obtain ⟨x37, hx37, h⟩ := bnd h
     exact mv rfl <| ya (Yld.subC rfl rfl hx37) <| asn rfl <| dn <| k36 _ _ <| tn <| kw (k16 ⟨x35, x37⟩ h)
    skip
    refine dy rfl (Yld.idxC (xs := x13) sty_63 rfl rfl (RdH.own (k := 2) rfl) hx31) <| WD.two 9 13 (by kernel_rfl) ?_ ?_
    ·refine dy rfl (Yld.loadC0 (xs := x13) scal_26 rfl (RdH.own (k := 2) rfl) hx30 rfl) <| on 13 <| dy rfl (Yld.loadC0 (xs := x13) scal_26 rfl (RdH.own (k := 2) rfl) hx31 rfl) <| on 14 <| dy rfl (Yld.idxC (xs := x13) sty_63 rfl rfl (RdH.own (k := 2) rfl) hx32) <| on 15 <| WS.eff0 rfl (Eff0.storeC1 2 (xs := x13) (a' := x30) siz_26 rfl rfl rfl rfl rfl rfl hx33) (sc sn) <| on 16 <| dy rfl (Yld.idxC (xs := x33) sty_63 rfl rfl (RdH.own (k := 2) rfl) hx34) <| on 17 <| WS.eff0 rfl (Eff0.storeC1 2 (xs := x33) (a' := x31) siz_26 rfl rfl rfl rfl rfl rfl hx35) (sc sn) <| dd <| k27 _ _ <| bn <| tn <| k26 _ _ <| rg fun _ k38 => ?_
     obtain ⟨x39, hx39, h⟩ := bnd h
     exact mv rfl <| ya (Yld.subC rfl rfl hx39) <| asn rfl <| dn <| k38 _ _ <| tn <| kw (k16 ⟨x35, x39⟩ h)
    skip
    refine dy rfl (Yld.loadC0 (xs := x13) scal_26 rfl (RdH.own (k := 2) rfl) hx31 rfl) <| on 9 <| dy rfl (Yld.loadC0 (xs := x13) scal_26 rfl (RdH.own (k := 2) rfl) hx30 rfl) <| on 14 <| dy rfl (Yld.idxC (xs := x13) sty_63 rfl rfl (RdH.own (k := 2) rfl) hx32) <| on 15 <| WS.eff0 rfl (Eff0.storeC1 2 (xs := x13) (a' := x30) siz_26 rfl rfl rfl rfl rfl rfl hx33) (sc sn) <| on 16 <| dy rfl (Yld.idxC (xs := x33) sty_63 rfl rfl (RdH.own (k := 2) rfl) hx34) <| on 17 <| WS.eff0 rfl (Eff0.storeC1 2 (xs := x33) (a' := x31) siz_26 rfl rfl rfl rfl rfl rfl hx35) (sc sn) <| dd <| k27 _ _ <| bn <| tn <| k26 _ _ <| rg fun _ k40 => ?_
    obtain ⟨x41, hx41, h⟩ := bnd h
    exact mv rfl <| ya (Yld.subC rfl rfl hx41) <| asn rfl <| dn <| k40 _ _ <| tn <| kw (k16 ⟨x35, x41⟩ h)
   skip
   refine dy rfl (Yld.idxC (xs := x13) sty_63 rfl rfl (RdH.own (k := 2) rfl) hx31) <| WD.two 8 13 (by kernel_rfl) ?_ ?_
   ·refine dy rfl (Yld.idxC (xs := x13) sty_63 rfl rfl (RdH.own (k := 2) rfl) hx30) <| WD.two 9 13 (by kernel_rfl) ?_ ?_
    ·refine dy rfl (Yld.loadC0 (xs := x13) scal_26 rfl (RdH.own (k := 2) rfl) hx30 rfl) <| on 13 <| dy rfl (Yld.loadC0 (xs := x13) scal_26 rfl (RdH.own (k := 2) rfl) hx31 rfl) <| on 14 <| dy rfl (Yld.idxC (xs := x13) sty_63 rfl rfl (RdH.own (k := 2) rfl) hx32) <| on 15 <| WS.eff0 rfl (Eff0.storeC1 2 (xs := x13) (a' := x30) siz_26 rfl rfl rfl rfl rfl rfl hx33) (sc sn) <| on 16 <| dy rfl (Yld.idxC (xs := x33) sty_63 rfl rfl (RdH.own (k := 2) rfl) hx34) <| on 17 <| WS.eff0 rfl (Eff0.storeC1 2 (xs := x33) (a' := x31) siz_26 rfl rfl rfl rfl rfl rfl hx35) (sc sn) <| dd <| k27 _ _ <| bn <| tn <| k26 _ _ <| rg fun _ k42 => ?_
     obtain ⟨x43, hx43, h⟩ := bnd h
     exact mv rfl <| ya (Yld.subC rfl rfl hx43) <| asn rfl <| dn <| k42 _ _ <| tn <| kw (k16 ⟨x35, x43⟩ h)
    skip
    refine dy rfl (Yld.loadC0 (xs := x13) scal_26 rfl (RdH.own (k := 2) rfl) hx31 rfl) <| on 9 <| dy rfl (Yld.loadC0 (xs := x13) scal_26 rfl (RdH.own (k := 2) rfl) hx30 rfl) <| on 14 <| dy rfl (Yld.idxC (xs := x13) sty_63 rfl rfl (RdH.own (k := 2) rfl) hx32) <| on 15 <| WS.eff0 rfl (Eff0.storeC1 2 (xs := x13) (a' := x30) siz_26 rfl rfl rfl rfl rfl rfl hx33) (sc sn) <| on 16 <| dy rfl (Yld.idxC (xs := x33) sty_63 rfl rfl (RdH.own (k := 2) rfl) hx34) <| on 17 <| WS.eff0 rfl (Eff0.storeC1 2 (xs := x33) (a' := x31) siz_26 rfl rfl rfl rfl rfl rfl hx35) (sc sn) <| dd <| k27 _ _ <| bn <| tn <| k26 _ _ <| rg fun _ k44 => ?_
    obtain ⟨x45, hx45, h⟩ := bnd h
    exact mv rfl <| ya (Yld.subC rfl rfl hx45) <| asn rfl <| dn <| k44 _ _ <| tn <| kw (k16 ⟨x35, x45⟩ h)
   skip
   refine dy rfl (Yld.loadC0 (xs := x13) scal_26 rfl (RdH.own (k := 2) rfl) hx31 rfl) <| on 8 <| dy rfl (Yld.idxC (xs := x13) sty_63 rfl rfl (RdH.own (k := 2) rfl) hx30) <| on 9 <| dy rfl (Yld.loadC0 (xs := x13) scal_26 rfl (RdH.own (k := 2) rfl) hx30 rfl) <| on 14 <| dy rfl (Yld.idxC (xs := x13) sty_63 rfl rfl (RdH.own (k := 2) rfl) hx32) <| on 15 <| WS.eff0 rfl (Eff0.storeC1 2 (xs := x13) (a' := x30) siz_26 rfl rfl rfl rfl rfl rfl hx33) (sc sn) <| on 16 <| dy rfl (Yld.idxC (xs := x33) sty_63 rfl rfl (RdH.own (k := 2) rfl) hx34) <| on 17 <| WS.eff0 rfl (Eff0.storeC1 2 (xs := x33) (a' := x31) siz_26 rfl rfl rfl rfl rfl rfl hx35) (sc sn) <| dd <| k27 _ _ <| bn <| tn <| k26 _ _ <| rg fun _ k46 => ?_
   obtain ⟨x47, hx47, h⟩ := bnd h
   exact mv rfl <| ya (Yld.subC rfl rfl hx47) <| asn rfl <| dn <| k46 _ _ <| tn <| kw (k16 ⟨x35, x47⟩ h)
  rintro x10 h
  unfold m_slices_insertionSortOrdered_uint64_j1 at h
  refine rg fun _ k48 => ?_
  obtain ⟨x49, hx49, h⟩ := bnd h
  exact mv rfl <| ya (Yld.addC rfl rfl hx49) <| asn rfl <| dn <| k48 _ _ <| tn <| kw (k6 ⟨x10, x49⟩ h)
 refine xi <| te <| te <| bx ?_
 injection h with h; subst h
 exact Ret.mut (ResIs.zero rfl) (sc (sc sn)) ⟨rfl, rfl⟩
theorem w_slices_siftDownOrdered_uint64 (A : Option Addr) (n c : Nat) (x0c : List (BitVec 64)) (x01 x02 x03 : Int) {res : List (BitVec 64)} (h : m_slices_siftDownOrdered_uint64 x0c x01 x02 x03 = some res) :
  Mut Try.prog 72 #[.slice A n c, I64 x01, I64 x02, I64 x03] 26 (Lay.sz (BitVec 64)) A n c (cel x0c) fun r ds => r = .tuple #[] /\ ds = cel res := by
 refine Mut.intro (N := 76) Try.func72 rfl rfl (Nat.le_of_ble_eq_true rfl) fun w0 e0 => ?_
 unfold m_slices_siftDownOrdered_uint64 at h
 refine sr fun _ k1 => mv rfl <| asn rfl <| dn <| k1 _ _ <| bl <| lp (τ := (List (BitVec 64)) × Int × Int × Int) (fun ⟨x2, x3, x4, x5⟩ => [(0, .slice A n c), (2, I64 x3), (3, I64 x4), (8, I64 x5)]) (fun ⟨x2, x3, x4, x5⟩ => [(1, e0), (2, .own 26 (Lay.sz (BitVec 64)) A n c (cel x2))]) (fun q6 ⟨x2, x3, x4, x5⟩ => m_slices_siftDownOrdered_uint64_l0 q6 x2 x3 x4 x5 = some res) ⟨x0c, x02, x03, x01⟩ ?_ (by simp [m_slices_siftDownOrdered_uint64_l0]) ?_
 ·exact h
 rintro q6 ⟨x2, x3, x4, x5⟩ h _ k7
 unfold m_slices_siftDownOrdered_uint64_l0 at h
 refine bl <| sr fun _ k8 => ?_
 obtain ⟨x9, hx9, h⟩ := bnd h
 obtain ⟨x10, hx10, h⟩ := bnd h
 refine mv rfl <| ya (Yld.mulC rfl rfl hx9) <| ya (Yld.addC rfl rfl hx10) <| asn rfl <| dn <| k8 _ _ <| sq fun _ k11 => sr fun _ k12 => mv rfl <| mv rfl <| ya (Yld.geq rfl rfl) <| dn <| k12 _ _ <| cnd h rfl decide_eq_true decide_eq_false (fun hc13 h => ?_) fun hc13 h => ?_
 ·refine xi <| te <| bo <| te <| bx ?_
  injection h with h; subst h
  exact Ret.mut (ResIs.zero rfl) (sc (sc sn)) ⟨rfl, rfl⟩
 refine ss <| k11 _ _ <| ct (σ := Int) (fun x14 => [(0, .slice A n c), (2, I64 x3), (3, I64 x4), (8, I64 x5), (9, I64 x14)]) (fun x14 => [(1, e0), (2, .own 26 (Lay.sz (BitVec 64)) A n c (cel x2))]) (fun x14 => m_slices_siftDownOrdered_uint64_j1 x2 x3 x4 x5 (m_slices_siftDownOrdered_uint64_l0 q6) x14 = some res) (fun _ k15 => ?_) ?_
 ·refine sd [(1, _), (2, _)] mixed fun _ k16 => ?_
  obtain ⟨x17, hx17, h⟩ := bnd h
  by_cases hc18 : x17 < x3
  ·replace h := of_t hc18 h
   obtain ⟨x19, hx19, h⟩ := bnd h
   obtain ⟨x20, hx20, h⟩ := bnd h
   obtain ⟨x21, hx21, h⟩ := bnd h
   obtain ⟨x22, hx22, h⟩ := bnd h
   obtain ⟨x23, hx23, h⟩ := bnd h
   obtain ⟨x24, hx24, h⟩ := bnd h
   refine dm 0 rfl rfl <| du 1 rfl (Yld.addC rfl rfl hx17) <| dm 2 rfl rfl <| du 3 rfl (Yld.lss rfl rfl) <| dm 4 rfl rfl <| WD.new (v' := .bool true) (congrArg Value.bool (decide_eq_true hc18)) <| dv 5 rfl (Yld.move rfl) <| dv 6 rfl (Yld.move rfl) <| dv 7 rfl (Yld.move rfl) <| dv 8 rfl (Yld.addC rfl rfl hx19) <| dv 9 rfl (Yld.idxC (xs := x2) sty_63 rfl rfl (RdH.own (k := 2) rfl) hx20) <| dv 10 rfl (Yld.loadC0 (xs := x2) scal_26 rfl (RdH.own (k := 2) rfl) hx20 rfl) <| dv 11 rfl (Yld.move rfl) <| dv 12 rfl (Yld.move rfl) <| dv 13 rfl (Yld.move rfl) <| dv 14 rfl (Yld.addC rfl rfl hx21) <| dv 15 rfl (Yld.addC rfl rfl hx22) <| dv 16 rfl (Yld.idxC (xs := x2) sty_63 rfl rfl (RdH.own (k := 2) rfl) hx23) <| dv 17 rfl (Yld.loadC0 (xs := x2) scal_26 rfl (RdH.own (k := 2) rfl) hx23 rfl) <| on 18 <| WS.effG rfl (by decide) rfl (Eff.callS 125 rfl Try.func67 nm_67 rfl rfl (fun w hb hh => w_cmp_Less_uint64 (Mem.snap w) x20 x23 hx24)) ?_
   rintro _ _ ⟨_, ⟨rfl, rfl⟩, rfl⟩
   refine ad ?_ (by repeat (first | exact sn | refine sc ?_))
   refine du 19 rfl (Yld.pickT rfl rfl) <| dd <| k16 _ _ <| cnd h rfl id Bool.eq_false_iff.2 (fun hc26 h => ?_) fun hc26 h => ?_
   ·refine rg fun _ k27 => ?_
    obtain ⟨x28, hx28, h⟩ := bnd h
    exact mv rfl <| ya (Yld.addC rfl rfl hx28) <| asn rfl <| dn <| k27 _ _ <| tn <| kw (k15 x28 h)
   exact WC.skip <| tn <| kw (k15 x10 h)
  replace h := of_f hc18 h
  exact dm 0 rfl rfl <| du 1 rfl (Yld.addC rfl rfl hx17) <| dm 2 rfl rfl <| du 3 rfl (Yld.lss rfl rfl) <| dm 4 rfl rfl <| WD.new (v' := .bool false) (congrArg Value.bool (decide_eq_false hc18)) <| dw 5 rfl <| dw 6 rfl <| dw 7 rfl <| dw 8 rfl <| dw 9 rfl <| dw 10 rfl <| dw 11 rfl <| dw 12 rfl <| dw 13 rfl <| dw 14 rfl <| dw 15 rfl <| dw 16 rfl <| dw 17 rfl <| dw 18 rfl <| du 19 rfl (Yld.pickF rfl rfl) <| dd <| k16 _ _ <| cdF rfl <| WC.skip <| tn <| kw (k15 x10 h)
 rintro x14 h
 unfold m_slices_siftDownOrdered_uint64_j1 at h
 refine sq fun _ k29 => sd [(1, _), (2, _)] mixed fun _ k30 => ?_
 obtain ⟨x31, hx31, h⟩ := bnd h
 obtain ⟨x32, hx32, h⟩ := bnd h
 obtain ⟨x33, hx33, h⟩ := bnd h
 obtain ⟨x34, hx34, h⟩ := bnd h
 obtain ⟨x35, hx35, h⟩ := bnd h
 refine dm 0 rfl rfl <| dm 1 rfl rfl <| dm 2 rfl rfl <| du 3 rfl (Yld.addC rfl rfl hx31) <| du 4 rfl (Yld.idxC (xs := x2) sty_63 rfl rfl (RdH.own (k := 2) rfl) hx32) <| du 5 rfl (Yld.loadC0 (xs := x2) scal_26 rfl (RdH.own (k := 2) rfl) hx32 rfl) <| dm 6 rfl rfl <| dm 7 rfl rfl <| dm 8 rfl rfl <| du 9 rfl (Yld.addC rfl rfl hx33) <| du 10 rfl (Yld.idxC (xs := x2) sty_63 rfl rfl (RdH.own (k := 2) rfl) hx34) <| du 11 rfl (Yld.loadC0 (xs := x2) scal_26 rfl (RdH.own (k := 2) rfl) hx34 rfl) <| on 12 <| d0 rfl Try.func67 rfl (fun w hb hh => w_cmp_Less_uint64 (Mem.snap w) x32 x34 hx35) <| du 13 rfl (Yld.notB rfl) <| dd <| k30 _ _ <| cnn h rfl not_f (fun q => not_t (Bool.eq_false_iff.2 q)) (fun hc37 h => ?_) fun hc37 h => ?_
 ·refine ss <| k29 _ _ <| sd [(1, _)] mixed fun _ k38 => ?_
  obtain ⟨x39, hx39, h⟩ := bnd h
  obtain ⟨x40, hx40, h⟩ := bnd h
  obtain ⟨x41, hx41, h⟩ := bnd h
  obtain ⟨x42, hx42, h⟩ := bnd h
  obtain ⟨x43, hx43, h⟩ := bnd h
  obtain ⟨x44, hx44, h⟩ := bnd h
  obtain ⟨x45, hx45, h⟩ := bnd h
  obtain ⟨x46, hx46, h⟩ := bnd h
  obtain ⟨x47, hx47, h⟩ := bnd h
  obtain ⟨x48, hx48, h⟩ := bnd h
  refine dm 0 rfl rfl <| dm 1 rfl rfl <| dm 2 rfl rfl <| du 3 rfl (Yld.addC rfl rfl hx39) <| dm 4 rfl rfl <| dm 5 rfl rfl <| dm 6 rfl rfl <| du 7 rfl (Yld.addC rfl rfl hx40) <| dm 8 rfl rfl <| dm 9 rfl rfl <| dm 10 rfl rfl <| du 11 rfl (Yld.addC rfl rfl hx41) <| dm 14 rfl rfl <| dm 15 rfl rfl <| dm 16 rfl rfl <| du 17 rfl (Yld.addC rfl rfl hx43) <| WD.two 12 18 (by kernel_rfl) ?_ ?_
  ·refine dy rfl (Yld.idxC (xs := x2) sty_63 rfl rfl (RdH.own (k := 2) rfl) hx42) <| WD.two 13 18 (by kernel_rfl) ?_ ?_
   ·exact dy rfl (Yld.loadC0 (xs := x2) scal_26 rfl (RdH.own (k := 2) rfl) hx42 rfl) <| on 18 <| dy rfl (Yld.idxC (xs := x2) sty_63 rfl rfl (RdH.own (k := 2) rfl) hx44) <| on 19 <| dy rfl (Yld.loadC0 (xs := x2) scal_26 rfl (RdH.own (k := 2) rfl) hx44 rfl) <| on 20 <| dy rfl (Yld.idxC (xs := x2) sty_63 rfl rfl (RdH.own (k := 2) rfl) hx45) <| on 21 <| WS.eff0 rfl (Eff0.storeC1 2 (xs := x2) (a' := x42) siz_26 rfl rfl rfl rfl rfl rfl hx46) (sc sn) <| on 22 <| dy rfl (Yld.idxC (xs := x46) sty_63 rfl rfl (RdH.own (k := 2) rfl) hx47) <| on 23 <| WS.eff0 rfl (Eff0.storeC1 2 (xs := x46) (a' := x44) siz_26 rfl rfl rfl rfl rfl rfl hx48) (sc sn) <| dd <| k38 _ _ <| rg fun _ k49 => mv rfl <| asn rfl <| dn <| k49 _ _ <| bn <| tn <| kw (k7 ⟨x48, x3, x4, x14⟩ h)
   skip
   refine dy rfl (Yld.idxC (xs := x2) sty_63 rfl rfl (RdH.own (k := 2) rfl) hx44) <| WD.two 13 19 (by kernel_rfl) ?_ ?_
   ·exact dy rfl (Yld.loadC0 (xs := x2) scal_26 rfl (RdH.own (k := 2) rfl) hx42 rfl) <| on 19 <| dy rfl (Yld.loadC0 (xs := x2) scal_26 rfl (RdH.own (k := 2) rfl) hx44 rfl) <| on 20 <| dy rfl (Yld.idxC (xs := x2) sty_63 rfl rfl (RdH.own (k := 2) rfl) hx45) <| on 21 <| WS.eff0 rfl (Eff0.storeC1 2 (xs := x2) (a' := x42) siz_26 rfl rfl rfl rfl rfl rfl hx46) (sc sn) <| on 22 <| dy rfl (Yld.idxC (xs := x46) sty_63 rfl rfl (RdH.own (k := 2) rfl) hx47) <| on 23 <| WS.eff0 rfl (Eff0.storeC1 2 (xs := x46) (a' := x44) siz_26 rfl rfl rfl rfl rfl rfl hx48) (sc sn) <| dd <| k38 _ _ <| rg fun _ k50 => mv rfl <| asn rfl <| dn <| k50 _ _ <| bn <| tn <| kw (k7 ⟨x48, x3, x4, x14⟩ h)
   skip
   exact dy rfl (Yld.loadC0 (xs := x2) scal_26 rfl (RdH.own (k := 2) rfl) hx44 rfl) <| on 13 <| dy rfl (Yld.loadC0 (xs := x2) scal_26 rfl (RdH.own (k := 2) rfl) hx42 rfl) <| on 20 <| dy rfl (Yld.idxC (xs := x2) sty_63 rfl rfl (RdH.own (k := 2) rfl) hx45) <| on 21 <| WS.eff0 rfl (Eff0.storeC1 2 (xs := x2) (a' := x42) siz_26 rfl rfl rfl rfl rfl rfl hx46) (sc sn) <| on 22 <| dy rfl (Yld.idxC (xs := x46) sty_63 rfl rfl (RdH.own (k := 2) rfl) hx47) <| on 23 <| WS.eff0 rfl (Eff0.storeC1 2 (xs := x46) (a' := x44) siz_26 rfl rfl rfl rfl rfl rfl hx48) (sc sn) <| dd <| k38 _ _ <| rg fun _ k51 => mv rfl <| asn rfl <| dn <| k51 _ _ <| bn <| tn <| kw (k7 ⟨x48, x3, x4, x14⟩ h)
  skip
  refine dy rfl (Yld.idxC (xs := x2) sty_63 rfl rfl (RdH.own (k := 2) rfl) hx44) <| WD.two 12 19 (by kernel_rfl) ?_ ?_
  ·refine dy rfl (Yld.idxC (xs := x2) sty_63 rfl rfl (RdH.own (k := 2) rfl) hx42) <| WD.two 13 19 (by kernel_rfl) ?_ ?_
   ·exact dy rfl (Yld.loadC0 (xs := x2) scal_26 rfl (RdH.own (k := 2) rfl) hx42 rfl) <| on 19 <| dy rfl (Yld.loadC0 (xs := x2) scal_26 rfl (RdH.own (k := 2) rfl) hx44 rfl) <| on 20 <| dy rfl (Yld.idxC (xs := x2) sty_63 rfl rfl (RdH.own (k := 2) rfl) hx45) <| on 21 <| WS.eff0 rfl (Eff0.storeC1 2 (xs := x2) (a' := x42) siz_26 rfl rfl rfl rfl rfl rfl hx46) (sc sn) <| on 22 <| dy rfl (Yld.idxC (xs := x46) sty_63 rfl rfl (RdH.own (k := 2) rfl) hx47) <| on 23 <| WS.eff0 rfl (Eff0.storeC1 2 (xs := x46) (a' := x44) siz_26 rfl rfl rfl rfl rfl rfl hx48) (sc sn) <| dd <| k38 _ _ <| rg fun _ k52 => mv rfl <| asn rfl <| dn <| k52 _ _ <| bn <| tn <| kw (k7 ⟨x48, x3, x4, x14⟩ h)
   skip
   exact dy rfl (Yld.loadC0 (xs := x2) scal_26 rfl (RdH.own (k := 2) rfl) hx44 rfl) <| on 13 <| dy rfl (Yld.loadC0 (xs := x2) scal_26 rfl (RdH.own (k := 2) rfl) hx42 rfl) <| on 20 <| dy rfl (Yld.idxC (xs := x2) sty_63 rfl rfl (RdH.own (k := 2) rfl) hx45) <| on 21 <| WS.eff0 rfl (Eff0.storeC1 2 (xs := x2) (a' := x42) siz_26 rfl rfl rfl rfl rfl rfl hx46) (sc sn) <| on 22 <| dy rfl (Yld.idxC (xs := x46) sty_63 rfl rfl (RdH.own (k := 2) rfl) hx47) <| on 23 <| WS.eff0 rfl (Eff0.storeC1 2 (xs := x46) (a' := x44) siz_26 rfl rfl rfl rfl rfl rfl hx48) (sc sn) <| dd <| k38 _ _ <| rg fun _ k53 => mv rfl <| asn rfl <| dn <| k53 _ _ <| bn <| tn <| kw (k7 ⟨x48, x3, x4, x14⟩ h)
  skip
  exact dy rfl (Yld.loadC0 (xs := x2) scal_26 rfl (RdH.own (k := 2) rfl) hx44 rfl) <| on 12 <| dy rfl (Yld.idxC (xs := x2) sty_63 rfl rfl (RdH.own (k := 2) rfl) hx42) <| on 13 <| dy rfl (Yld.loadC0 (xs := x2) scal_26 rfl (RdH.own (k := 2) rfl) hx42 rfl) <| on 20 <| dy rfl (Yld.idxC (xs := x2) sty_63 rfl rfl (RdH.own (k := 2) rfl) hx45) <| on 21 <| WS.eff0 rfl (Eff0.storeC1 2 (xs := x2) (a' := x42) siz_26 rfl rfl rfl rfl rfl rfl hx46) (sc sn) <| on 22 <| dy rfl (Yld.idxC (xs := x46) sty_63 rfl rfl (RdH.own (k := 2) rfl) hx47) <| on 23 <| WS.eff0 rfl (Eff0.storeC1 2 (xs := x46) (a' := x44) siz_26 rfl rfl rfl rfl rfl rfl hx48) (sc sn) <| dd <| k38 _ _ <| rg fun _ k54 => mv rfl <| asn rfl <| dn <| k54 _ _ <| bn <| tn <| kw (k7 ⟨x48, x3, x4, x14⟩ h)
 refine re <| tr <| br <| tr <| br ?_
 injection h with h; subst h
 exact Ret.mut (ResIs.zero rfl) (sc (sc sn)) ⟨rfl, rfl⟩
theorem w_slices_heapSortOrdered_uint64 (A : Option Addr) (n c : Nat) (x0c : List (BitVec 64)) (x01 x02 : Int) {res : List (BitVec 64)} (h : m_slices_heapSortOrdered_uint64 x0c x01 x02 = some res) :
  Mut Try.prog 62 #[.slice A n c, I64 x01, I64 x02] 26 (Lay.sz (BitVec 64)) A n c (cel x0c) fun r ds => r = .tuple #[] /\ ds = cel res := by
 refine Mut.intro (N := 56) Try.func62 rfl rfl (Nat.le_of_ble_eq_true rfl) fun w0 e0 => ?_
 unfold m_slices_heapSortOrdered_uint64 at h
 refine sr fun _ k1 => mv rfl <| asn rfl <| dn <| k1 _ _ <| sr fun _ k2 => asn rfl <| dn <| k2 _ _ <| sr fun _ k3 => ?_
 obtain ⟨x4, hx4, h⟩ := bnd h
 refine mv rfl <| mv rfl <| ya (Yld.subC rfl rfl hx4) <| asn rfl <| dn <| k3 _ _ <| ct (σ := (List (BitVec 64))) (fun x5 => [(0, .slice A n c), (6, I64 x01), (7, I64 (0 : Int)), (8, I64 x4)]) (fun x5 => [(1, e0), (2, .own 26 (Lay.sz (BitVec 64)) A n c (cel x5))]) (fun x5 => m_slices_heapSortOrdered_uint64_j0 x01 x4 x5 = some res) (fun _ k6 => ?_) ?_
 ·refine sr fun _ k7 => ?_
  obtain ⟨x8, hx8, h⟩ := bnd h
  obtain ⟨x9, hx9, h⟩ := bnd h
  refine mv rfl <| ya (Yld.subC rfl rfl hx8) <| ya (Yld.quoC rfl rfl hx9) <| asn rfl <| dn <| k7 _ _ <| bl <| lp (τ := (List (BitVec 64)) × Int) (fun ⟨x10, x11⟩ => [(0, .slice A n c), (6, I64 x01), (7, I64 (0 : Int)), (8, I64 x4), (9, I64 x11)]) (fun ⟨x10, x11⟩ => [(1, e0), (2, .own 26 (Lay.sz (BitVec 64)) A n c (cel x10))]) (fun q12 ⟨x10, x11⟩ => m_slices_heapSortOrdered_uint64_l1 x01 x4 q12 x10 x11 = some res) ⟨x0c, x9⟩ ?_ (by simp [m_slices_heapSortOrdered_uint64_l1]) ?_
  ·exact h
  rintro q12 ⟨x10, x11⟩ h _ k13
  unfold m_slices_heapSortOrdered_uint64_l1 at h
  refine sq fun _ k14 => sr fun _ k15 => mv rfl <| ya (Yld.geq rfl rfl) <| dn <| k15 _ _ <| cnd h rfl decide_eq_true decide_eq_false (fun hc16 h => ?_) fun hc16 h => ?_
  ·refine ss <| k14 _ _ <| sq fun _ k17 => bl <| rg fun _ k18 => ?_
   obtain ⟨x19, hx19, h⟩ := bnd h
   refine mv rfl <| mv rfl <| mv rfl <| mv rfl <| WL.eff (by decide) (Eff.callMut 2 rfl Try.func72 nm_72 rfl rfl rfl (w_slices_siftDownOrdered_uint64 A n c x10 x11 x4 x01 hx19)) ?_
   rintro _ _ ⟨_, ⟨rfl, rfl⟩, rfl⟩
   refine dn <| k18 _ _ <| bn <| tn <| k17 _ _ <| rg fun _ k20 => ?_
   obtain ⟨x21, hx21, h⟩ := bnd h
   exact mv rfl <| ya (Yld.subC rfl rfl hx21) <| asn rfl <| dn <| k20 _ _ <| tn <| kw (k13 ⟨x19, x21⟩ h)
  exact xi <| te <| te <| bx <| tn <| kw (k6 x10 h)
 rintro x5 h
 unfold m_slices_heapSortOrdered_uint64_j0 at h
 refine sr fun _ k22 => ?_
 obtain ⟨x23, hx23, h⟩ := bnd h
 refine mv rfl <| ya (Yld.subC rfl rfl hx23) <| asn rfl <| dn <| k22 _ _ <| bl <| lp (τ := (List (BitVec 64)) × Int) (fun ⟨x24, x25⟩ => [(0, .slice A n c), (6, I64 x01), (7, I64 (0 : Int)), (10, I64 x25)]) (fun ⟨x24, x25⟩ => [(1, e0), (2, .own 26 (Lay.sz (BitVec 64)) A n c (cel x24))]) (fun q26 ⟨x24, x25⟩ => m_slices_heapSortOrdered_uint64_l2 x01 q26 x24 x25 = some res) ⟨x5, x23⟩ ?_ (by simp [m_slices_heapSortOrdered_uint64_l2]) ?_
 ·exact h
 rintro q26 ⟨x24, x25⟩ h _ k27
 unfold m_slices_heapSortOrdered_uint64_l2 at h
 refine sq fun _ k28 => sr fun _ k29 => mv rfl <| ya (Yld.geq rfl rfl) <| dn <| k29 _ _ <| cnd h rfl decide_eq_true decide_eq_false (fun hc30 h => ?_) fun hc30 h => ?_
 ·refine ss <| k28 _ _ <| sq fun _ k31 => bl <| sd [(1, _)] mixed fun _ k32 => ?_
  obtain ⟨x33, hx33, h⟩ := bnd h
  obtain ⟨x34, hx34, h⟩ := bnd h
  obtain ⟨x35, hx35, h⟩ := bnd h
  obtain ⟨x36, hx36, h⟩ := bnd h
  obtain ⟨x37, hx37, h⟩ := bnd h
  obtain ⟨x38, hx38, h⟩ := bnd h
  obtain ⟨x39, hx39, h⟩ := bnd h
  obtain ⟨x40, hx40, h⟩ := bnd h
  refine dm 0 rfl rfl <| dm 1 rfl rfl <| dm 2 rfl rfl <| dm 3 rfl rfl <| dm 4 rfl rfl <| du 5 rfl (Yld.addC rfl rfl hx33) <| dm 6 rfl rfl <| dm 7 rfl rfl <| dm 8 rfl rfl <| du 9 rfl (Yld.addC rfl rfl hx34) <| dm 12 rfl rfl <| dm 13 rfl rfl <| WD.two 10 14 (by kernel_rfl) ?_ ?_
  ·refine dy rfl (Yld.idxC (xs := x24) sty_63 rfl rfl (RdH.own (k := 2) rfl) hx35) <| WD.two 11 14 (by kernel_rfl) ?_ ?_
   ·refine dy rfl (Yld.loadC0 (xs := x24) scal_26 rfl (RdH.own (k := 2) rfl) hx35 rfl) <| on 14 <| dy rfl (Yld.idxC (xs := x24) sty_63 rfl rfl (RdH.own (k := 2) rfl) hx36) <| on 15 <| dy rfl (Yld.loadC0 (xs := x24) scal_26 rfl (RdH.own (k := 2) rfl) hx36 rfl) <| on 16 <| dy rfl (Yld.idxC (xs := x24) sty_63 rfl rfl (RdH.own (k := 2) rfl) hx37) <| on 17 <| WS.eff0 rfl (Eff0.storeC1 2 (xs := x24) (a' := x35) siz_26 rfl rfl rfl rfl rfl rfl hx38) (sc sn) <| on 18 <| dy rfl (Yld.idxC (xs := x38) sty_63 rfl rfl (RdH.own (k := 2) rfl) hx39) <| on 19 <| WS.eff0 rfl (Eff0.storeC1 2 (xs := x38) (a' := x36) siz_26 rfl rfl rfl rfl rfl rfl hx40) (sc sn) <| dd <| k32 _ _ <| rg fun _ k41 => ?_
    obtain ⟨x42, hx42, h⟩ := bnd h
    refine mv rfl <| mv rfl <| mv rfl <| mv rfl <| WL.eff (by decide) (Eff.callMut 2 rfl Try.func72 nm_72 rfl rfl rfl (w_slices_siftDownOrdered_uint64 A n c x40 (0 : Int) x25 x01 hx42)) ?_
    rintro _ _ ⟨_, ⟨rfl, rfl⟩, rfl⟩
    refine dn <| k41 _ _ <| bn <| tn <| k31 _ _ <| rg fun _ k43 => ?_
    obtain ⟨x44, hx44, h⟩ := bnd h
    exact mv rfl <| ya (Yld.subC rfl rfl hx44) <| asn rfl <| dn <| k43 _ _ <| tn <| kw (k27 ⟨x42, x44⟩ h)
   skip
   refine dy rfl (Yld.idxC (xs := x24) sty_63 rfl rfl (RdH.own (k := 2) rfl) hx36) <| WD.two 11 15 (by kernel_rfl) ?_ ?_
   ·refine dy rfl (Yld.loadC0 (xs := x24) scal_26 rfl (RdH.own (k := 2) rfl) hx35 rfl) <| on 15 <| dy rfl (Yld.loadC0 (xs := x24) scal_26 rfl (RdH.own (k := 2) rfl) hx36 rfl) <| on 16 <| dy rfl (Yld.idxC (xs := x24) sty_63 rfl rfl (RdH.own (k := 2) rfl) hx37) <| on 17 <| WS.eff0 rfl (Eff0.storeC1 2 (xs := x24) (a' := x35) siz_26 rfl rfl rfl rfl rfl rfl hx38) (sc sn) <| on 18 <| dy rfl (Yld.idxC (xs := x38) sty_63 rfl rfl (RdH.own (k := 2) rfl) hx39) <| on 19 <| WS.eff0 rfl (Eff0.storeC1 2 (xs := x38) (a' := x36) siz_26 rfl rfl rfl rfl rfl rfl hx40) (sc sn) <| dd <| k32 _ _ <| rg fun _ k45 => ?_
    obtain ⟨x46, hx46, h⟩ := bnd h
    refine mv rfl <| mv rfl <| mv rfl <| mv rfl <| WL.eff (by decide) (Eff.callMut 2 rfl Try.func72 nm_72 rfl rfl rfl (w_slices_siftDownOrdered_uint64 A n c x40 (0 : Int) x25 x01 hx46)) ?_
    rintro _ _ ⟨_, ⟨rfl, rfl⟩, rfl⟩
    refine dn <| k45 _ _ <| bn <| tn <| k31 _ _ <| rg fun _ k47 => ?_
    obtain ⟨x48, hx48, h⟩ := bnd h
    exact mv rfl <| ya (Yld.subC rfl rfl hx48) <| asn rfl <| dn <| k47 _ _ <| tn <| kw (k27 ⟨x46, x48⟩ h)
   skip
   refine dy rfl (Yld.loadC0 (xs := x24) scal_26 rfl (RdH.own (k := 2) rfl) hx36 rfl) <| on 11 <| dy rfl (Yld.loadC0 (xs := x24) scal_26 rfl (RdH.own (k := 2) rfl) hx35 rfl) <| on 16 <| dy rfl (Yld.idxC (xs := x24) sty_63 rfl rfl (RdH.own (k := 2) rfl) hx37) <| on 17 <| WS.eff0 rfl (Eff0.storeC1 2 (xs := x24) (a' := x35) siz_26 rfl rfl rfl rfl rfl rfl hx38) (sc sn) <| on 18 <| dy rfl (Yld.idxC (xs := x38) sty_63 rfl rfl (RdH.own (k := 2) rfl) hx39) <| on 19 <| WS.eff0 rfl (Eff0.storeC1 2 (xs := x38) (a' := x36) siz_26 rfl rfl rfl rfl rfl rfl hx40) (sc sn) <| dd <| k32 _ _ <| rg fun _ k49 => ?_
   obtain ⟨x50, hx50, h⟩ := bnd h
   refine mv rfl <| mv rfl <| mv rfl <| mv rfl <| WL.eff (by decide) (Eff.callMut 2 rfl Try.func72 nm_72 rfl rfl rfl (w_slices_siftDownOrdered_uint64 A n c x40 (0 : Int) x25 x01 hx50)) ?_
   rintro _ _ ⟨_, ⟨rfl, rfl⟩, rfl⟩
   refine dn <| k49 _ _ <| bn <| tn <| k31 _ _ <| rg fun _ k51 => ?_
   obtain ⟨x52, hx52, h⟩ := bnd h
   exact mv rfl <| ya (Yld.subC rfl rfl hx52) <| asn rfl <| dn <| k51 _ _ <| tn <| kw (k27 ⟨x50, x52⟩ h)
  skip
  refine dy rfl (Yld.idxC (xs := x24) sty_63 rfl rfl (RdH.own (k := 2) rfl) hx36) <| WD.two 10 15 (by kernel_rfl) ?_ ?_
  ·refine dy rfl (Yld.idxC (xs := x24) sty_63 rfl rfl (RdH.own (k := 2) rfl) hx35) <| WD.two 11 15 (by kernel_rfl) ?_ ?_
   ·refine dy rfl (Yld.loadC0 (xs := x24) scal_26 rfl (RdH.own (k := 2) rfl) hx35 rfl) <| on 15 <| dy rfl (Yld.loadC0 (xs := x24) scal_26 rfl (RdH.own (k := 2) rfl) hx36 rfl) <| on 16 <| dy rfl (Yld.idxC (xs := x24) sty_63 rfl rfl (RdH.own (k := 2) rfl) hx37) <| on 17 <| WS.eff0 rfl (Eff0.storeC1 2 (xs := x24) (a' := x35) siz_26 rfl rfl rfl rfl rfl rfl hx38) (sc sn) <| on 18 <| dy rfl (Yld.idxC (xs := x38) sty_63 rfl rfl (RdH.own (k := 2) rfl) hx39) <| on 19 <| WS.eff0 rfl (Eff0.storeC1 2 (xs := x38) (a' := x36) siz_26 rfl rfl rfl rfl rfl rfl hx40) (sc sn) <| dd <| k32 _ _ <| rg fun _ k53 => ?_
    obtain ⟨x54, hx54, h⟩ := bnd h
    refine mv rfl <| mv rfl <| mv rfl <| mv rfl <| WL.eff (by decide) (Eff.callMut 2 rfl Try.func72 nm_72 rfl rfl rfl (w_slices_siftDownOrdered_uint64 A n c x40 (0 : Int) x25 x01 hx54)) ?_
    rintro _ _ ⟨_, ⟨rfl, rfl⟩, rfl⟩
    refine dn <| k53 _ _ <| bn <| tn <| k31 _ _ <| rg fun _ k55 => ?_
    obtain ⟨x56, hx56, h⟩ := bnd h
    exact mv rfl <| ya (Yld.subC rfl rfl hx56) <| asn rfl <| dn <| k55 _ _ <| tn <| kw (k27 ⟨x54, x56⟩ h)
   skip
   refine dy rfl (Yld.loadC0 (xs := x24) scal_26 rfl (RdH.own (k := 2) rfl) hx36 rfl) <| on 11 <| dy rfl (Yld.loadC0 (xs := x24) scal_26 rfl (RdH.own (k := 2) rfl) hx35 rfl) <| on 16 <| dy rfl (Yld.idxC (xs := x24) sty_63 rfl rfl (RdH.own (k := 2) rfl) hx37) <| on 17 <| WS.eff0 rfl (Eff0.storeC1 2 (xs := x24) (a' := x35) siz_26 rfl rfl rfl rfl rfl rfl hx38) (sc sn) <| on 18 <| dy rfl (Yld.idxC (xs := x38) sty_63 rfl rfl (RdH.own (k := 2) rfl) hx39) <| on 19 <| WS.eff0 rfl (Eff0.storeC1 2 (xs := x38) (a' := x36) siz_26 rfl rfl rfl rfl rfl rfl hx40) (sc sn) <| dd <| k32 _ _ <| rg fun _ k57 => ?_
   obtain ⟨x58, hx58, h⟩ := bnd h
   refine mv rfl <| mv rfl <| mv rfl <| mv rfl <| WL.eff (by decide) (Eff.callMut 2 rfl Try.func72 nm_72 rfl rfl rfl (w_slices_siftDownOrdered_uint64 A n c x40 (0 : Int) x25 x01 hx58)) ?_
   rintro _ _ ⟨_, ⟨rfl, rfl⟩, rfl⟩
   refine dn <| k57 _ _ <| bn <| tn <| k31 _ _ <| rg fun _ k59 => ?_
   obtain ⟨x60, hx60, h⟩ := bnd h
   exact mv rfl <| ya (Yld.subC rfl rfl hx60) <| asn rfl <| dn <| k59 _ _ <| tn <| kw (k27 ⟨x58, x60⟩ h)
  skip
  refine dy rfl (Yld.loadC0 (xs := x24) scal_26 rfl (RdH.own (k := 2) rfl) hx36 rfl) <| on 10 <| dy rfl (Yld.idxC (xs := x24) sty_63 rfl rfl (RdH.own (k := 2) rfl) hx35) <| on 11 <| dy rfl (Yld.loadC0 (xs := x24) scal_26 rfl (RdH.own (k := 2) rfl) hx35 rfl) <| on 16 <| dy rfl (Yld.idxC (xs := x24) sty_63 rfl rfl (RdH.own (k := 2) rfl) hx37) <| on 17 <| WS.eff0 rfl (Eff0.storeC1 2 (xs := x24) (a' := x35) siz_26 rfl rfl rfl rfl rfl rfl hx38) (sc sn) <| on 18 <| dy rfl (Yld.idxC (xs := x38) sty_63 rfl rfl (RdH.own (k := 2) rfl) hx39) <| on 19 <| WS.eff0 rfl (Eff0.storeC1 2 (xs := x38) (a' := x36) siz_26 rfl rfl rfl rfl rfl rfl hx40) (sc sn) <| dd <| k32 _ _ <| rg fun _ k61 => ?_
  obtain ⟨x62, hx62, h⟩ := bnd h
  refine mv rfl <| mv rfl <| mv rfl <| mv rfl <| WL.eff (by decide) (Eff.callMut 2 rfl Try.func72 nm_72 rfl rfl rfl (w_slices_siftDownOrdered_uint64 A n c x40 (0 : Int) x25 x01 hx62)) ?_
  rintro _ _ ⟨_, ⟨rfl, rfl⟩, rfl⟩
  refine dn <| k61 _ _ <| bn <| tn <| k31 _ _ <| rg fun _ k63 => ?_
  obtain ⟨x64, hx64, h⟩ := bnd h
  exact mv rfl <| ya (Yld.subC rfl rfl hx64) <| asn rfl <| dn <| k63 _ _ <| tn <| kw (k27 ⟨x62, x64⟩ h)
 refine xi <| te <| te <| bx ?_
 injection h with h; subst h
 exact Ret.mut (ResIs.zero rfl) (sc (sc sn)) ⟨rfl, rfl⟩
theorem w_slices_partialInsertionSortOrdered_uint64 (A : Option Addr) (n c : Nat) (x0c : List (BitVec 64)) (x01 x02 : Int) {res : (List (BitVec 64)) × Bool} (h : m_slices_partialInsertionSortOrdered_uint64 x0c x01 x02 = some res) :
  Mut Try.prog 66 #[.slice A n c, I64 x01, I64 x02] 26 (Lay.sz (BitVec 64)) A n c (cel x0c) fun r ds => r = .bool res.2 /\ ds = cel res.1 := by
 refine Mut.intro (N := 133) Try.func66 rfl rfl (Nat.le_of_ble_eq_true rfl) fun w0 e0 => ?_
 unfold m_slices_partialInsertionSortOrdered_uint64 at h
 refine sr fun _ k1 => asn rfl <| dn <| k1 _ _ <| sr fun _ k2 => ?_
 obtain ⟨x3, hx3, h⟩ := bnd h
 refine mv rfl <| ya (Yld.addC rfl rfl hx3) <| asn rfl <| dn <| k2 _ _ <| ct (σ := (List (BitVec 64))) (fun x4 => []) (fun x4 => [(1, e0), (2, .own 26 (Lay.sz (BitVec 64)) A n c (cel x4))]) (fun x4 => m_slices_partialInsertionSortOrdered_uint64_j0 x4 = some res) (fun _ k5 => ?_) ?_
 ·refine sr fun _ k6 => asn rfl <| dn <| k6 _ _ <| bl <| lp (τ := (List (BitVec 64)) × Int × Int) (fun ⟨x7, x8, x9⟩ => [(0, .slice A n c), (1, I64 x01), (2, I64 x02), (7, I64 x8), (8, I64 x9)]) (fun ⟨x7, x8, x9⟩ => [(1, e0), (2, .own 26 (Lay.sz (BitVec 64)) A n c (cel x7))]) (fun q10 ⟨x7, x8, x9⟩ => m_slices_partialInsertionSortOrdered_uint64_l1 x01 x02 q10 x7 x8 x9 = some res) ⟨x0c, x3, (0 : Int)⟩ ?_ (by simp [m_slices_partialInsertionSortOrdered_uint64_l1]) ?_
  ·exact h
  rintro q10 ⟨x7, x8, x9⟩ h _ k11
  unfold m_slices_partialInsertionSortOrdered_uint64_l1 at h
  refine sq fun _ k12 => sr fun _ k13 => mv rfl <| ya (Yld.lss rfl rfl) <| dn <| k13 _ _ <| cnd h rfl decide_eq_true decide_eq_false (fun hc14 h => ?_) fun hc14 h => ?_
  ·refine ss <| k12 _ _ <| ct (σ := (List (BitVec 64)) × Int) (fun ⟨x15, x16⟩ => [(0, .slice A n c), (1, I64 x01), (2, I64 x02), (7, I64 x16), (8, I64 x9)]) (fun ⟨x15, x16⟩ => [(1, e0), (2, .own 26 (Lay.sz (BitVec 64)) A n c (cel x15))]) (fun ⟨x15, x16⟩ => m_slices_partialInsertionSortOrdered_uint64_j2 x9 (m_slices_partialInsertionSortOrdered_uint64_l1 x01 x02 q10) x15 x16 = some res) (fun _ k17 => ?_) ?_
   ·refine bl <| ct (σ := Int) (fun x18 => [(0, .slice A n c), (1, I64 x01), (2, I64 x02), (7, I64 x18), (8, I64 x9)]) (fun x18 => [(1, e0), (2, .own 26 (Lay.sz (BitVec 64)) A n c (cel x7))]) (fun x18 => m_slices_partialInsertionSortOrdered_uint64_j3 x01 x02 x7 x9 (m_slices_partialInsertionSortOrdered_uint64_l1 x01 x02 q10) x18 = some res) (fun _ k19 => ?_) ?_
    ·refine bl <| lp (τ := Int) (fun x20 => [(0, .slice A n c), (1, I64 x01), (2, I64 x02), (7, I64 x20), (8, I64 x9)]) (fun x20 => [(1, e0), (2, .own 26 (Lay.sz (BitVec 64)) A n c (cel x7))]) (fun q21 x20 => m_slices_partialInsertionSortOrdered_uint64_l4 x01 x02 x7 x9 (m_slices_partialInsertionSortOrdered_uint64_l1 x01 x02 q10) q21 x20 = some res) (x8) ?_ (by simp [m_slices_partialInsertionSortOrdered_uint64_l4]) ?_
     ·exact h
     rintro q21 x20 h _ k22
     unfold m_slices_partialInsertionSortOrdered_uint64_l4 at h
     refine sq fun _ k23 => sd [(1, _), (2, _)] mixed fun _ k24 => ?_
     by_cases hc25 : x20 < x02
     ·replace h := of_t hc25 h
      obtain ⟨x26, hx26, h⟩ := bnd h
      obtain ⟨x27, hx27, h⟩ := bnd h
      obtain ⟨x28, hx28, h⟩ := bnd h
      obtain ⟨x29, hx29, h⟩ := bnd h
      refine dm 0 rfl rfl <| dm 1 rfl rfl <| du 2 rfl (Yld.lss rfl rfl) <| dm 3 rfl rfl <| WD.new (v' := .bool true) (congrArg Value.bool (decide_eq_true hc25)) <| dv 4 rfl (Yld.move rfl) <| dv 5 rfl (Yld.move rfl) <| dv 6 rfl (Yld.idxC (xs := x7) sty_63 rfl rfl (RdH.own (k := 2) rfl) hx26) <| dv 7 rfl (Yld.loadC0 (xs := x7) scal_26 rfl (RdH.own (k := 2) rfl) hx26 rfl) <| dv 8 rfl (Yld.move rfl) <| dv 9 rfl (Yld.move rfl) <| dv 10 rfl (Yld.subC rfl rfl hx27) <| dv 11 rfl (Yld.idxC (xs := x7) sty_63 rfl rfl (RdH.own (k := 2) rfl) hx28) <| dv 12 rfl (Yld.loadC0 (xs := x7) scal_26 rfl (RdH.own (k := 2) rfl) hx28 rfl) <| on 13 <| WS.effG rfl (by decide) rfl (Eff.callS 130 rfl Try.func67 nm_67 rfl rfl (fun w hb hh => w_cmp_Less_uint64 (Mem.snap w) x26 x28 hx29)) ?_
      rintro _ _ ⟨_, ⟨rfl, rfl⟩, rfl⟩
      refine ad ?_ (by repeat (first | exact sn | refine sc ?_))
      refine dv 14 rfl (Yld.notB rfl) <| du 15 rfl (Yld.pickT rfl rfl) <| dd <| k24 _ _ <| cnn h rfl not_f (fun q => not_t (Bool.eq_false_iff.2 q)) (fun hc31 h => ?_) fun hc31 h => ?_
      ·exact xi <| te <| te <| bx <| tn <| kw (k19 x20 h)
      refine ss <| k23 _ _ <| bl <| rg fun _ k32 => ?_
      obtain ⟨x33, hx33, h⟩ := bnd h
      exact mv rfl <| ya (Yld.addC rfl rfl hx33) <| asn rfl <| dn <| k32 _ _ <| bn <| tn <| kw (k22 (x33) h)
     replace h := of_f hc25 h
     exact dm 0 rfl rfl <| dm 1 rfl rfl <| du 2 rfl (Yld.lss rfl rfl) <| dm 3 rfl rfl <| WD.new (v' := .bool false) (congrArg Value.bool (decide_eq_false hc25)) <| dw 4 rfl <| dw 5 rfl <| dw 6 rfl <| dw 7 rfl <| dw 8 rfl <| dw 9 rfl <| dw 10 rfl <| dw 11 rfl <| dw 12 rfl <| dw 13 rfl <| dw 14 rfl <| du 15 rfl (Yld.pickF rfl rfl) <| dd <| k24 _ _ <| cdF rfl <| xi <| te <| te <| bx <| tn <| kw (k19 x20 h)
    rintro x18 h
    unfold m_slices_partialInsertionSortOrdered_uint64_j3 at h
    refine sq fun _ k34 => sr fun _ k35 => mv rfl <| mv rfl <| ya (Yld.eqlI rfl rfl) <| dn <| k35 _ _ <| cnd h rfl beq_iff_eq.2 beq_eq_false_iff_ne.2 (fun hc36 h => ?_) fun hc36 h => ?_
    ·refine sr fun _ k37 => asn rfl <| dn <| k37 _ _ <| re <| tr <| br <| tr <| tr <| br <| tr ?_
     injection h with h; subst h
     exact Ret.mut (ResIs.one rfl rfl) (sc (sc sn)) ⟨rfl, rfl⟩
    refine ss <| k34 _ _ <| sq fun _ k38 => sr fun _ k39 => ?_
    obtain ⟨x40, hx40, h⟩ := bnd h
    refine mv rfl <| mv rfl <| ya (Yld.subC rfl rfl hx40) <| ya (Yld.lss rfl rfl) <| dn <| k39 _ _ <| cnd h rfl decide_eq_true decide_eq_false (fun hc41 h => ?_) fun hc41 h => ?_
    ·refine sr fun _ k42 => asn rfl <| dn <| k42 _ _ <| re <| tr <| br <| tr <| tr <| br <| tr ?_
     injection h with h; subst h
     exact Ret.mut (ResIs.one rfl rfl) (sc (sc sn)) ⟨rfl, rfl⟩
    refine ss <| k38 _ _ <| ctd [(1, _)] (σ := (List (BitVec 64))) (fun x43 => [(0, .slice A n c), (1, I64 x01), (2, I64 x02), (7, I64 x18), (8, I64 x9)]) (fun x43 => [(1, e0), (2, .own 26 (Lay.sz (BitVec 64)) A n c (cel x43))]) (fun x43 => m_slices_partialInsertionSortOrdered_uint64_j5 x01 x02 x9 x18 (m_slices_partialInsertionSortOrdered_uint64_l1 x01 x02 q10) x43 = some res) mixed (fun _ k44 => ?_) ?_
    ·obtain ⟨x46, hx46, h⟩ := bnd h
     obtain ⟨x47, hx47, h⟩ := bnd h
     obtain ⟨x48, hx48, h⟩ := bnd h
     obtain ⟨x49, hx49, h⟩ := bnd h
     obtain ⟨x50, hx50, h⟩ := bnd h
     obtain ⟨x51, hx51, h⟩ := bnd h
     obtain ⟨x52, hx52, h⟩ := bnd h
     obtain ⟨x53, hx53, h⟩ := bnd h
     refine dm 0 rfl rfl <| dm 1 rfl rfl <| dm 2 rfl rfl <| dm 3 rfl rfl <| du 4 rfl (Yld.subC rfl rfl hx46) <| dm 5 rfl rfl <| dm 6 rfl rfl <| du 7 rfl (Yld.subC rfl rfl hx47) <| dm 10 rfl rfl <| dm 11 rfl rfl <| WD.two 8 12 (by kernel_rfl) ?_ ?_
     ·refine dy rfl (Yld.idxC (xs := x7) sty_63 rfl rfl (RdH.own (k := 2) rfl) hx48) <| WD.two 9 12 (by kernel_rfl) ?_ ?_
      ·exact dy rfl (Yld.loadC0 (xs := x7) scal_26 rfl (RdH.own (k := 2) rfl) hx48 rfl) <| on 12 <| dy rfl (Yld.idxC (xs := x7) sty_63 rfl rfl (RdH.own (k := 2) rfl) hx49) <| on 13 <| dy rfl (Yld.loadC0 (xs := x7) scal_26 rfl (RdH.own (k := 2) rfl) hx49 rfl) <| on 14 <| dy rfl (Yld.idxC (xs := x7) sty_63 rfl rfl (RdH.own (k := 2) rfl) hx50) <| on 15 <| WS.eff0 rfl (Eff0.storeC1 2 (xs := x7) (a' := x48) siz_26 rfl rfl rfl rfl rfl rfl hx51) (sc sn) <| on 16 <| dy rfl (Yld.idxC (xs := x51) sty_63 rfl rfl (RdH.own (k := 2) rfl) hx52) <| on 17 <| WS.eff0 rfl (Eff0.storeC1 2 (xs := x51) (a' := x49) siz_26 rfl rfl rfl rfl rfl rfl hx53) (sc sn) <| WD.done (by kernel_rfl) <| kw (k44 x53 h)
      skip
      refine dy rfl (Yld.idxC (xs := x7) sty_63 rfl rfl (RdH.own (k := 2) rfl) hx49) <| WD.two 9 13 (by kernel_rfl) ?_ ?_
      ·exact dy rfl (Yld.loadC0 (xs := x7) scal_26 rfl (RdH.own (k := 2) rfl) hx48 rfl) <| on 13 <| dy rfl (Yld.loadC0 (xs := x7) scal_26 rfl (RdH.own (k := 2) rfl) hx49 rfl) <| on 14 <| dy rfl (Yld.idxC (xs := x7) sty_63 rfl rfl (RdH.own (k := 2) rfl) hx50) <| on 15 <| WS.eff0 rfl (Eff0.storeC1 2 (xs := x7) (a' := x48) siz_26 rfl rfl rfl rfl rfl rfl hx51) (sc sn) <| on 16 <| dy rfl (Yld.idxC (xs := x51) sty_63 rfl rfl (RdH.own (k := 2) rfl) hx52) <| on 17 <| WS.eff0 rfl (Eff0.storeC1 2 (xs := x51) (a' := x49) siz_26 rfl rfl rfl rfl rfl rfl hx53) (sc sn) <| WD.done (by kernel_rfl) <| kw (k44 x53 h)
      skip
      exact dy rfl (Yld.loadC0 (xs := x7) scal_26 rfl (RdH.own (k := 2) rfl) hx49 rfl) <| on 9 <| dy rfl (Yld.loadC0 (xs := x7) scal_26 rfl (RdH.own (k := 2) rfl) hx48 rfl) <| on 14 <| dy rfl (Yld.idxC (xs := x7) sty_63 rfl rfl (RdH.own (k := 2) rfl) hx50) <| on 15 <| WS.eff0 rfl (Eff0.storeC1 2 (xs := x7) (a' := x48) siz_26 rfl rfl rfl rfl rfl rfl hx51) (sc sn) <| on 16 <| dy rfl (Yld.idxC (xs := x51) sty_63 rfl rfl (RdH.own (k := 2) rfl) hx52) <| on 17 <| WS.eff0 rfl (Eff0.storeC1 2 (xs := x51) (a' := x49) siz_26 rfl rfl rfl rfl rfl rfl hx53) (sc sn) <| WD.done (by kernel_rfl) <| kw (k44 x53 h)
     skip
     refine dy rfl (Yld.idxC (xs := x7) sty_63 rfl rfl (RdH.own (k := 2) rfl) hx49) <| WD.two 8 13 (by kernel_rfl) ?_ ?_
     ·refine dy rfl (Yld.idxC (xs := x7) sty_63 rfl rfl (RdH.own (k := 2) rfl) hx48) <| WD.two 9 13 (by kernel_rfl) ?_ ?_
      ·exact dy rfl (Yld.loadC0 (xs := x7) scal_26 rfl (RdH.own (k := 2) rfl) hx48 rfl) <| on 13 <| dy rfl (Yld.loadC0 (xs := x7) scal_26 rfl (RdH.own (k := 2) rfl) hx49 rfl) <| on 14 <| dy rfl (Yld.idxC (xs := x7) sty_63 rfl rfl (RdH.own (k := 2) rfl) hx50) <| on 15 <| WS.eff0 rfl (Eff0.storeC1 2 (xs := x7) (a' := x48) siz_26 rfl rfl rfl rfl rfl rfl hx51) (sc sn) <| on 16 <| dy rfl (Yld.idxC (xs := x51) sty_63 rfl rfl (RdH.own (k := 2) rfl) hx52) <| on 17 <| WS.eff0 rfl (Eff0.storeC1 2 (xs := x51) (a' := x49) siz_26 rfl rfl rfl rfl rfl rfl hx53) (sc sn) <| WD.done (by kernel_rfl) <| kw (k44 x53 h)
      skip
      exact dy rfl (Yld.loadC0 (xs := x7) scal_26 rfl (RdH.own (k := 2) rfl) hx49 rfl) <| on 9 <| dy rfl (Yld.loadC0 (xs := x7) scal_26 rfl (RdH.own (k := 2) rfl) hx48 rfl) <| on 14 <| dy rfl (Yld.idxC (xs := x7) sty_63 rfl rfl (RdH.own (k := 2) rfl) hx50) <| on 15 <| WS.eff0 rfl (Eff0.storeC1 2 (xs := x7) (a' := x48) siz_26 rfl rfl rfl rfl rfl rfl hx51) (sc sn) <| on 16 <| dy rfl (Yld.idxC (xs := x51) sty_63 rfl rfl (RdH.own (k := 2) rfl) hx52) <| on 17 <| WS.eff0 rfl (Eff0.storeC1 2 (xs := x51) (a' := x49) siz_26 rfl rfl rfl rfl rfl rfl hx53) (sc sn) <| WD.done (by kernel_rfl) <| kw (k44 x53 h)
     skip
     exact dy rfl (Yld.loadC0 (xs := x7) scal_26 rfl (RdH.own (k := 2) rfl) hx49 rfl) <| on 8 <| dy rfl (Yld.idxC (xs := x7) sty_63 rfl rfl (RdH.own (k := 2) rfl) hx48) <| on 9 <| dy rfl (Yld.loadC0 (xs := x7) scal_26 rfl (RdH.own (k := 2) rfl) hx48 rfl) <| on 14 <| dy rfl (Yld.idxC (xs := x7) sty_63 rfl rfl (RdH.own (k := 2) rfl) hx50) <| on 15 <| WS.eff0 rfl (Eff0.storeC1 2 (xs := x7) (a' := x48) siz_26 rfl rfl rfl rfl rfl rfl hx51) (sc sn) <| on 16 <| dy rfl (Yld.idxC (xs := x51) sty_63 rfl rfl (RdH.own (k := 2) rfl) hx52) <| on 17 <| WS.eff0 rfl (Eff0.storeC1 2 (xs := x51) (a' := x49) siz_26 rfl rfl rfl rfl rfl rfl hx53) (sc sn) <| WD.done (by kernel_rfl) <| kw (k44 x53 h)
    rintro x43 h
    unfold m_slices_partialInsertionSortOrdered_uint64_j5 at h
    refine ct (σ := (List (BitVec 64))) (fun x54 => [(0, .slice A n c), (1, I64 x01), (2, I64 x02), (7, I64 x18), (8, I64 x9)]) (fun x54 => [(1, e0), (2, .own 26 (Lay.sz (BitVec 64)) A n c (cel x54))]) (fun x54 => m_slices_partialInsertionSortOrdered_uint64_j6 x02 x9 x18 (m_slices_partialInsertionSortOrdered_uint64_l1 x01 x02 q10) x54 = some res) (fun _ k55 => ?_) ?_
    ·refine sr fun _ k56 => ?_
     obtain ⟨x57, hx57, h⟩ := bnd h
     refine mv rfl <| mv rfl <| ya (Yld.subC rfl rfl hx57) <| ya (Yld.geq rfl rfl) <| dn <| k56 _ _ <| cnd h rfl decide_eq_true decide_eq_false (fun hc58 h => ?_) fun hc58 h => ?_
     ·refine sr fun _ k59 => ?_
      obtain ⟨x60, hx60, h⟩ := bnd h
      refine mv rfl <| ya (Yld.subC rfl rfl hx60) <| asn rfl <| dn <| k59 _ _ <| bl <| lp (τ := (List (BitVec 64)) × Int) (fun ⟨x61, x62⟩ => [(0, .slice A n c), (1, I64 x01), (2, I64 x02), (7, I64 x18), (8, I64 x9), (9, I64 x62)]) (fun ⟨x61, x62⟩ => [(1, e0), (2, .own 26 (Lay.sz (BitVec 64)) A n c (cel x61))]) (fun q63 ⟨x61, x62⟩ => m_slices_partialInsertionSortOrdered_uint64_l7 x02 x9 x18 (m_slices_partialInsertionSortOrdered_uint64_l1 x01 x02 q10) q63 x61 x62 = some res) ⟨x43, x60⟩ ?_ (by simp [m_slices_partialInsertionSortOrdered_uint64_l7]) ?_
      ·exact h
      rintro q63 ⟨x61, x62⟩ h _ k64
      unfold m_slices_partialInsertionSortOrdered_uint64_l7 at h
      refine sq fun _ k65 => sr fun _ k66 => mv rfl <| ya (Yld.geq rfl rfl) <| dn <| k66 _ _ <| cnd h rfl decide_eq_true decide_eq_false (fun hc67 h => ?_) fun hc67 h => ?_
      ·refine ss <| k65 _ _ <| sq fun _ k68 => bl <| sq fun _ k69 => sd [(1, _), (2, _)] mixed fun _ k70 => ?_
       obtain ⟨x71, hx71, h⟩ := bnd h
       obtain ⟨x72, hx72, h⟩ := bnd h
       obtain ⟨x73, hx73, h⟩ := bnd h
       obtain ⟨x74, hx74, h⟩ := bnd h
       refine dm 0 rfl rfl <| dm 1 rfl rfl <| du 2 rfl (Yld.idxC (xs := x61) sty_63 rfl rfl (RdH.own (k := 2) rfl) hx71) <| du 3 rfl (Yld.loadC0 (xs := x61) scal_26 rfl (RdH.own (k := 2) rfl) hx71 rfl) <| dm 4 rfl rfl <| dm 5 rfl rfl <| du 6 rfl (Yld.subC rfl rfl hx72) <| du 7 rfl (Yld.idxC (xs := x61) sty_63 rfl rfl (RdH.own (k := 2) rfl) hx73) <| du 8 rfl (Yld.loadC0 (xs := x61) scal_26 rfl (RdH.own (k := 2) rfl) hx73 rfl) <| on 9 <| d0 rfl Try.func67 rfl (fun w hb hh => w_cmp_Less_uint64 (Mem.snap w) x71 x73 hx74) <| du 10 rfl (Yld.notB rfl) <| dd <| k70 _ _ <| cnn h rfl not_f (fun q => not_t (Bool.eq_false_iff.2 q)) (fun hc76 h => ?_) fun hc76 h => ?_
       ·refine ss <| k69 _ _ <| rd [(1, _)] mixed fun _ k77 => ?_
        obtain ⟨x78, hx78, h⟩ := bnd h
        obtain ⟨x79, hx79, h⟩ := bnd h
        obtain ⟨x80, hx80, h⟩ := bnd h
        obtain ⟨x81, hx81, h⟩ := bnd h
        obtain ⟨x82, hx82, h⟩ := bnd h
        obtain ⟨x83, hx83, h⟩ := bnd h
        obtain ⟨x84, hx84, h⟩ := bnd h
        obtain ⟨x85, hx85, h⟩ := bnd h
        refine dm 0 rfl rfl <| dm 1 rfl rfl <| dm 2 rfl rfl <| dm 3 rfl rfl <| du 4 rfl (Yld.subC rfl rfl hx78) <| dm 5 rfl rfl <| dm 6 rfl rfl <| du 7 rfl (Yld.subC rfl rfl hx79) <| dm 10 rfl rfl <| dm 11 rfl rfl <| WD.two 8 12 (by kernel_rfl) ?_ ?_
        ·refine dy rfl (Yld.idxC (xs := x61) sty_63 rfl rfl (RdH.own (k := 2) rfl) hx80) <| WD.two 9 12 (by kernel_rfl) ?_ ?_
         ·refine dy rfl (Yld.loadC0 (xs := x61) scal_26 rfl (RdH.own (k := 2) rfl) hx80 rfl) <| on 12 <| dy rfl (Yld.idxC (xs := x61) sty_63 rfl rfl (RdH.own (k := 2) rfl) hx81) <| on 13 <| dy rfl (Yld.loadC0 (xs := x61) scal_26 rfl (RdH.own (k := 2) rfl) hx81 rfl) <| on 14 <| dy rfl (Yld.idxC (xs := x61) sty_63 rfl rfl (RdH.own (k := 2) rfl) hx82) <| on 15 <| WS.eff0 rfl (Eff0.storeC1 2 (xs := x61) (a' := x80) siz_26 rfl rfl rfl rfl rfl rfl hx83) (sc sn) <| on 16 <| dy rfl (Yld.idxC (xs := x83) sty_63 rfl rfl (RdH.own (k := 2) rfl) hx84) <| on 17 <| WS.eff0 rfl (Eff0.storeC1 2 (xs := x83) (a' := x81) siz_26 rfl rfl rfl rfl rfl rfl hx85) (sc sn) <| dd <| k77 _ _ <| bn <| tn <| k68 _ _ <| rg fun _ k86 => ?_
          obtain ⟨x87, hx87, h⟩ := bnd h
          exact mv rfl <| ya (Yld.subC rfl rfl hx87) <| asn rfl <| dn <| k86 _ _ <| tn <| kw (k64 ⟨x85, x87⟩ h)
         skip
         refine dy rfl (Yld.idxC (xs := x61) sty_63 rfl rfl (RdH.own (k := 2) rfl) hx81) <| WD.two 9 13 (by kernel_rfl) ?_ ?_
         ·refine dy rfl (Yld.loadC0 (xs := x61) scal_26 rfl (RdH.own (k := 2) rfl) hx80 rfl) <| on 13 <| dy rfl (Yld.loadC0 (xs := x61) scal_26 rfl (RdH.own (k := 2) rfl) hx81 rfl) <| on 14 <| dy rfl (Yld.idxC (xs := x61) sty_63 rfl rfl (RdH.own (k := 2) rfl) hx82) <| on 15 <| WS.eff0 rfl (Eff0.storeC1 2 (xs := x61) (a' := x80) siz_26 rfl rfl rfl rfl rfl rfl hx83) (sc sn) <| on 16 <| dy rfl (Yld.idxC (xs := x83) sty_63 rfl rfl (RdH.own (k := 2) rfl) hx84) <| on 17 <| WS.eff0 rfl (Eff0.storeC1 2 (xs := x83) (a' := x81) siz_26 rfl rfl rfl rfl rfl rfl hx85) (sc sn) <| dd <| k77 _ _ <| bn <| tn <| k68 _ _ <| rg fun _ k88 => ?_
          obtain ⟨x89, hx89, h⟩ := bnd h
          exact mv rfl <| ya (Yld.subC rfl rfl hx89) <| asn rfl <| dn <| k88 _ _ <| tn <| kw (k64 ⟨x85, x89⟩ h)
         skip
         refine dy rfl (Yld.loadC0 (xs := x61) scal_26 rfl (RdH.own (k := 2) rfl) hx81 rfl) <| on 9 <| dy rfl (Yld.loadC0 (xs := x61) scal_26 rfl (RdH.own (k := 2) rfl) hx80 rfl) <| on 14 <| dy rfl (Yld.idxC (xs := x61) sty_63 rfl rfl (RdH.own (k := 2) rfl) hx82) <| on 15 <| WS.eff0 rfl (Eff0.storeC1 2 (xs := x61) (a' := x80) siz_26 rfl rfl rfl rfl rfl rfl hx83) (sc sn) <| on 16 <| dy rfl (Yld.idxC (xs := x83) sty_63 rfl rfl (RdH.own (k := 2) rfl) hx84) <| on 17 <| WS.eff0 rfl (Eff0.storeC1 2 (xs := x83) (a' := x81) siz_26 rfl rfl rfl rfl rfl rfl hx85) (sc sn) <| dd <| k77 _ _ <| bn <| tn <| k68 _ _ <| rg fun _ k90 => ?_
         obtain ⟨x91, hx91, h⟩ := bnd h
         exact mv rfl <| ya (Yld.subC rfl rfl hx91) <| asn rfl <| dn <| k90 _ _ <| tn <| kw (k64 ⟨x85, x91⟩ h)
        skip
        refine dy rfl (Yld.idxC (xs := x61) sty_63 rfl rfl (RdH.own (k := 2) rfl) hx81) <| WD.two 8 13 (by kernel_rfl) ?_ ?_
        ·refine dy rfl (Yld.idxC (xs := x61) sty_63 rfl rfl (RdH.own (k := 2) rfl) hx80) <| WD.two 9 13 (by kernel_rfl) ?_ ?_
         ·refine dy rfl (Yld.loadC0 (xs := x61) scal_26 rfl (RdH.own (k := 2) rfl) hx80 rfl) <| on 13 <| dy rfl (Yld.loadC0 (xs := x61) scal_26 rfl (RdH.own (k := 2) rfl) hx81 rfl) <| on 14 <| dy rfl (Yld.idxC (xs := x61) sty_63 rfl rfl (RdH.own (k := 2) rfl) hx82) <| on 15 <| WS.eff0 rfl (Eff0.storeC1 2 (xs := x61) (a' := x80) siz_26 rfl rfl rfl rfl rfl rfl hx83) (sc sn) <| on 16 <| dy rfl (Yld.idxC (xs := x83) sty_63 rfl rfl (RdH.own (k := 2) rfl) hx84) <| on 17 <| WS.eff0 rfl (Eff0.storeC1 2 (xs := x83) (a' := x81) siz_26 rfl rfl rfl rfl rfl rfl hx85) (sc sn) <| dd <| k77 _ _ <| bn <| tn <| k68 _ _ <| rg fun _ k92 => ?_
          obtain ⟨x93, hx93, h⟩ := bnd h
          exact mv rfl <| ya (Yld.subC rfl rfl hx93) <| asn rfl <| dn <| k92 _ _ <| tn <| kw (k64 ⟨x85, x93⟩ h)
         skip
         refine dy rfl (Yld.loadC0 (xs := x61) scal_26 rfl (RdH.own (k := 2) rfl) hx81 rfl) <| on 9 <| dy rfl (Yld.loadC0 (xs := x61) scal_26 rfl (RdH.own (k := 2) rfl) hx80 rfl) <| on 14 <| dy rfl (Yld.idxC (xs := x61) sty_63 rfl rfl (RdH.own (k := 2) rfl) hx82) <| on 15 <| WS.eff0 rfl (Eff0.storeC1 2 (xs := x61) (a' := x80) siz_26 rfl rfl rfl rfl rfl rfl hx83) (sc sn) <| on 16 <| dy rfl (Yld.idxC (xs := x83) sty_63 rfl rfl (RdH.own (k := 2) rfl) hx84) <| on 17 <| WS.eff0 rfl (Eff0.storeC1 2 (xs := x83) (a' := x81) siz_26 rfl rfl rfl rfl rfl rfl hx85) (sc sn) <| dd <| k77 _ _ <| bn <| tn <| k68 _ _ <| rg fun _ k94 => ?_
         obtain ⟨x95, hx95, h⟩ := bnd h
         exact mv rfl <| ya (Yld.subC rfl rfl hx95) <| asn rfl <| dn <| k94 _ _ <| tn <| kw (k64 ⟨x85, x95⟩ h)
        skip
        refine dy rfl (Yld.loadC0 (xs := x61) scal_26 rfl (RdH.own (k := 2) rfl) hx81 rfl) <| on 8 <| dy rfl (Yld.idxC (xs := x61) sty_63 rfl rfl (RdH.own (k := 2) rfl) hx80) <| on 9 <| dy rfl (Yld.loadC0 (xs := x61) scal_26 rfl (RdH.own (k := 2) rfl) hx80 rfl) <| on 14 <| dy rfl (Yld.idxC (xs := x61) sty_63 rfl rfl (RdH.own (k := 2) rfl) hx82) <| on 15 <| WS.eff0 rfl (Eff0.storeC1 2 (xs := x61) (a' := x80) siz_26 rfl rfl rfl rfl rfl rfl hx83) (sc sn) <| on 16 <| dy rfl (Yld.idxC (xs := x83) sty_63 rfl rfl (RdH.own (k := 2) rfl) hx84) <| on 17 <| WS.eff0 rfl (Eff0.storeC1 2 (xs := x83) (a' := x81) siz_26 rfl rfl rfl rfl rfl rfl hx85) (sc sn) <| dd <| k77 _ _ <| bn <| tn <| k68 _ _ <| rg fun _ k96 => ?_
        obtain ⟨x97, hx97, h⟩ := bnd h
        exact mv rfl <| ya (Yld.subC rfl rfl hx97) <| asn rfl <| dn <| k96 _ _ <| tn <| kw (k64 ⟨x85, x97⟩ h)
       exact xi <| te <| bo <| te <| te <| bx <| tn <| kw (k55 x61 h)
      exact xi <| te <| te <| bx <| tn <| kw (k55 x61 h)
     exact WC.skip <| tn <| kw (k55 x43 h)
    rintro x54 h
    unfold m_slices_partialInsertionSortOrdered_uint64_j6 at h
    refine sr fun _ k98 => ?_
    obtain ⟨x99, hx99, h⟩ := bnd h
    refine mv rfl <| mv rfl <| ya (Yld.subC rfl rfl hx99) <| ya (Yld.geq rfl rfl) <| dn <| k98 _ _ <| cnd h rfl decide_eq_true decide_eq_false (fun hc100 h => ?_) fun hc100 h => ?_
    ·refine sr fun _ k101 => ?_
     obtain ⟨x102, hx102, h⟩ := bnd h
     refine mv rfl <| ya (Yld.addC rfl rfl hx102) <| asn rfl <| dn <| k101 _ _ <| bl <| lp (τ := (List (BitVec 64)) × Int) (fun ⟨x103, x104⟩ => [(0, .slice A n c), (1, I64 x01), (2, I64 x02), (7, I64 x18), (8, I64 x9), (10, I64 x104)]) (fun ⟨x103, x104⟩ => [(1, e0), (2, .own 26 (Lay.sz (BitVec 64)) A n c (cel x103))]) (fun q105 ⟨x103, x104⟩ => m_slices_partialInsertionSortOrdered_uint64_l8 x02 x9 x18 (m_slices_partialInsertionSortOrdered_uint64_l1 x01 x02 q10) q105 x103 x104 = some res) ⟨x54, x102⟩ ?_ (by simp [m_slices_partialInsertionSortOrdered_uint64_l8]) ?_
     ·exact h
     rintro q105 ⟨x103, x104⟩ h _ k106
     unfold m_slices_partialInsertionSortOrdered_uint64_l8 at h
     refine sq fun _ k107 => sr fun _ k108 => mv rfl <| mv rfl <| ya (Yld.lss rfl rfl) <| dn <| k108 _ _ <| cnd h rfl decide_eq_true decide_eq_false (fun hc109 h => ?_) fun hc109 h => ?_
     ·refine ss <| k107 _ _ <| sq fun _ k110 => bl <| sq fun _ k111 => sd [(1, _), (2, _)] mixed fun _ k112 => ?_
      obtain ⟨x113, hx113, h⟩ := bnd h
      obtain ⟨x114, hx114, h⟩ := bnd h
      obtain ⟨x115, hx115, h⟩ := bnd h
      obtain ⟨x116, hx116, h⟩ := bnd h
      refine dm 0 rfl rfl <| dm 1 rfl rfl <| du 2 rfl (Yld.idxC (xs := x103) sty_63 rfl rfl (RdH.own (k := 2) rfl) hx113) <| du 3 rfl (Yld.loadC0 (xs := x103) scal_26 rfl (RdH.own (k := 2) rfl) hx113 rfl) <| dm 4 rfl rfl <| dm 5 rfl rfl <| du 6 rfl (Yld.subC rfl rfl hx114) <| du 7 rfl (Yld.idxC (xs := x103) sty_63 rfl rfl (RdH.own (k := 2) rfl) hx115) <| du 8 rfl (Yld.loadC0 (xs := x103) scal_26 rfl (RdH.own (k := 2) rfl) hx115 rfl) <| on 9 <| d0 rfl Try.func67 rfl (fun w hb hh => w_cmp_Less_uint64 (Mem.snap w) x113 x115 hx116) <| du 10 rfl (Yld.notB rfl) <| dd <| k112 _ _ <| cnn h rfl not_f (fun q => not_t (Bool.eq_false_iff.2 q)) (fun hc118 h => ?_) fun hc118 h => ?_
      ·refine ss <| k111 _ _ <| rd [(1, _)] mixed fun _ k119 => ?_
       obtain ⟨x120, hx120, h⟩ := bnd h
       obtain ⟨x121, hx121, h⟩ := bnd h
       obtain ⟨x122, hx122, h⟩ := bnd h
       obtain ⟨x123, hx123, h⟩ := bnd h
       obtain ⟨x124, hx124, h⟩ := bnd h
       obtain ⟨x125, hx125, h⟩ := bnd h
       obtain ⟨x126, hx126, h⟩ := bnd h
       obtain ⟨x127, hx127, h⟩ := bnd h
       refine dm 0 rfl rfl <| dm 1 rfl rfl <| dm 2 rfl rfl <| dm 3 rfl rfl <| du 4 rfl (Yld.subC rfl rfl hx120) <| dm 5 rfl rfl <| dm 6 rfl rfl <| du 7 rfl (Yld.subC rfl rfl hx121) <| dm 10 rfl rfl <| dm 11 rfl rfl <| WD.two 8 12 (by kernel_rfl) ?_ ?_
       ·refine dy rfl (Yld.idxC (xs := x103) sty_63 rfl rfl (RdH.own (k := 2) rfl) hx122) <| WD.two 9 12 (by kernel_rfl) ?_ ?_
        ·refine dy rfl (Yld.loadC0 (xs := x103) scal_26 rfl (RdH.own (k := 2) rfl) hx122 rfl) <| on 12 <| dy rfl (Yld.idxC (xs := x103) sty_63 rfl rfl (RdH.own (k := 2) rfl) hx123) <| on 13 <| dy rfl (Yld.loadC0 (xs := x103) scal_26 rfl (RdH.own (k := 2) rfl) hx123 rfl) <| on 14 <| dy rfl (Yld.idxC (xs := x103) sty_63 rfl rfl (RdH.own (k := 2) rfl) hx124) <| on 15 <| WS.eff0 rfl (Eff0.storeC1 2 (xs := x103) (a' := x122) siz_26 rfl rfl rfl rfl rfl rfl hx125) (sc sn) <| on 16 <| dy rfl (Yld.idxC (xs := x125) sty_63 rfl rfl (RdH.own (k := 2) rfl) hx126) <| on 17 <| WS.eff0 rfl (Eff0.storeC1 2 (xs := x125) (a' := x123) siz_26 rfl rfl rfl rfl rfl rfl hx127) (sc sn) <| dd <| k119 _ _ <| bn <| tn <| k110 _ _ <| rg fun _ k128 => ?_
         obtain ⟨x129, hx129, h⟩ := bnd h
         exact mv rfl <| ya (Yld.addC rfl rfl hx129) <| asn rfl <| dn <| k128 _ _ <| tn <| kw (k106 ⟨x127, x129⟩ h)
        skip
        refine dy rfl (Yld.idxC (xs := x103) sty_63 rfl rfl (RdH.own (k := 2) rfl) hx123) <| WD.two 9 13 (by kernel_rfl) ?_ ?_
        ·refine dy rfl (Yld.loadC0 (xs := x103) scal_26 rfl (RdH.own (k := 2) rfl) hx122 rfl) <| on 13 <| dy rfl (Yld.loadC0 (xs := x103) scal_26 rfl (RdH.own (k := 2) rfl) hx123 rfl) <| on 14 <| dy rfl (Yld.idxC (xs := x103) sty_63 rfl rfl (RdH.own (k := 2) rfl) hx124) <| on 15 <| WS.eff0 rfl (Eff0.storeC1 2 (xs := x103) (a' := x122) siz_26 rfl rfl rfl rfl rfl rfl hx125) (sc sn) <| on 16 <| dy rfl (Yld.idxC (xs := x125) sty_63 rfl rfl (RdH.own (k := 2) rfl) hx126) <| on 17 <| WS.eff0 rfl (Eff0.storeC1 2 (xs := x125) (a' := x123) siz_26 rfl rfl rfl rfl rfl rfl hx127) (sc sn) <| dd <| k119 _ _ <| bn <| tn <| k110 _ _ <| rg fun _ k130 => ?_
         obtain ⟨x131, hx131, h⟩ := bnd h
         exact mv rfl <| ya (Yld.addC rfl rfl hx131) <| asn rfl <| dn <| k130 _ _ <| tn <| kw (k106 ⟨x127, x131⟩ h)
        skip
        refine dy rfl (Yld.loadC0 (xs := x103) scal_26 rfl (RdH.own (k := 2) rfl) hx123 rfl) <| on 9 <| dy rfl (Yld.loadC0 (xs := x103) scal_26 rfl (RdH.own (k := 2) rfl) hx122 rfl) <| on 14 <| dy rfl (Yld.idxC (xs := x103) sty_63 rfl rfl (RdH.own (k := 2) rfl) hx124) <| on 15 <| WS.eff0 rfl (Eff0.storeC1 2 (xs := x103) (a' := x122) siz_26 rfl rfl rfl rfl rfl rfl hx125) (sc sn) <| on 16 <| dy rfl (Yld.idxC (xs := x125) sty_63 rfl rfl (RdH.own (k := 2) rfl) hx126) <| on 17 <| WS.eff0 rfl (Eff0.storeC1 2 (xs := x125) (a' := x123) siz_26 rfl rfl rfl rfl rfl rfl hx127) (sc sn) <| dd <| k119 _ _ <| bn <| tn <| k110 _ _ <| rg fun _ k132 => ?_
        obtain ⟨x133, hx133, h⟩ := bnd h
        exact mv rfl <| ya (Yld.addC rfl rfl hx133) <| asn rfl <| dn <| k132 _ _ <| tn <| kw (k106 ⟨x127, x133⟩ h)
       skip
       refine dy rfl (Yld.idxC (xs := x103) sty_63 rfl rfl (RdH.own (k := 2) rfl) hx123) <| WD.two 8 13 (by kernel_rfl) ?_ ?_
       ·refine dy rfl (Yld.idxC (xs := x103) sty_63 rfl rfl (RdH.own (k := 2) rfl) hx122) <| WD.two 9 13 (by kernel_rfl) ?_ ?_
        ·refine dy rfl (Yld.loadC0 (xs := x103) scal_26 rfl (RdH.own (k := 2) rfl) hx122 rfl) <| on 13 <| dy rfl (Yld.loadC0 (xs := x103) scal_26 rfl (RdH.own (k := 2) rfl) hx123 rfl) <| on 14 <| dy rfl (Yld.idxC (xs := x103) sty_63 rfl rfl (RdH.own (k := 2) rfl) hx124) <| on 15 <| WS.eff0 rfl (Eff0.storeC1 2 (xs := x103) (a' := x122) siz_26 rfl rfl rfl rfl rfl rfl hx125) (sc sn) <| on 16 <| dy rfl (Yld.idxC (xs := x125) sty_63 rfl rfl (RdH.own (k := 2) rfl) hx126) <| on 17 <| WS.eff0 rfl (Eff0.storeC1 2 (xs := x125) (a' := x123) siz_26 rfl rfl rfl rfl rfl rfl hx127) (sc sn) <| dd <| k119 _ _ <| bn <| tn <| k110 _ _ <| rg fun _ k134 => ?_
         obtain ⟨x135, hx135, h⟩ := bnd h
         exact mv rfl <| ya (Yld.addC rfl rfl hx135) <| asn rfl <| dn <| k134 _ _ <| tn <| kw (k106 ⟨x127, x135⟩ h)
        skip
        refine dy rfl (Yld.loadC0 (xs := x103) scal_26 rfl (RdH.own (k := 2) rfl) hx123 rfl) <| on 9 <| dy rfl (Yld.loadC0 (xs := x103) scal_26 rfl (RdH.own (k := 2) rfl) hx122 rfl) <| on 14 <| dy rfl (Yld.idxC (xs := x103) sty_63 rfl rfl (RdH.own (k := 2) rfl) hx124) <| on 15 <| WS.eff0 rfl (Eff0.storeC1 2 (xs := x103) (a' := x122) siz_26 rfl rfl rfl rfl rfl rfl hx125) (sc sn) <| on 16 <| dy rfl (Yld.idxC (xs := x125) sty_63 rfl rfl (RdH.own (k := 2) rfl) hx126) <| on 17 <| WS.eff0 rfl (Eff0.storeC1 2 (xs := x125) (a' := x123) siz_26 rfl rfl rfl rfl rfl rfl hx127) (sc sn) <| dd <| k119 _ _ <| bn <| tn <| k110 _ _ <| rg fun _ k136 => ?_
        obtain ⟨x137, hx137, h⟩ := bnd h
        exact mv rfl <| ya (Yld.addC rfl rfl hx137) <| asn rfl <| dn <| k136 _ _ <| tn <| kw (k106 ⟨x127, x137⟩ h)
       skip
       refine dy rfl (Yld.loadC0 (xs := x103) scal_26 rfl (RdH.own (k := 2) rfl) hx123 rfl) <| on 8 <| dy rfl (Yld.idxC (xs := x103) sty_63 rfl rfl (RdH.own (k := 2) rfl) hx122) <| on 9 <| dy rfl (Yld.loadC0 (xs := x103) scal_26 rfl (RdH.own (k := 2) rfl) hx122 rfl) <| on 14 <| dy rfl (Yld.idxC (xs := x103) sty_63 rfl rfl (RdH.own (k := 2) rfl) hx124) <| on 15 <| WS.eff0 rfl (Eff0.storeC1 2 (xs := x103) (a' := x122) siz_26 rfl rfl rfl rfl rfl rfl hx125) (sc sn) <| on 16 <| dy rfl (Yld.idxC (xs := x125) sty_63 rfl rfl (RdH.own (k := 2) rfl) hx126) <| on 17 <| WS.eff0 rfl (Eff0.storeC1 2 (xs := x125) (a' := x123) siz_26 rfl rfl rfl rfl rfl rfl hx127) (sc sn) <| dd <| k119 _ _ <| bn <| tn <| k110 _ _ <| rg fun _ k138 => ?_
       obtain ⟨x139, hx139, h⟩ := bnd h
       exact mv rfl <| ya (Yld.addC rfl rfl hx139) <| asn rfl <| dn <| k138 _ _ <| tn <| kw (k106 ⟨x127, x139⟩ h)
      exact xi <| te <| bo <| te <| te <| bx <| bn <| tn <| kw (k17 ⟨x103, x18⟩ h)
     exact xi <| te <| te <| bx <| bn <| tn <| kw (k17 ⟨x103, x18⟩ h)
    exact WC.skip <| bn <| tn <| kw (k17 ⟨x54, x18⟩ h)
   rintro ⟨x15, x16⟩ h
   unfold m_slices_partialInsertionSortOrdered_uint64_j2 at h
   refine rg fun _ k140 => ?_
   obtain ⟨x141, hx141, h⟩ := bnd h
   exact mv rfl <| ya (Yld.addC rfl rfl hx141) <| asn rfl <| dn <| k140 _ _ <| tn <| kw (k11 ⟨x15, x16, x141⟩ h)
  exact xi <| te <| te <| bx <| tn <| kw (k5 x7 h)
 rintro x4 h
 unfold m_slices_partialInsertionSortOrdered_uint64_j0 at h
 refine sr fun _ k142 => asn rfl <| dn <| k142 _ _ <| re ?_
 injection h with h; subst h
 exact Ret.mut (ResIs.one rfl rfl) (sc (sc sn)) ⟨rfl, rfl⟩
theorem w_slices_partitionEqualOrdered_uint64 (A : Option Addr) (n c : Nat) (x0c : List (BitVec 64)) (x01 x02 x03 : Int) {res : (List (BitVec 64)) × Int} (h : m_slices_partitionEqualOrdered_uint64 x0c x01 x02 x03 = some res) :
  Mut Try.prog 68 #[.slice A n c, I64 x01, I64 x02, I64 x03] 26 (Lay.sz (BitVec 64)) A n c (cel x0c) fun r ds => r = I64 res.2 /\ ds = cel res.1 := by
 refine Mut.intro (N := 84) Try.func68 rfl rfl (Nat.le_of_ble_eq_true rfl) fun w0 e0 => ?_
 unfold m_slices_partitionEqualOrdered_uint64 at h
 refine sr fun _ k1 => asn rfl <| dn <| k1 _ _ <| ctd [(1, _)] (σ := (List (BitVec 64)) × Int) (fun ⟨x2, x3⟩ => [(0, .slice A n c), (1, I64 x01), (2, I64 x3)]) (fun ⟨x2, x3⟩ => [(1, e0), (2, .own 26 (Lay.sz (BitVec 64)) A n c (cel x2))]) (fun ⟨x2, x3⟩ => m_slices_partitionEqualOrdered_uint64_j0 x01 x2 x3 = some res) mixed (fun _ k4 => ?_) ?_
 ·obtain ⟨x6, hx6, h⟩ := bnd h
  obtain ⟨x7, hx7, h⟩ := bnd h
  obtain ⟨x8, hx8, h⟩ := bnd h
  obtain ⟨x9, hx9, h⟩ := bnd h
  obtain ⟨x10, hx10, h⟩ := bnd h
  obtain ⟨x11, hx11, h⟩ := bnd h
  refine dm 0 rfl rfl <| dm 1 rfl rfl <| dm 2 rfl rfl <| dm 3 rfl rfl <| dm 4 rfl rfl <| dm 5 rfl rfl <| dm 8 rfl rfl <| dm 9 rfl rfl <| WD.two 6 10 (by kernel_rfl) ?_ ?_
  ·refine dy rfl (Yld.idxC (xs := x0c) sty_63 rfl rfl (RdH.own (k := 2) rfl) hx6) <| WD.two 7 10 (by kernel_rfl) ?_ ?_
   ·exact dy rfl (Yld.loadC0 (xs := x0c) scal_26 rfl (RdH.own (k := 2) rfl) hx6 rfl) <| on 10 <| dy rfl (Yld.idxC (xs := x0c) sty_63 rfl rfl (RdH.own (k := 2) rfl) hx7) <| on 11 <| dy rfl (Yld.loadC0 (xs := x0c) scal_26 rfl (RdH.own (k := 2) rfl) hx7 rfl) <| on 12 <| dy rfl (Yld.idxC (xs := x0c) sty_63 rfl rfl (RdH.own (k := 2) rfl) hx8) <| on 13 <| WS.eff0 rfl (Eff0.storeC1 2 (xs := x0c) (a' := x6) siz_26 rfl rfl rfl rfl rfl rfl hx9) (sc sn) <| on 14 <| dy rfl (Yld.idxC (xs := x9) sty_63 rfl rfl (RdH.own (k := 2) rfl) hx10) <| on 15 <| WS.eff0 rfl (Eff0.storeC1 2 (xs := x9) (a' := x7) siz_26 rfl rfl rfl rfl rfl rfl hx11) (sc sn) <| WD.done (by kernel_rfl) <| kw (k4 ⟨x11, x02⟩ h)
   skip
   refine dy rfl (Yld.idxC (xs := x0c) sty_63 rfl rfl (RdH.own (k := 2) rfl) hx7) <| WD.two 7 11 (by kernel_rfl) ?_ ?_
   ·exact dy rfl (Yld.loadC0 (xs := x0c) scal_26 rfl (RdH.own (k := 2) rfl) hx6 rfl) <| on 11 <| dy rfl (Yld.loadC0 (xs := x0c) scal_26 rfl (RdH.own (k := 2) rfl) hx7 rfl) <| on 12 <| dy rfl (Yld.idxC (xs := x0c) sty_63 rfl rfl (RdH.own (k := 2) rfl) hx8) <| on 13 <| WS.eff0 rfl (Eff0.storeC1 2 (xs := x0c) (a' := x6) siz_26 rfl rfl rfl rfl rfl rfl hx9) (sc sn) <| on 14 <| dy rfl (Yld.idxC (xs := x9) sty_63 rfl rfl (RdH.own (k := 2) rfl) hx10) <| on 15 <| WS.eff0 rfl (Eff0.storeC1 2 (xs := x9) (a' := x7) siz_26 rfl rfl rfl rfl rfl rfl hx11) (sc sn) <| WD.done (by kernel_rfl) <| kw (k4 ⟨x11, x02⟩ h)
   skip
   exact dy rfl (Yld.loadC0 (xs := x0c) scal_26 rfl (RdH.own (k := 2) rfl) hx7 rfl) <| on 7 <| dy rfl (Yld.loadC0 (xs := x0c) scal_26 rfl (RdH.own (k := 2) rfl) hx6 rfl) <| on 12 <| dy rfl (Yld.idxC (xs := x0c) sty_63 rfl rfl (RdH.own (k := 2) rfl) hx8) <| on 13 <| WS.eff0 rfl (Eff0.storeC1 2 (xs := x0c) (a' := x6) siz_26 rfl rfl rfl rfl rfl rfl hx9) (sc sn) <| on 14 <| dy rfl (Yld.idxC (xs := x9) sty_63 rfl rfl (RdH.own (k := 2) rfl) hx10) <| on 15 <| WS.eff0 rfl (Eff0.storeC1 2 (xs := x9) (a' := x7) siz_26 rfl rfl rfl rfl rfl rfl hx11) (sc sn) <| WD.done (by kernel_rfl) <| kw (k4 ⟨x11, x02⟩ h)
  skip
  refine dy rfl (Yld.idxC (xs := x0c) sty_63 rfl rfl (RdH.own (k := 2) rfl) hx7) <| WD.two 6 11 (by kernel_rfl) ?_ ?_
  ·refine dy rfl (Yld.idxC (xs := x0c) sty_63 rfl rfl (RdH.own (k := 2) rfl) hx6) <| WD.two 7 11 (by kernel_rfl) ?_ ?_
   ·exact dy rfl (Yld.loadC0 (xs := x0c) scal_26 rfl (RdH.own (k := 2) rfl) hx6 rfl) <| on 11 <| dy rfl (Yld.loadC0 (xs := x0c) scal_26 rfl (RdH.own (k := 2) rfl) hx7 rfl) <| on 12 <| dy rfl (Yld.idxC (xs := x0c) sty_63 rfl rfl (RdH.own (k := 2) rfl) hx8) <| on 13 <| WS.eff0 rfl (Eff0.storeC1 2 (xs := x0c) (a' := x6) siz_26 rfl rfl rfl rfl rfl rfl hx9) (sc sn) <| on 14 <| dy rfl (Yld.idxC (xs := x9) sty_63 rfl rfl (RdH.own (k := 2) rfl) hx10) <| on 15 <| WS.eff0 rfl (Eff0.storeC1 2 (xs := x9) (a' := x7) siz_26 rfl rfl rfl rfl rfl rfl hx11) (sc sn) <| WD.done (by kernel_rfl) <| kw (k4 ⟨x11, x02⟩ h)
   skip
   exact dy rfl (Yld.loadC0 (xs := x0c) scal_26 rfl (RdH.own (k := 2) rfl) hx7 rfl) <| on 7 <| dy rfl (Yld.loadC0 (xs := x0c) scal_26 rfl (RdH.own (k := 2) rfl) hx6 rfl) <| on 12 <| dy rfl (Yld.idxC (xs := x0c) sty_63 rfl rfl (RdH.own (k := 2) rfl) hx8) <| on 13 <| WS.eff0 rfl (Eff0.storeC1 2 (xs := x0c) (a' := x6) siz_26 rfl rfl rfl rfl rfl rfl hx9) (sc sn) <| on 14 <| dy rfl (Yld.idxC (xs := x9) sty_63 rfl rfl (RdH.own (k := 2) rfl) hx10) <| on 15 <| WS.eff0 rfl (Eff0.storeC1 2 (xs := x9) (a' := x7) siz_26 rfl rfl rfl rfl rfl rfl hx11) (sc sn) <| WD.done (by kernel_rfl) <| kw (k4 ⟨x11, x02⟩ h)
  skip
  exact dy rfl (Yld.loadC0 (xs := x0c) scal_26 rfl (RdH.own (k := 2) rfl) hx7 rfl) <| on 6 <| dy rfl (Yld.idxC (xs := x0c) sty_63 rfl rfl (RdH.own (k := 2) rfl) hx6) <| on 7 <| dy rfl (Yld.loadC0 (xs := x0c) scal_26 rfl (RdH.own (k := 2) rfl) hx6 rfl) <| on 12 <| dy rfl (Yld.idxC (xs := x0c) sty_63 rfl rfl (RdH.own (k := 2) rfl) hx8) <| on 13 <| WS.eff0 rfl (Eff0.storeC1 2 (xs := x0c) (a' := x6) siz_26 rfl rfl rfl rfl rfl rfl hx9) (sc sn) <| on 14 <| dy rfl (Yld.idxC (xs := x9) sty_63 rfl rfl (RdH.own (k := 2) rfl) hx10) <| on 15 <| WS.eff0 rfl (Eff0.storeC1 2 (xs := x9) (a' := x7) siz_26 rfl rfl rfl rfl rfl rfl hx11) (sc sn) <| WD.done (by kernel_rfl) <| kw (k4 ⟨x11, x02⟩ h)
 rintro ⟨x2, x3⟩ h
 unfold m_slices_partitionEqualOrdered_uint64_j0 at h
 refine sr fun _ k12 => ?_
 obtain ⟨x13, hx13, h⟩ := bnd h
 obtain ⟨x14, hx14, h⟩ := bnd h
 refine mv rfl <| ya (Yld.addC rfl rfl hx13) <| mv rfl <| ya (Yld.subC rfl rfl hx14) <| asn rfl <| asn rfl <| dn <| k12 _ _ <| ct (σ := (List (BitVec 64)) × Int) (fun ⟨x15, x16⟩ => [(9, I64 x16)]) (fun ⟨x15, x16⟩ => [(1, e0), (2, .own 26 (Lay.sz (BitVec 64)) A n c (cel x15))]) (fun ⟨x15, x16⟩ => m_slices_partitionEqualOrdered_uint64_j1 x15 x16 = some res) (fun _ k17 => ?_) ?_
 ·refine bl <| lp (τ := (List (BitVec 64)) × Int × Int) (fun ⟨x18, x19, x20⟩ => [(0, .slice A n c), (1, I64 x01), (9, I64 x19), (10, I64 x20)]) (fun ⟨x18, x19, x20⟩ => [(1, e0), (2, .own 26 (Lay.sz (BitVec 64)) A n c (cel x18))]) (fun q21 ⟨x18, x19, x20⟩ => m_slices_partitionEqualOrdered_uint64_l2 x01 q21 x18 x19 x20 = some res) ⟨x2, x13, x14⟩ ?_ (by simp [m_slices_partitionEqualOrdered_uint64_l2]) ?_
  ·exact h
  rintro q21 ⟨x18, x19, x20⟩ h _ k22
  unfold m_slices_partitionEqualOrdered_uint64_l2 at h
  refine bl <| ct (σ := Int) (fun x23 => [(0, .slice A n c), (1, I64 x01), (9, I64 x23), (10, I64 x20)]) (fun x23 => [(1, e0), (2, .own 26 (Lay.sz (BitVec 64)) A n c (cel x18))]) (fun x23 => m_slices_partitionEqualOrdered_uint64_j3 x01 x18 x20 (m_slices_partitionEqualOrdered_uint64_l2 x01 q21) x23 = some res) (fun _ k24 => ?_) ?_
  ·refine bl <| lp (τ := Int) (fun x25 => [(0, .slice A n c), (1, I64 x01), (9, I64 x25), (10, I64 x20)]) (fun x25 => [(1, e0), (2, .own 26 (Lay.sz (BitVec 64)) A n c (cel x18))]) (fun q26 x25 => m_slices_partitionEqualOrdered_uint64_l4 x01 x18 x20 (m_slices_partitionEqualOrdered_uint64_l2 x01 q21) q26 x25 = some res) (x19) ?_ (by simp [m_slices_partitionEqualOrdered_uint64_l4]) ?_
   ·exact h
   rintro q26 x25 h _ k27
   unfold m_slices_partitionEqualOrdered_uint64_l4 at h
   refine sq fun _ k28 => sd [(1, _), (2, _)] mixed fun _ k29 => ?_
   by_cases hc30 : x25 <= x20
   ·replace h := of_t hc30 h
    obtain ⟨x31, hx31, h⟩ := bnd h
    obtain ⟨x32, hx32, h⟩ := bnd h
    obtain ⟨x33, hx33, h⟩ := bnd h
    refine dm 0 rfl rfl <| dm 1 rfl rfl <| du 2 rfl (Yld.leq rfl rfl) <| dm 3 rfl rfl <| WD.new (v' := .bool true) (congrArg Value.bool (decide_eq_true hc30)) <| dv 4 rfl (Yld.move rfl) <| dv 5 rfl (Yld.move rfl) <| dv 6 rfl (Yld.idxC (xs := x18) sty_63 rfl rfl (RdH.own (k := 2) rfl) hx31) <| dv 7 rfl (Yld.loadC0 (xs := x18) scal_26 rfl (RdH.own (k := 2) rfl) hx31 rfl) <| dv 8 rfl (Yld.move rfl) <| dv 9 rfl (Yld.move rfl) <| dv 10 rfl (Yld.idxC (xs := x18) sty_63 rfl rfl (RdH.own (k := 2) rfl) hx32) <| dv 11 rfl (Yld.loadC0 (xs := x18) scal_26 rfl (RdH.own (k := 2) rfl) hx32 rfl) <| on 12 <| WS.effG rfl (by decide) rfl (Eff.callS 134 rfl Try.func67 nm_67 rfl rfl (fun w hb hh => w_cmp_Less_uint64 (Mem.snap w) x31 x32 hx33)) ?_
    rintro _ _ ⟨_, ⟨rfl, rfl⟩, rfl⟩
    refine ad ?_ (by repeat (first | exact sn | refine sc ?_))
    refine dv 13 rfl (Yld.notB rfl) <| du 14 rfl (Yld.pickT rfl rfl) <| dd <| k29 _ _ <| cnn h rfl not_f (fun q => not_t (Bool.eq_false_iff.2 q)) (fun hc35 h => ?_) fun hc35 h => ?_
    ·exact xi <| te <| te <| bx <| tn <| kw (k24 x25 h)
    refine ss <| k28 _ _ <| bl <| rg fun _ k36 => ?_
    obtain ⟨x37, hx37, h⟩ := bnd h
    exact mv rfl <| ya (Yld.addC rfl rfl hx37) <| asn rfl <| dn <| k36 _ _ <| bn <| tn <| kw (k27 (x37) h)
   replace h := of_f hc30 h
   exact dm 0 rfl rfl <| dm 1 rfl rfl <| du 2 rfl (Yld.leq rfl rfl) <| dm 3 rfl rfl <| WD.new (v' := .bool false) (congrArg Value.bool (decide_eq_false hc30)) <| dw 4 rfl <| dw 5 rfl <| dw 6 rfl <| dw 7 rfl <| dw 8 rfl <| dw 9 rfl <| dw 10 rfl <| dw 11 rfl <| dw 12 rfl <| dw 13 rfl <| du 14 rfl (Yld.pickF rfl rfl) <| dd <| k29 _ _ <| cdF rfl <| xi <| te <| te <| bx <| tn <| kw (k24 x25 h)
  rintro x23 h
  unfold m_slices_partitionEqualOrdered_uint64_j3 at h
  refine ct (σ := Int) (fun x38 => [(0, .slice A n c), (1, I64 x01), (9, I64 x23), (10, I64 x38)]) (fun x38 => [(1, e0), (2, .own 26 (Lay.sz (BitVec 64)) A n c (cel x18))]) (fun x38 => m_slices_partitionEqualOrdered_uint64_j5 x18 x23 (m_slices_partitionEqualOrdered_uint64_l2 x01 q21) x38 = some res) (fun _ k39 => ?_) ?_
  ·refine bl <| lp (τ := Int) (fun x40 => [(0, .slice A n c), (1, I64 x01), (9, I64 x23), (10, I64 x40)]) (fun x40 => [(1, e0), (2, .own 26 (Lay.sz (BitVec 64)) A n c (cel x18))]) (fun q41 x40 => m_slices_partitionEqualOrdered_uint64_l6 x01 x18 x23 (m_slices_partitionEqualOrdered_uint64_l2 x01 q21) q41 x40 = some res) (x20) ?_ (by simp [m_slices_partitionEqualOrdered_uint64_l6]) ?_
   ·exact h
   rintro q41 x40 h _ k42
   unfold m_slices_partitionEqualOrdered_uint64_l6 at h
   refine sq fun _ k43 => sd [(1, _), (2, _)] mixed fun _ k44 => ?_
   by_cases hc45 : x23 <= x40
   ·replace h := of_t hc45 h
    obtain ⟨x46, hx46, h⟩ := bnd h
    obtain ⟨x47, hx47, h⟩ := bnd h
    obtain ⟨x48, hx48, h⟩ := bnd h
    refine dm 0 rfl rfl <| dm 1 rfl rfl <| du 2 rfl (Yld.leq rfl rfl) <| dm 3 rfl rfl <| WD.new (v' := .bool true) (congrArg Value.bool (decide_eq_true hc45)) <| dv 4 rfl (Yld.move rfl) <| dv 5 rfl (Yld.move rfl) <| dv 6 rfl (Yld.idxC (xs := x18) sty_63 rfl rfl (RdH.own (k := 2) rfl) hx46) <| dv 7 rfl (Yld.loadC0 (xs := x18) scal_26 rfl (RdH.own (k := 2) rfl) hx46 rfl) <| dv 8 rfl (Yld.move rfl) <| dv 9 rfl (Yld.move rfl) <| dv 10 rfl (Yld.idxC (xs := x18) sty_63 rfl rfl (RdH.own (k := 2) rfl) hx47) <| dv 11 rfl (Yld.loadC0 (xs := x18) scal_26 rfl (RdH.own (k := 2) rfl) hx47 rfl) <| on 12 <| WS.effG rfl (by decide) rfl (Eff.callS 149 rfl Try.func67 nm_67 rfl rfl (fun w hb hh => w_cmp_Less_uint64 (Mem.snap w) x46 x47 hx48)) ?_
    rintro _ _ ⟨_, ⟨rfl, rfl⟩, rfl⟩
    refine ad ?_ (by repeat (first | exact sn | refine sc ?_))
    refine du 13 rfl (Yld.pickT rfl rfl) <| dd <| k44 _ _ <| cnd h rfl id Bool.eq_false_iff.2 (fun hc50 h => ?_) fun hc50 h => ?_
    ·refine ss <| k43 _ _ <| bl <| rg fun _ k51 => ?_
     obtain ⟨x52, hx52, h⟩ := bnd h
     exact mv rfl <| ya (Yld.subC rfl rfl hx52) <| asn rfl <| dn <| k51 _ _ <| bn <| tn <| kw (k42 (x52) h)
    exact xi <| te <| te <| bx <| tn <| kw (k39 x40 h)
   replace h := of_f hc45 h
   exact dm 0 rfl rfl <| dm 1 rfl rfl <| du 2 rfl (Yld.leq rfl rfl) <| dm 3 rfl rfl <| WD.new (v' := .bool false) (congrArg Value.bool (decide_eq_false hc45)) <| dw 4 rfl <| dw 5 rfl <| dw 6 rfl <| dw 7 rfl <| dw 8 rfl <| dw 9 rfl <| dw 10 rfl <| dw 11 rfl <| dw 12 rfl <| du 13 rfl (Yld.pickF rfl rfl) <| dd <| k44 _ _ <| cdF rfl <| xi <| te <| te <| bx <| tn <| kw (k39 x40 h)
  rintro x38 h
  unfold m_slices_partitionEqualOrdered_uint64_j5 at h
  refine sq fun _ k53 => sr fun _ k54 => mv rfl <| mv rfl <| ya (Yld.gtr rfl rfl) <| dn <| k54 _ _ <| cnd h rfl decide_eq_true decide_eq_false (fun hc55 h => ?_) fun hc55 h => ?_
  ·exact xi <| te <| bo <| te <| bx <| tn <| kw (k17 ⟨x18, x23⟩ h)
  refine ss <| k53 _ _ <| sd [(1, _)] mixed fun _ k56 => ?_
  obtain ⟨x57, hx57, h⟩ := bnd h
  obtain ⟨x58, hx58, h⟩ := bnd h
  obtain ⟨x59, hx59, h⟩ := bnd h
  obtain ⟨x60, hx60, h⟩ := bnd h
  obtain ⟨x61, hx61, h⟩ := bnd h
  obtain ⟨x62, hx62, h⟩ := bnd h
  refine dm 0 rfl rfl <| dm 1 rfl rfl <| dm 2 rfl rfl <| dm 3 rfl rfl <| dm 4 rfl rfl <| dm 5 rfl rfl <| dm 8 rfl rfl <| dm 9 rfl rfl <| WD.two 6 10 (by kernel_rfl) ?_ ?_
  ·refine dy rfl (Yld.idxC (xs := x18) sty_63 rfl rfl (RdH.own (k := 2) rfl) hx57) <| WD.two 7 10 (by kernel_rfl) ?_ ?_
   ·refine dy rfl (Yld.loadC0 (xs := x18) scal_26 rfl (RdH.own (k := 2) rfl) hx57 rfl) <| on 10 <| dy rfl (Yld.idxC (xs := x18) sty_63 rfl rfl (RdH.own (k := 2) rfl) hx58) <| on 11 <| dy rfl (Yld.loadC0 (xs := x18) scal_26 rfl (RdH.own (k := 2) rfl) hx58 rfl) <| on 12 <| dy rfl (Yld.idxC (xs := x18) sty_63 rfl rfl (RdH.own (k := 2) rfl) hx59) <| on 13 <| WS.eff0 rfl (Eff0.storeC1 2 (xs := x18) (a' := x57) siz_26 rfl rfl rfl rfl rfl rfl hx60) (sc sn) <| on 14 <| dy rfl (Yld.idxC (xs := x60) sty_63 rfl rfl (RdH.own (k := 2) rfl) hx61) <| on 15 <| WS.eff0 rfl (Eff0.storeC1 2 (xs := x60) (a' := x58) siz_26 rfl rfl rfl rfl rfl rfl hx62) (sc sn) <| dd <| k56 _ _ <| sr fun _ k63 => ?_
    obtain ⟨x64, hx64, h⟩ := bnd h
    refine mv rfl <| ya (Yld.addC rfl rfl hx64) <| asn rfl <| dn <| k63 _ _ <| rg fun _ k65 => ?_
    obtain ⟨x66, hx66, h⟩ := bnd h
    exact mv rfl <| ya (Yld.subC rfl rfl hx66) <| asn rfl <| dn <| k65 _ _ <| bn <| tn <| kw (k22 ⟨x62, x64, x66⟩ h)
   skip
   refine dy rfl (Yld.idxC (xs := x18) sty_63 rfl rfl (RdH.own (k := 2) rfl) hx58) <| WD.two 7 11 (by kernel_rfl) ?_ ?_
   ·refine dy rfl (Yld.loadC0 (xs := x18) scal_26 rfl (RdH.own (k := 2) rfl) hx57 rfl) <| on 11 <| dy rfl (Yld.loadC0 (xs := x18) scal_26 rfl (RdH.own (k := 2) rfl) hx58 rfl) <| on 12 <| dy rfl (Yld.idxC (xs := x18) sty_63 rfl rfl (RdH.own (k := 2) rfl) hx59) <| on 13 <| WS.eff0 rfl (Eff0.storeC1 2 (xs := x18) (a' := x57) siz_26 rfl rfl rfl rfl rfl rfl hx60) (sc sn) <| on 14 <| dy rfl (Yld.idxC (xs := x60) sty_63 rfl rfl (RdH.own (k := 2) rfl) hx61) <| on 15 <| WS.eff0 rfl (Eff0.storeC1 2 (xs := x60) (a' := x58) siz_26 rfl rfl rfl rfl rfl rfl hx62) (sc sn) <| dd <| k56 _ _ <| sr fun _ k67 => ?_
    obtain ⟨x68, hx68, h⟩ := bnd h
    refine mv rfl <| ya (Yld.addC rfl rfl hx68) <| asn rfl <| dn <| k67 _ _ <| rg fun _ k69 => ?_
    obtain ⟨x70, hx70, h⟩ := bnd h
    exact mv rfl <| ya (Yld.subC rfl rfl hx70) <| asn rfl <| dn <| k69 _ _ <| bn <| tn <| kw (k22 ⟨x62, x68, x70⟩ h)
   skip
   refine dy rfl (Yld.loadC0 (xs := x18) scal_26 rfl (RdH.own (k := 2) rfl) hx58 rfl) <| on 7 <| dy rfl (Yld.loadC0 (xs := x18) scal_26 rfl (RdH.own (k := 2) rfl) hx57 rfl) <| on 12 <| dy rfl (Yld.idxC (xs := x18) sty_63 rfl rfl (RdH.own (k := 2) rfl) hx59) <| on 13 <| WS.eff0 rfl (Eff0.storeC1 2 (xs := x18) (a' := x57) siz_26 rfl rfl rfl rfl rfl rfl hx60) (sc sn) <| on 14 <| dy rfl (Yld.idxC (xs := x60) sty_63 rfl rfl (RdH.own (k := 2) rfl) hx61) <| on 15 <| WS.eff0 rfl (Eff0.storeC1 2 (xs := x60) (a' := x58) siz_26 rfl rfl rfl rfl rfl rfl hx62) (sc sn) <| dd <| k56 _ _ <| sr fun _ k71 => ?_
   obtain ⟨x72, hx72, h⟩ := bnd h
   refine mv rfl <| ya (Yld.addC rfl rfl hx72) <| asn rfl <| dn <| k71 _ _ <| rg fun _ k73 => ?_
   obtain ⟨x74, hx74, h⟩ := bnd h
   exact mv rfl <| ya (Yld.subC rfl rfl hx74) <| asn rfl <| dn <| k73 _ _ <| bn <| tn <| kw (k22 ⟨x62, x72, x74⟩ h)
  skip
  refine dy rfl (Yld.idxC (xs := x18) sty_63 rfl rfl (RdH.own (k := 2) rfl) hx58) <| WD.two 6 11 (by kernel_rfl) ?_ ?_
  ·refine dy rfl (Yld.idxC (xs := x18) sty_63 rfl rfl (RdH.own (k := 2) rfl) hx57) <| WD.two 7 11 (by kernel_rfl) ?_ ?_
   ·refine dy rfl (Yld.loadC0 (xs := x18) scal_26 rfl (RdH.own (k := 2) rfl) hx57 rfl) <| on 11 <| dy rfl (Yld.loadC0 (xs := x18) scal_26 rfl (RdH.own (k := 2) rfl) hx58 rfl) <| on 12 <| dy rfl (Yld.idxC (xs := x18) sty_63 rfl rfl (RdH.own (k := 2) rfl) hx59) <| on 13 <| WS.eff0 rfl (Eff0.storeC1 2 (xs := x18) (a' := x57) siz_26 rfl rfl rfl rfl rfl rfl hx60) (sc sn) <| on 14 <| dy rfl (Yld.idxC (xs := x60) sty_63 rfl rfl (RdH.own (k := 2) rfl) hx61) <| on 15 <| WS.eff0 rfl (Eff0.storeC1 2 (xs := x60) (a' := x58) siz_26 rfl rfl rfl rfl rfl rfl hx62) (sc sn) <| dd <| k56 _ _ <| sr fun _ k75 => ?_
    obtain ⟨x76, hx76, h⟩ := bnd h
    refine mv rfl <| ya (Yld.addC rfl rfl hx76) <| asn rfl <| dn <| k75 _ _ <| rg fun _ k77 => ?_
    obtain ⟨x78, hx78, h⟩ := bnd h
    exact mv rfl <| ya (Yld.subC rfl rfl hx78) <| asn rfl <| dn <| k77 _ _ <| bn <| tn <| kw (k22 ⟨x62, x76, x78⟩ h)
   skip
   refine dy rfl (Yld.loadC0 (xs := x18) scal_26 rfl (RdH.own (k := 2) rfl) hx58 rfl) <| on 7 <| dy rfl (Yld.loadC0 (xs := x18) scal_26 rfl (RdH.own (k := 2) rfl) hx57 rfl) <| on 12 <| dy rfl (Yld.idxC (xs := x18) sty_63 rfl rfl (RdH.own (k := 2) rfl) hx59) <| on 13 <| WS.eff0 rfl (Eff0.storeC1 2 (xs := x18) (a' := x57) siz_26 rfl rfl rfl rfl rfl rfl hx60) (sc sn) <| on 14 <| dy rfl (Yld.idxC (xs := x60) sty_63 rfl rfl (RdH.own (k := 2) rfl) hx61) <| on 15 <| WS.eff0 rfl (Eff0.storeC1 2 (xs := x60) (a' := x58) siz_26 rfl rfl rfl rfl rfl rfl hx62) (sc sn) <| dd <| k56 _ _ <| sr fun _ k79 => ?_
   obtain ⟨x80, hx80, h⟩ := bnd h
   refine mv rfl <| ya (Yld.addC rfl rfl hx80) <| asn rfl <| dn <| k79 _ _ <| rg fun _ k81 => ?_
   obtain ⟨x82, hx82, h⟩ := bnd h
   exact mv rfl <| ya (Yld.subC rfl rfl hx82) <| asn rfl <| dn <| k81 _ _ <| bn <| tn <| kw (k22 ⟨x62, x80, x82⟩ h)
  skip
  refine dy rfl (Yld.loadC0 (xs := x18) scal_26 rfl (RdH.own (k := 2) rfl) hx58 rfl) <| on 6 <| dy rfl (Yld.idxC (xs := x18) sty_63 rfl rfl (RdH.own (k := 2) rfl) hx57) <| on 7 <| dy rfl (Yld.loadC0 (xs := x18) scal_26 rfl (RdH.own (k := 2) rfl) hx57 rfl) <| on 12 <| dy rfl (Yld.idxC (xs := x18) sty_63 rfl rfl (RdH.own (k := 2) rfl) hx59) <| on 13 <| WS.eff0 rfl (Eff0.storeC1 2 (xs := x18) (a' := x57) siz_26 rfl rfl rfl rfl rfl rfl hx60) (sc sn) <| on 14 <| dy rfl (Yld.idxC (xs := x60) sty_63 rfl rfl (RdH.own (k := 2) rfl) hx61) <| on 15 <| WS.eff0 rfl (Eff0.storeC1 2 (xs := x60) (a' := x58) siz_26 rfl rfl rfl rfl rfl rfl hx62) (sc sn) <| dd <| k56 _ _ <| sr fun _ k83 => ?_
  obtain ⟨x84, hx84, h⟩ := bnd h
  refine mv rfl <| ya (Yld.addC rfl rfl hx84) <| asn rfl <| dn <| k83 _ _ <| rg fun _ k85 => ?_
  obtain ⟨x86, hx86, h⟩ := bnd h
  exact mv rfl <| ya (Yld.subC rfl rfl hx86) <| asn rfl <| dn <| k85 _ _ <| bn <| tn <| kw (k22 ⟨x62, x84, x86⟩ h)
 rintro ⟨x15, x16⟩ h
 unfold m_slices_partitionEqualOrdered_uint64_j1 at h
 refine sr fun _ k87 => mv rfl <| asn rfl <| dn <| k87 _ _ <| re ?_
 injection h with h; subst h
 exact Ret.mut (ResIs.one rfl rfl) (sc (sc sn)) ⟨rfl, rfl⟩
theorem w_slices_partitionOrdered_uint64 (A : Option Addr) (n c : Nat) (x0c : List (BitVec 64)) (x01 x02 x03 : Int) {res : (List (BitVec 64)) × Int × Bool} (h : m_slices_partitionOrdered_uint64 x0c x01 x02 x03 = some res) :
  Mut Try.prog 69 #[.slice A n c, I64 x01, I64 x02, I64 x03] 26 (Lay.sz (BitVec 64)) A n c (cel x0c) fun r ds => r = .tuple #[I64 res.2.1, .bool res.2.2] /\ ds = cel res.1 := by
 refine Mut.intro (N := 168) Try.func69 rfl rfl (Nat.le_of_ble_eq_true rfl) fun w0 e0 => ?_
 unfold m_slices_partitionOrdered_uint64 at h
 refine sr fun _ k1 => asn rfl <| asn rfl <| dn <| k1 _ _ <| ctd [(1, _)] (σ := (List (BitVec 64)) × Int) (fun ⟨x2, x3⟩ => [(0, .slice A n c), (1, I64 x01), (2, I64 x3)]) (fun ⟨x2, x3⟩ => [(1, e0), (2, .own 26 (Lay.sz (BitVec 64)) A n c (cel x2))]) (fun ⟨x2, x3⟩ => m_slices_partitionOrdered_uint64_j0 x01 x2 x3 = some res) mixed (fun _ k4 => ?_) ?_
 ·obtain ⟨x6, hx6, h⟩ := bnd h
  obtain ⟨x7, hx7, h⟩ := bnd h
  obtain ⟨x8, hx8, h⟩ := bnd h
  obtain ⟨x9, hx9, h⟩ := bnd h
  obtain ⟨x10, hx10, h⟩ := bnd h
  obtain ⟨x11, hx11, h⟩ := bnd h
  refine dm 0 rfl rfl <| dm 1 rfl rfl <| dm 2 rfl rfl <| dm 3 rfl rfl <| dm 4 rfl rfl <| dm 5 rfl rfl <| dm 8 rfl rfl <| dm 9 rfl rfl <| WD.two 6 10 (by kernel_rfl) ?_ ?_
  ·refine dy rfl (Yld.idxC (xs := x0c) sty_63 rfl rfl (RdH.own (k := 2) rfl) hx6) <| WD.two 7 10 (by kernel_rfl) ?_ ?_
   ·exact dy rfl (Yld.loadC0 (xs := x0c) scal_26 rfl (RdH.own (k := 2) rfl) hx6 rfl) <| on 10 <| dy rfl (Yld.idxC (xs := x0c) sty_63 rfl rfl (RdH.own (k := 2) rfl) hx7) <| on 11 <| dy rfl (Yld.loadC0 (xs := x0c) scal_26 rfl (RdH.own (k := 2) rfl) hx7 rfl) <| on 12 <| dy rfl (Yld.idxC (xs := x0c) sty_63 rfl rfl (RdH.own (k := 2) rfl) hx8) <| on 13 <| WS.eff0 rfl (Eff0.storeC1 2 (xs := x0c) (a' := x6) siz_26 rfl rfl rfl rfl rfl rfl hx9) (sc sn) <| on 14 <| dy rfl (Yld.idxC (xs := x9) sty_63 rfl rfl (RdH.own (k := 2) rfl) hx10) <| on 15 <| WS.eff0 rfl (Eff0.storeC1 2 (xs := x9) (a' := x7) siz_26 rfl rfl rfl rfl rfl rfl hx11) (sc sn) <| WD.done (by kernel_rfl) <| kw (k4 ⟨x11, x02⟩ h)
   skip
   refine dy rfl (Yld.idxC (xs := x0c) sty_63 rfl rfl (RdH.own (k := 2) rfl) hx7) <| WD.two 7 11 (by kernel_rfl) ?_ ?_
   ·exact dy rfl (Yld.loadC0 (xs := x0c) scal_26 rfl (RdH.own (k := 2) rfl) hx6 rfl) <| on 11 <| dy rfl (Yld.loadC0 (xs := x0c) scal_26 rfl (RdH.own (k := 2) rfl) hx7 rfl) <| on 12 <| dy rfl (Yld.idxC (xs := x0c) sty_63 rfl rfl (RdH.own (k := 2) rfl) hx8) <| on 13 <| WS.eff0 rfl (Eff0.storeC1 2 (xs := x0c) (a' := x6) siz_26 rfl rfl rfl rfl rfl rfl hx9) (sc sn) <| on 14 <| dy rfl (Yld.idxC (xs := x9) sty_63 rfl rfl (RdH.own (k := 2) rfl) hx10) <| on 15 <| WS.eff0 rfl (Eff0.storeC1 2 (xs := x9) (a' := x7) siz_26 rfl rfl rfl rfl rfl rfl hx11) (sc sn) <| WD.done (by kernel_rfl) <| kw (k4 ⟨x11, x02⟩ h)
   skip
   exact dy rfl (Yld.loadC0 (xs := x0c) scal_26 rfl (RdH.own (k := 2) rfl) hx7 rfl) <| on 7 <| dy rfl (Yld.loadC0 (xs := x0c) scal_26 rfl (RdH.own (k := 2) rfl) hx6 rfl) <| on 12 <| dy rfl (Yld.idxC (xs := x0c) sty_63 rfl rfl (RdH.own (k := 2) rfl) hx8) <| on 13 <| WS.eff0 rfl (Eff0.storeC1 2 (xs := x0c) (a' := x6) siz_26 rfl rfl rfl rfl rfl rfl hx9) (sc sn) <| on 14 <| dy rfl (Yld.idxC (xs := x9) sty_63 rfl rfl (RdH.own (k := 2) rfl) hx10) <| on 15 <| WS.eff0 rfl (Eff0.storeC1 2 (xs := x9) (a' := x7) siz_26 rfl rfl rfl rfl rfl rfl hx11) (sc sn) <| WD.done (by kernel_rfl) <| kw (k4 ⟨x11, x02⟩ h)
  skip
  refine dy rfl (Yld.idxC (xs := x0c) sty_63 rfl rfl (RdH.own (k := 2) rfl) hx7) <| WD.two 6 11 (by kernel_rfl) ?_ ?_
  ·refine dy rfl (Yld.idxC (xs := x0c) sty_63 rfl rfl (RdH.own (k := 2) rfl) hx6) <| WD.two 7 11 (by kernel_rfl) ?_ ?_
   ·exact dy rfl (Yld.loadC0 (xs := x0c) scal_26 rfl (RdH.own (k := 2) rfl) hx6 rfl) <| on 11 <| dy rfl (Yld.loadC0 (xs := x0c) scal_26 rfl (RdH.own (k := 2) rfl) hx7 rfl) <| on 12 <| dy rfl (Yld.idxC (xs := x0c) sty_63 rfl rfl (RdH.own (k := 2) rfl) hx8) <| on 13 <| WS.eff0 rfl (Eff0.storeC1 2 (xs := x0c) (a' := x6) siz_26 rfl rfl rfl rfl rfl rfl hx9) (sc sn) <| on 14 <| dy rfl (Yld.idxC (xs := x9) sty_63 rfl rfl (RdH.own (k := 2) rfl) hx10) <| on 15 <| WS.eff0 rfl (Eff0.storeC1 2 (xs := x9) (a' := x7) siz_26 rfl rfl rfl rfl rfl rfl hx11) (sc sn) <| WD.done (by kernel_rfl) <| kw (k4 ⟨x11, x02⟩ h)
   skip
   exact dy rfl (Yld.loadC0 (xs := x0c) scal_26 rfl (RdH.own (k := 2) rfl) hx7 rfl) <| on 7 <| dy rfl (Yld.loadC0 (xs := x0c) scal_26 rfl (RdH.own (k := 2) rfl) hx6 rfl) <| on 12 <| dy rfl (Yld.idxC (xs := x0c) sty_63 rfl rfl (RdH.own (k := 2) rfl) hx8) <| on 13 <| WS.eff0 rfl (Eff0.storeC1 2 (xs := x0c) (a' := x6) siz_26 rfl rfl rfl rfl rfl rfl hx9) (sc sn) <| on 14 <| dy rfl (Yld.idxC (xs := x9) sty_63 rfl rfl (RdH.own (k := 2) rfl) hx10) <| on 15 <| WS.eff0 rfl (Eff0.storeC1 2 (xs := x9) (a' := x7) siz_26 rfl rfl rfl rfl rfl rfl hx11) (sc sn) <| WD.done (by kernel_rfl) <| kw (k4 ⟨x11, x02⟩ h)
  skip
  exact dy rfl (Yld.loadC0 (xs := x0c) scal_26 rfl (RdH.own (k := 2) rfl) hx7 rfl) <| on 6 <| dy rfl (Yld.idxC (xs := x0c) sty_63 rfl rfl (RdH.own (k := 2) rfl) hx6) <| on 7 <| dy rfl (Yld.loadC0 (xs := x0c) scal_26 rfl (RdH.own (k := 2) rfl) hx6 rfl) <| on 12 <| dy rfl (Yld.idxC (xs := x0c) sty_63 rfl rfl (RdH.own (k := 2) rfl) hx8) <| on 13 <| WS.eff0 rfl (Eff0.storeC1 2 (xs := x0c) (a' := x6) siz_26 rfl rfl rfl rfl rfl rfl hx9) (sc sn) <| on 14 <| dy rfl (Yld.idxC (xs := x9) sty_63 rfl rfl (RdH.own (k := 2) rfl) hx10) <| on 15 <| WS.eff0 rfl (Eff0.storeC1 2 (xs := x9) (a' := x7) siz_26 rfl rfl rfl rfl rfl rfl hx11) (sc sn) <| WD.done (by kernel_rfl) <| kw (k4 ⟨x11, x02⟩ h)
 rintro ⟨x2, x3⟩ h
 unfold m_slices_partitionOrdered_uint64_j0 at h
 refine sr fun _ k12 => ?_
 obtain ⟨x13, hx13, h⟩ := bnd h
 obtain ⟨x14, hx14, h⟩ := bnd h
 refine mv rfl <| ya (Yld.addC rfl rfl hx13) <| mv rfl <| ya (Yld.subC rfl rfl hx14) <| asn rfl <| asn rfl <| dn <| k12 _ _ <| ct (σ := Int) (fun x15 => [(0, .slice A n c), (1, I64 x01), (10, I64 x15), (11, I64 x14)]) (fun x15 => [(1, e0), (2, .own 26 (Lay.sz (BitVec 64)) A n c (cel x2))]) (fun x15 => m_slices_partitionOrdered_uint64_j1 x01 x2 x14 x15 = some res) (fun _ k16 => ?_) ?_
 ·refine bl <| lp (τ := Int) (fun x17 => [(0, .slice A n c), (1, I64 x01), (10, I64 x17), (11, I64 x14)]) (fun x17 => [(1, e0), (2, .own 26 (Lay.sz (BitVec 64)) A n c (cel x2))]) (fun q18 x17 => m_slices_partitionOrdered_uint64_l2 x01 x2 x14 q18 x17 = some res) (x13) ?_ (by simp [m_slices_partitionOrdered_uint64_l2]) ?_
  ·exact h
  rintro q18 x17 h _ k19
  unfold m_slices_partitionOrdered_uint64_l2 at h
  refine sq fun _ k20 => sd [(1, _), (2, _)] mixed fun _ k21 => ?_
  by_cases hc22 : x17 <= x14
  ·replace h := of_t hc22 h
   obtain ⟨x23, hx23, h⟩ := bnd h
   obtain ⟨x24, hx24, h⟩ := bnd h
   obtain ⟨x25, hx25, h⟩ := bnd h
   refine dm 0 rfl rfl <| dm 1 rfl rfl <| du 2 rfl (Yld.leq rfl rfl) <| dm 3 rfl rfl <| WD.new (v' := .bool true) (congrArg Value.bool (decide_eq_true hc22)) <| dv 4 rfl (Yld.move rfl) <| dv 5 rfl (Yld.move rfl) <| dv 6 rfl (Yld.idxC (xs := x2) sty_63 rfl rfl (RdH.own (k := 2) rfl) hx23) <| dv 7 rfl (Yld.loadC0 (xs := x2) scal_26 rfl (RdH.own (k := 2) rfl) hx23 rfl) <| dv 8 rfl (Yld.move rfl) <| dv 9 rfl (Yld.move rfl) <| dv 10 rfl (Yld.idxC (xs := x2) sty_63 rfl rfl (RdH.own (k := 2) rfl) hx24) <| dv 11 rfl (Yld.loadC0 (xs := x2) scal_26 rfl (RdH.own (k := 2) rfl) hx24 rfl) <| on 12 <| WS.effG rfl (by decide) rfl (Eff.callS 126 rfl Try.func67 nm_67 rfl rfl (fun w hb hh => w_cmp_Less_uint64 (Mem.snap w) x23 x24 hx25)) ?_
   rintro _ _ ⟨_, ⟨rfl, rfl⟩, rfl⟩
   refine ad ?_ (by repeat (first | exact sn | refine sc ?_))
   refine du 13 rfl (Yld.pickT rfl rfl) <| dd <| k21 _ _ <| cnd h rfl id Bool.eq_false_iff.2 (fun hc27 h => ?_) fun hc27 h => ?_
   ·refine ss <| k20 _ _ <| bl <| rg fun _ k28 => ?_
    obtain ⟨x29, hx29, h⟩ := bnd h
    exact mv rfl <| ya (Yld.addC rfl rfl hx29) <| asn rfl <| dn <| k28 _ _ <| bn <| tn <| kw (k19 (x29) h)
   exact xi <| te <| te <| bx <| tn <| kw (k16 x17 h)
  replace h := of_f hc22 h
  exact dm 0 rfl rfl <| dm 1 rfl rfl <| du 2 rfl (Yld.leq rfl rfl) <| dm 3 rfl rfl <| WD.new (v' := .bool false) (congrArg Value.bool (decide_eq_false hc22)) <| dw 4 rfl <| dw 5 rfl <| dw 6 rfl <| dw 7 rfl <| dw 8 rfl <| dw 9 rfl <| dw 10 rfl <| dw 11 rfl <| dw 12 rfl <| du 13 rfl (Yld.pickF rfl rfl) <| dd <| k21 _ _ <| cdF rfl <| xi <| te <| te <| bx <| tn <| kw (k16 x17 h)
 rintro x15 h
 unfold m_slices_partitionOrdered_uint64_j1 at h
 refine ct (σ := Int) (fun x30 => [(0, .slice A n c), (1, I64 x01), (10, I64 x15), (11, I64 x30)]) (fun x30 => [(1, e0), (2, .own 26 (Lay.sz (BitVec 64)) A n c (cel x2))]) (fun x30 => m_slices_partitionOrdered_uint64_j3 x01 x2 x15 x30 = some res) (fun _ k31 => ?_) ?_
 ·refine bl <| lp (τ := Int) (fun x32 => [(0, .slice A n c), (1, I64 x01), (10, I64 x15), (11, I64 x32)]) (fun x32 => [(1, e0), (2, .own 26 (Lay.sz (BitVec 64)) A n c (cel x2))]) (fun q33 x32 => m_slices_partitionOrdered_uint64_l4 x01 x2 x15 q33 x32 = some res) (x14) ?_ (by simp [m_slices_partitionOrdered_uint64_l4]) ?_
  ·exact h
  rintro q33 x32 h _ k34
  unfold m_slices_partitionOrdered_uint64_l4 at h
  refine sq fun _ k35 => sd [(1, _), (2, _)] mixed fun _ k36 => ?_
  by_cases hc37 : x15 <= x32
  ·replace h := of_t hc37 h
   obtain ⟨x38, hx38, h⟩ := bnd h
   obtain ⟨x39, hx39, h⟩ := bnd h
   obtain ⟨x40, hx40, h⟩ := bnd h
   refine dm 0 rfl rfl <| dm 1 rfl rfl <| du 2 rfl (Yld.leq rfl rfl) <| dm 3 rfl rfl <| WD.new (v' := .bool true) (congrArg Value.bool (decide_eq_true hc37)) <| dv 4 rfl (Yld.move rfl) <| dv 5 rfl (Yld.move rfl) <| dv 6 rfl (Yld.idxC (xs := x2) sty_63 rfl rfl (RdH.own (k := 2) rfl) hx38) <| dv 7 rfl (Yld.loadC0 (xs := x2) scal_26 rfl (RdH.own (k := 2) rfl) hx38 rfl) <| dv 8 rfl (Yld.move rfl) <| dv 9 rfl (Yld.move rfl) <| dv 10 rfl (Yld.idxC (xs := x2) sty_63 rfl rfl (RdH.own (k := 2) rfl) hx39) <| dv 11 rfl (Yld.loadC0 (xs := x2) scal_26 rfl (RdH.own (k := 2) rfl) hx39 rfl) <| on 12 <| WS.effG rfl (by decide) rfl (Eff.callS 141 rfl Try.func67 nm_67 rfl rfl (fun w hb hh => w_cmp_Less_uint64 (Mem.snap w) x38 x39 hx40)) ?_
   rintro _ _ ⟨_, ⟨rfl, rfl⟩, rfl⟩
   refine ad ?_ (by repeat (first | exact sn | refine sc ?_))
   refine dv 13 rfl (Yld.notB rfl) <| du 14 rfl (Yld.pickT rfl rfl) <| dd <| k36 _ _ <| cnn h rfl not_f (fun q => not_t (Bool.eq_false_iff.2 q)) (fun hc42 h => ?_) fun hc42 h => ?_
   ·exact xi <| te <| te <| bx <| tn <| kw (k31 x32 h)
   refine ss <| k35 _ _ <| bl <| rg fun _ k43 => ?_
   obtain ⟨x44, hx44, h⟩ := bnd h
   exact mv rfl <| ya (Yld.subC rfl rfl hx44) <| asn rfl <| dn <| k43 _ _ <| bn <| tn <| kw (k34 (x44) h)
  replace h := of_f hc37 h
  exact dm 0 rfl rfl <| dm 1 rfl rfl <| du 2 rfl (Yld.leq rfl rfl) <| dm 3 rfl rfl <| WD.new (v' := .bool false) (congrArg Value.bool (decide_eq_false hc37)) <| dw 4 rfl <| dw 5 rfl <| dw 6 rfl <| dw 7 rfl <| dw 8 rfl <| dw 9 rfl <| dw 10 rfl <| dw 11 rfl <| dw 12 rfl <| dw 13 rfl <| du 14 rfl (Yld.pickF rfl rfl) <| dd <| k36 _ _ <| cdF rfl <| xi <| te <| te <| bx <| tn <| kw (k31 x32 h)
 rintro x30 h
 unfold m_slices_partitionOrdered_uint64_j3 at h
 refine sq fun _ k45 => sr fun _ k46 => mv rfl <| mv rfl <| ya (Yld.gtr rfl rfl) <| dn <| k46 _ _ <| cnd h rfl decide_eq_true decide_eq_false (fun hc47 h => ?_) fun hc47 h => ?_
 ·refine sd [(1, _)] mixed fun _ k48 => ?_
  obtain ⟨x49, hx49, h⟩ := bnd h
  obtain ⟨x50, hx50, h⟩ := bnd h
  obtain ⟨x51, hx51, h⟩ := bnd h
  obtain ⟨x52, hx52, h⟩ := bnd h
  obtain ⟨x53, hx53, h⟩ := bnd h
  obtain ⟨x54, hx54, h⟩ := bnd h
  refine dm 0 rfl rfl <| dm 1 rfl rfl <| dm 2 rfl rfl <| dm 3 rfl rfl <| dm 4 rfl rfl <| dm 5 rfl rfl <| dm 8 rfl rfl <| dm 9 rfl rfl <| WD.two 6 10 (by kernel_rfl) ?_ ?_
  ·refine dy rfl (Yld.idxC (xs := x2) sty_63 rfl rfl (RdH.own (k := 2) rfl) hx49) <| WD.two 7 10 (by kernel_rfl) ?_ ?_
   ·refine dy rfl (Yld.loadC0 (xs := x2) scal_26 rfl (RdH.own (k := 2) rfl) hx49 rfl) <| on 10 <| dy rfl (Yld.idxC (xs := x2) sty_63 rfl rfl (RdH.own (k := 2) rfl) hx50) <| on 11 <| dy rfl (Yld.loadC0 (xs := x2) scal_26 rfl (RdH.own (k := 2) rfl) hx50 rfl) <| on 12 <| dy rfl (Yld.idxC (xs := x2) sty_63 rfl rfl (RdH.own (k := 2) rfl) hx51) <| on 13 <| WS.eff0 rfl (Eff0.storeC1 2 (xs := x2) (a' := x49) siz_26 rfl rfl rfl rfl rfl rfl hx52) (sc sn) <| on 14 <| dy rfl (Yld.idxC (xs := x52) sty_63 rfl rfl (RdH.own (k := 2) rfl) hx53) <| on 15 <| WS.eff0 rfl (Eff0.storeC1 2 (xs := x52) (a' := x50) siz_26 rfl rfl rfl rfl rfl rfl hx54) (sc sn) <| dd <| k48 _ _ <| sr fun _ k55 => mv rfl <| asn rfl <| asn rfl <| dn <| k55 _ _ <| re <| tr ?_
    injection h with h; subst h
    exact Ret.mut (ResIs.two rfl rfl rfl) (sc (sc sn)) ⟨rfl, rfl⟩
   skip
   refine dy rfl (Yld.idxC (xs := x2) sty_63 rfl rfl (RdH.own (k := 2) rfl) hx50) <| WD.two 7 11 (by kernel_rfl) ?_ ?_
   ·refine dy rfl (Yld.loadC0 (xs := x2) scal_26 rfl (RdH.own (k := 2) rfl) hx49 rfl) <| on 11 <| dy rfl (Yld.loadC0 (xs := x2) scal_26 rfl (RdH.own (k := 2) rfl) hx50 rfl) <| on 12 <| dy rfl (Yld.idxC (xs := x2) sty_63 rfl rfl (RdH.own (k := 2) rfl) hx51) <| on 13 <| WS.eff0 rfl (Eff0.storeC1 2 (xs := x2) (a' := x49) siz_26 rfl rfl rfl rfl rfl rfl hx52) (sc sn) <| on 14 <| dy rfl (Yld.idxC (xs := x52) sty_63 rfl rfl (RdH.own (k := 2) rfl) hx53) <| on 15 <| WS.eff0 rfl (Eff0.storeC1 2 (xs := x52) (a' := x50) siz_26 rfl rfl rfl rfl rfl rfl hx54) (sc sn) <| dd <| k48 _ _ <| sr fun _ k56 => mv rfl <| asn rfl <| asn rfl <| dn <| k56 _ _ <| re <| tr ?_
    injection h with h; subst h
    exact Ret.mut (ResIs.two rfl rfl rfl) (sc (sc sn)) ⟨rfl, rfl⟩
   skip
   refine dy rfl (Yld.loadC0 (xs := x2) scal_26 rfl (RdH.own (k := 2) rfl) hx50 rfl) <| on 7 <| dy rfl (Yld.loadC0 (xs := x2) scal_26 rfl (RdH.own (k := 2) rfl) hx49 rfl) <| on 12 <| dy rfl (Yld.idxC (xs := x2) sty_63 rfl rfl (RdH.own (k := 2) rfl) hx51) <| on 13 <| WS.eff0 rfl (Eff0.storeC1 2 (xs := x2) (a' := x49) siz_26 rfl rfl rfl rfl rfl rfl hx52) (sc sn) <| on 14 <| dy rfl (Yld.idxC (xs := x52) sty_63 rfl rfl (RdH.own (k := 2) rfl) hx53) <| on 15 <| WS.eff0 rfl (Eff0.storeC1 2 (xs := x52) (a' := x50) siz_26 rfl rfl rfl rfl rfl rfl hx54) (sc sn) <| dd <| k48 _ _ <| sr fun _ k57 => mv rfl <| asn rfl <| asn rfl <| dn <| k57 _ _ <| re <| tr ?_
   injection h with h; subst h
   exact Ret.mut (ResIs.two rfl rfl rfl) (sc (sc sn)) ⟨rfl, rfl⟩
  skip
  refine dy rfl (Yld.idxC (xs := x2) sty_63 rfl rfl (RdH.own (k := 2) rfl) hx50) <| WD.two 6 11 (by kernel_rfl) ?_ ?_
  ·refine dy rfl (Yld.idxC (xs := x2) sty_63 rfl rfl (RdH.own (k := 2) rfl) hx49) <| WD.two 7 11 (by kernel_rfl) ?_ ?_
   ·refine dy rfl (Yld.loadC0 (xs := x2) scal_26 rfl (RdH.own (k := 2) rfl) hx49 rfl) <| on 11 <| dy rfl (Yld.loadC0 (xs := x2) scal_26 rfl (RdH.own (k := 2) rfl) hx50 rfl) <| on 12 <| dy rfl (Yld.idxC (xs := x2) sty_63 rfl rfl (RdH.own (k := 2) rfl) hx51) <| on 13 <| WS.eff0 rfl (Eff0.storeC1 2 (xs := x2) (a' := x49) siz_26 rfl rfl rfl rfl rfl rfl hx52) (sc sn) <| on 14 <| dy rfl (Yld.idxC (xs := x52) sty_63 rfl rfl (RdH.own (k := 2) rfl) hx53) <| on 15 <| WS.eff0 rfl (Eff0.storeC1 2 (xs := x52) (a' := x50) siz_26 rfl rfl rfl rfl rfl rfl hx54) (sc sn) <| dd <| k48 _ _ <| sr fun _ k58 => mv rfl <| asn rfl <| asn rfl <| dn <| k58 _ _ <| re <| tr ?_
    injection h with h; subst h
    exact Ret.mut (ResIs.two rfl rfl rfl) (sc (sc sn)) ⟨rfl, rfl⟩
   skip
   refine dy rfl (Yld.loadC0 (xs := x2) scal_26 rfl (RdH.own (k := 2) rfl) hx50 rfl) <| on 7 <| dy rfl (Yld.loadC0 (xs := x2) scal_26 rfl (RdH.own (k := 2) rfl) hx49 rfl) <| on 12 <| dy rfl (Yld.idxC (xs := x2) sty_63 rfl rfl (RdH.own (k := 2) rfl) hx51) <| on 13 <| WS.eff0 rfl (Eff0.storeC1 2 (xs := x2) (a' := x49) siz_26 rfl rfl rfl rfl rfl rfl hx52) (sc sn) <| on 14 <| dy rfl (Yld.idxC (xs := x52) sty_63 rfl rfl (RdH.own (k := 2) rfl) hx53) <| on 15 <| WS.eff0 rfl (Eff0.storeC1 2 (xs := x52) (a' := x50) siz_26 rfl rfl rfl rfl rfl rfl hx54) (sc sn) <| dd <| k48 _ _ <| sr fun _ k59 => mv rfl <| asn rfl <| asn rfl <| dn <| k59 _ _ <| re <| tr ?_
   injection h with h; subst h
   exact Ret.mut (ResIs.two rfl rfl rfl) (sc (sc sn)) ⟨rfl, rfl⟩
  skip
  refine dy rfl (Yld.loadC0 (xs := x2) scal_26 rfl (RdH.own (k := 2) rfl) hx50 rfl) <| on 6 <| dy rfl (Yld.idxC (xs := x2) sty_63 rfl rfl (RdH.own (k := 2) rfl) hx49) <| on 7 <| dy rfl (Yld.loadC0 (xs := x2) scal_26 rfl (RdH.own (k := 2) rfl) hx49 rfl) <| on 12 <| dy rfl (Yld.idxC (xs := x2) sty_63 rfl rfl (RdH.own (k := 2) rfl) hx51) <| on 13 <| WS.eff0 rfl (Eff0.storeC1 2 (xs := x2) (a' := x49) siz_26 rfl rfl rfl rfl rfl rfl hx52) (sc sn) <| on 14 <| dy rfl (Yld.idxC (xs := x52) sty_63 rfl rfl (RdH.own (k := 2) rfl) hx53) <| on 15 <| WS.eff0 rfl (Eff0.storeC1 2 (xs := x52) (a' := x50) siz_26 rfl rfl rfl rfl rfl rfl hx54) (sc sn) <| dd <| k48 _ _ <| sr fun _ k60 => mv rfl <| asn rfl <| asn rfl <| dn <| k60 _ _ <| re <| tr ?_
  injection h with h; subst h
  exact Ret.mut (ResIs.two rfl rfl rfl) (sc (sc sn)) ⟨rfl, rfl⟩
 refine ss <| k45 _ _ <| ctd [(1, _)] (σ := (List (BitVec 64))) (fun x61 => [(0, .slice A n c), (1, I64 x01), (10, I64 x15), (11, I64 x30)]) (fun x61 => [(1, e0), (2, .own 26 (Lay.sz (BitVec 64)) A n c (cel x61))]) (fun x61 => m_slices_partitionOrdered_uint64_j5 x01 x15 x30 x61 = some res) mixed (fun _ k62 => ?_) ?_
 ·obtain ⟨x64, hx64, h⟩ := bnd h
  obtain ⟨x65, hx65, h⟩ := bnd h
  obtain ⟨x66, hx66, h⟩ := bnd h
  obtain ⟨x67, hx67, h⟩ := bnd h
  obtain ⟨x68, hx68, h⟩ := bnd h
  obtain ⟨x69, hx69, h⟩ := bnd h
  refine dm 0 rfl rfl <| dm 1 rfl rfl <| dm 2 rfl rfl <| dm 3 rfl rfl <| dm 4 rfl rfl <| dm 5 rfl rfl <| dm 8 rfl rfl <| dm 9 rfl rfl <| WD.two 6 10 (by kernel_rfl) ?_ ?_
  ·refine dy rfl (Yld.idxC (xs := x2) sty_63 rfl rfl (RdH.own (k := 2) rfl) hx64) <| WD.two 7 10 (by kernel_rfl) ?_ ?_
   ·exact dy rfl (Yld.loadC0 (xs := x2) scal_26 rfl (RdH.own (k := 2) rfl) hx64 rfl) <| on 10 <| dy rfl (Yld.idxC (xs := x2) sty_63 rfl rfl (RdH.own (k := 2) rfl) hx65) <| on 11 <| dy rfl (Yld.loadC0 (xs := x2) scal_26 rfl (RdH.own (k := 2) rfl) hx65 rfl) <| on 12 <| dy rfl (Yld.idxC (xs := x2) sty_63 rfl rfl (RdH.own (k := 2) rfl) hx66) <| on 13 <| WS.eff0 rfl (Eff0.storeC1 2 (xs := x2) (a' := x64) siz_26 rfl rfl rfl rfl rfl rfl hx67) (sc sn) <| on 14 <| dy rfl (Yld.idxC (xs := x67) sty_63 rfl rfl (RdH.own (k := 2) rfl) hx68) <| on 15 <| WS.eff0 rfl (Eff0.storeC1 2 (xs := x67) (a' := x65) siz_26 rfl rfl rfl rfl rfl rfl hx69) (sc sn) <| WD.done (by kernel_rfl) <| kw (k62 x69 h)
   skip
   refine dy rfl (Yld.idxC (xs := x2) sty_63 rfl rfl (RdH.own (k := 2) rfl) hx65) <| WD.two 7 11 (by kernel_rfl) ?_ ?_
   ·exact dy rfl (Yld.loadC0 (xs := x2) scal_26 rfl (RdH.own (k := 2) rfl) hx64 rfl) <| on 11 <| dy rfl (Yld.loadC0 (xs := x2) scal_26 rfl (RdH.own (k := 2) rfl) hx65 rfl) <| on 12 <| dy rfl (Yld.idxC (xs := x2) sty_63 rfl rfl (RdH.own (k := 2) rfl) hx66) <| on 13 <| WS.eff0 rfl (Eff0.storeC1 2 (xs := x2) (a' := x64) siz_26 rfl rfl rfl rfl rfl rfl hx67) (sc sn) <| on 14 <| dy rfl (Yld.idxC (xs := x67) sty_63 rfl rfl (RdH.own (k := 2) rfl) hx68) <| on 15 <| WS.eff0 rfl (Eff0.storeC1 2 (xs := x67) (a' := x65) siz_26 rfl rfl rfl rfl rfl rfl hx69) (sc sn) <| WD.done (by kernel_rfl) <| kw (k62 x69 h)
   skip
   exact dy rfl (Yld.loadC0 (xs := x2) scal_26 rfl (RdH.own (k := 2) rfl) hx65 rfl) <| on 7 <| dy rfl (Yld.loadC0 (xs := x2) scal_26 rfl (RdH.own (k := 2) rfl) hx64 rfl) <| on 12 <| dy rfl (Yld.idxC (xs := x2) sty_63 rfl rfl (RdH.own (k := 2) rfl) hx66) <| on 13 <| WS.eff0 rfl (Eff0.storeC1 2 (xs := x2) (a' := x64) siz_26 rfl rfl rfl rfl rfl rfl hx67) (sc sn) <| on 14 <| dy rfl (Yld.idxC (xs := x67) sty_63 rfl rfl (RdH.own (k := 2) rfl) hx68) <| on 15 <| WS.eff0 rfl (Eff0.storeC1 2 (xs := x67) (a' := x65) siz_26 rfl rfl rfl rfl rfl rfl hx69) (sc sn) <| WD.done (by kernel_rfl) <| kw (k62 x69 h)
  skip
  refine dy rfl (Yld.idxC (xs := x2) sty_63 rfl rfl (RdH.own (k := 2) rfl) hx65) <| WD.two 6 11 (by kernel_rfl) ?_ ?_
  ·refine dy rfl (Yld.idxC (xs := x2) sty_63 rfl rfl (RdH.own (k := 2) rfl) hx64) <| WD.two 7 11 (by kernel_rfl) ?_ ?_
   ·exact dy rfl (Yld.loadC0 (xs := x2) scal_26 rfl (RdH.own (k := 2) rfl) hx64 rfl) <| on 11 <| dy rfl (Yld.loadC0 (xs := x2) scal_26 rfl (RdH.own (k := 2) rfl) hx65 rfl) <| on 12 <| dy rfl (Yld.idxC (xs := x2) sty_63 rfl rfl (RdH.own (k := 2) rfl) hx66) <| on 13 <| WS.eff0 rfl (Eff0.storeC1 2 (xs := x2) (a' := x64) siz_26 rfl rfl rfl rfl rfl rfl hx67) (sc sn) <| on 14 <| dy rfl (Yld.idxC (xs := x67) sty_63 rfl rfl (RdH.own (k := 2) rfl) hx68) <| on 15 <| WS.eff0 rfl (Eff0.storeC1 2 (xs := x67) (a' := x65) siz_26 rfl rfl rfl rfl rfl rfl hx69) (sc sn) <| WD.done (by kernel_rfl) <| kw (k62 x69 h)
   skip
   exact dy rfl (Yld.loadC0 (xs := x2) scal_26 rfl (RdH.own (k := 2) rfl) hx65 rfl) <| on 7 <| dy rfl (Yld.loadC0 (xs := x2) scal_26 rfl (RdH.own (k := 2) rfl) hx64 rfl) <| on 12 <| dy rfl (Yld.idxC (xs := x2) sty_63 rfl rfl (RdH.own (k := 2) rfl) hx66) <| on 13 <| WS.eff0 rfl (Eff0.storeC1 2 (xs := x2) (a' := x64) siz_26 rfl rfl rfl rfl rfl rfl hx67) (sc sn) <| on 14 <| dy rfl (Yld.idxC (xs := x67) sty_63 rfl rfl (RdH.own (k := 2) rfl) hx68) <| on 15 <| WS.eff0 rfl (Eff0.storeC1 2 (xs := x67) (a' := x65) siz_26 rfl rfl rfl rfl rfl rfl hx69) (sc sn) <| WD.done (by kernel_rfl) <| kw (k62 x69 h)
  skip
  exact dy rfl (Yld.loadC0 (xs := x2) scal_26 rfl (RdH.own (k := 2) rfl) hx65 rfl) <| on 6 <| dy rfl (Yld.idxC (xs := x2) sty_63 rfl rfl (RdH.own (k := 2) rfl) hx64) <| on 7 <| dy rfl (Yld.loadC0 (xs := x2) scal_26 rfl (RdH.own (k := 2) rfl) hx64 rfl) <| on 12 <| dy rfl (Yld.idxC (xs := x2) sty_63 rfl rfl (RdH.own (k := 2) rfl) hx66) <| on 13 <| WS.eff0 rfl (Eff0.storeC1 2 (xs := x2) (a' := x64) siz_26 rfl rfl rfl rfl rfl rfl hx67) (sc sn) <| on 14 <| dy rfl (Yld.idxC (xs := x67) sty_63 rfl rfl (RdH.own (k := 2) rfl) hx68) <| on 15 <| WS.eff0 rfl (Eff0.storeC1 2 (xs := x67) (a' := x65) siz_26 rfl rfl rfl rfl rfl rfl hx69) (sc sn) <| WD.done (by kernel_rfl) <| kw (k62 x69 h)
 rintro x61 h
 unfold m_slices_partitionOrdered_uint64_j5 at h
 refine sr fun _ k70 => ?_
 obtain ⟨x71, hx71, h⟩ := bnd h
 refine mv rfl <| ya (Yld.addC rfl rfl hx71) <| asn rfl <| dn <| k70 _ _ <| sr fun _ k72 => ?_
 obtain ⟨x73, hx73, h⟩ := bnd h
 refine mv rfl <| ya (Yld.subC rfl rfl hx73) <| asn rfl <| dn <| k72 _ _ <| ct (σ := (List (BitVec 64)) × Int) (fun ⟨x74, x75⟩ => [(0, .slice A n c), (1, I64 x01), (11, I64 x75)]) (fun ⟨x74, x75⟩ => [(1, e0), (2, .own 26 (Lay.sz (BitVec 64)) A n c (cel x74))]) (fun ⟨x74, x75⟩ => m_slices_partitionOrdered_uint64_j6 x01 x74 x75 = some res) (fun _ k76 => ?_) ?_
 ·refine bl <| lp (τ := (List (BitVec 64)) × Int × Int) (fun ⟨x77, x78, x79⟩ => [(0, .slice A n c), (1, I64 x01), (10, I64 x78), (11, I64 x79)]) (fun ⟨x77, x78, x79⟩ => [(1, e0), (2, .own 26 (Lay.sz (BitVec 64)) A n c (cel x77))]) (fun q80 ⟨x77, x78, x79⟩ => m_slices_partitionOrdered_uint64_l7 x01 q80 x77 x78 x79 = some res) ⟨x61, x71, x73⟩ ?_ (by simp [m_slices_partitionOrdered_uint64_l7]) ?_
  ·exact h
  rintro q80 ⟨x77, x78, x79⟩ h _ k81
  unfold m_slices_partitionOrdered_uint64_l7 at h
  refine bl <| ct (σ := Int) (fun x82 => [(0, .slice A n c), (1, I64 x01), (10, I64 x82), (11, I64 x79)]) (fun x82 => [(1, e0), (2, .own 26 (Lay.sz (BitVec 64)) A n c (cel x77))]) (fun x82 => m_slices_partitionOrdered_uint64_j8 x01 x77 x79 (m_slices_partitionOrdered_uint64_l7 x01 q80) x82 = some res) (fun _ k83 => ?_) ?_
  ·refine bl <| lp (τ := Int) (fun x84 => [(0, .slice A n c), (1, I64 x01), (10, I64 x84), (11, I64 x79)]) (fun x84 => [(1, e0), (2, .own 26 (Lay.sz (BitVec 64)) A n c (cel x77))]) (fun q85 x84 => m_slices_partitionOrdered_uint64_l9 x01 x77 x79 (m_slices_partitionOrdered_uint64_l7 x01 q80) q85 x84 = some res) (x78) ?_ (by simp [m_slices_partitionOrdered_uint64_l9]) ?_
   ·exact h
   rintro q85 x84 h _ k86
   unfold m_slices_partitionOrdered_uint64_l9 at h
   refine sq fun _ k87 => sd [(1, _), (2, _)] mixed fun _ k88 => ?_
   by_cases hc89 : x84 <= x79
   ·replace h := of_t hc89 h
    obtain ⟨x90, hx90, h⟩ := bnd h
    obtain ⟨x91, hx91, h⟩ := bnd h
    obtain ⟨x92, hx92, h⟩ := bnd h
    refine dm 0 rfl rfl <| dm 1 rfl rfl <| du 2 rfl (Yld.leq rfl rfl) <| dm 3 rfl rfl <| WD.new (v' := .bool true) (congrArg Value.bool (decide_eq_true hc89)) <| dv 4 rfl (Yld.move rfl) <| dv 5 rfl (Yld.move rfl) <| dv 6 rfl (Yld.idxC (xs := x77) sty_63 rfl rfl (RdH.own (k := 2) rfl) hx90) <| dv 7 rfl (Yld.loadC0 (xs := x77) scal_26 rfl (RdH.own (k := 2) rfl) hx90 rfl) <| dv 8 rfl (Yld.move rfl) <| dv 9 rfl (Yld.move rfl) <| dv 10 rfl (Yld.idxC (xs := x77) sty_63 rfl rfl (RdH.own (k := 2) rfl) hx91) <| dv 11 rfl (Yld.loadC0 (xs := x77) scal_26 rfl (RdH.own (k := 2) rfl) hx91 rfl) <| on 12 <| WS.effG rfl (by decide) rfl (Eff.callS 193 rfl Try.func67 nm_67 rfl rfl (fun w hb hh => w_cmp_Less_uint64 (Mem.snap w) x90 x91 hx92)) ?_
    rintro _ _ ⟨_, ⟨rfl, rfl⟩, rfl⟩
    refine ad ?_ (by repeat (first | exact sn | refine sc ?_))
    refine du 13 rfl (Yld.pickT rfl rfl) <| dd <| k88 _ _ <| cnd h rfl id Bool.eq_false_iff.2 (fun hc94 h => ?_) fun hc94 h => ?_
    ·refine ss <| k87 _ _ <| bl <| rg fun _ k95 => ?_
     obtain ⟨x96, hx96, h⟩ := bnd h
     exact mv rfl <| ya (Yld.addC rfl rfl hx96) <| asn rfl <| dn <| k95 _ _ <| bn <| tn <| kw (k86 (x96) h)
    exact xi <| te <| te <| bx <| tn <| kw (k83 x84 h)
   replace h := of_f hc89 h
   exact dm 0 rfl rfl <| dm 1 rfl rfl <| du 2 rfl (Yld.leq rfl rfl) <| dm 3 rfl rfl <| WD.new (v' := .bool false) (congrArg Value.bool (decide_eq_false hc89)) <| dw 4 rfl <| dw 5 rfl <| dw 6 rfl <| dw 7 rfl <| dw 8 rfl <| dw 9 rfl <| dw 10 rfl <| dw 11 rfl <| dw 12 rfl <| du 13 rfl (Yld.pickF rfl rfl) <| dd <| k88 _ _ <| cdF rfl <| xi <| te <| te <| bx <| tn <| kw (k83 x84 h)
  rintro x82 h
  unfold m_slices_partitionOrdered_uint64_j8 at h
  refine ct (σ := Int) (fun x97 => [(0, .slice A n c), (1, I64 x01), (10, I64 x82), (11, I64 x97)]) (fun x97 => [(1, e0), (2, .own 26 (Lay.sz (BitVec 64)) A n c (cel x77))]) (fun x97 => m_slices_partitionOrdered_uint64_j10 x01 x77 x82 (m_slices_partitionOrdered_uint64_l7 x01 q80) x97 = some res) (fun _ k98 => ?_) ?_
  ·refine bl <| lp (τ := Int) (fun x99 => [(0, .slice A n c), (1, I64 x01), (10, I64 x82), (11, I64 x99)]) (fun x99 => [(1, e0), (2, .own 26 (Lay.sz (BitVec 64)) A n c (cel x77))]) (fun q100 x99 => m_slices_partitionOrdered_uint64_l11 x01 x77 x82 (m_slices_partitionOrdered_uint64_l7 x01 q80) q100 x99 = some res) (x79) ?_ (by simp [m_slices_partitionOrdered_uint64_l11]) ?_
   ·exact h
   rintro q100 x99 h _ k101
   unfold m_slices_partitionOrdered_uint64_l11 at h
   refine sq fun _ k102 => sd [(1, _), (2, _)] mixed fun _ k103 => ?_
   by_cases hc104 : x82 <= x99
   ·replace h := of_t hc104 h
    obtain ⟨x105, hx105, h⟩ := bnd h
    obtain ⟨x106, hx106, h⟩ := bnd h
    obtain ⟨x107, hx107, h⟩ := bnd h
    refine dm 0 rfl rfl <| dm 1 rfl rfl <| du 2 rfl (Yld.leq rfl rfl) <| dm 3 rfl rfl <| WD.new (v' := .bool true) (congrArg Value.bool (decide_eq_true hc104)) <| dv 4 rfl (Yld.move rfl) <| dv 5 rfl (Yld.move rfl) <| dv 6 rfl (Yld.idxC (xs := x77) sty_63 rfl rfl (RdH.own (k := 2) rfl) hx105) <| dv 7 rfl (Yld.loadC0 (xs := x77) scal_26 rfl (RdH.own (k := 2) rfl) hx105 rfl) <| dv 8 rfl (Yld.move rfl) <| dv 9 rfl (Yld.move rfl) <| dv 10 rfl (Yld.idxC (xs := x77) sty_63 rfl rfl (RdH.own (k := 2) rfl) hx106) <| dv 11 rfl (Yld.loadC0 (xs := x77) scal_26 rfl (RdH.own (k := 2) rfl) hx106 rfl) <| on 12 <| WS.effG rfl (by decide) rfl (Eff.callS 208 rfl Try.func67 nm_67 rfl rfl (fun w hb hh => w_cmp_Less_uint64 (Mem.snap w) x105 x106 hx107)) ?_
    rintro _ _ ⟨_, ⟨rfl, rfl⟩, rfl⟩
    refine ad ?_ (by repeat (first | exact sn | refine sc ?_))
    refine dv 13 rfl (Yld.notB rfl) <| du 14 rfl (Yld.pickT rfl rfl) <| dd <| k103 _ _ <| cnn h rfl not_f (fun q => not_t (Bool.eq_false_iff.2 q)) (fun hc109 h => ?_) fun hc109 h => ?_
    ·exact xi <| te <| te <| bx <| tn <| kw (k98 x99 h)
    refine ss <| k102 _ _ <| bl <| rg fun _ k110 => ?_
    obtain ⟨x111, hx111, h⟩ := bnd h
    exact mv rfl <| ya (Yld.subC rfl rfl hx111) <| asn rfl <| dn <| k110 _ _ <| bn <| tn <| kw (k101 (x111) h)
   replace h := of_f hc104 h
   exact dm 0 rfl rfl <| dm 1 rfl rfl <| du 2 rfl (Yld.leq rfl rfl) <| dm 3 rfl rfl <| WD.new (v' := .bool false) (congrArg Value.bool (decide_eq_false hc104)) <| dw 4 rfl <| dw 5 rfl <| dw 6 rfl <| dw 7 rfl <| dw 8 rfl <| dw 9 rfl <| dw 10 rfl <| dw 11 rfl <| dw 12 rfl <| dw 13 rfl <| du 14 rfl (Yld.pickF rfl rfl) <| dd <| k103 _ _ <| cdF rfl <| xi <| te <| te <| bx <| tn <| kw (k98 x99 h)
  rintro x97 h
  unfold m_slices_partitionOrdered_uint64_j10 at h
  refine sq fun _ k112 => sr fun _ k113 => mv rfl <| mv rfl <| ya (Yld.gtr rfl rfl) <| dn <| k113 _ _ <| cnd h rfl decide_eq_true decide_eq_false (fun hc114 h => ?_) fun hc114 h => ?_
  ·exact xi <| te <| bo <| te <| bx <| tn <| kw (k76 ⟨x77, x97⟩ h)
  refine ss <| k112 _ _ <| sd [(1, _)] mixed fun _ k115 => ?_
  obtain ⟨x116, hx116, h⟩ := bnd h
  obtain ⟨x117, hx117, h⟩ := bnd h
  obtain ⟨x118, hx118, h⟩ := bnd h
  obtain ⟨x119, hx119, h⟩ := bnd h
  obtain ⟨x120, hx120, h⟩ := bnd h
  obtain ⟨x121, hx121, h⟩ := bnd h
  refine dm 0 rfl rfl <| dm 1 rfl rfl <| dm 2 rfl rfl <| dm 3 rfl rfl <| dm 4 rfl rfl <| dm 5 rfl rfl <| dm 8 rfl rfl <| dm 9 rfl rfl <| WD.two 6 10 (by kernel_rfl) ?_ ?_
  ·refine dy rfl (Yld.idxC (xs := x77) sty_63 rfl rfl (RdH.own (k := 2) rfl) hx116) <| WD.two 7 10 (by kernel_rfl) ?_ ?_
   ·refine dy rfl (Yld.loadC0 (xs := x77) scal_26 rfl (RdH.own (k := 2) rfl) hx116 rfl) <| on 10 <| dy rfl (Yld.idxC (xs := x77) sty_63 rfl rfl (RdH.own (k := 2) rfl) hx117) <| on 11 <| dy rfl (Yld.loadC0 (xs := x77) scal_26 rfl (RdH.own (k := 2) rfl) hx117 rfl) <| on 12 <| dy rfl (Yld.idxC (xs := x77) sty_63 rfl rfl (RdH.own (k := 2) rfl) hx118) <| on 13 <| WS.eff0 rfl (Eff0.storeC1 2 (xs := x77) (a' := x116) siz_26 rfl rfl rfl rfl rfl rfl hx119) (sc sn) <| on 14 <| dy rfl (Yld.idxC (xs := x119) sty_63 rfl rfl (RdH.own (k := 2) rfl) hx120) <| on 15 <| WS.eff0 rfl (Eff0.storeC1 2 (xs := x119) (a' := x117) siz_26 rfl rfl rfl rfl rfl rfl hx121) (sc sn) <| dd <| k115 _ _ <| sr fun _ k122 => ?_
    obtain ⟨x123, hx123, h⟩ := bnd h
    refine mv rfl <| ya (Yld.addC rfl rfl hx123) <| asn rfl <| dn <| k122 _ _ <| rg fun _ k124 => ?_
    obtain ⟨x125, hx125, h⟩ := bnd h
    exact mv rfl <| ya (Yld.subC rfl rfl hx125) <| asn rfl <| dn <| k124 _ _ <| bn <| tn <| kw (k81 ⟨x121, x123, x125⟩ h)
   skip
   refine dy rfl (Yld.idxC (xs := x77) sty_63 rfl rfl (RdH.own (k := 2) rfl) hx117) <| WD.two 7 11 (by kernel_rfl) ?_ ?_
   ·refine dy rfl (Yld.loadC0 (xs := x77) scal_26 rfl (RdH.own (k := 2) rfl) hx116 rfl) <| on 11 <| dy rfl (Yld.loadC0 (xs := x77) scal_26 rfl (RdH.own (k := 2) rfl) hx117 rfl) <| on 12 <| dy rfl (Yld.idxC (xs := x77) sty_63 rfl rfl (RdH.own (k := 2) rfl) hx118) <| on 13 <| WS.eff0 rfl (Eff0.storeC1 2 (xs := x77) (a' := x116) siz_26 rfl rfl rfl rfl rfl rfl hx119) (sc sn) <| on 14 <| dy rfl (Yld.idxC (xs := x119) sty_63 rfl rfl (RdH.own (k := 2) rfl) hx120) <| on 15 <| WS.eff0 rfl (Eff0.storeC1 2 (xs := x119) (a' := x117) siz_26 rfl rfl rfl rfl rfl rfl hx121) (sc sn) <| dd <| k115 _ _ <| sr fun _ k126 => ?_
    obtain ⟨x127, hx127, h⟩ := bnd h
    refine mv rfl <| ya (Yld.addC rfl rfl hx127) <| asn rfl <| dn <| k126 _ _ <| rg fun _ k128 => ?_
    obtain ⟨x129, hx129, h⟩ := bnd h
    exact mv rfl <| ya (Yld.subC rfl rfl hx129) <| asn rfl <| dn <| k128 _ _ <| bn <| tn <| kw (k81 ⟨x121, x127, x129⟩ h)
   skip
   refine dy rfl (Yld.loadC0 (xs := x77) scal_26 rfl (RdH.own (k := 2) rfl) hx117 rfl) <| on 7 <| dy rfl (Yld.loadC0 (xs := x77) scal_26 rfl (RdH.own (k := 2) rfl) hx116 rfl) <| on 12 <| dy rfl (Yld.idxC (xs := x77) sty_63 rfl rfl (RdH.own (k := 2) rfl) hx118) <| on 13 <| WS.eff0 rfl (Eff0.storeC1 2 (xs := x77) (a' := x116) siz_26 rfl rfl rfl rfl rfl rfl hx119) (sc sn) <| on 14 <| dy rfl (Yld.idxC (xs := x119) sty_63 rfl rfl (RdH.own (k := 2) rfl) hx120) <| on 15 <| WS.eff0 rfl (Eff0.storeC1 2 (xs := x119) (a' := x117) siz_26 rfl rfl rfl rfl rfl rfl hx121) (sc sn) <| dd <| k115 _ _ <| sr fun _ k130 => ?_
   obtain ⟨x131, hx131, h⟩ := bnd h
   refine mv rfl <| ya (Yld.addC rfl rfl hx131) <| asn rfl <| dn <| k130 _ _ <| rg fun _ k132 => ?_
   obtain ⟨x133, hx133, h⟩ := bnd h
   exact mv rfl <| ya (Yld.subC rfl rfl hx133) <| asn rfl <| dn <| k132 _ _ <| bn <| tn <| kw (k81 ⟨x121, x131, x133⟩ h)
  skip
  refine dy rfl (Yld.idxC (xs := x77) sty_63 rfl rfl (RdH.own (k := 2) rfl) hx117) <| WD.two 6 11 (by kernel_rfl) ?_ ?_
  ·refine dy rfl (Yld.idxC (xs := x77) sty_63 rfl rfl (RdH.own (k := 2) rfl) hx116) <| WD.two 7 11 (by kernel_rfl) ?_ ?_
   ·refine dy rfl (Yld.loadC0 (xs := x77) scal_26 rfl (RdH.own (k := 2) rfl) hx116 rfl) <| on 11 <| dy rfl (Yld.loadC0 (xs := x77) scal_26 rfl (RdH.own (k := 2) rfl) hx117 rfl) <| on 12 <| dy rfl (Yld.idxC (xs := x77) sty_63 rfl rfl (RdH.own (k := 2) rfl) hx118) <| on 13 <| WS.eff0 rfl (Eff0.storeC1 2 (xs := x77) (a' := x116) siz_26 rfl rfl rfl rfl rfl rfl hx119) (sc sn) <| on 14 <| dy rfl (Yld.idxC (xs := x119) sty_63 rfl rfl (RdH.own (k := 2) rfl) hx120) <| on 15 <| WS.eff0 rfl (Eff0.storeC1 2 (xs := x119) (a' := x117) siz_26 rfl rfl rfl rfl rfl rfl hx121) (sc sn) <| dd <| k115 _ _ <| sr fun _ k134 => ?_
    obtain ⟨x135, hx135, h⟩ := bnd h
    refine mv rfl <| ya (Yld.addC rfl rfl hx135) <| asn rfl <| dn <| k134 _ _ <| rg fun _ k136 => ?_
    obtain ⟨x137, hx137, h⟩ := bnd h
    exact mv rfl <| ya (Yld.subC rfl rfl hx137) <| asn rfl <| dn <| k136 _ _ <| bn <| tn <| kw (k81 ⟨x121, x135, x137⟩ h)
   skip
   refine dy rfl (Yld.loadC0 (xs := x77) scal_26 rfl (RdH.own (k := 2) rfl) hx117 rfl) <| on 7 <| dy rfl (Yld.loadC0 (xs := x77) scal_26 rfl (RdH.own (k := 2) rfl) hx116 rfl) <| on 12 <| dy rfl (Yld.idxC (xs := x77) sty_63 rfl rfl (RdH.own (k := 2) rfl) hx118) <| on 13 <| WS.eff0 rfl (Eff0.storeC1 2 (xs := x77) (a' := x116) siz_26 rfl rfl rfl rfl rfl rfl hx119) (sc sn) <| on 14 <| dy rfl (Yld.idxC (xs := x119) sty_63 rfl rfl (RdH.own (k := 2) rfl) hx120) <| on 15 <| WS.eff0 rfl (Eff0.storeC1 2 (xs := x119) (a' := x117) siz_26 rfl rfl rfl rfl rfl rfl hx121) (sc sn) <| dd <| k115 _ _ <| sr fun _ k138 => ?_
   obtain ⟨x139, hx139, h⟩ := bnd h
   refine mv rfl <| ya (Yld.addC rfl rfl hx139) <| asn rfl <| dn <| k138 _ _ <| rg fun _ k140 => ?_
   obtain ⟨x141, hx141, h⟩ := bnd h
   exact mv rfl <| ya (Yld.subC rfl rfl hx141) <| asn rfl <| dn <| k140 _ _ <| bn <| tn <| kw (k81 ⟨x121, x139, x141⟩ h)
  skip
  refine dy rfl (Yld.loadC0 (xs := x77) scal_26 rfl (RdH.own (k := 2) rfl) hx117 rfl) <| on 6 <| dy rfl (Yld.idxC (xs := x77) sty_63 rfl rfl (RdH.own (k := 2) rfl) hx116) <| on 7 <| dy rfl (Yld.loadC0 (xs := x77) scal_26 rfl (RdH.own (k := 2) rfl) hx116 rfl) <| on 12 <| dy rfl (Yld.idxC (xs := x77) sty_63 rfl rfl (RdH.own (k := 2) rfl) hx118) <| on 13 <| WS.eff0 rfl (Eff0.storeC1 2 (xs := x77) (a' := x116) siz_26 rfl rfl rfl rfl rfl rfl hx119) (sc sn) <| on 14 <| dy rfl (Yld.idxC (xs := x119) sty_63 rfl rfl (RdH.own (k := 2) rfl) hx120) <| on 15 <| WS.eff0 rfl (Eff0.storeC1 2 (xs := x119) (a' := x117) siz_26 rfl rfl rfl rfl rfl rfl hx121) (sc sn) <| dd <| k115 _ _ <| sr fun _ k142 => ?_
  obtain ⟨x143, hx143, h⟩ := bnd h
  refine mv rfl <| ya (Yld.addC rfl rfl hx143) <| asn rfl <| dn <| k142 _ _ <| rg fun _ k144 => ?_
  obtain ⟨x145, hx145, h⟩ := bnd h
  exact mv rfl <| ya (Yld.subC rfl rfl hx145) <| asn rfl <| dn <| k144 _ _ <| bn <| tn <| kw (k81 ⟨x121, x143, x145⟩ h)
 rintro ⟨x74, x75⟩ h
 unfold m_slices_partitionOrdered_uint64_j6 at h
 refine sd [(1, _)] mixed fun _ k146 => ?_
 obtain ⟨x147, hx147, h⟩ := bnd h
 obtain ⟨x148, hx148, h⟩ := bnd h
 obtain ⟨x149, hx149, h⟩ := bnd h
 obtain ⟨x150, hx150, h⟩ := bnd h
 obtain ⟨x151, hx151, h⟩ := bnd h
 obtain ⟨x152, hx152, h⟩ := bnd h
 refine dm 0 rfl rfl <| dm 1 rfl rfl <| dm 2 rfl rfl <| dm 3 rfl rfl <| dm 4 rfl rfl <| dm 5 rfl rfl <| dm 8 rfl rfl <| dm 9 rfl rfl <| WD.two 6 10 (by kernel_rfl) ?_ ?_
 ·refine dy rfl (Yld.idxC (xs := x74) sty_63 rfl rfl (RdH.own (k := 2) rfl) hx147) <| WD.two 7 10 (by kernel_rfl) ?_ ?_
  ·refine dy rfl (Yld.loadC0 (xs := x74) scal_26 rfl (RdH.own (k := 2) rfl) hx147 rfl) <| on 10 <| dy rfl (Yld.idxC (xs := x74) sty_63 rfl rfl (RdH.own (k := 2) rfl) hx148) <| on 11 <| dy rfl (Yld.loadC0 (xs := x74) scal_26 rfl (RdH.own (k := 2) rfl) hx148 rfl) <| on 12 <| dy rfl (Yld.idxC (xs := x74) sty_63 rfl rfl (RdH.own (k := 2) rfl) hx149) <| on 13 <| WS.eff0 rfl (Eff0.storeC1 2 (xs := x74) (a' := x147) siz_26 rfl rfl rfl rfl rfl rfl hx150) (sc sn) <| on 14 <| dy rfl (Yld.idxC (xs := x150) sty_63 rfl rfl (RdH.own (k := 2) rfl) hx151) <| on 15 <| WS.eff0 rfl (Eff0.storeC1 2 (xs := x150) (a' := x148) siz_26 rfl rfl rfl rfl rfl rfl hx152) (sc sn) <| dd <| k146 _ _ <| sr fun _ k153 => mv rfl <| asn rfl <| asn rfl <| dn <| k153 _ _ <| re ?_
   injection h with h; subst h
   exact Ret.mut (ResIs.two rfl rfl rfl) (sc (sc sn)) ⟨rfl, rfl⟩
  skip
  refine dy rfl (Yld.idxC (xs := x74) sty_63 rfl rfl (RdH.own (k := 2) rfl) hx148) <| WD.two 7 11 (by kernel_rfl) ?_ ?_
  ·refine dy rfl (Yld.loadC0 (xs := x74) scal_26 rfl (RdH.own (k := 2) rfl) hx147 rfl) <| on 11 <| dy rfl (Yld.loadC0 (xs := x74) scal_26 rfl (RdH.own (k := 2) rfl) hx148 rfl) <| on 12 <| dy rfl (Yld.idxC (xs := x74) sty_63 rfl rfl (RdH.own (k := 2) rfl) hx149) <| on 13 <| WS.eff0 rfl (Eff0.storeC1 2 (xs := x74) (a' := x147) siz_26 rfl rfl rfl rfl rfl rfl hx150) (sc sn) <| on 14 <| dy rfl (Yld.idxC (xs := x150) sty_63 rfl rfl (RdH.own (k := 2) rfl) hx151) <| on 15 <| WS.eff0 rfl (Eff0.storeC1 2 (xs := x150) (a' := x148) siz_26 rfl rfl rfl rfl rfl rfl hx152) (sc sn) <| dd <| k146 _ _ <| sr fun _ k154 => mv rfl <| asn rfl <| asn rfl <| dn <| k154 _ _ <| re ?_
   injection h with h; subst h
   exact Ret.mut (ResIs.two rfl rfl rfl) (sc (sc sn)) ⟨rfl, rfl⟩
  skip
  refine dy rfl (Yld.loadC0 (xs := x74) scal_26 rfl (RdH.own (k := 2) rfl) hx148 rfl) <| on 7 <| dy rfl (Yld.loadC0 (xs := x74) scal_26 rfl (RdH.own (k := 2) rfl) hx147 rfl) <| on 12 <| dy rfl (Yld.idxC (xs := x74) sty_63 rfl rfl (RdH.own (k := 2) rfl) hx149) <| on 13 <| WS.eff0 rfl (Eff0.storeC1 2 (xs := x74) (a' := x147) siz_26 rfl rfl rfl rfl rfl rfl hx150) (sc sn) <| on 14 <| dy rfl (Yld.idxC (xs := x150) sty_63 rfl rfl (RdH.own (k := 2) rfl) hx151) <| on 15 <| WS.eff0 rfl (Eff0.storeC1 2 (xs := x150) (a' := x148) siz_26 rfl rfl rfl rfl rfl rfl hx152) (sc sn) <| dd <| k146 _ _ <| sr fun _ k155 => mv rfl <| asn rfl <| asn rfl <| dn <| k155 _ _ <| re ?_
  injection h with h; subst h
  exact Ret.mut (ResIs.two rfl rfl rfl) (sc (sc sn)) ⟨rfl, rfl⟩
 skip
 refine dy rfl (Yld.idxC (xs := x74) sty_63 rfl rfl (RdH.own (k := 2) rfl) hx148) <| WD.two 6 11 (by kernel_rfl) ?_ ?_
 ·refine dy rfl (Yld.idxC (xs := x74) sty_63 rfl rfl (RdH.own (k := 2) rfl) hx147) <| WD.two 7 11 (by kernel_rfl) ?_ ?_
  ·refine dy rfl (Yld.loadC0 (xs := x74) scal_26 rfl (RdH.own (k := 2) rfl) hx147 rfl) <| on 11 <| dy rfl (Yld.loadC0 (xs := x74) scal_26 rfl (RdH.own (k := 2) rfl) hx148 rfl) <| on 12 <| dy rfl (Yld.idxC (xs := x74) sty_63 rfl rfl (RdH.own (k := 2) rfl) hx149) <| on 13 <| WS.eff0 rfl (Eff0.storeC1 2 (xs := x74) (a' := x147) siz_26 rfl rfl rfl rfl rfl rfl hx150) (sc sn) <| on 14 <| dy rfl (Yld.idxC (xs := x150) sty_63 rfl rfl (RdH.own (k := 2) rfl) hx151) <| on 15 <| WS.eff0 rfl (Eff0.storeC1 2 (xs := x150) (a' := x148) siz_26 rfl rfl rfl rfl rfl rfl hx152) (sc sn) <| dd <| k146 _ _ <| sr fun _ k156 => mv rfl <| asn rfl <| asn rfl <| dn <| k156 _ _ <| re ?_
   injection h with h; subst h
   exact Ret.mut (ResIs.two rfl rfl rfl) (sc (sc sn)) ⟨rfl, rfl⟩
  skip
  refine dy rfl (Yld.loadC0 (xs := x74) scal_26 rfl (RdH.own (k := 2) rfl) hx148 rfl) <| on 7 <| dy rfl (Yld.loadC0 (xs := x74) scal_26 rfl (RdH.own (k := 2) rfl) hx147 rfl) <| on 12 <| dy rfl (Yld.idxC (xs := x74) sty_63 rfl rfl (RdH.own (k := 2) rfl) hx149) <| on 13 <| WS.eff0 rfl (Eff0.storeC1 2 (xs := x74) (a' := x147) siz_26 rfl rfl rfl rfl rfl rfl hx150) (sc sn) <| on 14 <| dy rfl (Yld.idxC (xs := x150) sty_63 rfl rfl (RdH.own (k := 2) rfl) hx151) <| on 15 <| WS.eff0 rfl (Eff0.storeC1 2 (xs := x150) (a' := x148) siz_26 rfl rfl rfl rfl rfl rfl hx152) (sc sn) <| dd <| k146 _ _ <| sr fun _ k157 => mv rfl <| asn rfl <| asn rfl <| dn <| k157 _ _ <| re ?_
  injection h with h; subst h
  exact Ret.mut (ResIs.two rfl rfl rfl) (sc (sc sn)) ⟨rfl, rfl⟩
 skip
 refine dy rfl (Yld.loadC0 (xs := x74) scal_26 rfl (RdH.own (k := 2) rfl) hx148 rfl) <| on 6 <| dy rfl (Yld.idxC (xs := x74) sty_63 rfl rfl (RdH.own (k := 2) rfl) hx147) <| on 7 <| dy rfl (Yld.loadC0 (xs := x74) scal_26 rfl (RdH.own (k := 2) rfl) hx147 rfl) <| on 12 <| dy rfl (Yld.idxC (xs := x74) sty_63 rfl rfl (RdH.own (k := 2) rfl) hx149) <| on 13 <| WS.eff0 rfl (Eff0.storeC1 2 (xs := x74) (a' := x147) siz_26 rfl rfl rfl rfl rfl rfl hx150) (sc sn) <| on 14 <| dy rfl (Yld.idxC (xs := x150) sty_63 rfl rfl (RdH.own (k := 2) rfl) hx151) <| on 15 <| WS.eff0 rfl (Eff0.storeC1 2 (xs := x150) (a' := x148) siz_26 rfl rfl rfl rfl rfl rfl hx152) (sc sn) <| dd <| k146 _ _ <| sr fun _ k158 => mv rfl <| asn rfl <| asn rfl <| dn <| k158 _ _ <| re ?_
 injection h with h; subst h
 exact Ret.mut (ResIs.two rfl rfl rfl) (sc (sc sn)) ⟨rfl, rfl⟩
theorem w_slices_reverseRangeOrdered_uint64 (A : Option Addr) (n c : Nat) (x0c : List (BitVec 64)) (x01 x02 : Int) {res : List (BitVec 64)} (h : m_slices_reverseRangeOrdered_uint64 x0c x01 x02 = some res) :
  Mut Try.prog 65 #[.slice A n c, I64 x01, I64 x02] 26 (Lay.sz (BitVec 64)) A n c (cel x0c) fun r ds => r = .tuple #[] /\ ds = cel res := by
 refine Mut.intro (N := 32) Try.func65 rfl rfl (Nat.le_of_ble_eq_true rfl) fun w0 e0 => ?_
 unfold m_slices_reverseRangeOrdered_uint64 at h
 refine sr fun _ k1 => mv rfl <| asn rfl <| dn <| k1 _ _ <| sr fun _ k2 => ?_
 obtain ⟨x3, hx3, h⟩ := bnd h
 refine mv rfl <| ya (Yld.subC rfl rfl hx3) <| asn rfl <| dn <| k2 _ _ <| bl <| lp (τ := (List (BitVec 64)) × Int × Int) (fun ⟨x4, x5, x6⟩ => [(0, .slice A n c), (6, I64 x5), (7, I64 x6)]) (fun ⟨x4, x5, x6⟩ => [(1, e0), (2, .own 26 (Lay.sz (BitVec 64)) A n c (cel x4))]) (fun q7 ⟨x4, x5, x6⟩ => m_slices_reverseRangeOrdered_uint64_l0 q7 x4 x5 x6 = some res) ⟨x0c, x01, x3⟩ ?_ (by simp [m_slices_reverseRangeOrdered_uint64_l0]) ?_
 ·exact h
 rintro q7 ⟨x4, x5, x6⟩ h _ k8
 unfold m_slices_reverseRangeOrdered_uint64_l0 at h
 refine sq fun _ k9 => sr fun _ k10 => mv rfl <| mv rfl <| ya (Yld.lss rfl rfl) <| dn <| k10 _ _ <| cnd h rfl decide_eq_true decide_eq_false (fun hc11 h => ?_) fun hc11 h => ?_
 ·refine ss <| k9 _ _ <| bl <| sd [(1, _)] mixed fun _ k12 => ?_
  obtain ⟨x13, hx13, h⟩ := bnd h
  obtain ⟨x14, hx14, h⟩ := bnd h
  obtain ⟨x15, hx15, h⟩ := bnd h
  obtain ⟨x16, hx16, h⟩ := bnd h
  obtain ⟨x17, hx17, h⟩ := bnd h
  obtain ⟨x18, hx18, h⟩ := bnd h
  refine dm 0 rfl rfl <| dm 1 rfl rfl <| dm 2 rfl rfl <| dm 3 rfl rfl <| dm 4 rfl rfl <| dm 5 rfl rfl <| dm 8 rfl rfl <| dm 9 rfl rfl <| WD.two 6 10 (by kernel_rfl) ?_ ?_
  ·refine dy rfl (Yld.idxC (xs := x4) sty_63 rfl rfl (RdH.own (k := 2) rfl) hx13) <| WD.two 7 10 (by kernel_rfl) ?_ ?_
   ·refine dy rfl (Yld.loadC0 (xs := x4) scal_26 rfl (RdH.own (k := 2) rfl) hx13 rfl) <| on 10 <| dy rfl (Yld.idxC (xs := x4) sty_63 rfl rfl (RdH.own (k := 2) rfl) hx14) <| on 11 <| dy rfl (Yld.loadC0 (xs := x4) scal_26 rfl (RdH.own (k := 2) rfl) hx14 rfl) <| on 12 <| dy rfl (Yld.idxC (xs := x4) sty_63 rfl rfl (RdH.own (k := 2) rfl) hx15) <| on 13 <| WS.eff0 rfl (Eff0.storeC1 2 (xs := x4) (a' := x13) siz_26 rfl rfl rfl rfl rfl rfl hx16) (sc sn) <| on 14 <| dy rfl (Yld.idxC (xs := x16) sty_63 rfl rfl (RdH.own (k := 2) rfl) hx17) <| on 15 <| WS.eff0 rfl (Eff0.storeC1 2 (xs := x16) (a' := x14) siz_26 rfl rfl rfl rfl rfl rfl hx18) (sc sn) <| dd <| k12 _ _ <| sr fun _ k19 => ?_
    obtain ⟨x20, hx20, h⟩ := bnd h
    refine mv rfl <| ya (Yld.addC rfl rfl hx20) <| asn rfl <| dn <| k19 _ _ <| rg fun _ k21 => ?_
    obtain ⟨x22, hx22, h⟩ := bnd h
    exact mv rfl <| ya (Yld.subC rfl rfl hx22) <| asn rfl <| dn <| k21 _ _ <| bn <| tn <| kw (k8 ⟨x18, x20, x22⟩ h)
   skip
   refine dy rfl (Yld.idxC (xs := x4) sty_63 rfl rfl (RdH.own (k := 2) rfl) hx14) <| WD.two 7 11 (by kernel_rfl) ?_ ?_
   ·refine dy rfl (Yld.loadC0 (xs := x4) scal_26 rfl (RdH.own (k := 2) rfl) hx13 rfl) <| on 11 <| dy rfl (Yld.loadC0 (xs := x4) scal_26 rfl (RdH.own (k := 2) rfl) hx14 rfl) <| on 12 <| dy rfl (Yld.idxC (xs := x4) sty_63 rfl rfl (RdH.own (k := 2) rfl) hx15) <| on 13 <| WS.eff0 rfl (Eff0.storeC1 2 (xs := x4) (a' := x13) siz_26 rfl rfl rfl rfl rfl rfl hx16) (sc sn) <| on 14 <| dy rfl (Yld.idxC (xs := x16) sty_63 rfl rfl (RdH.own (k := 2) rfl) hx17) <| on 15 <| WS.eff0 rfl (Eff0.storeC1 2 (xs := x16) (a' := x14) siz_26 rfl rfl rfl rfl rfl rfl hx18) (sc sn) <| dd <| k12 _ _ <| sr fun _ k23 => ?_
    obtain ⟨x24, hx24, h⟩ := bnd h
    refine mv rfl <| ya (Yld.addC rfl rfl hx24) <| asn rfl <| dn <| k23 _ _ <| rg fun _ k25 => ?_
    obtain ⟨x26, hx26, h⟩ := bnd h
    exact mv rfl <| ya (Yld.subC rfl rfl hx26) <| asn rfl <| dn <| k25 _ _ <| bn <| tn <| kw (k8 ⟨x18, x24, x26⟩ h)
   skip
   refine dy rfl (Yld.loadC0 (xs := x4) scal_26 rfl (RdH.own (k := 2) rfl) hx14 rfl) <| on 7 <| dy rfl (Yld.loadC0 (xs := x4) scal_26 rfl (RdH.own (k := 2) rfl) hx13 rfl) <| on 12 <| dy rfl (Yld.idxC (xs := x4) sty_63 rfl rfl (RdH.own (k := 2) rfl) hx15) <| on 13 <| WS.eff0 rfl (Eff0.storeC1 2 (xs := x4) (a' := x13) siz_26 rfl rfl rfl rfl rfl rfl hx16) (sc sn) <| on 14 <| dy rfl (Yld.idxC (xs := x16) sty_63 rfl rfl (RdH.own (k := 2) rfl) hx17) <| on 15 <| WS.eff0 rfl (Eff0.storeC1 2 (xs := x16) (a' := x14) siz_26 rfl rfl rfl rfl rfl rfl hx18) (sc sn) <| dd <| k12 _ _ <| sr fun _ k27 => ?_
   obtain ⟨x28, hx28, h⟩ := bnd h
   refine mv rfl <| ya (Yld.addC rfl rfl hx28) <| asn rfl <| dn <| k27 _ _ <| rg fun _ k29 => ?_
   obtain ⟨x30, hx30, h⟩ := bnd h
   exact mv rfl <| ya (Yld.subC rfl rfl hx30) <| asn rfl <| dn <| k29 _ _ <| bn <| tn <| kw (k8 ⟨x18, x28, x30⟩ h)
  skip
  refine dy rfl (Yld.idxC (xs := x4) sty_63 rfl rfl (RdH.own (k := 2) rfl) hx14) <| WD.two 6 11 (by kernel_rfl) ?_ ?_
  ·refine dy rfl (Yld.idxC (xs := x4) sty_63 rfl rfl (RdH.own (k := 2) rfl) hx13) <| WD.two 7 11 (by kernel_rfl) ?_ ?_
   ·refine dy rfl (Yld.loadC0 (xs := x4) scal_26 rfl (RdH.own (k := 2) rfl) hx13 rfl) <| on 11 <| dy rfl (Yld.loadC0 (xs := x4) scal_26 rfl (RdH.own (k := 2) rfl) hx14 rfl) <| on 12 <| dy rfl (Yld.idxC (xs := x4) sty_63 rfl rfl (RdH.own (k := 2) rfl) hx15) <| on 13 <| WS.eff0 rfl (Eff0.storeC1 2 (xs := x4) (a' := x13) siz_26 rfl rfl rfl rfl rfl rfl hx16) (sc sn) <| on 14 <| dy rfl (Yld.idxC (xs := x16) sty_63 rfl rfl (RdH.own (k := 2) rfl) hx17) <| on 15 <| WS.eff0 rfl (Eff0.storeC1 2 (xs := x16) (a' := x14) siz_26 rfl rfl rfl rfl rfl rfl hx18) (sc sn) <| dd <| k12 _ _ <| sr fun _ k31 => ?_
    obtain ⟨x32, hx32, h⟩ := bnd h
    refine mv rfl <| ya (Yld.addC rfl rfl hx32) <| asn rfl <| dn <| k31 _ _ <| rg fun _ k33 => ?_
    obtain ⟨x34, hx34, h⟩ := bnd h
    exact mv rfl <| ya (Yld.subC rfl rfl hx34) <| asn rfl <| dn <| k33 _ _ <| bn <| tn <| kw (k8 ⟨x18, x32, x34⟩ h)
   skip
   refine dy rfl (Yld.loadC0 (xs := x4) scal_26 rfl (RdH.own (k := 2) rfl) hx14 rfl) <| on 7 <| dy rfl (Yld.loadC0 (xs := x4) scal_26 rfl (RdH.own (k := 2) rfl) hx13 rfl) <| on 12 <| dy rfl (Yld.idxC (xs := x4) sty_63 rfl rfl (RdH.own (k := 2) rfl) hx15) <| on 13 <| WS.eff0 rfl (Eff0.storeC1 2 (xs := x4) (a' := x13) siz_26 rfl rfl rfl rfl rfl rfl hx16) (sc sn) <| on 14 <| dy rfl (Yld.idxC (xs := x16) sty_63 rfl rfl (RdH.own (k := 2) rfl) hx17) <| on 15 <| WS.eff0 rfl (Eff0.storeC1 2 (xs := x16) (a' := x14) siz_26 rfl rfl rfl rfl rfl rfl hx18) (sc sn) <| dd <| k12 _ _ <| sr fun _ k35 => ?_
   obtain ⟨x36, hx36, h⟩ := bnd h
   refine mv rfl <| ya (Yld.addC rfl rfl hx36) <| asn rfl <| dn <| k35 _ _ <| rg fun _ k37 => ?_
   obtain ⟨x38, hx38, h⟩ := bnd h
   exact mv rfl <| ya (Yld.subC rfl rfl hx38) <| asn rfl <| dn <| k37 _ _ <| bn <| tn <| kw (k8 ⟨x18, x36, x38⟩ h)
  skip
  refine dy rfl (Yld.loadC0 (xs := x4) scal_26 rfl (RdH.own (k := 2) rfl) hx14 rfl) <| on 6 <| dy rfl (Yld.idxC (xs := x4) sty_63 rfl rfl (RdH.own (k := 2) rfl) hx13) <| on 7 <| dy rfl (Yld.loadC0 (xs := x4) scal_26 rfl (RdH.own (k := 2) rfl) hx13 rfl) <| on 12 <| dy rfl (Yld.idxC (xs := x4) sty_63 rfl rfl (RdH.own (k := 2) rfl) hx15) <| on 13 <| WS.eff0 rfl (Eff0.storeC1 2 (xs := x4) (a' := x13) siz_26 rfl rfl rfl rfl rfl rfl hx16) (sc sn) <| on 14 <| dy rfl (Yld.idxC (xs := x16) sty_63 rfl rfl (RdH.own (k := 2) rfl) hx17) <| on 15 <| WS.eff0 rfl (Eff0.storeC1 2 (xs := x16) (a' := x14) siz_26 rfl rfl rfl rfl rfl rfl hx18) (sc sn) <| dd <| k12 _ _ <| sr fun _ k39 => ?_
  obtain ⟨x40, hx40, h⟩ := bnd h
  refine mv rfl <| ya (Yld.addC rfl rfl hx40) <| asn rfl <| dn <| k39 _ _ <| rg fun _ k41 => ?_
  obtain ⟨x42, hx42, h⟩ := bnd h
  exact mv rfl <| ya (Yld.subC rfl rfl hx42) <| asn rfl <| dn <| k41 _ _ <| bn <| tn <| kw (k8 ⟨x18, x40, x42⟩ h)
 refine xi <| te <| te <| bx ?_
 injection h with h; subst h
 exact Ret.mut (ResIs.zero rfl) (sc (sc sn)) ⟨rfl, rfl⟩
end Go.Proofs.Ytkcccenekglkoaa
