/- A part of the proof. Conditions: as each theorem says. -/
import Derived.Test.YthjnhlmfcejhkaaGreatWkg
import Derived.Test.YthjnhlmfcejhkaaGreatMdr
namespace Go.Proofs.YthjnhlmfcejhkaaGreat
set_option maxRecDepth 100000
open Go Go.RowKit Yld
set_option linter.unusedVariables false
theorem bu_59_0_1_2_3 : ∀ (a0 : BitVec 64) (a1 : BitVec 32) (a2 : Int) (a3 : Int), Tryz.prog.built 59 [(0, U64 a0), (1, U32 a1), (2, I64 a2), (3, I64 a3)] = some ([U64 a0, U32 a1, I64 a2, I64 a3] : List Value).toArray := fun a0 a1 a2 a3 => by kernel_rfl
theorem nm_39 : (Tryz.f39.name == "runtime.NumGoroutine") = false := by kernel_rfl
theorem zeqs_59 : ∀ (a0 b0 : BitVec 64) (a1 b1 : BitVec 32) (a2 b2 : Int) (a3 b3 : Int), EqA Tryz.prog 59 [U64 a0, U32 a1, I64 a2, I64 a3] [U64 b0, U32 b1, I64 b2, I64 b3] (decide (a0 = b0 /\ a1 = b1 /\ a2 = b2 /\ a3 = b3 /\ True)) := fun a0 b0 a1 b1 a2 b2 a3 b3 => EqA.struct (by kernel_rfl) (by kernel_rfl) (by kernel_rfl) (show (Tryz.prog.fieldsOf 59).toList = _ by simp only [Program.fieldsOf, Tryz.underlying59]; rfl) (EqF.cons (by decide) scal_57 rfl rfl (EqV.bv und_57) (EqF.cons (by decide) scal_31 rfl rfl (EqV.bv und_31) (EqF.cons (by decide) scal_2 rfl rfl (EqV.i64 und_2) (EqF.cons (by decide) scal_3 rfl rfl (EqV.i64 und_3) EqF.nil))))
theorem w_r03_SameRows (M0 : Mem) (A00 : Option Addr) (n00 c00 : Nat) (rs00 : List Hdr) (x00 : List By) (hf00 : SlT M0 A00 n00 c00 rs00) (hq00 : Rels ((RelB (α := BitVec 8)) M0) rs00 x00) (A01 : Option Addr) (n01 c01 : Nat) (rs01 : List Hdr) (x01 : List By) (hf01 : SlT M0 A01 n01 c01 rs01) (hq01 : Rels ((RelB (α := BitVec 8)) M0) rs01 x01) {res : Bool} (h : m_r03_SameRows x00 x01 = some res) :
  Fn Tryz.prog 13 #[.slice A00 n00 c00, .slice A01 n01 c01] M0 fun r M' es => r = .bool res /\ es = [] := by
 refine Fn.intro (N := 28) Tryz.func13 rfl rfl (nle rfl) fun w0 => ?_
 unfold m_r03_SameRows at h
 refine sr fun _ k1 => ak rfl k1 <| sq fun _ k2 => sr fun _ k3 => mv rfl <| ya (lenD (rs := rs00) (xs := x00) (Rels.len hq00) und_30 rfl (mM rfl hf00)) <| mv rfl <| ya (lenD (rs := rs01) (xs := x01) (Rels.len hq01) und_30 rfl (mM rfl hf01)) <| ya (neqI rfl rfl) <| dz k3 <| cnn h rfl bne_eq_false_iff_eq.2 bne_iff_ne.2 (fun hc4 h => ?_) fun hc4 h => ?_
 ·refine ss <| k2 _ _ <| ct (σ := Unit) (fun _ => []) (fun _ => [(0, .mem M0)]) (fun _ => m_r03_SameRows_j0 = some res) (fun _ k5 => ?_) ?_
  ·refine sr fun _ k6 => ak rfl k6 <| bl <| lp (τ := Int) (fun x7 => [(0, .slice A00 n00 c00), (1, .slice A01 n01 c01), (5, I64 x7)]) (fun x7 => [(0, .mem M0)]) (fun q8 x7 => m_r03_SameRows_l1 x00 x01 q8 x7 = some res) ((0 : Int)) ?_ (by simp [m_r03_SameRows_l1]) ?_
   ·exact h
   rintro q8 x7 h _ k9
   unfold m_r03_SameRows_l1 at h
   refine sq fun _ k10 => sr fun _ k11 => mv rfl <| mv rfl <| ya (lenD (rs := rs00) (xs := x00) (Rels.len hq00) und_30 rfl (mM rfl hf00)) <| ya (lss rfl rfl) <| dz k11 <| cI h rfl (fun hc12 h => ?_) fun hc12 h => ?_
   ·refine ss <| k10 _ _ <| sq fun _ k13 => bl <| sd [(0, _)] mixed fun _ k14 => ?_
    obtain ⟨x15, hx15, h⟩ := bnd h
    obtain ⟨x19, hx19, h⟩ := bnd h
    refine dm 0 rfl rfl <| dm 1 rfl rfl ?_
    obtain ⟨r_16, hr17, hq18⟩ := Rels.idx hq00 hx15
    refine du 2 rfl (idxC (xs := rs00) sty_30 rfl rfl (mM rfl hf00) hr17) <| du 3 rfl (loadC0 (xs := rs00) scal_22 rfl (mM rfl hf00) hr17 rfl) <| du 4 rfl (b2sC (xs := x15) und_22 und_5 und_9 rfl (mM rfl hq18)) <| dm 5 rfl rfl <| dm 6 rfl rfl ?_
    obtain ⟨r_20, hr21, hq22⟩ := Rels.idx hq01 hx19
    refine du 7 rfl (idxC (xs := rs01) sty_30 rfl rfl (mM rfl hf01) hr21) <| du 8 rfl (loadC0 (xs := rs01) scal_22 rfl (mM rfl hf01) hr21 rfl) <| du 9 rfl (b2sC (xs := x19) und_22 und_5 und_9 rfl (mM rfl hq22)) <| du 10 rfl (neqStr (a := x15) (b := x19) rfl rfl) <| dd <| k14 _ _ <| cnn h rfl neq_of_eq neq_of_ne (fun hc23 h => ?_) fun hc23 h => ?_
    ·refine WC.skip <| bn <| tn <| k13 _ _ <| rg fun _ k24 => bd h fun x25 hx25 h => mv rfl <| ya (addC rfl rfl hx25) <| ak rfl k24 <| tn <| kw (k9 (x25) h)
    refine sr fun _ k26 => ak rfl k26 <| re <| br <| tr <| tr <| br <| tr ?_
    obtain rfl := si h
    exact rt0 (ResIs.one rfl rfl)
   exact xi <| te <| te <| bx <| tn <| kw (k5 () h)
  rintro _ h
  unfold m_r03_SameRows_j0 at h
  refine sr fun _ k27 => ak rfl k27 <| re ?_
  obtain rfl := si h
  exact rt0 (ResIs.one rfl rfl)
 refine sr fun _ k28 => ak rfl k28 <| re <| tr ?_
 obtain rfl := si h
 exact rt0 (ResIs.one rfl rfl)
theorem w_slices_Clone_api_Item_api_Item (M0 : Mem) (A00 : Option Addr) (n00 c00 : Nat) (x00 : List Sapi_Item) (hf00 : SlT M0 A00 n00 c00 x00) {res : (List Sapi_Item)} (h : m_slices_Clone_api_Item_api_Item x00 = some res) :
  Fn Tryz.prog 35 #[.slice A00 n00 c00] M0 fun r M' es => ∃ (A1 : Option Addr) (n1 c1 : Nat), r = .slice A1 n1 c1 /\ es = [.own 59 (Lay.sz Sapi_Item) A1 n1 c1 (cel res)] := by
 refine Fn.intro (N := 8) Tryz.func35 rfl rfl (nle rfl) fun w0 => ?_
 unfold m_slices_Clone_api_Item_api_Item at h
 refine sr fun _ k1 => ak rfl k1 <| sq fun _ k2 => sr fun _ k3 => mv rfl <| ya (eqlNil und_25 rfl rfl) <| dn <| k3 _ _ ?_
 by_cases hA4 : A00 = none
 ·have hz := nil_of hf00 hA4
  subst hz
  replace h : some ([] : List Sapi_Item) = some res := h
  refine WC.condTe rfl (by rw [hA4]; rfl) <| sr fun _ k5 => ak rfl k5 <| re <| tr <| QK.nilOwn 106 59 (Lay.sz Sapi_Item) none ?_
  obtain rfl := si h
  exact rt [106] (ResIs.one rfl rfl) (Ext.refl _ _) ⟨none, 0, 0, rfl, rfl⟩
 skip
 refine WC.condFe rfl (isNone_ne hA4) <| ss <| k2 _ _ <| sr fun _ k7 => bd h fun x9 hx9 h => WL.eff (by decide) (Eff.buildCA 108 ([] : List Sapi_Item) sty_25 rfl rfl rfl (by decide)) ?_
 rintro _ _ ⟨g8, rfl, rfl⟩
 refine mv rfl <| ap 108 (xs := ([] : List Sapi_Item)) (ys := x00) sty_25 rfl rfl rfl (mM rfl hf00) hx9 fun A10 c11 => ak rfl k7 <| re ?_
 obtain rfl := si h
 exact rt [108] (ResIs.one rfl rfl) (Ext.refl _ _) ⟨A10, x9.length, c11, rfl, rfl⟩
theorem w_r08_Same (M0 : Mem) (A00 : Option Addr) (n00 c00 : Nat) (x00 : List Sapi_Item) (hf00 : SlT M0 A00 n00 c00 x00) (A01 : Option Addr) (n01 c01 : Nat) (x01 : List Sapi_Item) (hf01 : SlT M0 A01 n01 c01 x01) {res : Bool} (h : m_r08_Same x00 x01 = some res) :
  Fn Tryz.prog 43 #[.slice A00 n00 c00, .slice A01 n01 c01] M0 fun r M' es => r = .bool res /\ es = [] := by
 refine Fn.intro (N := 26) Tryz.func43 rfl rfl (nle rfl) fun w0 => ?_
 unfold m_r08_Same at h
 refine sr fun _ k1 => ak rfl k1 <| sq fun _ k2 => sr fun _ k3 => mv rfl <| ya (lenC (xs := x00) und_25 rfl (mM rfl hf00)) <| mv rfl <| ya (lenC (xs := x01) und_25 rfl (mM rfl hf01)) <| ya (neqI rfl rfl) <| dz k3 <| cnn h rfl bne_eq_false_iff_eq.2 bne_iff_ne.2 (fun hc4 h => ?_) fun hc4 h => ?_
 ·refine ss <| k2 _ _ <| ct (σ := Unit) (fun _ => []) (fun _ => [(0, .mem M0)]) (fun _ => m_r08_Same_j0 = some res) (fun _ k5 => ?_) ?_
  ·refine sr fun _ k6 => ak rfl k6 <| bl <| lp (τ := Int) (fun x7 => [(0, .slice A00 n00 c00), (1, .slice A01 n01 c01), (5, I64 x7)]) (fun x7 => [(0, .mem M0)]) (fun q8 x7 => m_r08_Same_l1 x00 x01 q8 x7 = some res) ((0 : Int)) ?_ (by simp [m_r08_Same_l1]) ?_
   ·exact h
   rintro q8 x7 h _ k9
   unfold m_r08_Same_l1 at h
   refine sq fun _ k10 => sr fun _ k11 => mv rfl <| mv rfl <| ya (lenC (xs := x00) und_25 rfl (mM rfl hf00)) <| ya (lss rfl rfl) <| dz k11 <| cI h rfl (fun hc12 h => ?_) fun hc12 h => ?_
   ·refine ss <| k10 _ _ <| sq fun _ k13 => bl <| sd [(0, _)] mixed fun _ k14 => ?_
    obtain ⟨x15, hx15, h⟩ := bnd h
    obtain ⟨x16, hx16, h⟩ := bnd h
    refine dm 0 rfl rfl <| dm 1 rfl rfl <| du 2 rfl (idxC (xs := x00) sty_25 rfl rfl (mM rfl hf00) hx15) <| du 3 rfl (loadA (xs := x00) agg_59 rfl (mM rfl hf00) hx15 rfl) <| dm 4 rfl rfl <| dm 5 rfl rfl <| du 6 rfl (idxC (xs := x01) sty_25 rfl rfl (mM rfl hf01) hx16) <| du 7 rfl (loadA (xs := x01) agg_59 rfl (mM rfl hf01) hx16 rfl) <| du 8 rfl (neqA (zeqs_59 x15.fKey x16.fKey x15.fCookie x16.fCookie x15.fOff x16.fOff x15.fSize x16.fSize) rfl rfl) <| dd <| k14 _ _ <| cnn h rfl (fun q => not_f (decide_eq_true q)) (fun q => not_t (decide_eq_false q)) (fun hc17 h => ?_) fun hc17 h => ?_
    ·refine WC.skip <| bn <| tn <| k13 _ _ <| rg fun _ k18 => bd h fun x19 hx19 h => mv rfl <| ya (addC rfl rfl hx19) <| ak rfl k18 <| tn <| kw (k9 (x19) h)
    refine sr fun _ k20 => ak rfl k20 <| re <| br <| tr <| tr <| br <| tr ?_
    obtain rfl := si h
    exact rt0 (ResIs.one rfl rfl)
   exact xi <| te <| te <| bx <| tn <| kw (k5 () h)
  rintro _ h
  unfold m_r08_Same_j0 at h
  refine sr fun _ k21 => ak rfl k21 <| re ?_
  obtain rfl := si h
  exact rt0 (ResIs.one rfl rfl)
 refine sr fun _ k22 => ak rfl k22 <| re <| tr ?_
 obtain rfl := si h
 exact rt0 (ResIs.one rfl rfl)
end Go.Proofs.YthjnhlmfcejhkaaGreat
