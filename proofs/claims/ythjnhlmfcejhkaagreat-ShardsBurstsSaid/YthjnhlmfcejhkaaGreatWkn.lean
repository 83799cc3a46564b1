/- A part of the proof. Conditions: as each theorem says. -/
import Derived.Test.YthjnhlmfcejhkaaGreatWkg
import Derived.Test.YthjnhlmfcejhkaaGreatMdr
namespace Go.Proofs.YthjnhlmfcejhkaaGreat
set_option maxRecDepth 10000
open Go Go.RowKit Yld
set_option linter.unusedVariables false
theorem bu_59_0_1_2_3 : ∀ (a0 : BitVec 64) (a1 : BitVec 32) (a2 : Int) (a3 : Int), Tryz.prog.built 59 [(0, U64 a0), (1, U32 a1), (2, I64 a2), (3, I64 a3)] = some ([U64 a0, U32 a1, I64 a2, I64 a3] : List Value).toArray := fun a0 a1 a2 a3 => by kernel_rfl
theorem nm_39 : (Tryz.f39.name == "runtime.NumGoroutine") = false := by kernel_rfl
theorem nm_92 : (Tryz.f92.name == "runtime.NumGoroutine") = false := by kernel_rfl
theorem nm_93 : (Tryz.f93.name == "runtime.NumGoroutine") = false := by kernel_rfl
theorem w_slices_Clone_api_Item_api_Item (M0 : Mem) (A00 : Option Addr) (n00 c00 : Nat) (x00 : List Sapi_Item) (hf00 : SlT M0 A00 n00 c00 x00) {res : (List Sapi_Item)} (h : m_slices_Clone_api_Item_api_Item x00 = some res) :
  Fn Tryz.prog 35 #[.slice A00 n00 c00] M0 fun r M' es => ∃ (A1 : Option Addr) (n1 c1 : Nat), r = .slice A1 n1 c1 /\ es = [.own 59 (Lay.sz Sapi_Item) A1 n1 c1 (cel res)] := by
 refine Fn.intro (N := 8) Tryz.func35 rfl rfl (nle rfl) fun w0 => ?_
 unfold m_slices_Clone_api_Item_api_Item at h
 refine sr fun _ k1 => ak rfl k1 <| sq fun _ k2 => sr fun _ k3 => mv rfl <| ya (eqlNil und_25 rfl rfl) <| dn <| k3 _ _ ?_
 by_cases hA4 : A00 = none
 ·have hz := nil_of hf00 hA4
  subst hz
  replace h : some ([] : List Sapi_Item) = some res := h
  refine WC.condTe rfl (by rw [hA4]; rfl) <| sr fun _ k5 => ak rfl k5 <| re <| tr <| QK.nilOwn 106 59 (Lay.sz Sapi_Item) none ?_
  obtain rfl := si h
  exact rt [106] (ResIs.one rfl rfl) (Ext.refl _ _) ⟨none, 0, 0, rfl, rfl⟩
 skip
 refine WC.condFe rfl (isNone_ne hA4) <| ss <| k2 _ _ <| sr fun _ k7 => bd h fun x9 hx9 h => WL.eff (by decide) (Eff.buildCA 108 ([] : List Sapi_Item) sty_25 rfl rfl rfl (by decide)) ?_
 rintro _ _ ⟨g8, rfl, rfl⟩
 refine mv rfl <| ap 108 (xs := ([] : List Sapi_Item)) (ys := x00) sty_25 rfl rfl rfl (mM rfl hf00) hx9 fun A10 c11 => ak rfl k7 <| re ?_
 obtain rfl := si h
 exact rt [108] (ResIs.one rfl rfl) (Ext.refl _ _) ⟨A10, x9.length, c11, rfl, rfl⟩
theorem w_index_sum (M0 : Mem) (A00 : Option Addr) (n00 c00 : Nat) (x00 : By) (hf00 : SlT M0 A00 n00 c00 x00) {res : By} (h : m_index_sum x00 = some res) :
  Fn Tryz.prog 93 #[.slice A00 n00 c00] M0 fun r M' es => ∃ (A1 : Option Addr) (n1 c1 : Nat), r = .slice A1 n1 c1 /\ es = [.own 5 (Lay.sz (BitVec 8)) A1 n1 c1 (cel res)] := by
 refine Fn.intro (N := 18) Tryz.func93 rfl rfl (nle rfl) fun w0 => ?_
 unfold m_index_sum at h
 refine sr fun _ k1 => ak rfl k1 <| sr fun _ k2 => bd h fun x3 hx3 h => mv rfl <| c0 Tryz.func39 rfl (fun w hb hh => w_crc32c_Sum (Mem.snap w) A00 n00 c00 _ (sM rfl hf00 w hb hh) hx3) <| ak rfl k2 <| sr fun _ k5 => mv rfl <| ya (conv_u32_u8 (a := x3) some_31 und_5 rfl) <| mv rfl <| ya (shrU_u32 (a := x3) (m := 8) rfl rfl) <| ya (conv_u32_u8 (a := (x3 >>> 8)) some_31 und_5 rfl) <| mv rfl <| ya (shrU_u32 (a := x3) (m := 16) rfl rfl) <| ya (conv_u32_u8 (a := (x3 >>> 16)) some_31 und_5 rfl) <| mv rfl <| ya (shrU_u32 (a := x3) (m := 24) rfl rfl) <| ya (conv_u32_u8 (a := (x3 >>> 24)) some_31 und_5 rfl) <| WL.eff (by decide) (Eff.buildC 106 ([x3.setWidth 8, (x3 >>> 8).setWidth 8, (x3 >>> 16).setWidth 8, (x3 >>> 24).setWidth 8] : By) sty_22 rfl rfl rfl rfl rfl (by decide)) ?_
 rintro _ _ ⟨g6, rfl, rfl⟩
 refine ak rfl k5 <| re ?_
 obtain rfl := si h
 exact rt [106] (ResIs.one rfl rfl) (Ext.refl _ _) ⟨(some ⟨g6, 0, none⟩), ([x3.setWidth 8, (x3 >>> 8).setWidth 8, (x3 >>> 16).setWidth 8, (x3 >>> 24).setWidth 8] : By).length, ([x3.setWidth 8, (x3 >>> 8).setWidth 8, (x3 >>> 16).setWidth 8, (x3 >>> 24).setWidth 8] : By).length, rfl, rfl⟩
theorem w_index_number (M0 : Mem) (A00 : Option Addr) (n00 c00 : Nat) (x00 : By) (hf00 : SlT M0 A00 n00 c00 x00) {res : (BitVec 64)} (h : m_index_number x00 = some res) :
  Fn Tryz.prog 99 #[.slice A00 n00 c00] M0 fun r M' es => r = U64 res /\ es = [] := by
 refine Fn.intro (N := 19) Tryz.func99 rfl rfl (nle rfl) fun w0 => ?_
 unfold m_index_number at h
 refine sr fun _ k1 => ya (Yld.assign (v := U64 0#64) rfl) <| dz k1 <| sr fun _ k2 => ya (Yld.assign (v := U64 0#64) rfl) <| dz k2 <| ct (σ := (BitVec 64)) (fun x3 => [(3, U64 x3)]) (fun x3 => [(0, .mem M0)]) (fun x3 => m_index_number_j0 x3 = some res) (fun _ k4 => ?_) ?_
 ·refine sr fun _ k5 => mv rfl <| ya (lenC (xs := x00) und_22 rfl (mM rfl hf00)) <| mv rfl <| dz k5 <| bl <| lp (τ := (BitVec 64) × Int) (fun ⟨x6, x7⟩ => [(3, U64 x6), (6, .slice A00 n00 c00), (7, I64 (x00.length : Int)), (8, I64 x7)]) (fun ⟨x6, x7⟩ => [(0, .mem M0)]) (fun q8 ⟨x6, x7⟩ => m_index_number_l1 x00 q8 x6 x7 = some res) ⟨0#64, (0 : Int)⟩ ?_ (by simp [m_index_number_l1]) ?_
  ·exact h
  rintro q8 ⟨x6, x7⟩ h _ k9
  unfold m_index_number_l1 at h
  refine sr fun _ k10 => ya (lss rfl rfl) <| dz k10 <| sq fun _ k11 => cI h rfl (fun hc12 h => ?_) fun hc12 h => ?_
  ·refine ss <| k11 _ _ <| sq fun _ k13 => bl <| sr fun _ k14 => bd h fun x15 hx15 h => ya (idxC (xs := x00) sty_22 rfl rfl (mM rfl hf00) hx15) <| ya (loadC0 (xs := x00) scal_5 rfl (mM rfl hf00) hx15 rfl) <| ak rfl k14 <| rg fun _ k16 => mv rfl <| ya (shlU_u64 (a := x6) (m := 8) rfl rfl) <| mv rfl <| ya (conv_u8_u64 (a := x15) some_5 und_57 rfl) <| ya (or_u64 (a := (x6 <<< 8)) (b := (x15.setWidth 64)) rfl rfl) <| ak rfl k16 <| bn <| tn <| k13 _ _ <| rg fun _ k17 => bd h fun x18 hx18 h => ya (addC rfl rfl hx18) <| mv rfl <| dz k17 <| tn <| kw (k9 ⟨(x6 <<< 8) ||| (x15.setWidth 64), x18⟩ h)
  exact xi <| te <| te <| bx <| tn <| kw (k4 x6 h)
 rintro x3 h
 unfold m_index_number_j0 at h
 refine sr fun _ k19 => mv rfl <| ak rfl k19 <| re ?_
 obtain rfl := si h
 exact rt0 (ResIs.one rfl rfl)
theorem w_index_Encode (M0 : Mem) (A00 : Option Addr) (n00 c00 : Nat) (x00 : List Sapi_Item) (hf00 : SlT M0 A00 n00 c00 x00) {res : By × Int} (h : m_index_Encode x00 = some res) :
  Fn Tryz.prog 50 #[.slice A00 n00 c00] M0 fun r M' es => ∃ (A1 : Option Addr) (n1 c1 : Nat), r = .tuple #[.slice A1 n1 c1, I64 res.2] /\ es = [.own 5 (Lay.sz (BitVec 8)) A1 n1 c1 (cel res.1)] := by
 refine Fn.intro (N := 43) Tryz.func50 rfl rfl (nle rfl) fun w0 => ?_
 unfold m_index_Encode at h
 refine sr fun _ k1 => asn rfl <| ak rfl k1 <| sq fun _ k2 => sr fun _ k3 => bd h fun x4 hx4 h => mv rfl <| c0 Tryz.func55 rfl (fun w hb hh => w_index_Valid (Mem.snap w) A00 n00 c00 _ (sM rfl hf00 w hb hh) hx4) <| ya (notB rfl) <| dz k3 <| cnn h rfl not_f (fun q => not_t (Bool.eq_false_iff.2 q)) (fun hc6 h => ?_) fun hc6 h => ?_
 ·refine ss <| k2 _ _ <| sr fun _ k7 => ak rfl k7 <| ct (σ := (Option Addr) × Nat × Nat × By) (fun ⟨A10, n11, c12, x13⟩ => [(4, .slice A10 n11 c12)]) (fun ⟨A10, n11, c12, x13⟩ => [(0, .mem M0), (109, .own 5 (Lay.sz (BitVec 8)) A10 n11 c12 (cel x13))]) (fun ⟨A10, n11, c12, x13⟩ => m_index_Encode_j0 x13 = some res) (fun _ k14 => ?_) ?_
  ·refine sr fun _ k15 => mv rfl <| ya (lenC (xs := x00) und_25 rfl (mM rfl hf00)) <| mv rfl <| dz k15 <| bl <| WC.nilOwn 117 5 (Lay.sz (BitVec 8)) none <| lp (τ := (Option Addr) × Nat × Nat × By × Int) (fun ⟨A18, n19, c20, x21, x22⟩ => [(4, .slice A18 n19 c20), (11, .slice A00 n00 c00), (12, I64 (x00.length : Int)), (13, I64 x22)]) (fun ⟨A18, n19, c20, x21, x22⟩ => [(0, .mem M0), (117, .own 5 (Lay.sz (BitVec 8)) A18 n19 c20 (cel x21))]) (fun q23 ⟨A18, n19, c20, x21, x22⟩ => m_index_Encode_l1 x00 q23 x21 x22 = some res) ⟨none, 0, 0, ([] : By), (0 : Int)⟩ ?_ (by simp [m_index_Encode_l1]) ?_
   ·exact h
   rintro q23 ⟨A18, n19, c20, x21, x22⟩ h _ k24
   unfold m_index_Encode_l1 at h
   refine sr fun _ k25 => ya (lss rfl rfl) <| dz k25 <| sq fun _ k26 => cI h rfl (fun hc27 h => ?_) fun hc27 h => ?_
   ·refine ss <| k26 _ _ <| sq fun _ k28 => bl <| sr fun _ k29 => bd h fun x30 hx30 h => ya (idxC (xs := x00) sty_25 rfl rfl (mM rfl hf00) hx30) <| ya (loadA (xs := x00) agg_59 rfl (mM rfl hf00) hx30 rfl) <| al 131 zr_59 fun g31 => sb 131 agg_59 rfl rfl rfl <| dz k29 <| sr fun _ k32 => ya (fieldAddr Tryz.underlying59 rfl nz_57 rfl rfl) <| ya (loadB (k := 131) scal_57 rfl rfl rfl) <| WL.inl (by decide) Tryz.func92 nm_92 rfl rfl (Tri.intro (N := 23) Tryz.func92 rfl rfl (nle rfl) ?_)
    refine sr fun _ k33 => ak rfl k33 <| ct (σ := (Option Addr) × Nat × Nat × By) (fun ⟨A36, n37, c38, x39⟩ => [(0, .slice A36 n37 c38)]) (fun ⟨A36, n37, c38, x39⟩ => [(0, .mem M0), (117, .own 5 (Lay.sz (BitVec 8)) A18 n19 c20 (cel x21)), (131, .blk g31 59 [U64 x30.fKey, U32 x30.fCookie, I64 x30.fOff, I64 x30.fSize]), (135, .own 5 (Lay.sz (BitVec 8)) A36 n37 c38 (cel x39))]) (fun ⟨A36, n37, c38, x39⟩ => m_index_Encode_j2 x21 x22 x30 (m_index_Encode_l1 x00 q23) x39 = some res) (fun _ k40 => ?_) ?_
    ·refine sr fun _ k41 => bd h fun x42 hx42 h => mv rfl <| ya (subC rfl rfl hx42) <| ak rfl k41 <| bl <| WC.nilOwn 144 5 (Lay.sz (BitVec 8)) none <| lp (τ := (Option Addr) × Nat × Nat × By × Int) (fun ⟨A45, n46, c47, x48, x49⟩ => [(0, .slice A45 n46 c47), (1, U64 x30.fKey), (7, I64 x49)]) (fun ⟨A45, n46, c47, x48, x49⟩ => [(0, .mem M0), (117, .own 5 (Lay.sz (BitVec 8)) A18 n19 c20 (cel x21)), (131, .blk g31 59 [U64 x30.fKey, U32 x30.fCookie, I64 x30.fOff, I64 x30.fSize]), (144, .own 5 (Lay.sz (BitVec 8)) A45 n46 c47 (cel x48))]) (fun q50 ⟨A45, n46, c47, x48, x49⟩ => m_index_Encode_l3 x21 x22 x30 (m_index_Encode_l1 x00 q23) q50 x48 x49 = some res) ⟨none, 0, 0, ([] : By), x42⟩ ?_ (by simp [m_index_Encode_l3]) ?_
     ·exact h
     rintro q50 ⟨A45, n46, c47, x48, x49⟩ h _ k51
     unfold m_index_Encode_l3 at h
     refine sq fun _ k52 => sr fun _ k53 => mv rfl <| ya (geq rfl rfl) <| dz k53 <| cI h rfl (fun hc54 h => ?_) fun hc54 h => ?_
     ·refine ss <| k52 _ _ <| sq fun _ k55 => bl <| rg fun _ k56 => ?_
      obtain ⟨x57, hx57, h⟩ := bnd h
      obtain ⟨x58, hx58, h⟩ := bnd h
      obtain ⟨x60, hx60, h⟩ := bnd h
      refine mv rfl <| mv rfl <| mv rfl <| ya (mulC rfl rfl hx57) <| ya (shrC_u64 (a := x30.fKey) rfl rfl hx58) <| ya (conv_u64_u8 (a := x58) some_57 und_5 rfl) <| WL.eff (by decide) (Eff.buildC 159 ([x58.setWidth 8] : By) sty_22 rfl rfl rfl rfl rfl (by decide)) ?_
      rintro _ _ ⟨g59, rfl, rfl⟩
      refine ap 144 (xs := x48) (ys := ([x58.setWidth 8] : By)) sty_22 rfl rfl rfl (rO 159 rfl) hx60 fun A61 c62 => ak rfl k56 <| bn <| tn <| k55 _ _ <| rg fun _ k63 => bd h fun x64 hx64 h => mv rfl <| ya (subC rfl rfl hx64) <| ak rfl k63 <| tn <| kw (k51 ⟨A61, x60.length, c62, x60, x64⟩ h)
     exact xi <| te <| te <| bx <| tn <| KK.move 144 135 rfl rfl <| kw (k40 ⟨A45, n46, c47, x48⟩ h)
    rintro ⟨A36, n37, c38, x39⟩ h
    unfold m_index_Encode_j2 at h
    refine sr fun _ k65 => mv rfl <| ak rfl k65 <| re <| Ret.go (ResIs.one rfl rfl) <| ak rfl k32 <| sr fun _ k66 => mv rfl <| ya (fieldAddr Tryz.underlying59 rfl nz_31 rfl rfl) <| ya (loadB (k := 131) scal_31 rfl rfl rfl) <| ya (conv_u32_u64 (a := x30.fCookie) some_31 und_57 rfl) <| WL.inl (by decide) Tryz.func92 nm_92 rfl rfl (Tri.intro (N := 23) Tryz.func92 rfl rfl (nle rfl) ?_)
    refine sr fun _ k67 => ak rfl k67 <| ct (σ := (Option Addr) × Nat × Nat × By) (fun ⟨A68, n69, c70, x71⟩ => [(0, .slice A68 n69 c70)]) (fun ⟨A68, n69, c70, x71⟩ => [(0, .mem M0), (117, .own 5 (Lay.sz (BitVec 8)) A18 n19 c20 (cel x21)), (131, .blk g31 59 [U64 x30.fKey, U32 x30.fCookie, I64 x30.fOff, I64 x30.fSize]), (135, .own 5 (Lay.sz (BitVec 8)) A68 n69 c70 (cel x71))]) (fun ⟨A68, n69, c70, x71⟩ => m_index_Encode_j4 x21 x22 x30 (m_index_Encode_l1 x00 q23) x71 = some res) (fun _ k72 => ?_) ?_
    ·refine sr fun _ k73 => bd h fun x74 hx74 h => mv rfl <| ya (subC rfl rfl hx74) <| ak rfl k73 <| bl <| lp (τ := (Option Addr) × Nat × Nat × By × Int) (fun ⟨A75, n76, c77, x78, x79⟩ => [(0, .slice A75 n76 c77), (1, U64 (x30.fCookie.setWidth 64)), (7, I64 x79)]) (fun ⟨A75, n76, c77, x78, x79⟩ => [(0, .mem M0), (117, .own 5 (Lay.sz (BitVec 8)) A18 n19 c20 (cel x21)), (131, .blk g31 59 [U64 x30.fKey, U32 x30.fCookie, I64 x30.fOff, I64 x30.fSize]), (135, .own 5 (Lay.sz (BitVec 8)) A75 n76 c77 (cel x78))]) (fun q80 ⟨A75, n76, c77, x78, x79⟩ => m_index_Encode_l5 x21 x22 x30 (m_index_Encode_l1 x00 q23) q80 x78 x79 = some res) ⟨A36, n37, c38, x39, x74⟩ ?_ (by simp [m_index_Encode_l5]) ?_
     ·exact h
     rintro q80 ⟨A75, n76, c77, x78, x79⟩ h _ k81
     unfold m_index_Encode_l5 at h
     refine sq fun _ k82 => sr fun _ k83 => mv rfl <| ya (geq rfl rfl) <| dz k83 <| cI h rfl (fun hc84 h => ?_) fun hc84 h => ?_
     ·refine ss <| k82 _ _ <| sq fun _ k85 => bl <| rg fun _ k86 => ?_
      obtain ⟨x87, hx87, h⟩ := bnd h
      obtain ⟨x88, hx88, h⟩ := bnd h
      obtain ⟨x90, hx90, h⟩ := bnd h
      refine mv rfl <| mv rfl <| mv rfl <| ya (mulC rfl rfl hx87) <| ya (shrC_u64 (a := (x30.fCookie.setWidth 64)) rfl rfl hx88) <| ya (conv_u64_u8 (a := x88) some_57 und_5 rfl) <| WL.eff (by decide) (Eff.buildC 189 ([x88.setWidth 8] : By) sty_22 rfl rfl rfl rfl rfl (by decide)) ?_
      rintro _ _ ⟨g89, rfl, rfl⟩
      refine ap 135 (xs := x78) (ys := ([x88.setWidth 8] : By)) sty_22 rfl rfl rfl (rO 189 rfl) hx90 fun A91 c92 => ak rfl k86 <| bn <| tn <| k85 _ _ <| rg fun _ k93 => bd h fun x94 hx94 h => mv rfl <| ya (subC rfl rfl hx94) <| ak rfl k93 <| tn <| kw (k81 ⟨A91, x90.length, c92, x90, x94⟩ h)
     exact xi <| te <| te <| bx <| tn <| kw (k72 ⟨A75, n76, c77, x78⟩ h)
    rintro ⟨A68, n69, c70, x71⟩ h
    unfold m_index_Encode_j4 at h
    refine sr fun _ k95 => mv rfl <| ak rfl k95 <| re <| Ret.go (ResIs.one rfl rfl) <| ak rfl k66 <| sr fun _ k96 => mv rfl <| ya (fieldAddr Tryz.underlying59 rfl nz_2 rfl rfl) <| ya (loadB (k := 131) scal_2 rfl rfl rfl) <| ya (conv_i64_u64 some_2 und_57 rfl) <| WL.inl (by decide) Tryz.func92 nm_92 rfl rfl (Tri.intro (N := 23) Tryz.func92 rfl rfl (nle rfl) ?_)
    refine sr fun _ k97 => ak rfl k97 <| ct (σ := (Option Addr) × Nat × Nat × By) (fun ⟨A98, n99, c100, x101⟩ => [(0, .slice A98 n99 c100)]) (fun ⟨A98, n99, c100, x101⟩ => [(0, .mem M0), (117, .own 5 (Lay.sz (BitVec 8)) A18 n19 c20 (cel x21)), (131, .blk g31 59 [U64 x30.fKey, U32 x30.fCookie, I64 x30.fOff, I64 x30.fSize]), (135, .own 5 (Lay.sz (BitVec 8)) A98 n99 c100 (cel x101))]) (fun ⟨A98, n99, c100, x101⟩ => m_index_Encode_j6 x21 x22 x30 (m_index_Encode_l1 x00 q23) x101 = some res) (fun _ k102 => ?_) ?_
    ·refine sr fun _ k103 => bd h fun x104 hx104 h => mv rfl <| ya (subC rfl rfl hx104) <| ak rfl k103 <| bl <| lp (τ := (Option Addr) × Nat × Nat × By × Int) (fun ⟨A105, n106, c107, x108, x109⟩ => [(0, .slice A105 n106 c107), (1, U64 (BitVec.ofInt 64 x30.fOff)), (7, I64 x109)]) (fun ⟨A105, n106, c107, x108, x109⟩ => [(0, .mem M0), (117, .own 5 (Lay.sz (BitVec 8)) A18 n19 c20 (cel x21)), (131, .blk g31 59 [U64 x30.fKey, U32 x30.fCookie, I64 x30.fOff, I64 x30.fSize]), (135, .own 5 (Lay.sz (BitVec 8)) A105 n106 c107 (cel x108))]) (fun q110 ⟨A105, n106, c107, x108, x109⟩ => m_index_Encode_l7 x21 x22 x30 (m_index_Encode_l1 x00 q23) q110 x108 x109 = some res) ⟨A68, n69, c70, x71, x104⟩ ?_ (by simp [m_index_Encode_l7]) ?_
     ·exact h
     rintro q110 ⟨A105, n106, c107, x108, x109⟩ h _ k111
     unfold m_index_Encode_l7 at h
     refine sq fun _ k112 => sr fun _ k113 => mv rfl <| ya (geq rfl rfl) <| dz k113 <| cI h rfl (fun hc114 h => ?_) fun hc114 h => ?_
     ·refine ss <| k112 _ _ <| sq fun _ k115 => bl <| rg fun _ k116 => ?_
      obtain ⟨x117, hx117, h⟩ := bnd h
      obtain ⟨x118, hx118, h⟩ := bnd h
      obtain ⟨x120, hx120, h⟩ := bnd h
      refine mv rfl <| mv rfl <| mv rfl <| ya (mulC rfl rfl hx117) <| ya (shrC_u64 (a := (BitVec.ofInt 64 x30.fOff)) rfl rfl hx118) <| ya (conv_u64_u8 (a := x118) some_57 und_5 rfl) <| WL.eff (by decide) (Eff.buildC 219 ([x118.setWidth 8] : By) sty_22 rfl rfl rfl rfl rfl (by decide)) ?_
      rintro _ _ ⟨g119, rfl, rfl⟩
      refine ap 135 (xs := x108) (ys := ([x118.setWidth 8] : By)) sty_22 rfl rfl rfl (rO 219 rfl) hx120 fun A121 c122 => ak rfl k116 <| bn <| tn <| k115 _ _ <| rg fun _ k123 => bd h fun x124 hx124 h => mv rfl <| ya (subC rfl rfl hx124) <| ak rfl k123 <| tn <| kw (k111 ⟨A121, x120.length, c122, x120, x124⟩ h)
     exact xi <| te <| te <| bx <| tn <| kw (k102 ⟨A105, n106, c107, x108⟩ h)
    rintro ⟨A98, n99, c100, x101⟩ h
    unfold m_index_Encode_j6 at h
    refine sr fun _ k125 => mv rfl <| ak rfl k125 <| re <| Ret.go (ResIs.one rfl rfl) <| ak rfl k96 <| sr fun _ k126 => mv rfl <| ya (fieldAddr Tryz.underlying59 rfl nz_3 rfl rfl) <| ya (loadB (k := 131) scal_3 rfl rfl rfl) <| ya (conv_i64_u64 some_3 und_57 rfl) <| WL.inl (by decide) Tryz.func92 nm_92 rfl rfl (Tri.intro (N := 23) Tryz.func92 rfl rfl (nle rfl) ?_)
    refine sr fun _ k127 => ak rfl k127 <| ct (σ := (Option Addr) × Nat × Nat × By) (fun ⟨A128, n129, c130, x131⟩ => [(0, .slice A128 n129 c130)]) (fun ⟨A128, n129, c130, x131⟩ => [(0, .mem M0), (117, .own 5 (Lay.sz (BitVec 8)) A18 n19 c20 (cel x21)), (131, .blk g31 59 [U64 x30.fKey, U32 x30.fCookie, I64 x30.fOff, I64 x30.fSize]), (135, .own 5 (Lay.sz (BitVec 8)) A128 n129 c130 (cel x131))]) (fun ⟨A128, n129, c130, x131⟩ => m_index_Encode_j8 x21 x22 (m_index_Encode_l1 x00 q23) x131 = some res) (fun _ k132 => ?_) ?_
    ·refine sr fun _ k133 => bd h fun x134 hx134 h => mv rfl <| ya (subC rfl rfl hx134) <| ak rfl k133 <| bl <| lp (τ := (Option Addr) × Nat × Nat × By × Int) (fun ⟨A135, n136, c137, x138, x139⟩ => [(0, .slice A135 n136 c137), (1, U64 (BitVec.ofInt 64 x30.fSize)), (7, I64 x139)]) (fun ⟨A135, n136, c137, x138, x139⟩ => [(0, .mem M0), (117, .own 5 (Lay.sz (BitVec 8)) A18 n19 c20 (cel x21)), (131, .blk g31 59 [U64 x30.fKey, U32 x30.fCookie, I64 x30.fOff, I64 x30.fSize]), (135, .own 5 (Lay.sz (BitVec 8)) A135 n136 c137 (cel x138))]) (fun q140 ⟨A135, n136, c137, x138, x139⟩ => m_index_Encode_l9 x21 x22 x30 (m_index_Encode_l1 x00 q23) q140 x138 x139 = some res) ⟨A98, n99, c100, x101, x134⟩ ?_ (by simp [m_index_Encode_l9]) ?_
     ·exact h
     rintro q140 ⟨A135, n136, c137, x138, x139⟩ h _ k141
     unfold m_index_Encode_l9 at h
     refine sq fun _ k142 => sr fun _ k143 => mv rfl <| ya (geq rfl rfl) <| dz k143 <| cI h rfl (fun hc144 h => ?_) fun hc144 h => ?_
     ·refine ss <| k142 _ _ <| sq fun _ k145 => bl <| rg fun _ k146 => ?_
      obtain ⟨x147, hx147, h⟩ := bnd h
      obtain ⟨x148, hx148, h⟩ := bnd h
      obtain ⟨x150, hx150, h⟩ := bnd h
      refine mv rfl <| mv rfl <| mv rfl <| ya (mulC rfl rfl hx147) <| ya (shrC_u64 (a := (BitVec.ofInt 64 x30.fSize)) rfl rfl hx148) <| ya (conv_u64_u8 (a := x148) some_57 und_5 rfl) <| WL.eff (by decide) (Eff.buildC 249 ([x148.setWidth 8] : By) sty_22 rfl rfl rfl rfl rfl (by decide)) ?_
      rintro _ _ ⟨g149, rfl, rfl⟩
      refine ap 135 (xs := x138) (ys := ([x148.setWidth 8] : By)) sty_22 rfl rfl rfl (rO 249 rfl) hx150 fun A151 c152 => ak rfl k146 <| bn <| tn <| k145 _ _ <| rg fun _ k153 => bd h fun x154 hx154 h => mv rfl <| ya (subC rfl rfl hx154) <| ak rfl k153 <| tn <| kw (k141 ⟨A151, x150.length, c152, x150, x154⟩ h)
     exact xi <| te <| te <| bx <| tn <| kw (k132 ⟨A135, n136, c137, x138⟩ h)
    rintro ⟨A128, n129, c130, x131⟩ h
    unfold m_index_Encode_j8 at h
    refine sr fun _ k155 => mv rfl <| ak rfl k155 <| re <| Ret.go (ResIs.one rfl rfl) <| ak rfl k126 <| rg fun _ k156 => ?_
    obtain ⟨x157, hx157, h⟩ := bnd h
    obtain ⟨x160, hx160, h⟩ := bnd h
    obtain ⟨x168, hx168, h⟩ := bnd h
    refine mv rfl <| mv rfl <| ap 117 (xs := x21) (ys := x131) sty_22 rfl rfl rfl (rO 135 rfl) hx157 fun A158 c159 => mv rfl <| c1 264 Tryz.func93 rfl (fun w hb hh => w_index_sum (Mem.snap w) A128 n129 c130 _ (RdH.sn (rO 135 rfl) w hb hh) hx160) fun A165 n166 c167 => ap 117 (xs := x157) (ys := x160) sty_22 rfl rfl rfl (rO 264 rfl) hx168 fun A169 c170 => ak rfl k156 <| bn <| tn <| k28 _ _ <| rg fun _ k171 => bd h fun x172 hx172 h => ya (addC rfl rfl hx172) <| mv rfl <| dz k171 <| tn <| kw (k24 ⟨A169, x168.length, c170, x168, x172⟩ h)
   exact xi <| te <| te <| bx <| tn <| KK.move 117 109 rfl rfl <| kw (k14 ⟨A18, n19, c20, x21⟩ h)
  rintro ⟨A10, n11, c12, x13⟩ h
  unfold m_index_Encode_j0 at h
  refine sr fun _ k173 => mv rfl <| asn rfl <| ak rfl k173 <| re ?_
  obtain rfl := si h
  exact rt [109] (ResIs.two rfl rfl rfl) (Ext.refl _ _) ⟨A10, n11, c12, rfl, rfl⟩
 refine sr fun _ k174 => asn rfl <| ak rfl k174 <| re <| tr <| QK.nilOwn 275 5 (Lay.sz (BitVec 8)) none ?_
 obtain rfl := si h
 exact rt [275] (ResIs.two rfl rfl rfl) (Ext.refl _ _) ⟨none, 0, 0, rfl, rfl⟩
theorem w_index_Decode (M0 : Mem) (A00 : Option Addr) (n00 c00 : Nat) (x00 : By) (hf00 : SlT M0 A00 n00 c00 x00) {res : (List Sapi_Item) × Int} (h : m_index_Decode x00 = some res) :
  Fn Tryz.prog 64 #[.slice A00 n00 c00] M0 fun r M' es => ∃ (A1 : Option Addr) (n1 c1 : Nat), r = .tuple #[.slice A1 n1 c1, I64 res.2] /\ es = [.own 59 (Lay.sz Sapi_Item) A1 n1 c1 (cel res.1)] := by
 refine Fn.intro (N := 43) Tryz.func64 rfl rfl (nle rfl) fun w0 => ?_
 unfold m_index_Decode at h
 refine sr fun _ k1 => asn rfl <| ak rfl k1 <| sr fun _ k2 => ak rfl k2 <| ct (σ := (Option Addr) × Nat × Nat × (List Sapi_Item)) (fun ⟨A5, n6, c7, x8⟩ => [(4, .slice A5 n6 c7)]) (fun ⟨A5, n6, c7, x8⟩ => [(0, .mem M0), (104, .own 59 (Lay.sz Sapi_Item) A5 n6 c7 (cel x8))]) (fun ⟨A5, n6, c7, x8⟩ => m_index_Decode_j0 x8 = some res) (fun _ k9 => ?_) ?_
 ·refine bl <| WC.nilOwn 116 59 (Lay.sz Sapi_Item) none <| lp (τ := (Option Addr) × Nat × Nat × By × (Option Addr) × Nat × Nat × (List Sapi_Item)) (fun ⟨A10, n11, c12, x13, A17, n18, c19, x20⟩ => [(0, .slice A10 n11 c12), (4, .slice A17 n18 c19)]) (fun ⟨A10, n11, c12, x13, A17, n18, c19, x20⟩ => [(0, .mem M0), (116, .own 59 (Lay.sz Sapi_Item) A17 n18 c19 (cel x20))]) (fun q21 ⟨A10, n11, c12, x13, A17, n18, c19, x20⟩ => m_index_Decode_l1 q21 x13 x20 = some res /\ SlT M0 A10 n11 c12 x13) ⟨A00, n00, c00, x00, none, 0, 0, ([] : List Sapi_Item)⟩ ?_ (by simp [m_index_Decode_l1]) ?_
  ·exact ⟨h, hf00⟩
  rintro q21 ⟨A10, n11, c12, x13, A17, n18, c19, x20⟩ ⟨h, hf14⟩ _ k22
  unfold m_index_Decode_l1 at h
  refine sq fun _ k23 => sr fun _ k24 => mv rfl <| ya (lenC (xs := x13) und_22 rfl (mM rfl hf14)) <| ya (gtr rfl rfl) <| dz k24 <| cI h rfl (fun hc25 h => ?_) fun hc25 h => ?_
  ·refine ss <| k23 _ _ <| bl <| sq fun _ k26 => sr fun _ k27 => mv rfl <| ya (lenC (xs := x13) und_22 rfl (mM rfl hf14)) <| ya (lss rfl rfl) <| dz k27 <| cI h rfl (fun hc28 h => ?_) fun hc28 h => ?_
   ·refine sr fun _ k29 => asn rfl <| ak rfl k29 <| re <| tr <| br <| tr <| br <| tr <| QK.nilOwn 130 59 (Lay.sz Sapi_Item) none ?_
    obtain rfl := si h
    exact rt [130] (ResIs.two rfl rfl rfl) (Ext.refl _ _) ⟨none, 0, 0, rfl, rfl⟩
   refine ss <| k26 _ _ <| sq fun _ k31 => sd [(0, _), (116, _)] mixed fun _ k32 => ?_
   obtain ⟨x33, hx33, h⟩ := bnd h
   obtain ⟨x34, hx34, h⟩ := bnd h
   obtain ⟨x42, hx42, h⟩ := bnd h
   obtain ⟨x43, hx43, h⟩ := bnd h
   refine dm 0 rfl rfl <| du 1 rfl (sliceHC (xs := x13) sty_22 rfl rfl (mM rfl hf14) hx33) <| dm 3 rfl rfl <| du 4 rfl (sliceLHC (xs := x13) sty_22 rfl rfl rfl (mM rfl hf14) hx42) <| on 2 <| WS.eff rfl (by decide) (Eff.callS 138 rfl Tryz.func93 nm_93 rfl rfl (fun w hb hh => w_index_sum (Mem.snap w) A10 x33.length c12 _ (RdH.sn (RdT.slc0 (mM rfl hf14) hx33) w hb hh) hx34)) ?_
   rintro _ _ ⟨_, ⟨A39, n40, c41, rfl, rfl⟩, rfl⟩
   refine aq ?_
   refine on 5 <| d0 rfl Tryz.func63 rfl (fun w hb hh => w_slices_Equal_byte_byte (Mem.snap w) A39 n40 c41 _ (RdH.sn (rO 138 rfl) w hb hh) (subA A10 c12 ((20 : Int)).toNat (Lay.sz (BitVec 8))) x42.length (c12 - ((20 : Int)).toNat) _ (RdH.sn (RdT.slc (mM rfl hf14) hx42) w hb hh) hx43) <| du 6 rfl (notB rfl) <| dd <| k32 _ _ <| cnn h rfl not_f (fun q => not_t (Bool.eq_false_iff.2 q)) (fun hc45 h => ?_) fun hc45 h => ?_
   ·refine ss <| k31 _ _ <| sd [(0, _), (138, _)] mixed fun _ k46 => ?_
    obtain ⟨x47, hx47, h⟩ := bnd h
    obtain ⟨x48, hx48, h⟩ := bnd h
    obtain ⟨x50, hx50, h⟩ := bnd h
    obtain ⟨x51, hx51, h⟩ := bnd h
    obtain ⟨x53, hx53, h⟩ := bnd h
    obtain ⟨x54, hx54, h⟩ := bnd h
    obtain ⟨x56, hx56, h⟩ := bnd h
    obtain ⟨x57, hx57, h⟩ := bnd h
    obtain ⟨x60, hx60, h⟩ := bnd h
    refine dm 0 rfl rfl <| dm 1 rfl rfl <| du 2 rfl (sliceHC (xs := x13) sty_22 rfl rfl (mM rfl hf14) hx47) <| dm 4 rfl rfl <| du 5 rfl (sliceLHC (xs := x13) sty_22 rfl rfl rfl (mM rfl hf14) hx50) <| dm 8 rfl rfl <| du 9 rfl (sliceLHC (xs := x13) sty_22 rfl rfl rfl (mM rfl hf14) hx53) <| dm 12 rfl rfl <| du 13 rfl (sliceLHC (xs := x13) sty_22 rfl rfl rfl (mM rfl hf14) hx56) <| on 3 <| d0 rfl Tryz.func99 rfl (fun w hb hh => w_index_number (Mem.snap w) A10 x47.length c12 _ (RdH.sn (RdT.slc0 (mM rfl hf14) hx47) w hb hh) hx48) <| on 6 <| d0 rfl Tryz.func99 rfl (fun w hb hh => w_index_number (Mem.snap w) (subA A10 c12 ((8 : Int)).toNat (Lay.sz (BitVec 8))) x50.length (c12 - ((8 : Int)).toNat) _ (RdH.sn (RdT.slc (mM rfl hf14) hx50) w hb hh) hx51) <| du 7 rfl (conv_u64_u32 (a := x51) some_57 und_31 rfl) <| on 10 <| d0 rfl Tryz.func99 rfl (fun w hb hh => w_index_number (Mem.snap w) (subA A10 c12 ((12 : Int)).toNat (Lay.sz (BitVec 8))) x53.length (c12 - ((12 : Int)).toNat) _ (RdH.sn (RdT.slc (mM rfl hf14) hx53) w hb hh) hx54) <| du 11 rfl (conv_u64_i64 (a := x54) some_57 und_2 rfl) <| on 14 <| d0 rfl Tryz.func99 rfl (fun w hb hh => w_index_number (Mem.snap w) (subA A10 c12 ((16 : Int)).toNat (Lay.sz (BitVec 8))) x56.length (c12 - ((16 : Int)).toNat) _ (RdH.sn (RdT.slc (mM rfl hf14) hx56) w hb hh) hx57) <| du 15 rfl (conv_u64_i64 (a := x57) some_57 und_3 rfl) <| du 16 rfl (build rfl (bu_59_0_1_2_3 x48 (x51.setWidth 32) x54.toInt x57.toInt)) <| on 17 <| WS.eff rfl (by decide) (Eff.buildCA 159 ([(Sapi_Item.mk x48 (x51.setWidth 32) x54.toInt x57.toInt)] : List Sapi_Item) sty_25 rfl rfl rfl (by decide)) ?_
    rintro _ _ ⟨g59, rfl, rfl⟩
    refine aq ?_
    refine on 18 <| WS.eff rfl (by decide) (Eff.appendC 116 (xs := x20) (ys := ([(Sapi_Item.mk x48 (x51.setWidth 32) x54.toInt x57.toInt)] : List Sapi_Item)) sty_25 rfl rfl rfl (rO 159 rfl) hx60) ?_
    rintro _ _ ⟨A61, c62, rfl, rfl⟩
    refine aq ?_
    refine du 19 rfl (Yld.assign rfl) <| dd <| k46 _ _ <| rg fun _ k63 => bd h fun x64 hx64 h => mv rfl <| ya (sliceLC (xs := x13) sty_22 rfl rfl (mM rfl hf14) hx64) <| ak rfl k63 <| bn <| tn <| kw (k22 ⟨(subA A10 c12 ((24 : Int)).toNat (Lay.sz (BitVec 8))), x64.length, (c12 - ((24 : Int)).toNat), x64, A61, x60.length, c62, x60⟩ ⟨h, (SlT.slc hf14 hx64)⟩)
   refine sr fun _ k65 => asn rfl <| ak rfl k65 <| re <| tr <| br <| tr <| br <| tr <| QK.nilOwn 166 59 (Lay.sz Sapi_Item) none ?_
   obtain rfl := si h
   exact rt [166] (ResIs.two rfl rfl rfl) (Ext.refl _ _) ⟨none, 0, 0, rfl, rfl⟩
  exact xi <| te <| te <| bx <| tn <| KK.move 116 104 rfl rfl <| kw (k9 ⟨A17, n18, c19, x20⟩ h)
 rintro ⟨A5, n6, c7, x8⟩ h
 unfold m_index_Decode_j0 at h
 refine sq fun _ k67 => sr fun _ k68 => bd h fun x69 hx69 h => mv rfl <| c0 Tryz.func55 rfl (fun w hb hh => w_index_Valid (Mem.snap w) A5 n6 c7 _ (RdH.sn (rO 104 rfl) w hb hh) hx69) <| ya (notB rfl) <| dz k68 <| cnn h rfl not_f (fun q => not_t (Bool.eq_false_iff.2 q)) (fun hc71 h => ?_) fun hc71 h => ?_
 ·refine ss <| k67 _ _ <| sr fun _ k72 => mv rfl <| asn rfl <| ak rfl k72 <| re ?_
  obtain rfl := si h
  exact rt [104] (ResIs.two rfl rfl rfl) (Ext.refl _ _) ⟨A5, n6, c7, rfl, rfl⟩
 refine sr fun _ k73 => asn rfl <| ak rfl k73 <| re <| tr <| QK.nilOwn 174 59 (Lay.sz Sapi_Item) none ?_
 obtain rfl := si h
 exact rt [174] (ResIs.two rfl rfl rfl) (Ext.refl _ _) ⟨none, 0, 0, rfl, rfl⟩
end Go.Proofs.YthjnhlmfcejhkaaGreat
