/- A part of the proof. Conditions: as each theorem says. -/
import Derived.Test.YthjnhlmfcejhkaaGreatWke
import Derived.Test.YthjnhlmfcejhkaaGreatMdr
import Derived.Test.YthjnhlmfcejhkaaGreatX19
namespace Go.Proofs.YthjnhlmfcejhkaaGreat
set_option maxRecDepth 10000
open Go Go.RowKit Yld
set_option linter.unusedVariables false
theorem und_31 : Tryz.prog.underlying 31 = some (.int .u32) := by kernel_rfl
theorem und_57 : Tryz.prog.underlying 57 = some (.int .u64) := by kernel_rfl
theorem agg_77 : Agg Tryz.prog 77 4 := ⟨⟨_, Tryz.underlying77, rfl⟩, by kernel_rfl⟩
theorem bu_77_ : Tryz.prog.built 77 [] = some ([U64 0#64, U32 0#32, .bool false, .slice none 0 0] : List Value).toArray := by kernel_rfl
theorem bu_77_0_1_2_3 : ∀ (a0 : BitVec 64) (a1 : BitVec 32) (a2 : Bool) (a3 : Option Addr) (n3 c3 : Nat), Tryz.prog.built 77 [(0, U64 a0), (1, U32 a1), (2, .bool a2), (3, .slice a3 n3 c3)] = some ([U64 a0, U32 a1, .bool a2, .slice a3 n3 c3] : List Value).toArray := fun a0 a1 a2 a3 n3 c3 => by kernel_rfl
theorem nm_26 : (Tryz.f26.name == "runtime.NumGoroutine") = false := by kernel_rfl
theorem nm_42 : (Tryz.f42.name == "runtime.NumGoroutine") = false := by kernel_rfl
theorem nm_52 : (Tryz.f52.name == "runtime.NumGoroutine") = false := by kernel_rfl
theorem nz_31 : (Tryz.prog.info? 31).map (fun i => decide (i.size = 0)) = some false := by kernel_rfl
theorem nz_4 : (Tryz.prog.info? 4).map (fun i => decide (i.size = 0)) = some false := by kernel_rfl
theorem nz_57 : (Tryz.prog.info? 57).map (fun i => decide (i.size = 0)) = some false := by kernel_rfl
theorem scal_31 : scal Tryz.prog 31 = true := by kernel_rfl
theorem scal_57 : scal Tryz.prog 57 = true := by kernel_rfl
theorem some_31 : (Tryz.prog.underlying 31).isSome = true := by kernel_rfl
theorem some_57 : (Tryz.prog.underlying 57).isSome = true := by kernel_rfl
theorem zr_77 : (Tryz.prog.info? 77).map (fun i => i.zero.map (·.cells)) = some (some ([U64 0#64, U32 0#32, .bool false, .slice none 0 0] : List Value).toArray) := by kernel_rfl
theorem w_crc32c_Extend (M0 : Mem) (x00 : BitVec 32) (A01 : Option Addr) (n01 c01 : Nat) (x01 : By) (hf01 : SlT M0 A01 n01 c01 x01) {res : (BitVec 32)} (h : m_crc32c_Extend x00 x01 = some res) :
  Fn Tryz.prog 81 #[U32 x00, .slice A01 n01 c01] M0 fun r M' es => r = U32 res /\ es = [] := by
 refine Fn.intro (N := 35) Tryz.func81 rfl rfl (nle rfl) fun w0 => ?_
 unfold m_crc32c_Extend at h
 refine sr fun _ k1 => ya (Yld.assign (v := U32 0#32) rfl) <| dz k1 <| sr fun _ k2 => mv rfl <| ya (not_u32 (a := x00) rfl) <| ak rfl k2 <| ct (σ := (BitVec 32)) (fun x3 => [(5, U32 x3)]) (fun x3 => [(0, .mem M0)]) (fun x3 => m_crc32c_Extend_j0 x3 = some res) (fun _ k4 => ?_) ?_
 ·refine sr fun _ k5 => mv rfl <| ya (lenC (xs := x01) und_22 rfl (mM rfl hf01)) <| mv rfl <| dz k5 <| bl <| lp (τ := (BitVec 32) × Int) (fun ⟨x6, x7⟩ => [(5, U32 x6), (11, .slice A01 n01 c01), (12, I64 (x01.length : Int)), (13, I64 x7)]) (fun ⟨x6, x7⟩ => [(0, .mem M0)]) (fun q8 ⟨x6, x7⟩ => m_crc32c_Extend_l1 x01 q8 x6 x7 = some res) ⟨~~~x00, (0 : Int)⟩ ?_ (by simp [m_crc32c_Extend_l1]) ?_
  ·exact h
  rintro q8 ⟨x6, x7⟩ h _ k9
  unfold m_crc32c_Extend_l1 at h
  refine sr fun _ k10 => ya (lss rfl rfl) <| dz k10 <| sq fun _ k11 => cI h rfl (fun hc12 h => ?_) fun hc12 h => ?_
  ·refine ss <| k11 _ _ <| ct (σ := (BitVec 32)) (fun x13 => [(5, U32 x13), (11, .slice A01 n01 c01), (12, I64 (x01.length : Int)), (13, I64 x7)]) (fun x13 => [(0, .mem M0)]) (fun x13 => m_crc32c_Extend_j2 x7 (m_crc32c_Extend_l1 x01 q8) x13 = some res) (fun _ k14 => ?_) ?_
   ·refine bl <| sr fun _ k15 => bd h fun x16 hx16 h => ya (idxC (xs := x01) sty_22 rfl rfl (mM rfl hf01) hx16) <| ya (loadC0 (xs := x01) scal_5 rfl (mM rfl hf01) hx16 rfl) <| ak rfl k15 <| sr fun _ k17 => mv rfl <| mv rfl <| ya (conv_u8_u32 (a := x16) some_5 und_31 rfl) <| ya (xor_u32 (a := x6) (b := (x16.setWidth 32)) rfl rfl) <| ak rfl k17 <| sr fun _ k18 => mv rfl <| dz k18 <| bl <| lp (τ := (BitVec 32) × Int) (fun ⟨x19, x20⟩ => [(5, U32 x19), (11, .slice A01 n01 c01), (12, I64 (x01.length : Int)), (13, I64 x7), (21, I64 x20)]) (fun ⟨x19, x20⟩ => [(0, .mem M0)]) (fun q21 ⟨x19, x20⟩ => m_crc32c_Extend_l3 x7 (m_crc32c_Extend_l1 x01 q8) q21 x19 x20 = some res) ⟨x6 ^^^ (x16.setWidth 32), (0 : Int)⟩ ?_ (by simp [m_crc32c_Extend_l3]) ?_
    ·exact h
    rintro q21 ⟨x19, x20⟩ h _ k22
    unfold m_crc32c_Extend_l3 at h
    refine sr fun _ k23 => ya (lss rfl rfl) <| dz k23 <| sq fun _ k24 => cI h rfl (fun hc25 h => ?_) fun hc25 h => ?_
    ·refine ss <| k24 _ _ <| sq fun _ k26 => bl <| sr fun _ k27 => mv rfl <| ya (and_u32 (a := x19) (b := 1#32) rfl rfl) <| ak rfl k27 <| sr fun _ k28 => mv rfl <| ya (shrU_u32 (a := x19) (m := 1) rfl rfl) <| ak rfl k28 <| sr fun _ k29 => mv rfl <| ya (eql_u32 (a := (x19 &&& 1#32)) (b := 1#32) rfl rfl) <| dz k29 <| cnd h rfl beq_iff_eq.2 beq_eq_false_iff_ne.2 (fun hc30 h => ?_) fun hc30 h => ?_
     ·refine rg fun _ k31 => mv rfl <| ya (xor_u32 (a := (x19 >>> 1)) (b := 2197175160#32) rfl rfl) <| ak rfl k31 <| bn <| tn <| k26 _ _ <| rg fun _ k32 => bd h fun x33 hx33 h => ya (addC rfl rfl hx33) <| mv rfl <| dz k32 <| tn <| kw (k22 ⟨(x19 >>> 1) ^^^ 2197175160#32, x33⟩ h)
     refine WC.skip <| bn <| tn <| k26 _ _ <| rg fun _ k34 => bd h fun x35 hx35 h => ya (addC rfl rfl hx35) <| mv rfl <| dz k34 <| tn <| kw (k22 ⟨x19 >>> 1, x35⟩ h)
    exact xi <| te <| te <| bx <| bn <| tn <| kw (k14 x19 h)
   rintro x13 h
   unfold m_crc32c_Extend_j2 at h
   refine rg fun _ k36 => bd h fun x37 hx37 h => ya (addC rfl rfl hx37) <| mv rfl <| dz k36 <| tn <| kw (k9 ⟨x13, x37⟩ h)
  exact xi <| te <| te <| bx <| tn <| kw (k4 x6 h)
 rintro x3 h
 unfold m_crc32c_Extend_j0 at h
 refine sr fun _ k38 => mv rfl <| ya (not_u32 (a := x3) rfl) <| ak rfl k38 <| re ?_
 obtain rfl := si h
 exact rt0 (ResIs.one rfl rfl)
theorem w_crc32c_Sum (M0 : Mem) (A00 : Option Addr) (n00 c00 : Nat) (x00 : By) (hf00 : SlT M0 A00 n00 c00 x00) {res : (BitVec 32)} (h : m_crc32c_Sum x00 = some res) :
  Fn Tryz.prog 39 #[.slice A00 n00 c00] M0 fun r M' es => r = U32 res /\ es = [] := by
 refine Fn.intro (N := 5) Tryz.func39 rfl rfl (nle rfl) fun w0 => ?_
 unfold m_crc32c_Sum at h
 refine sr fun _ k1 => ya (Yld.assign (v := U32 0#32) rfl) <| dz k1 <| sr fun _ k2 => bd h fun x3 hx3 h => mv rfl <| c0 Tryz.func81 rfl (fun w hb hh => w_crc32c_Extend (Mem.snap w) 0#32 A00 n00 c00 _ (sM rfl hf00 w hb hh) hx3) <| ak rfl k2 <| re ?_
 obtain rfl := si h
 exact rt0 (ResIs.one rfl rfl)
theorem w_r01_shift (M0 : Mem) (x00 : BitVec 32) {res : (BitVec 32)} (h : m_r01_shift x00 = some res) :
  Fn Tryz.prog 112 #[U32 x00] M0 fun r M' es => r = U32 res /\ es = [] := by
 refine Fn.intro (N := 17) Tryz.func112 rfl rfl (nle rfl) fun w0 => ?_
 unfold m_r01_shift at h
 refine sr fun _ k1 => ya (Yld.assign (v := U32 0#32) rfl) <| dz k1 <| ct (σ := (BitVec 32)) (fun x2 => [(0, U32 x2)]) (fun x2 => [(0, .mem M0)]) (fun x2 => m_r01_shift_j0 x2 = some res) (fun _ k3 => ?_) ?_
 ·refine sr fun _ k4 => ak rfl k4 <| bl <| lp (τ := (BitVec 32) × Int) (fun ⟨x5, x6⟩ => [(0, U32 x5), (3, I64 x6)]) (fun ⟨x5, x6⟩ => [(0, .mem M0)]) (fun q7 ⟨x5, x6⟩ => m_r01_shift_l1 q7 x5 x6 = some res) ⟨x00, (0 : Int)⟩ ?_ (by simp [m_r01_shift_l1]) ?_
  ·exact h
  rintro q7 ⟨x5, x6⟩ h _ k8
  unfold m_r01_shift_l1 at h
  refine sq fun _ k9 => sr fun _ k10 => mv rfl <| ya (lss rfl rfl) <| dz k10 <| cI h rfl (fun hc11 h => ?_) fun hc11 h => ?_
  ·refine ss <| k9 _ _ <| sq fun _ k12 => bl <| sr fun _ k13 => mv rfl <| ya (and_u32 (a := x5) (b := 1#32) rfl rfl) <| ya (eql_u32 (a := (x5 &&& 1#32)) (b := 1#32) rfl rfl) <| dz k13 <| cnd h rfl beq_iff_eq.2 beq_eq_false_iff_ne.2 (fun hc14 h => ?_) fun hc14 h => ?_
   ·refine rg fun _ k15 => mv rfl <| ya (shrU_u32 (a := x5) (m := 1) rfl rfl) <| ya (xor_u32 (a := (x5 >>> 1)) (b := 2197175160#32) rfl rfl) <| ak rfl k15 <| bn <| tn <| k12 _ _ <| rg fun _ k16 => bd h fun x17 hx17 h => mv rfl <| ya (addC rfl rfl hx17) <| ak rfl k16 <| tn <| kw (k8 ⟨(x5 >>> 1) ^^^ 2197175160#32, x17⟩ h)
   refine rg fun _ k18 => mv rfl <| ya (shrU_u32 (a := x5) (m := 1) rfl rfl) <| ak rfl k18 <| bn <| tn <| k12 _ _ <| rg fun _ k19 => bd h fun x20 hx20 h => mv rfl <| ya (addC rfl rfl hx20) <| ak rfl k19 <| tn <| kw (k8 ⟨x5 >>> 1, x20⟩ h)
  exact xi <| te <| te <| bx <| tn <| kw (k3 x5 h)
 rintro x2 h
 unfold m_r01_shift_j0 at h
 refine sr fun _ k21 => mv rfl <| ak rfl k21 <| re ?_
 obtain rfl := si h
 exact rt0 (ResIs.one rfl rfl)
theorem w_r01_Extend (M0 : Mem) (x00 : BitVec 32) (A01 : Option Addr) (n01 c01 : Nat) (x01 : By) (hf01 : SlT M0 A01 n01 c01 x01) {res : (BitVec 32)} (h : m_r01_Extend x00 x01 = some res) :
  Fn Tryz.prog 85 #[U32 x00, .slice A01 n01 c01] M0 fun r M' es => r = U32 res /\ es = [] := by
 refine Fn.intro (N := 25) Tryz.func85 rfl rfl (nle rfl) fun w0 => ?_
 unfold m_r01_Extend at h
 refine sr fun _ k1 => ya (Yld.assign (v := U32 0#32) rfl) <| dz k1 <| sr fun _ k2 => mv rfl <| ya (not_u32 (a := x00) rfl) <| ak rfl k2 <| ct (σ := (BitVec 32)) (fun x3 => [(5, U32 x3)]) (fun x3 => [(0, .mem M0)]) (fun x3 => m_r01_Extend_j0 x3 = some res) (fun _ k4 => ?_) ?_
 ·refine sr fun _ k5 => ak rfl k5 <| bl <| lp (τ := (BitVec 32) × Int) (fun ⟨x6, x7⟩ => [(1, .slice A01 n01 c01), (5, U32 x6), (6, I64 x7)]) (fun ⟨x6, x7⟩ => [(0, .mem M0)]) (fun q8 ⟨x6, x7⟩ => m_r01_Extend_l1 x01 q8 x6 x7 = some res) ⟨~~~x00, (0 : Int)⟩ ?_ (by simp [m_r01_Extend_l1]) ?_
  ·exact h
  rintro q8 ⟨x6, x7⟩ h _ k9
  unfold m_r01_Extend_l1 at h
  refine sq fun _ k10 => sr fun _ k11 => mv rfl <| mv rfl <| ya (lenC (xs := x01) und_22 rfl (mM rfl hf01)) <| ya (lss rfl rfl) <| dz k11 <| cI h rfl (fun hc12 h => ?_) fun hc12 h => ?_
  ·refine ss <| k10 _ _ <| sq fun _ k13 => bl <| rg fun _ k14 => ?_
   obtain ⟨x15, hx15, h⟩ := bnd h
   obtain ⟨x16, hx16, h⟩ := bnd h
   refine mv rfl <| mv rfl <| mv rfl <| ya (idxC (xs := x01) sty_22 rfl rfl (mM rfl hf01) hx15) <| ya (loadC0 (xs := x01) scal_5 rfl (mM rfl hf01) hx15 rfl) <| ya (conv_u8_u32 (a := x15) some_5 und_31 rfl) <| ya (xor_u32 (a := x6) (b := (x15.setWidth 32)) rfl rfl) <| c0 Tryz.func112 rfl (fun w hb hh => w_r01_shift (Mem.snap w) (x6 ^^^ (x15.setWidth 32)) hx16) <| ak rfl k14 <| bn <| tn <| k13 _ _ <| rg fun _ k18 => bd h fun x19 hx19 h => mv rfl <| ya (addC rfl rfl hx19) <| ak rfl k18 <| tn <| kw (k9 ⟨x16, x19⟩ h)
  exact xi <| te <| te <| bx <| tn <| kw (k4 x6 h)
 rintro x3 h
 unfold m_r01_Extend_j0 at h
 refine sr fun _ k20 => mv rfl <| ya (not_u32 (a := x3) rfl) <| ak rfl k20 <| re ?_
 obtain rfl := si h
 exact rt0 (ResIs.one rfl rfl)
theorem w_r01_Sum (M0 : Mem) (A00 : Option Addr) (n00 c00 : Nat) (x00 : By) (hf00 : SlT M0 A00 n00 c00 x00) {res : (BitVec 32)} (h : m_r01_Sum x00 = some res) :
  Fn Tryz.prog 42 #[.slice A00 n00 c00] M0 fun r M' es => r = U32 res /\ es = [] := by
 refine Fn.intro (N := 5) Tryz.func42 rfl rfl (nle rfl) fun w0 => ?_
 unfold m_r01_Sum at h
 refine sr fun _ k1 => ya (Yld.assign (v := U32 0#32) rfl) <| dz k1 <| sr fun _ k2 => bd h fun x3 hx3 h => mv rfl <| c0 Tryz.func85 rfl (fun w hb hh => w_r01_Extend (Mem.snap w) 0#32 A00 n00 c00 _ (sM rfl hf00 w hb hh) hx3) <| ak rfl k2 <| re ?_
 obtain rfl := si h
 exact rt0 (ResIs.one rfl rfl)
theorem w_needle_Size (M0 : Mem) (x00 : Int) {res : Int} (h : m_needle_Size x00 = some res) :
  Fn Tryz.prog 58 #[I64 x00] M0 fun r M' es => r = I64 res /\ es = [] := by
 refine Fn.intro (N := 16) Tryz.func58 rfl rfl (nle rfl) fun w0 => ?_
 unfold m_needle_Size at h
 refine sr fun _ k1 => ak rfl k1 <| sq fun _ k2 => sr fun _ k3 => mv rfl <| ya (lss rfl rfl) <| mv rfl <| spl h decide_eq_true decide_eq_false (fun hc4 h => ?_) fun hc4 h => ?_
 ·refine sk <| sk <| pt rfl rfl <| dz k3 <| cdT rfl <| sr fun _ k5 => ak rfl k5 <| re <| tr ?_
  obtain rfl := si h
  exact rt0 (ResIs.one rfl rfl)
 refine mvg rfl <| yg (gtr rfl rfl) <| pf rfl rfl <| dz k3 <| cI h rfl (fun hc6 h => ?_) fun hc6 h => ?_
 ·refine sr fun _ k7 => ak rfl k7 <| re <| tr ?_
  obtain rfl := si h
  exact rt0 (ResIs.one rfl rfl)
 refine ss <| k2 _ _ <| sr fun _ k8 => ?_
 obtain ⟨x9, hx9, h⟩ := bnd h
 obtain ⟨x10, hx10, h⟩ := bnd h
 obtain ⟨x11, hx11, h⟩ := bnd h
 obtain ⟨x12, hx12, h⟩ := bnd h
 obtain ⟨x13, hx13, h⟩ := bnd h
 obtain ⟨x14, hx14, h⟩ := bnd h
 refine mv rfl <| ya (addC rfl rfl hx9) <| ya (addC rfl rfl hx10) <| ya (addC rfl rfl hx11) <| ya (subC rfl rfl hx12) <| ya (quoC rfl rfl hx13) <| ya (mulC rfl rfl hx14) <| ak rfl k8 <| re ?_
 obtain rfl := si h
 exact rt0 (ResIs.one rfl rfl)
theorem w_r06_Size (M0 : Mem) (x00 : Int) {res : Int} (h : m_r06_Size x00 = some res) :
  Fn Tryz.prog 61 #[I64 x00] M0 fun r M' es => r = I64 res /\ es = [] := by
 refine Fn.intro (N := 15) Tryz.func61 rfl rfl (nle rfl) fun w0 => ?_
 unfold m_r06_Size at h
 refine sr fun _ k1 => ak rfl k1 <| sq fun _ k2 => sr fun _ k3 => mv rfl <| ya (lss rfl rfl) <| mv rfl <| spl h decide_eq_true decide_eq_false (fun hc4 h => ?_) fun hc4 h => ?_
 ·refine sk <| sk <| pt rfl rfl <| dz k3 <| cdT rfl <| sr fun _ k5 => ak rfl k5 <| re <| tr ?_
  obtain rfl := si h
  exact rt0 (ResIs.one rfl rfl)
 refine mvg rfl <| yg (gtr rfl rfl) <| pf rfl rfl <| dz k3 <| cI h rfl (fun hc6 h => ?_) fun hc6 h => ?_
 ·refine sr fun _ k7 => ak rfl k7 <| re <| tr ?_
  obtain rfl := si h
  exact rt0 (ResIs.one rfl rfl)
 refine ss <| k2 _ _ <| sr fun _ k8 => ?_
 obtain ⟨x9, hx9, h⟩ := bnd h
 obtain ⟨x10, hx10, h⟩ := bnd h
 obtain ⟨x11, hx11, h⟩ := bnd h
 obtain ⟨x12, hx12, h⟩ := bnd h
 obtain ⟨x13, hx13, h⟩ := bnd h
 refine mv rfl <| ya (addC rfl rfl hx9) <| ya (addC rfl rfl hx10) <| ya (addC rfl rfl hx11) <| ya (quoC rfl rfl hx12) <| ya (mulC rfl rfl hx13) <| ak rfl k8 <| re ?_
 obtain rfl := si h
 exact rt0 (ResIs.one rfl rfl)
theorem w_r06_Valid (M0 : Mem) (u0 : BitVec 64) (u1 : BitVec 32) (u2 : Bool) (A00_3 : Option Addr) (n00_3 c00_3 : Nat) (u3 : By) (hf00_3 : SlT M0 A00_3 n00_3 c00_3 u3) {res : Bool} (h : m_r06_Valid u0 u1 u2 u3 = some res) :
  Fn Tryz.prog 72 #[.agg ([U64 u0, U32 u1, .bool u2, .slice A00_3 n00_3 c00_3] : List Value).toArray] M0 fun r M' es => r = .bool res /\ es = [] := by
 refine Fn.intro (N := 18) Tryz.func72 rfl rfl (nle rfl) fun w0 => ?_
 unfold m_r06_Valid at h
 refine sr fun _ k1 => bb 102 [U64 u0, U32 u1, .bool u2, .slice A00_3 n00_3 c00_3] rfl fun g2 => ak rfl k1 <| sr fun _ k3 => ya (fieldAddr Tryz.underlying77 rfl nz_22 rfl rfl) <| ya (loadB (k := 102) scal_22 rfl rfl rfl) <| ya (lenC (xs := u3) und_22 rfl (mM rfl hf00_3)) <| ya (leq rfl rfl) <| mv rfl <| spl h decide_eq_true decide_eq_false (fun hc4 h => ?_) fun hc4 h => ?_
 ·refine yg (fieldAddr Tryz.underlying77 rfl nz_4 rfl rfl) <| yg (loadB (k := 102) scal_4 rfl rfl rfl) <| mvg rfl <| spl h id Bool.eq_false_iff.2 (fun hc5 h => ?_) fun hc5 h => ?_
  ·refine yg (fieldAddr Tryz.underlying77 rfl nz_22 rfl rfl) <| yg (loadB (k := 102) scal_22 rfl rfl rfl) <| yg (lenC (xs := u3) und_22 rfl (mM rfl hf00_3)) <| yg (gtr rfl rfl) <| yg (pickT rfl rfl) <| yg (notB rfl) <| pt rfl rfl <| ak rfl k3 <| re ?_
   obtain rfl := si h
   exact rt0 (ResIs.one rfl rfl)
  refine sk <| sk <| sk <| sk <| yg (pickF rfl rfl) <| yg (notB rfl) <| pt rfl rfl <| ak rfl k3 <| re ?_
  obtain rfl := si h
  exact rt0 (ResIs.one rfl rfl)
 refine sk <| sk <| sk <| WL.skipU (by decide) rfl <| WL.skipU (by decide) rfl <| WL.skipU (by decide) rfl <| WL.skipU (by decide) rfl <| sk <| sk <| pf rfl rfl <| ak rfl k3 <| re ?_
 obtain rfl := si h
 exact rt0 (ResIs.one rfl rfl)
theorem w_r06_Value (M0 : Mem) (A00 : Option Addr) (n00 c00 : Nat) (x00 : By) (hf00 : SlT M0 A00 n00 c00 x00) {res : (BitVec 64)} (h : m_r06_Value x00 = some res) :
  Fn Tryz.prog 66 #[.slice A00 n00 c00] M0 fun r M' es => r = U64 res /\ es = [] := by
 refine Fn.intro (N := 20) Tryz.func66 rfl rfl (nle rfl) fun w0 => ?_
 unfold m_r06_Value at h
 refine sr fun _ k1 => ya (Yld.assign (v := U64 0#64) rfl) <| dz k1 <| sr fun _ k2 => ya (Yld.assign (v := U64 0#64) rfl) <| dz k2 <| ct (σ := (BitVec 64)) (fun x3 => [(3, U64 x3)]) (fun x3 => [(0, .mem M0)]) (fun x3 => m_r06_Value_j0 x3 = some res) (fun _ k4 => ?_) ?_
 ·refine sr fun _ k5 => ak rfl k5 <| bl <| lp (τ := (BitVec 64) × Int) (fun ⟨x6, x7⟩ => [(0, .slice A00 n00 c00), (3, U64 x6), (4, I64 x7)]) (fun ⟨x6, x7⟩ => [(0, .mem M0)]) (fun q8 ⟨x6, x7⟩ => m_r06_Value_l1 x00 q8 x6 x7 = some res) ⟨0#64, (0 : Int)⟩ ?_ (by simp [m_r06_Value_l1]) ?_
  ·exact h
  rintro q8 ⟨x6, x7⟩ h _ k9
  unfold m_r06_Value_l1 at h
  refine sq fun _ k10 => sr fun _ k11 => mv rfl <| mv rfl <| ya (lenC (xs := x00) und_22 rfl (mM rfl hf00)) <| ya (lss rfl rfl) <| dz k11 <| cI h rfl (fun hc12 h => ?_) fun hc12 h => ?_
  ·refine ss <| k10 _ _ <| sq fun _ k13 => bl <| rg fun _ k14 => bd h fun x15 hx15 h => mv rfl <| ya (shlU_u64 (a := x6) (m := 8) rfl rfl) <| mv rfl <| mv rfl <| ya (idxC (xs := x00) sty_22 rfl rfl (mM rfl hf00) hx15) <| ya (loadC0 (xs := x00) scal_5 rfl (mM rfl hf00) hx15 rfl) <| ya (conv_u8_u64 (a := x15) some_5 und_57 rfl) <| ya (or_u64 (a := (x6 <<< 8)) (b := (x15.setWidth 64)) rfl rfl) <| ak rfl k14 <| bn <| tn <| k13 _ _ <| rg fun _ k16 => bd h fun x17 hx17 h => mv rfl <| ya (addC rfl rfl hx17) <| ak rfl k16 <| tn <| kw (k9 ⟨(x6 <<< 8) ||| (x15.setWidth 64), x17⟩ h)
  exact xi <| te <| te <| bx <| tn <| kw (k4 x6 h)
 rintro x3 h
 unfold m_r06_Value_j0 at h
 refine sr fun _ k18 => mv rfl <| ak rfl k18 <| re ?_
 obtain rfl := si h
 exact rt0 (ResIs.one rfl rfl)
theorem w_r06_Number (M0 : Mem) (x00 : BitVec 64) (x01 : Int) {res : By} (h : m_r06_Number x00 x01 = some res) :
  Fn Tryz.prog 52 #[U64 x00, I64 x01] M0 fun r M' es => ∃ (A1 : Option Addr) (n1 c1 : Nat), r = .slice A1 n1 c1 /\ es = [.own 5 (Lay.sz (BitVec 8)) A1 n1 c1 (cel res)] := by
 refine Fn.intro (N := 23) Tryz.func52 rfl rfl (nle rfl) fun w0 => ?_
 unfold m_r06_Number at h
 refine sr fun _ k1 => ak rfl k1 <| sr fun _ k2 => ak rfl k2 <| ct (σ := (Option Addr) × Nat × Nat × By) (fun ⟨A5, n6, c7, x8⟩ => [(5, .slice A5 n6 c7)]) (fun ⟨A5, n6, c7, x8⟩ => [(0, .mem M0), (104, .own 5 (Lay.sz (BitVec 8)) A5 n6 c7 (cel x8))]) (fun ⟨A5, n6, c7, x8⟩ => m_r06_Number_j0 x8 = some res) (fun _ k9 => ?_) ?_
 ·refine sr fun _ k10 => bd h fun x11 hx11 h => mv rfl <| ya (subC rfl rfl hx11) <| ak rfl k10 <| bl <| WC.nilOwn 113 5 (Lay.sz (BitVec 8)) none <| lp (τ := (Option Addr) × Nat × Nat × By × Int) (fun ⟨A14, n15, c16, x17, x18⟩ => [(0, U64 x00), (5, .slice A14 n15 c16), (6, I64 x18)]) (fun ⟨A14, n15, c16, x17, x18⟩ => [(0, .mem M0), (113, .own 5 (Lay.sz (BitVec 8)) A14 n15 c16 (cel x17))]) (fun q19 ⟨A14, n15, c16, x17, x18⟩ => m_r06_Number_l1 x00 q19 x17 x18 = some res) ⟨none, 0, 0, ([] : By), x11⟩ ?_ (by simp [m_r06_Number_l1]) ?_
  ·exact h
  rintro q19 ⟨A14, n15, c16, x17, x18⟩ h _ k20
  unfold m_r06_Number_l1 at h
  refine sq fun _ k21 => sr fun _ k22 => mv rfl <| ya (geq rfl rfl) <| dz k22 <| cI h rfl (fun hc23 h => ?_) fun hc23 h => ?_
  ·refine ss <| k21 _ _ <| sq fun _ k24 => bl <| rg fun _ k25 => ?_
   obtain ⟨x26, hx26, h⟩ := bnd h
   obtain ⟨x28, hx28, h⟩ := bnd h
   refine mv rfl <| mv rfl <| mv rfl <| ya (mulC rfl rfl hx26) <| ya (conv_i64_u64 some_3 und_47 rfl) <| ya (shrU_u64 (a := x00) (m := (BitVec.ofInt 64 x26).toNat) rfl rfl) <| ya (conv_u64_u8 (a := (x00 >>> (BitVec.ofInt 64 x26).toNat)) some_57 und_5 rfl) <| WL.eff (by decide) (Eff.buildC 127 ([(x00 >>> (BitVec.ofInt 64 x26).toNat).setWidth 8] : By) sty_22 rfl rfl rfl rfl rfl (by decide)) ?_
   rintro _ _ ⟨g27, rfl, rfl⟩
   refine ap 113 (xs := x17) (ys := ([(x00 >>> (BitVec.ofInt 64 x26).toNat).setWidth 8] : By)) sty_22 rfl rfl rfl (rO 127 rfl) hx28 fun A29 c30 => ak rfl k25 <| bn <| tn <| k24 _ _ <| rg fun _ k31 => bd h fun x32 hx32 h => mv rfl <| ya (subC rfl rfl hx32) <| ak rfl k31 <| tn <| kw (k20 ⟨A29, x28.length, c30, x28, x32⟩ h)
  exact xi <| te <| te <| bx <| tn <| KK.move 113 104 rfl rfl <| kw (k9 ⟨A14, n15, c16, x17⟩ h)
 rintro ⟨A5, n6, c7, x8⟩ h
 unfold m_r06_Number_j0 at h
 refine sr fun _ k33 => mv rfl <| ak rfl k33 <| re ?_
 obtain rfl := si h
 exact rt [104] (ResIs.one rfl rfl) (Ext.refl _ _) ⟨A5, n6, c7, rfl, rfl⟩
theorem w_r06_Check (M0 : Mem) (A00 : Option Addr) (n00 c00 : Nat) (x00 : By) (hf00 : SlT M0 A00 n00 c00 x00) {res : By} (h : m_r06_Check x00 = some res) :
  Fn Tryz.prog 26 #[.slice A00 n00 c00] M0 fun r M' es => ∃ (A1 : Option Addr) (n1 c1 : Nat), r = .slice A1 n1 c1 /\ es = [.own 5 (Lay.sz (BitVec 8)) A1 n1 c1 (cel res)] := by
 refine Fn.intro (N := 18) Tryz.func26 rfl rfl (nle rfl) fun w0 => ?_
 unfold m_r06_Check at h
 refine sr fun _ k1 => ak rfl k1 <| sr fun _ k2 => bd h fun x3 hx3 h => mv rfl <| c0 Tryz.func42 rfl (fun w hb hh => w_r01_Sum (Mem.snap w) A00 n00 c00 _ (sM rfl hf00 w hb hh) hx3) <| ak rfl k2 <| sr fun _ k5 => mv rfl <| ya (conv_u32_u8 (a := x3) some_31 und_5 rfl) <| mv rfl <| ya (shrU_u32 (a := x3) (m := 8) rfl rfl) <| ya (conv_u32_u8 (a := (x3 >>> 8)) some_31 und_5 rfl) <| mv rfl <| ya (shrU_u32 (a := x3) (m := 16) rfl rfl) <| ya (conv_u32_u8 (a := (x3 >>> 16)) some_31 und_5 rfl) <| mv rfl <| ya (shrU_u32 (a := x3) (m := 24) rfl rfl) <| ya (conv_u32_u8 (a := (x3 >>> 24)) some_31 und_5 rfl) <| WL.eff (by decide) (Eff.buildC 106 ([x3.setWidth 8, (x3 >>> 8).setWidth 8, (x3 >>> 16).setWidth 8, (x3 >>> 24).setWidth 8] : By) sty_22 rfl rfl rfl rfl rfl (by decide)) ?_
 rintro _ _ ⟨g6, rfl, rfl⟩
 refine ak rfl k5 <| re ?_
 obtain rfl := si h
 exact rt [106] (ResIs.one rfl rfl) (Ext.refl _ _) ⟨(some ⟨g6, 0, none⟩), ([x3.setWidth 8, (x3 >>> 8).setWidth 8, (x3 >>> 16).setWidth 8, (x3 >>> 24).setWidth 8] : By).length, ([x3.setWidth 8, (x3 >>> 8).setWidth 8, (x3 >>> 16).setWidth 8, (x3 >>> 24).setWidth 8] : By).length, rfl, rfl⟩
theorem w_r06_Encode (M0 : Mem) (u0 : BitVec 64) (u1 : BitVec 32) (u2 : Bool) (A00_3 : Option Addr) (n00_3 c00_3 : Nat) (u3 : By) (hf00_3 : SlT M0 A00_3 n00_3 c00_3 u3) {res : By × Int} (h : m_r06_Encode u0 u1 u2 u3 = some res) :
  Fn Tryz.prog 32 #[.agg ([U64 u0, U32 u1, .bool u2, .slice A00_3 n00_3 c00_3] : List Value).toArray] M0 fun r M' es => ∃ (A1 : Option Addr) (n1 c1 : Nat), r = .tuple #[.slice A1 n1 c1, I64 res.2] /\ es = [.own 5 (Lay.sz (BitVec 8)) A1 n1 c1 (cel res.1)] := by
 refine Fn.intro (N := 54) Tryz.func32 rfl rfl (nle rfl) fun w0 => ?_
 unfold m_r06_Encode at h
 refine sr fun _ k1 => bb 102 [U64 u0, U32 u1, .bool u2, .slice A00_3 n00_3 c00_3] rfl fun g2 => asn rfl <| ak rfl k1 <| sq fun _ k3 => sr fun _ k4 => ya (fieldAddr Tryz.underlying77 rfl nz_22 rfl rfl) <| ya (loadB (k := 102) scal_22 rfl rfl rfl) <| ya (lenC (xs := u3) und_22 rfl (mM rfl hf00_3)) <| ya (gtr rfl rfl) <| dz k4 <| cI h rfl (fun hc5 h => ?_) fun hc5 h => ?_
 ·refine sr fun _ k6 => asn rfl <| ak rfl k6 <| re <| tr <| QK.nilOwn 107 5 (Lay.sz (BitVec 8)) none ?_
  obtain rfl := si h
  exact rt [107] (ResIs.two rfl rfl rfl) (Ext.refl _ _) ⟨none, 0, 0, rfl, rfl⟩
 refine ss <| k3 _ _ <| sq fun _ k8 => sr fun _ k9 => bd h fun x10 hx10 h => ya (loadBM (k := 102) agg_77 rfl rfl rfl) <| c0 Tryz.func72 rfl (fun w hb hh => w_r06_Valid (Mem.snap w) u0 u1 u2 A00_3 n00_3 c00_3 _ (sM rfl hf00_3 w hb hh) hx10) <| ya (notB rfl) <| dz k9 <| cnn h rfl not_f (fun q => not_t (Bool.eq_false_iff.2 q)) (fun hc12 h => ?_) fun hc12 h => ?_
 ·refine ss <| k8 _ _ <| sr fun _ k13 => WL.eff (by decide) (Eff.buildC 114 ([78#8, 165#8, 0#8, 0#8] : By) sty_22 rfl rfl rfl rfl rfl (by decide)) ?_
  rintro _ _ ⟨g14, rfl, rfl⟩
  refine ak rfl k13 <| ct (σ := By) (fun x15 => [(1, pv g2), (4, .slice (some ⟨g14, 0, none⟩) (([78#8, 165#8, 0#8, 0#8] : By).length) (([78#8, 165#8, 0#8, 0#8] : By).length))]) (fun x15 => [(0, .mem M0), (102, .blk g2 77 [U64 u0, U32 u1, .bool u2, .slice A00_3 n00_3 c00_3]), (114, .own 5 (Lay.sz (BitVec 8)) (some ⟨g14, 0, none⟩) (([78#8, 165#8, 0#8, 0#8] : By).length) (([78#8, 165#8, 0#8, 0#8] : By).length) (cel x15))]) (fun x15 => m_r06_Encode_j0 u0 u1 u3 x15 = some res) (fun _ k16 => ?_) ?_
  ·refine sr fun _ k17 => ya (fieldAddr Tryz.underlying77 rfl nz_4 rfl rfl) <| ya (loadB (k := 102) scal_4 rfl rfl rfl) <| dz k17 <| cnd h rfl id Bool.eq_false_iff.2 (fun hc18 h => ?_) fun hc18 h => ?_
   ·refine rg fun _ k19 => ?_
    obtain ⟨x20, hx20, h⟩ := bnd h
    obtain ⟨x21, hx21, h⟩ := bnd h
    exact mv rfl <| ya (idxC (xs := ([78#8, 165#8, 0#8, 0#8] : By)) sty_22 rfl rfl (rO 114 rfl) hx20) <| WL.eff0 (Eff0.storeC1 114 (xs := ([78#8, 165#8, 0#8, 0#8] : By)) (a' := 1#8) siz_5 rfl rfl rfl rfl rfl rfl hx21) <| dz k19 <| tn <| kw (k16 x21 h)
   exact WC.skip <| tn <| kw (k16 ([78#8, 165#8, 0#8, 0#8] : By) h)
  rintro x15 h
  unfold m_r06_Encode_j0 at h
  refine sr fun _ k22 => ?_
  obtain ⟨x23, hx23, h⟩ := bnd h
  obtain ⟨x31, hx31, h⟩ := bnd h
  refine mv rfl <| ya (fieldAddr Tryz.underlying77 rfl nz_31 rfl rfl) <| ya (loadB (k := 102) scal_31 rfl rfl rfl) <| ya (conv_u32_u64 (a := u1) some_31 und_57 rfl) <| c1 127 Tryz.func52 rfl (fun w hb hh => w_r06_Number (Mem.snap w) (u1.setWidth 64) (4 : Int) hx23) fun A28 n29 c30 => ap 114 (xs := x15) (ys := x23) sty_22 rfl rfl rfl (rO 127 rfl) hx31 fun A32 c33 => ak rfl k22 <| sr fun _ k34 => ?_
  obtain ⟨x35, hx35, h⟩ := bnd h
  obtain ⟨x43, hx43, h⟩ := bnd h
  refine mv rfl <| ya (fieldAddr Tryz.underlying77 rfl nz_57 rfl rfl) <| ya (loadB (k := 102) scal_57 rfl rfl rfl) <| c1 139 Tryz.func52 rfl (fun w hb hh => w_r06_Number (Mem.snap w) u0 (8 : Int) hx35) fun A40 n41 c42 => ap 114 (xs := x31) (ys := x35) sty_22 rfl rfl rfl (rO 139 rfl) hx43 fun A44 c45 => ak rfl k34 <| sr fun _ k46 => ?_
  obtain ⟨x47, hx47, h⟩ := bnd h
  obtain ⟨x55, hx55, h⟩ := bnd h
  refine mv rfl <| ya (fieldAddr Tryz.underlying77 rfl nz_22 rfl rfl) <| ya (loadB (k := 102) scal_22 rfl rfl rfl) <| ya (lenC (xs := u3) und_22 rfl (mM rfl hf00_3)) <| ya (conv_i64_u64 some_3 und_57 rfl) <| c1 151 Tryz.func52 rfl (fun w hb hh => w_r06_Number (Mem.snap w) (BitVec.ofInt 64 (u3.length : Int)) (4 : Int) hx47) fun A52 n53 c54 => ap 114 (xs := x43) (ys := x47) sty_22 rfl rfl rfl (rO 151 rfl) hx55 fun A56 c57 => ak rfl k46 <| sr fun _ k58 => bd h fun x59 hx59 h => mv rfl <| ya (fieldAddr Tryz.underlying77 rfl nz_22 rfl rfl) <| ya (loadB (k := 102) scal_22 rfl rfl rfl) <| ap 114 (xs := x55) (ys := u3) sty_22 rfl rfl rfl (mM rfl hf00_3) hx59 fun A60 c61 => ak rfl k58 <| sr fun _ k62 => ?_
  obtain ⟨x63, hx63, h⟩ := bnd h
  obtain ⟨x71, hx71, h⟩ := bnd h
  refine mv rfl <| mv rfl <| c1 167 Tryz.func26 rfl (fun w hb hh => w_r06_Check (Mem.snap w) A60 x59.length c61 _ (RdH.sn (rO 114 rfl) w hb hh) hx63) fun A68 n69 c70 => ap 114 (xs := x59) (ys := x63) sty_22 rfl rfl rfl (rO 167 rfl) hx71 fun A72 c73 => ak rfl k62 <| ct (σ := (Option Addr) × Nat × Nat × By) (fun ⟨A74, n75, c76, x77⟩ => [(4, .slice A74 n75 c76)]) (fun ⟨A74, n75, c76, x77⟩ => [(0, .mem M0), (114, .own 5 (Lay.sz (BitVec 8)) A74 n75 c76 (cel x77))]) (fun ⟨A74, n75, c76, x77⟩ => m_r06_Encode_j1 x77 = some res) (fun _ k78 => ?_) ?_
  ·refine bl <| lp (τ := (Option Addr) × Nat × Nat × By) (fun ⟨A79, n80, c81, x82⟩ => [(1, pv g2), (4, .slice A79 n80 c81)]) (fun ⟨A79, n80, c81, x82⟩ => [(0, .mem M0), (102, .blk g2 77 [U64 u0, U32 u1, .bool u2, .slice A00_3 n00_3 c00_3]), (114, .own 5 (Lay.sz (BitVec 8)) A79 n80 c81 (cel x82))]) (fun q83 ⟨A79, n80, c81, x82⟩ => m_r06_Encode_l2 u3 q83 x82 = some res) ⟨A72, x71.length, c73, x71⟩ ?_ (by simp [m_r06_Encode_l2]) ?_
   ·exact h
   rintro q83 ⟨A79, n80, c81, x82⟩ h _ k84
   unfold m_r06_Encode_l2 at h
   refine sq fun _ k85 => sr fun _ k86 => bd h fun x87 hx87 h => mv rfl <| ya (lenC (xs := x82) und_22 rfl (rO 114 rfl)) <| ya (fieldAddr Tryz.underlying77 rfl nz_22 rfl rfl) <| ya (loadB (k := 102) scal_22 rfl rfl rfl) <| ya (lenC (xs := u3) und_22 rfl (mM rfl hf00_3)) <| c0 Tryz.func61 rfl (fun w hb hh => w_r06_Size (Mem.snap w) (u3.length : Int) hx87) <| ya (lss rfl rfl) <| dz k86 <| cI h rfl (fun hc89 h => ?_) fun hc89 h => ?_
   ·refine ss <| k85 _ _ <| bl <| rg fun _ k90 => bd h fun x92 hx92 h => mv rfl <| WL.eff (by decide) (Eff.buildC 191 ([0#8] : By) sty_22 rfl rfl rfl rfl rfl (by decide)) ?_
    rintro _ _ ⟨g91, rfl, rfl⟩
    exact ap 114 (xs := x82) (ys := ([0#8] : By)) sty_22 rfl rfl rfl (rO 191 rfl) hx92 fun A93 c94 => ak rfl k90 <| bn <| tn <| kw (k84 ⟨A93, x92.length, c94, x92⟩ h)
   exact xi <| te <| te <| bx <| tn <| kw (k78 ⟨A79, n80, c81, x82⟩ h)
  rintro ⟨A74, n75, c76, x77⟩ h
  unfold m_r06_Encode_j1 at h
  refine sr fun _ k95 => mv rfl <| asn rfl <| ak rfl k95 <| re ?_
  obtain rfl := si h
  exact rt [114] (ResIs.two rfl rfl rfl) (Ext.refl _ _) ⟨A74, n75, c76, rfl, rfl⟩
 refine sr fun _ k96 => asn rfl <| ak rfl k96 <| re <| tr <| QK.nilOwn 197 5 (Lay.sz (BitVec 8)) none ?_
 obtain rfl := si h
 exact rt [197] (ResIs.two rfl rfl rfl) (Ext.refl _ _) ⟨none, 0, 0, rfl, rfl⟩
theorem w_r06_Decode (M0 : Mem) (A00 : Option Addr) (n00 c00 : Nat) (x00 : By) (hf00 : SlT M0 A00 n00 c00 x00) {res : (BitVec 64) × (BitVec 32) × Bool × By × Int × Int} (h : m_r06_Decode x00 = some res) :
  Fn Tryz.prog 102 #[.slice A00 n00 c00] M0 fun r M' es => ∃ (A1 : Option Addr) (n1 c1 : Nat), r = .tuple #[.agg ([U64 res.1, U32 res.2.1, .bool res.2.2.1, .slice A1 n1 c1] : List Value).toArray, I64 res.2.2.2.2.1, I64 res.2.2.2.2.2] /\ es = [.own 5 (Lay.sz (BitVec 8)) A1 n1 c1 (cel res.2.2.2.1)] := by
 refine Fn.intro (N := 108) Tryz.func102 rfl rfl (nle rfl) fun w0 => ?_
 unfold m_r06_Decode at h
 refine sr fun _ k1 => al 102 zr_77 fun g2 => asn rfl <| ak rfl k1 <| sq fun _ k3 => sr fun _ k4 => mv rfl <| ya (lenC (xs := x00) und_22 rfl (mM rfl hf00)) <| ya (lss rfl rfl) <| dz k4 <| cI h rfl (fun hc5 h => ?_) fun hc5 h => ?_
 ·refine sr fun _ k6 => ya (build rfl (bu_77_)) <| sb 102 agg_77 rfl rfl rfl <| asn rfl <| ak rfl k6 <| re <| tr <| QK.nilOwn 107 5 (Lay.sz (BitVec 8)) none ?_
  obtain rfl := si h
  exact rt [107] (ResIs.cellTmp2M (k := 102) rfl agg_77 rfl rfl rfl rfl rfl) (Ext.refl _ _) ⟨none, 0, 0, rfl, rfl⟩
 refine ss <| k3 _ _ <| sr fun _ k8 => ?_
 obtain ⟨x9, hx9, h⟩ := bnd h
 obtain ⟨x10, hx10, h⟩ := bnd h
 refine mv rfl <| ya (sliceLHC (xs := x00) sty_22 rfl rfl rfl (mM rfl hf00) hx9) <| c0 Tryz.func66 rfl (fun w hb hh => w_r06_Value (Mem.snap w) (subA A00 c00 ((16 : Int)).toNat (Lay.sz (BitVec 8))) x9.length (c00 - ((16 : Int)).toNat) _ (RdH.sn (RdT.slc (mM rfl hf00) hx9) w hb hh) hx10) <| ak rfl k8 <| ct (σ := Unit) (fun _ => [(0, .slice A00 n00 c00), (2, pv g2), (5, U64 x10)]) (fun _ => [(0, .mem M0), (102, .blk g2 77 [U64 0#64, U32 0#32, .bool false, .slice none 0 0])]) (fun _ => m_r06_Decode_j0 x00 x10 = some res) (fun _ k12 => ?_) ?_
 ·refine sr fun _ k13 => bd h fun x14 hx14 h => mv rfl <| ya (idxC (xs := x00) sty_22 rfl rfl (mM rfl hf00) hx14) <| ya (loadC0 (xs := x00) scal_5 rfl (mM rfl hf00) hx14 rfl) <| ya (neq_u8 (a := x14) (b := 78#8) rfl rfl) <| mv rfl <| spn h bne_eq_false_iff_eq.2 bne_iff_ne.2 (fun hc15 h => ?_) fun hc15 h => ?_
  ·obtain ⟨x16, hx16, h⟩ := bnd h
   refine mvg rfl <| yg (idxC (xs := x00) sty_22 rfl rfl (mM rfl hf00) hx16) <| yg (loadC0 (xs := x00) scal_5 rfl (mM rfl hf00) hx16 rfl) <| yg (neq_u8 (a := x16) (b := 165#8) rfl rfl) <| pf rfl rfl <| mv rfl <| spn h bne_eq_false_iff_eq.2 bne_iff_ne.2 (fun hc17 h => ?_) fun hc17 h => ?_
   ·obtain ⟨x18, hx18, h⟩ := bnd h
    refine mvg rfl <| yg (idxC (xs := x00) sty_22 rfl rfl (mM rfl hf00) hx18) <| yg (loadC0 (xs := x00) scal_5 rfl (mM rfl hf00) hx18 rfl) <| yg (gtr_u8 (a := x18) (b := 1#8) rfl rfl) <| pf rfl rfl <| mv rfl <| spl h decide_eq_true decide_eq_false (fun hc19 h => ?_) fun hc19 h => ?_
    ·refine sk <| sk <| sk <| sk <| pt rfl rfl <| mv rfl <| sk <| sk <| pt rfl rfl <| mv rfl <| sk <| sk <| sk <| sk <| sk <| WL.skipU (by decide) rfl <| WL.skipU (by decide) rfl <| sk <| pt rfl rfl <| dz k13 <| cdT rfl <| sr fun _ k20 => ya (build rfl (bu_77_)) <| sb 102 agg_77 rfl rfl rfl <| asn rfl <| ak rfl k20 <| re <| tr <| QK.nilOwn 121 5 (Lay.sz (BitVec 8)) none ?_
     obtain rfl := si h
     exact rt [121] (ResIs.cellTmp2M (k := 102) rfl agg_77 rfl rfl rfl rfl rfl) (Ext.refl _ _) ⟨none, 0, 0, rfl, rfl⟩
    obtain ⟨x22, hx22, h⟩ := bnd h
    refine mvg rfl <| yg (idxC (xs := x00) sty_22 rfl rfl (mM rfl hf00) hx22) <| yg (loadC0 (xs := x00) scal_5 rfl (mM rfl hf00) hx22 rfl) <| yg (neq_u8 (a := x22) (b := 0#8) rfl rfl) <| pf rfl rfl <| mv rfl <| spn h bne_eq_false_iff_eq.2 bne_iff_ne.2 (fun hc23 h => ?_) fun hc23 h => ?_
    ·refine mvg rfl <| yg (gtr_u64 (a := x10) (b := 4096#64) rfl rfl) <| pf rfl rfl <| mv rfl <| spl h decide_eq_true decide_eq_false (fun hc24 h => ?_) fun hc24 h => ?_
     ·refine sk <| sk <| sk <| sk <| sk <| WL.skipU (by decide) rfl <| WL.skipU (by decide) rfl <| sk <| pt rfl rfl <| dz k13 <| cdT rfl <| sr fun _ k25 => ya (build rfl (bu_77_)) <| sb 102 agg_77 rfl rfl rfl <| asn rfl <| ak rfl k25 <| re <| tr <| QK.nilOwn 126 5 (Lay.sz (BitVec 8)) none ?_
      obtain rfl := si h
      exact rt [126] (ResIs.cellTmp2M (k := 102) rfl agg_77 rfl rfl rfl rfl rfl) (Ext.refl _ _) ⟨none, 0, 0, rfl, rfl⟩
     obtain ⟨x27, hx27, h⟩ := bnd h
     refine mvg rfl <| yg (idxC (xs := x00) sty_22 rfl rfl (mM rfl hf00) hx27) <| yg (loadC0 (xs := x00) scal_5 rfl (mM rfl hf00) hx27 rfl) <| yg (eql_u8 (a := x27) (b := 1#8) rfl rfl) <| mvg rfl <| spl h beq_iff_eq.2 beq_eq_false_iff_ne.2 (fun hc28 h => ?_) fun hc28 h => ?_
     ·refine mvg rfl <| yg (gtr_u64 (a := x10) (b := 0#64) rfl rfl) <| yg (pickT rfl rfl) <| pf rfl rfl <| dz k13 <| cI h rfl (fun hc29 h => ?_) fun hc29 h => ?_
      ·refine sr fun _ k30 => ya (build rfl (bu_77_)) <| sb 102 agg_77 rfl rfl rfl <| asn rfl <| ak rfl k30 <| re <| tr <| QK.nilOwn 131 5 (Lay.sz (BitVec 8)) none ?_
       obtain rfl := si h
       exact rt [131] (ResIs.cellTmp2M (k := 102) rfl agg_77 rfl rfl rfl rfl rfl) (Ext.refl _ _) ⟨none, 0, 0, rfl, rfl⟩
      exact WC.skip <| tn <| kw (k12 () h)
     exact sk <| sk <| yg (pickF rfl rfl) <| pf rfl rfl <| dz k13 <| cdF rfl <| WC.skip <| tn <| kw (k12 () h)
    refine sk <| sk <| pt rfl rfl <| mv rfl <| sk <| sk <| sk <| sk <| sk <| WL.skipU (by decide) rfl <| WL.skipU (by decide) rfl <| sk <| pt rfl rfl <| dz k13 <| cdT rfl <| sr fun _ k32 => ya (build rfl (bu_77_)) <| sb 102 agg_77 rfl rfl rfl <| asn rfl <| ak rfl k32 <| re <| tr <| QK.nilOwn 133 5 (Lay.sz (BitVec 8)) none ?_
    obtain rfl := si h
    exact rt [133] (ResIs.cellTmp2M (k := 102) rfl agg_77 rfl rfl rfl rfl rfl) (Ext.refl _ _) ⟨none, 0, 0, rfl, rfl⟩
   refine sk <| sk <| sk <| sk <| pt rfl rfl <| mv rfl <| sk <| sk <| sk <| sk <| pt rfl rfl <| mv rfl <| sk <| sk <| pt rfl rfl <| mv rfl <| sk <| sk <| sk <| sk <| sk <| WL.skipU (by decide) rfl <| WL.skipU (by decide) rfl <| sk <| pt rfl rfl <| dz k13 <| cdT rfl <| sr fun _ k34 => ya (build rfl (bu_77_)) <| sb 102 agg_77 rfl rfl rfl <| asn rfl <| ak rfl k34 <| re <| tr <| QK.nilOwn 135 5 (Lay.sz (BitVec 8)) none ?_
   obtain rfl := si h
   exact rt [135] (ResIs.cellTmp2M (k := 102) rfl agg_77 rfl rfl rfl rfl rfl) (Ext.refl _ _) ⟨none, 0, 0, rfl, rfl⟩
  refine sk <| sk <| sk <| sk <| pt rfl rfl <| mv rfl <| sk <| sk <| sk <| sk <| pt rfl rfl <| mv rfl <| sk <| sk <| sk <| sk <| pt rfl rfl <| mv rfl <| sk <| sk <| pt rfl rfl <| mv rfl <| sk <| sk <| sk <| sk <| sk <| WL.skipU (by decide) rfl <| WL.skipU (by decide) rfl <| sk <| pt rfl rfl <| dz k13 <| cdT rfl <| sr fun _ k36 => ya (build rfl (bu_77_)) <| sb 102 agg_77 rfl rfl rfl <| asn rfl <| ak rfl k36 <| re <| tr <| QK.nilOwn 137 5 (Lay.sz (BitVec 8)) none ?_
  obtain rfl := si h
  exact rt [137] (ResIs.cellTmp2M (k := 102) rfl agg_77 rfl rfl rfl rfl rfl) (Ext.refl _ _) ⟨none, 0, 0, rfl, rfl⟩
 rintro _ h
 unfold m_r06_Decode_j0 at h
 refine sr fun _ k38 => ?_
 obtain ⟨x39, hx39, h⟩ := bnd h
 obtain ⟨x41, hx41, h⟩ := bnd h
 refine mv rfl <| ya (conv_u64_i64 (a := x10) some_57 und_3 rfl) <| c0 Tryz.func61 rfl (fun w hb hh => w_r06_Size (Mem.snap w) x10.toInt hx39) <| mv rfl <| ya (conv_u64_i64 (a := x10) some_57 und_3 rfl) <| ya (addC rfl rfl hx41) <| asn rfl <| ak rfl k38 <| sq fun _ k42 => sr fun _ k43 => mv rfl <| ya (lenC (xs := x00) und_22 rfl (mM rfl hf00)) <| mv rfl <| ya (lss rfl rfl) <| dz k43 <| cI h rfl (fun hc44 h => ?_) fun hc44 h => ?_
 ·refine sr fun _ k45 => ya (build rfl (bu_77_)) <| sb 102 agg_77 rfl rfl rfl <| asn rfl <| ak rfl k45 <| re <| tr <| QK.nilOwn 146 5 (Lay.sz (BitVec 8)) none ?_
  obtain rfl := si h
  exact rt [146] (ResIs.cellTmp2M (k := 102) rfl agg_77 rfl rfl rfl rfl rfl) (Ext.refl _ _) ⟨none, 0, 0, rfl, rfl⟩
 refine ss <| k42 _ _ <| sq fun _ k47 => sd [(0, _), (102, _)] mixed fun _ k48 => ?_
 obtain ⟨x49, hx49, h⟩ := bnd h
 obtain ⟨x50, hx50, h⟩ := bnd h
 obtain ⟨x58, hx58, h⟩ := bnd h
 obtain ⟨x59, hx59, h⟩ := bnd h
 refine dm 0 rfl rfl <| dm 1 rfl rfl <| du 2 rfl (sliceHC (xs := x00) sty_22 rfl rfl (mM rfl hf00) hx49) <| dm 5 rfl rfl <| dm 6 rfl rfl <| dm 7 rfl rfl <| du 8 rfl (addC rfl rfl hx58) <| du 9 rfl (sliceLHC (xs := x00) sty_22 rfl rfl rfl (mM rfl hf00) hx59) <| du 10 rfl (b2sC (xs := x59) und_22 und_5 und_9 rfl (RdT.slc (mM rfl hf00) hx59)) <| on 3 <| WS.eff rfl (by decide) (Eff.callS 154 rfl Tryz.func26 nm_26 rfl rfl (fun w hb hh => w_r06_Check (Mem.snap w) A00 x49.length c00 _ (RdH.sn (RdT.slc0 (mM rfl hf00) hx49) w hb hh) hx50)) ?_
 rintro _ _ ⟨_, ⟨A55, n56, c57, rfl, rfl⟩, rfl⟩
 refine aq ?_
 refine on 4 <| dy rfl (b2sC (xs := x50) und_22 und_5 und_9 rfl (rO 154 rfl)) <| du 11 rfl (neqStr (a := x50) (b := x59) rfl rfl) <| dd <| k48 _ _ <| cnn h rfl neq_of_eq neq_of_ne (fun hc60 h => ?_) fun hc60 h => ?_
 ·refine ss <| k47 _ _ <| ct (σ := Unit) (fun _ => [(0, .slice A00 n00 c00), (2, pv g2), (6, I64 x39), (7, I64 x41)]) (fun _ => [(0, .mem M0), (102, .blk g2 77 [U64 0#64, U32 0#32, .bool false, .slice none 0 0])]) (fun _ => m_r06_Decode_j1 x00 x39 x41 = some res) (fun _ k61 => ?_) ?_
  ·refine sr fun _ k62 => bd h fun x63 hx63 h => mv rfl <| ya (addC rfl rfl hx63) <| ak rfl k62 <| bl <| lp (τ := Int) (fun x64 => [(0, .slice A00 n00 c00), (2, pv g2), (6, I64 x39), (7, I64 x41), (8, I64 x64)]) (fun x64 => [(0, .mem M0), (102, .blk g2 77 [U64 0#64, U32 0#32, .bool false, .slice none 0 0])]) (fun q65 x64 => m_r06_Decode_l2 x00 x39 x41 q65 x64 = some res) (x63) ?_ (by simp [m_r06_Decode_l2]) ?_
   ·exact h
   rintro q65 x64 h _ k66
   unfold m_r06_Decode_l2 at h
   refine sq fun _ k67 => sr fun _ k68 => mv rfl <| mv rfl <| ya (lss rfl rfl) <| dz k68 <| cI h rfl (fun hc69 h => ?_) fun hc69 h => ?_
   ·refine ss <| k67 _ _ <| sq fun _ k70 => bl <| sr fun _ k71 => bd h fun x72 hx72 h => mv rfl <| mv rfl <| ya (idxC (xs := x00) sty_22 rfl rfl (mM rfl hf00) hx72) <| ya (loadC0 (xs := x00) scal_5 rfl (mM rfl hf00) hx72 rfl) <| ya (neq_u8 (a := x72) (b := 0#8) rfl rfl) <| dz k71 <| cnn h rfl bne_eq_false_iff_eq.2 bne_iff_ne.2 (fun hc73 h => ?_) fun hc73 h => ?_
    ·refine WC.skip <| bn <| tn <| k70 _ _ <| rg fun _ k74 => bd h fun x75 hx75 h => mv rfl <| ya (addC rfl rfl hx75) <| ak rfl k74 <| tn <| kw (k66 (x75) h)
    refine sr fun _ k76 => ya (build rfl (bu_77_)) <| sb 102 agg_77 rfl rfl rfl <| asn rfl <| ak rfl k76 <| re <| br <| tr <| tr <| br <| tr <| QK.nilOwn 177 5 (Lay.sz (BitVec 8)) none ?_
    obtain rfl := si h
    exact rt [177] (ResIs.cellTmp2M (k := 102) rfl agg_77 rfl rfl rfl rfl rfl) (Ext.refl _ _) ⟨none, 0, 0, rfl, rfl⟩
   exact xi <| te <| te <| bx <| tn <| kw (k61 () h)
  rintro _ h
  unfold m_r06_Decode_j1 at h
  refine sd [(0, _)] mixed fun _ k78 => ?_
  obtain ⟨x79, hx79, h⟩ := bnd h
  obtain ⟨x80, hx80, h⟩ := bnd h
  obtain ⟨x82, hx82, h⟩ := bnd h
  obtain ⟨x83, hx83, h⟩ := bnd h
  obtain ⟨x85, hx85, h⟩ := bnd h
  obtain ⟨x87, hx87, h⟩ := bnd h
  obtain ⟨x88, hx88, h⟩ := bnd h
  refine dm 0 rfl rfl <| du 1 rfl (sliceLHC (xs := x00) sty_22 rfl rfl rfl (mM rfl hf00) hx79) <| dm 3 rfl rfl <| du 4 rfl (sliceLHC (xs := x00) sty_22 rfl rfl rfl (mM rfl hf00) hx82) <| dm 7 rfl rfl <| du 8 rfl (idxC (xs := x00) sty_22 rfl rfl (mM rfl hf00) hx85) <| du 9 rfl (loadC0 (xs := x00) scal_5 rfl (mM rfl hf00) hx85 rfl) <| du 10 rfl (eql_u8 (a := x85) (b := 1#8) rfl rfl) <| dm 12 rfl rfl <| dm 13 rfl rfl <| du 14 rfl (sliceLHC (xs := x00) sty_22 rfl rfl rfl (mM rfl hf00) hx87) <| dm 17 rfl rfl <| WD.two 2 11 (by kernel_rfl) ?_ ?_
  ·refine d0 rfl Tryz.func66 rfl (fun w hb hh => w_r06_Value (Mem.snap w) (subA A00 c00 ((8 : Int)).toNat (Lay.sz (BitVec 8))) x79.length (c00 - ((8 : Int)).toNat) _ (RdH.sn (RdT.slc (mM rfl hf00) hx79) w hb hh) hx80) <| WD.two 5 11 (by kernel_rfl) ?_ ?_
   ·refine d0 rfl Tryz.func66 rfl (fun w hb hh => w_r06_Value (Mem.snap w) (subA A00 c00 ((4 : Int)).toNat (Lay.sz (BitVec 8))) x82.length (c00 - ((4 : Int)).toNat) _ (RdH.sn (RdT.slc (mM rfl hf00) hx82) w hb hh) hx83) <| du 6 rfl (conv_u64_u32 (a := x83) some_57 und_31 rfl) <| on 11 <| WS.eff rfl (by decide) (Eff.buildC 186 ([] : By) sty_22 rfl rfl rfl rfl rfl (by decide)) ?_
    rintro _ _ ⟨g86, rfl, rfl⟩
    refine aq ?_
    refine on 15 <| WS.eff rfl (by decide) (Eff.appendC 186 (xs := ([] : By)) (ys := x87) sty_22 rfl rfl rfl (RdT.slc (mM rfl hf00) hx87) hx88) ?_
    rintro _ _ ⟨A89, c90, rfl, rfl⟩
    refine aq ?_
    refine du 16 rfl (build rfl (bu_77_0_1_2_3 x80 (x83.setWidth 32) (x85 == 1#8) A89 x88.length c90)) <| on 18 <| ds 102 rfl agg_77 rfl rfl rfl <| du 19 rfl (Yld.assign rfl) <| du 20 rfl (Yld.assign rfl) <| dd <| k78 _ _ <| re ?_
    obtain rfl := si h
    exact rt [186] (ResIs.cellTmp2M (k := 102) rfl agg_77 rfl rfl rfl rfl rfl) (Ext.refl _ _) ⟨A89, x88.length, c90, rfl, rfl⟩
   skip
   refine WS.eff rfl (by decide) (Eff.buildC 186 ([] : By) sty_22 rfl rfl rfl rfl rfl (by decide)) ?_
   rintro _ _ ⟨g86, rfl, rfl⟩
   refine aq ?_
   refine on 5 <| d0 rfl Tryz.func66 rfl (fun w hb hh => w_r06_Value (Mem.snap w) (subA A00 c00 ((4 : Int)).toNat (Lay.sz (BitVec 8))) x82.length (c00 - ((4 : Int)).toNat) _ (RdH.sn (RdT.slc (mM rfl hf00) hx82) w hb hh) hx83) <| du 6 rfl (conv_u64_u32 (a := x83) some_57 und_31 rfl) <| on 15 <| WS.eff rfl (by decide) (Eff.appendC 186 (xs := ([] : By)) (ys := x87) sty_22 rfl rfl rfl (RdT.slc (mM rfl hf00) hx87) hx88) ?_
   rintro _ _ ⟨A89, c90, rfl, rfl⟩
   refine aq ?_
   refine du 16 rfl (build rfl (bu_77_0_1_2_3 x80 (x83.setWidth 32) (x85 == 1#8) A89 x88.length c90)) <| on 18 <| ds 102 rfl agg_77 rfl rfl rfl <| du 19 rfl (Yld.assign rfl) <| du 20 rfl (Yld.assign rfl) <| dd <| k78 _ _ <| re ?_
   obtain rfl := si h
   exact rt [186] (ResIs.cellTmp2M (k := 102) rfl agg_77 rfl rfl rfl rfl rfl) (Ext.refl _ _) ⟨A89, x88.length, c90, rfl, rfl⟩
  skip
  refine WS.eff rfl (by decide) (Eff.buildC 186 ([] : By) sty_22 rfl rfl rfl rfl rfl (by decide)) ?_
  rintro _ _ ⟨g86, rfl, rfl⟩
  refine aq ?_
  refine on 2 <| d0 rfl Tryz.func66 rfl (fun w hb hh => w_r06_Value (Mem.snap w) (subA A00 c00 ((8 : Int)).toNat (Lay.sz (BitVec 8))) x79.length (c00 - ((8 : Int)).toNat) _ (RdH.sn (RdT.slc (mM rfl hf00) hx79) w hb hh) hx80) <| on 5 <| d0 rfl Tryz.func66 rfl (fun w hb hh => w_r06_Value (Mem.snap w) (subA A00 c00 ((4 : Int)).toNat (Lay.sz (BitVec 8))) x82.length (c00 - ((4 : Int)).toNat) _ (RdH.sn (RdT.slc (mM rfl hf00) hx82) w hb hh) hx83) <| du 6 rfl (conv_u64_u32 (a := x83) some_57 und_31 rfl) <| on 15 <| WS.eff rfl (by decide) (Eff.appendC 186 (xs := ([] : By)) (ys := x87) sty_22 rfl rfl rfl (RdT.slc (mM rfl hf00) hx87) hx88) ?_
  rintro _ _ ⟨A89, c90, rfl, rfl⟩
  refine aq ?_
  refine du 16 rfl (build rfl (bu_77_0_1_2_3 x80 (x83.setWidth 32) (x85 == 1#8) A89 x88.length c90)) <| on 18 <| ds 102 rfl agg_77 rfl rfl rfl <| du 19 rfl (Yld.assign rfl) <| du 20 rfl (Yld.assign rfl) <| dd <| k78 _ _ <| re ?_
  obtain rfl := si h
  exact rt [186] (ResIs.cellTmp2M (k := 102) rfl agg_77 rfl rfl rfl rfl rfl) (Ext.refl _ _) ⟨A89, x88.length, c90, rfl, rfl⟩
 refine sr fun _ k91 => ya (build rfl (bu_77_)) <| sb 102 agg_77 rfl rfl rfl <| asn rfl <| ak rfl k91 <| re <| tr <| QK.nilOwn 192 5 (Lay.sz (BitVec 8)) none ?_
 obtain rfl := si h
 exact rt [192] (ResIs.cellTmp2M (k := 102) rfl agg_77 rfl rfl rfl rfl rfl) (Ext.refl _ _) ⟨none, 0, 0, rfl, rfl⟩
theorem und_2 : Tryz.prog.underlying 2 = some (.int .i64) := by kernel_rfl
theorem und_25 : Tryz.prog.underlying 25 = some (.slice 59) := by kernel_rfl
theorem agg_24 : Agg Tryz.prog 24 3 := ⟨⟨_, Tryz.underlying24, rfl⟩, by kernel_rfl⟩
theorem agg_59 : Agg Tryz.prog 59 4 := ⟨⟨_, Tryz.underlying59, rfl⟩, by kernel_rfl⟩
theorem bu_24_ : Tryz.prog.built 24 [] = some ([I64 (0 : Int), I64 (0 : Int), I64 (0 : Int)] : List Value).toArray := by kernel_rfl
theorem bu_24_0_1_2 : ∀ (a0 : Int) (a1 : Int) (a2 : Int), Tryz.prog.built 24 [(0, I64 a0), (1, I64 a1), (2, I64 a2)] = some ([I64 a0, I64 a1, I64 a2] : List Value).toArray := fun a0 a1 a2 => by kernel_rfl
theorem nm_56 : (Tryz.f56.name == "runtime.NumGoroutine") = false := by kernel_rfl
theorem nm_95 : (Tryz.f95.name == "runtime.NumGoroutine") = false := by kernel_rfl
theorem nm_97 : (Tryz.f97.name == "runtime.NumGoroutine") = false := by kernel_rfl
theorem nz_2 : (Tryz.prog.info? 2).map (fun i => decide (i.size = 0)) = some false := by kernel_rfl
theorem scal_2 : scal Tryz.prog 2 = true := by kernel_rfl
theorem some_2 : (Tryz.prog.underlying 2).isSome = true := by kernel_rfl
theorem sty_25 : STy Tryz.prog 25 59 (.agg #[(U64 0#64), (U32 0#32), (I64 0), (I64 0)]) 4 32 := STy.of und_25 (by kernel_rfl) rfl
theorem zr_24 : (Tryz.prog.info? 24).map (fun i => i.zero.map (·.cells)) = some (some ([I64 (0 : Int), I64 (0 : Int), I64 (0 : Int)] : List Value).toArray) := by kernel_rfl
theorem zr_59 : (Tryz.prog.info? 59).map (fun i => i.zero.map (·.cells)) = some (some ([U64 0#64, U32 0#32, I64 (0 : Int), I64 (0 : Int)] : List Value).toArray) := by kernel_rfl
instance : Lay Sapi_Item := ⟨4, fun a => [U64 a.fKey, U32 a.fCookie, I64 a.fOff, I64 a.fSize], fun _ => rfl, fun _ u h => by simp only [List.mem_cons, List.not_mem_nil, or_false] at h; rcases h with rfl | rfl | rfl | rfl <;> rfl, by decide⟩
theorem w_superblock_Valid (M0 : Mem) (u0 u1 u2 : Int) {res : Bool} (h : m_superblock_Valid u0 u1 u2 = some res) :
  Fn Tryz.prog 54 #[.agg ([I64 u0, I64 u1, I64 u2] : List Value).toArray] M0 fun r M' es => r = .bool res /\ es = [] := by
 refine Fn.intro (N := 31) Tryz.func54 rfl rfl (nle rfl) fun w0 => ?_
 unfold m_superblock_Valid at h
 refine sr fun _ k1 => bb 102 [I64 u0, I64 u1, I64 u2] rfl fun g2 => ak rfl k1 <| sr fun _ k3 => ya (fieldAddr Tryz.underlying24 rfl nz_3 rfl rfl) <| ya (loadB (k := 102) scal_3 rfl rfl rfl) <| ya (geq rfl rfl) <| mv rfl <| spl h decide_eq_true decide_eq_false (fun hc4 h => ?_) fun hc4 h => ?_
 ·refine yg (fieldAddr Tryz.underlying24 rfl nz_3 rfl rfl) <| yg (loadB (k := 102) scal_3 rfl rfl rfl) <| yg (lss rfl rfl) <| pt rfl rfl <| mv rfl <| spl h decide_eq_true decide_eq_false (fun hc5 h => ?_) fun hc5 h => ?_
  ·refine yg (fieldAddr Tryz.underlying24 rfl nz_3 rfl rfl) <| yg (loadB (k := 102) scal_3 rfl rfl rfl) <| yg (geq rfl rfl) <| pt rfl rfl <| mv rfl <| spl h decide_eq_true decide_eq_false (fun hc6 h => ?_) fun hc6 h => ?_
   ·refine yg (fieldAddr Tryz.underlying24 rfl nz_3 rfl rfl) <| yg (loadB (k := 102) scal_3 rfl rfl rfl) <| yg (leq rfl rfl) <| pt rfl rfl <| mv rfl <| spl h decide_eq_true decide_eq_false (fun hc7 h => ?_) fun hc7 h => ?_
    ·refine yg (fieldAddr Tryz.underlying24 rfl nz_2 rfl rfl) <| yg (loadB (k := 102) scal_2 rfl rfl rfl) <| yg (geq rfl rfl) <| pt rfl rfl <| mv rfl <| spl h decide_eq_true decide_eq_false (fun hc8 h => ?_) fun hc8 h => ?_
     ·refine yg (fieldAddr Tryz.underlying24 rfl nz_2 rfl rfl) <| yg (loadB (k := 102) scal_2 rfl rfl rfl) <| yg (leq rfl rfl) <| pt rfl rfl <| ak rfl k3 <| re ?_
      obtain rfl := si h
      exact rt0 (ResIs.one rfl rfl)
     refine sk <| sk <| sk <| pf rfl rfl <| ak rfl k3 <| re ?_
     obtain rfl := si h
     exact rt0 (ResIs.one rfl rfl)
    refine sk <| sk <| sk <| pf rfl rfl <| mv rfl <| sk <| sk <| sk <| pf rfl rfl <| ak rfl k3 <| re ?_
    obtain rfl := si h
    exact rt0 (ResIs.one rfl rfl)
   refine sk <| sk <| sk <| pf rfl rfl <| mv rfl <| sk <| sk <| sk <| pf rfl rfl <| mv rfl <| sk <| sk <| sk <| pf rfl rfl <| ak rfl k3 <| re ?_
   obtain rfl := si h
   exact rt0 (ResIs.one rfl rfl)
  refine sk <| sk <| sk <| pf rfl rfl <| mv rfl <| sk <| sk <| sk <| pf rfl rfl <| mv rfl <| sk <| sk <| sk <| pf rfl rfl <| mv rfl <| sk <| sk <| sk <| pf rfl rfl <| ak rfl k3 <| re ?_
  obtain rfl := si h
  exact rt0 (ResIs.one rfl rfl)
 refine sk <| sk <| sk <| pf rfl rfl <| mv rfl <| sk <| sk <| sk <| pf rfl rfl <| mv rfl <| sk <| sk <| sk <| pf rfl rfl <| mv rfl <| sk <| sk <| sk <| pf rfl rfl <| mv rfl <| sk <| sk <| sk <| pf rfl rfl <| ak rfl k3 <| re ?_
 obtain rfl := si h
 exact rt0 (ResIs.one rfl rfl)
theorem w_r07_Valid (M0 : Mem) (u0 u1 u2 : Int) {res : Bool} (h : m_r07_Valid u0 u1 u2 = some res) :
  Fn Tryz.prog 59 #[.agg ([I64 u0, I64 u1, I64 u2] : List Value).toArray] M0 fun r M' es => r = .bool res /\ es = [] := by
 refine Fn.intro (N := 31) Tryz.func59 rfl rfl (nle rfl) fun w0 => ?_
 unfold m_r07_Valid at h
 refine sr fun _ k1 => bb 102 [I64 u0, I64 u1, I64 u2] rfl fun g2 => ak rfl k1 <| sr fun _ k3 => ya (fieldAddr Tryz.underlying24 rfl nz_3 rfl rfl) <| ya (loadB (k := 102) scal_3 rfl rfl rfl) <| ya (geq rfl rfl) <| mv rfl <| spl h decide_eq_true decide_eq_false (fun hc4 h => ?_) fun hc4 h => ?_
 ·refine yg (fieldAddr Tryz.underlying24 rfl nz_3 rfl rfl) <| yg (loadB (k := 102) scal_3 rfl rfl rfl) <| yg (lss rfl rfl) <| pt rfl rfl <| mv rfl <| spl h decide_eq_true decide_eq_false (fun hc5 h => ?_) fun hc5 h => ?_
  ·refine yg (fieldAddr Tryz.underlying24 rfl nz_3 rfl rfl) <| yg (loadB (k := 102) scal_3 rfl rfl rfl) <| yg (geq rfl rfl) <| pt rfl rfl <| mv rfl <| spl h decide_eq_true decide_eq_false (fun hc6 h => ?_) fun hc6 h => ?_
   ·refine yg (fieldAddr Tryz.underlying24 rfl nz_3 rfl rfl) <| yg (loadB (k := 102) scal_3 rfl rfl rfl) <| yg (leq rfl rfl) <| pt rfl rfl <| mv rfl <| spl h decide_eq_true decide_eq_false (fun hc7 h => ?_) fun hc7 h => ?_
    ·refine yg (fieldAddr Tryz.underlying24 rfl nz_2 rfl rfl) <| yg (loadB (k := 102) scal_2 rfl rfl rfl) <| yg (geq rfl rfl) <| pt rfl rfl <| mv rfl <| spl h decide_eq_true decide_eq_false (fun hc8 h => ?_) fun hc8 h => ?_
     ·refine yg (fieldAddr Tryz.underlying24 rfl nz_2 rfl rfl) <| yg (loadB (k := 102) scal_2 rfl rfl rfl) <| yg (lss rfl rfl) <| pt rfl rfl <| ak rfl k3 <| re ?_
      obtain rfl := si h
      exact rt0 (ResIs.one rfl rfl)
     refine sk <| sk <| sk <| pf rfl rfl <| ak rfl k3 <| re ?_
     obtain rfl := si h
     exact rt0 (ResIs.one rfl rfl)
    refine sk <| sk <| sk <| pf rfl rfl <| mv rfl <| sk <| sk <| sk <| pf rfl rfl <| ak rfl k3 <| re ?_
    obtain rfl := si h
    exact rt0 (ResIs.one rfl rfl)
   refine sk <| sk <| sk <| pf rfl rfl <| mv rfl <| sk <| sk <| sk <| pf rfl rfl <| mv rfl <| sk <| sk <| sk <| pf rfl rfl <| ak rfl k3 <| re ?_
   obtain rfl := si h
   exact rt0 (ResIs.one rfl rfl)
  refine sk <| sk <| sk <| pf rfl rfl <| mv rfl <| sk <| sk <| sk <| pf rfl rfl <| mv rfl <| sk <| sk <| sk <| pf rfl rfl <| mv rfl <| sk <| sk <| sk <| pf rfl rfl <| ak rfl k3 <| re ?_
  obtain rfl := si h
  exact rt0 (ResIs.one rfl rfl)
 refine sk <| sk <| sk <| pf rfl rfl <| mv rfl <| sk <| sk <| sk <| pf rfl rfl <| mv rfl <| sk <| sk <| sk <| pf rfl rfl <| mv rfl <| sk <| sk <| sk <| pf rfl rfl <| mv rfl <| sk <| sk <| sk <| pf rfl rfl <| ak rfl k3 <| re ?_
 obtain rfl := si h
 exact rt0 (ResIs.one rfl rfl)
theorem w_r07_Encode (M0 : Mem) (u0 u1 u2 : Int) {res : By × Int} (h : m_r07_Encode u0 u1 u2 = some res) :
  Fn Tryz.prog 31 #[.agg ([I64 u0, I64 u1, I64 u2] : List Value).toArray] M0 fun r M' es => ∃ (A1 : Option Addr) (n1 c1 : Nat), r = .tuple #[.slice A1 n1 c1, I64 res.2] /\ es = [.own 5 (Lay.sz (BitVec 8)) A1 n1 c1 (cel res.1)] := by
 refine Fn.intro (N := 30) Tryz.func31 rfl rfl (nle rfl) fun w0 => ?_
 unfold m_r07_Encode at h
 refine sr fun _ k1 => bb 102 [I64 u0, I64 u1, I64 u2] rfl fun g2 => asn rfl <| ak rfl k1 <| sq fun _ k3 => sr fun _ k4 => bd h fun x5 hx5 h => ya (loadBM (k := 102) agg_24 rfl rfl rfl) <| c0 Tryz.func59 rfl (fun w hb hh => w_r07_Valid (Mem.snap w) u0 u1 u2 hx5) <| ya (notB rfl) <| dz k4 <| cnn h rfl not_f (fun q => not_t (Bool.eq_false_iff.2 q)) (fun hc7 h => ?_) fun hc7 h => ?_
 ·refine ss <| k3 _ _ <| sr fun _ k8 => ?_
  obtain ⟨x10, hx10, h⟩ := bnd h
  obtain ⟨x19, hx19, h⟩ := bnd h
  refine WL.eff (by decide) (Eff.buildC 109 ([78#8, 86#8, 79#8, 76#8] : By) sty_22 rfl rfl rfl rfl rfl (by decide)) ?_
  rintro _ _ ⟨g9, rfl, rfl⟩
  refine WL.eff (by decide) (Eff.mark 109 und_22 und_5 rfl rfl rfl (by decide)) ?_
  rintro _ _ ⟨rfl, rfl⟩
  refine ya (fieldAddr Tryz.underlying24 rfl nz_3 rfl rfl) <| ya (loadB (k := 102) scal_3 rfl rfl rfl) <| ya (conv_i64_u64 some_3 und_57 rfl) <| c1 114 Tryz.func52 rfl (fun w hb hh => w_r06_Number (Mem.snap w) (BitVec.ofInt 64 u0) (2 : Int) hx10) fun A15 n16 c17 => WL.eff (by decide) (Eff.appendGC 118 (xs := ([78#8, 86#8, 79#8, 76#8] : By)) (ys := x10) sty_22 rfl (RdT.ro (k := 109) rfl (by decide)) rfl (rO 114 rfl) hx19) ?_
  rintro _ _ ⟨A20, c21, rfl, rfl⟩
  refine ak rfl k8 <| sd [(0, _), (102, _), (109, _), (114, _)] mixed fun _ k22 => ?_
  obtain ⟨x23, hx23, h⟩ := bnd h
  obtain ⟨x31, hx31, h⟩ := bnd h
  obtain ⟨x34, hx34, h⟩ := bnd h
  obtain ⟨x42, hx42, h⟩ := bnd h
  refine dm 0 rfl rfl <| du 1 rfl (fieldAddr Tryz.underlying24 rfl nz_3 rfl rfl) <| du 2 rfl (loadB (k := 102) scal_3 rfl rfl rfl) <| du 3 rfl (conv_i64_u64 some_3 und_57 rfl) <| du 6 rfl (fieldAddr Tryz.underlying24 rfl nz_2 rfl rfl) <| du 7 rfl (loadB (k := 102) scal_2 rfl rfl rfl) <| du 8 rfl (conv_i64_u64 some_2 und_57 rfl) <| on 4 <| WS.eff rfl (by decide) (Eff.callS 127 rfl Tryz.func52 nm_52 rfl rfl (fun w hb hh => w_r06_Number (Mem.snap w) (BitVec.ofInt 64 u1) (2 : Int) hx23)) ?_
  rintro _ _ ⟨_, ⟨A28, n29, c30, rfl, rfl⟩, rfl⟩
  refine aq ?_
  refine on 5 <| WS.eff rfl (by decide) (Eff.appendC 118 (xs := x19) (ys := x23) sty_22 rfl rfl rfl (rO 127 rfl) hx31) ?_
  rintro _ _ ⟨A32, c33, rfl, rfl⟩
  refine aq ?_
  refine on 9 <| WS.eff rfl (by decide) (Eff.callS 138 rfl Tryz.func52 nm_52 rfl rfl (fun w hb hh => w_r06_Number (Mem.snap w) (BitVec.ofInt 64 u2) (4 : Int) hx34)) ?_
  rintro _ _ ⟨_, ⟨A39, n40, c41, rfl, rfl⟩, rfl⟩
  refine aq ?_
  refine on 10 <| WS.eff rfl (by decide) (Eff.appendC 118 (xs := x31) (ys := x34) sty_22 rfl rfl rfl (rO 138 rfl) hx42) ?_
  rintro _ _ ⟨A43, c44, rfl, rfl⟩
  refine aq ?_
  refine du 11 rfl (Yld.assign rfl) <| dd <| k22 _ _ <| sr fun _ k45 => ?_
  obtain ⟨x46, hx46, h⟩ := bnd h
  obtain ⟨x54, hx54, h⟩ := bnd h
  refine mv rfl <| mv rfl <| c1 150 Tryz.func26 rfl (fun w hb hh => w_r06_Check (Mem.snap w) A43 x42.length c44 _ (RdH.sn (rO 118 rfl) w hb hh) hx46) fun A51 n52 c53 => ap 118 (xs := x42) (ys := x46) sty_22 rfl rfl rfl (rO 150 rfl) hx54 fun A55 c56 => asn rfl <| ak rfl k45 <| re ?_
  obtain rfl := si h
  exact rt [118] (ResIs.two rfl rfl rfl) (Ext.refl _ _) ⟨A55, x54.length, c56, rfl, rfl⟩
 refine sr fun _ k57 => asn rfl <| ak rfl k57 <| re <| tr <| QK.nilOwn 158 5 (Lay.sz (BitVec 8)) none ?_
 obtain rfl := si h
 exact rt [158] (ResIs.two rfl rfl rfl) (Ext.refl _ _) ⟨none, 0, 0, rfl, rfl⟩
theorem w_r07_Decode (M0 : Mem) (A00 : Option Addr) (n00 c00 : Nat) (x00 : By) (hf00 : SlT M0 A00 n00 c00 x00) {res : Int × Int × Int × Int} (h : m_r07_Decode x00 = some res) :
  Fn Tryz.prog 73 #[.slice A00 n00 c00] M0 fun r M' es => r = .tuple #[.agg ([I64 res.1, I64 res.2.1, I64 res.2.2.1] : List Value).toArray, I64 res.2.2.2] /\ es = [] := by
 refine Fn.intro (N := 41) Tryz.func73 rfl rfl (nle rfl) fun w0 => ?_
 unfold m_r07_Decode at h
 refine sr fun _ k1 => al 102 zr_24 fun g2 => ak rfl k1 <| sq fun _ k3 => sr fun _ k4 => mv rfl <| ya (lenC (xs := x00) und_22 rfl (mM rfl hf00)) <| ya (lss rfl rfl) <| dz k4 <| cI h rfl (fun hc5 h => ?_) fun hc5 h => ?_
 ·refine sr fun _ k6 => ya (build rfl (bu_24_)) <| sb 102 agg_24 rfl rfl rfl <| ak rfl k6 <| re <| tr ?_
  obtain rfl := si h
  exact rt0 (ResIs.cellTmpM (k := 102) rfl agg_24 rfl rfl rfl rfl)
 refine ss <| k3 _ _ <| sq fun _ k7 => sr fun _ k8 => bd h fun x9 hx9 h => mv rfl <| ya (sliceHC (xs := x00) sty_22 rfl rfl (mM rfl hf00) hx9) <| ya (b2sC (xs := x9) und_22 und_5 und_9 rfl (RdT.slc0 (mM rfl hf00) hx9)) <| ya (neqStr (a := x9) (b := ([78#8, 86#8, 79#8, 76#8] : By)) rfl rfl) <| dz k8 <| cnn h rfl neq_of_eq neq_of_ne (fun hc10 h => ?_) fun hc10 h => ?_
 ·refine ss <| k7 _ _ <| sq fun _ k11 => sd [(0, _), (102, _)] mixed fun _ k12 => ?_
  obtain ⟨x13, hx13, h⟩ := bnd h
  obtain ⟨x14, hx14, h⟩ := bnd h
  obtain ⟨x22, hx22, h⟩ := bnd h
  refine dm 0 rfl rfl <| du 1 rfl (sliceHC (xs := x00) sty_22 rfl rfl (mM rfl hf00) hx13) <| dm 4 rfl rfl <| du 5 rfl (sliceLHC (xs := x00) sty_22 rfl rfl rfl (mM rfl hf00) hx22) <| du 6 rfl (b2sC (xs := x22) und_22 und_5 und_9 rfl (RdT.slc (mM rfl hf00) hx22)) <| on 2 <| WS.eff rfl (by decide) (Eff.callS 118 rfl Tryz.func26 nm_26 rfl rfl (fun w hb hh => w_r06_Check (Mem.snap w) A00 x13.length c00 _ (RdH.sn (RdT.slc0 (mM rfl hf00) hx13) w hb hh) hx14)) ?_
  rintro _ _ ⟨_, ⟨A19, n20, c21, rfl, rfl⟩, rfl⟩
  refine aq ?_
  refine on 3 <| dy rfl (b2sC (xs := x14) und_22 und_5 und_9 rfl (rO 118 rfl)) <| du 7 rfl (neqStr (a := x14) (b := x22) rfl rfl) <| dd <| k12 _ _ <| cnn h rfl neq_of_eq neq_of_ne (fun hc23 h => ?_) fun hc23 h => ?_
  ·refine ss <| k11 _ _ <| sd [(0, _), (102, _), (118, _)] mixed fun _ k24 => ?_
   obtain ⟨x25, hx25, h⟩ := bnd h
   obtain ⟨x26, hx26, h⟩ := bnd h
   obtain ⟨x28, hx28, h⟩ := bnd h
   obtain ⟨x29, hx29, h⟩ := bnd h
   obtain ⟨x31, hx31, h⟩ := bnd h
   obtain ⟨x32, hx32, h⟩ := bnd h
   refine dm 0 rfl rfl <| du 1 rfl (sliceLHC (xs := x00) sty_22 rfl rfl rfl (mM rfl hf00) hx25) <| dm 4 rfl rfl <| du 5 rfl (sliceLHC (xs := x00) sty_22 rfl rfl rfl (mM rfl hf00) hx28) <| dm 8 rfl rfl <| du 9 rfl (sliceLHC (xs := x00) sty_22 rfl rfl rfl (mM rfl hf00) hx31) <| WD.two 2 13 (by kernel_rfl) ?_ ?_
   ·refine d0 rfl Tryz.func66 rfl (fun w hb hh => w_r06_Value (Mem.snap w) (subA A00 c00 ((4 : Int)).toNat (Lay.sz (BitVec 8))) x25.length (c00 - ((4 : Int)).toNat) _ (RdH.sn (RdT.slc (mM rfl hf00) hx25) w hb hh) hx26) <| du 3 rfl (conv_u64_i64 (a := x26) some_57 und_3 rfl) <| WD.two 6 13 (by kernel_rfl) ?_ ?_
    ·refine d0 rfl Tryz.func66 rfl (fun w hb hh => w_r06_Value (Mem.snap w) (subA A00 c00 ((6 : Int)).toNat (Lay.sz (BitVec 8))) x28.length (c00 - ((6 : Int)).toNat) _ (RdH.sn (RdT.slc (mM rfl hf00) hx28) w hb hh) hx29) <| du 7 rfl (conv_u64_i64 (a := x29) some_57 und_3 rfl) <| WD.two 10 13 (by kernel_rfl) ?_ ?_
     ·refine d0 rfl Tryz.func66 rfl (fun w hb hh => w_r06_Value (Mem.snap w) (subA A00 c00 ((8 : Int)).toNat (Lay.sz (BitVec 8))) x31.length (c00 - ((8 : Int)).toNat) _ (RdH.sn (RdT.slc (mM rfl hf00) hx31) w hb hh) hx32) <| du 11 rfl (conv_u64_i64 (a := x32) some_57 und_2 rfl) <| du 12 rfl (build rfl (bu_24_0_1_2 x26.toInt x29.toInt x32.toInt)) <| on 13 <| WS.eff rfl (by decide) (Eff.alloc 134 rfl zr_24) ?_
      rintro _ _ ⟨g34, rfl, rfl⟩
      refine aq ?_
      refine on 14 <| ds 134 rfl agg_24 rfl rfl rfl <| dd <| k24 _ _ <| sq fun _ k35 => sr fun _ k36 => bd h fun x37 hx37 h => ya (loadBM (k := 134) agg_24 rfl rfl rfl) <| c0 Tryz.func59 rfl (fun w hb hh => w_r07_Valid (Mem.snap w) x26.toInt x29.toInt x32.toInt hx37) <| ya (notB rfl) <| dz k36 <| cnn h rfl not_f (fun q => not_t (Bool.eq_false_iff.2 q)) (fun hc39 h => ?_) fun hc39 h => ?_
      ·refine ss <| k35 _ _ <| sr fun _ k40 => ya (loadBM (k := 134) agg_24 rfl rfl rfl) <| sb 102 agg_24 rfl rfl rfl <| ak rfl k40 <| re ?_
       obtain rfl := si h
       exact rt0 (ResIs.cellTmpM (k := 102) rfl agg_24 rfl rfl rfl rfl)
      refine sr fun _ k41 => ya (build rfl (bu_24_)) <| sb 102 agg_24 rfl rfl rfl <| ak rfl k41 <| re <| tr ?_
      obtain rfl := si h
      exact rt0 (ResIs.cellTmpM (k := 102) rfl agg_24 rfl rfl rfl rfl)
     skip
     refine WS.eff rfl (by decide) (Eff.alloc 134 rfl zr_24) ?_
     rintro _ _ ⟨g34, rfl, rfl⟩
     refine aq ?_
     refine on 10 <| d0 rfl Tryz.func66 rfl (fun w hb hh => w_r06_Value (Mem.snap w) (subA A00 c00 ((8 : Int)).toNat (Lay.sz (BitVec 8))) x31.length (c00 - ((8 : Int)).toNat) _ (RdH.sn (RdT.slc (mM rfl hf00) hx31) w hb hh) hx32) <| du 11 rfl (conv_u64_i64 (a := x32) some_57 und_2 rfl) <| du 12 rfl (build rfl (bu_24_0_1_2 x26.toInt x29.toInt x32.toInt)) <| on 14 <| ds 134 rfl agg_24 rfl rfl rfl <| dd <| k24 _ _ <| sq fun _ k42 => sr fun _ k43 => bd h fun x44 hx44 h => ya (loadBM (k := 134) agg_24 rfl rfl rfl) <| c0 Tryz.func59 rfl (fun w hb hh => w_r07_Valid (Mem.snap w) x26.toInt x29.toInt x32.toInt hx44) <| ya (notB rfl) <| dz k43 <| cnn h rfl not_f (fun q => not_t (Bool.eq_false_iff.2 q)) (fun hc46 h => ?_) fun hc46 h => ?_
     ·refine ss <| k42 _ _ <| sr fun _ k47 => ya (loadBM (k := 134) agg_24 rfl rfl rfl) <| sb 102 agg_24 rfl rfl rfl <| ak rfl k47 <| re ?_
      obtain rfl := si h
      exact rt0 (ResIs.cellTmpM (k := 102) rfl agg_24 rfl rfl rfl rfl)
     refine sr fun _ k48 => ya (build rfl (bu_24_)) <| sb 102 agg_24 rfl rfl rfl <| ak rfl k48 <| re <| tr ?_
     obtain rfl := si h
     exact rt0 (ResIs.cellTmpM (k := 102) rfl agg_24 rfl rfl rfl rfl)
    skip
    refine WS.eff rfl (by decide) (Eff.alloc 134 rfl zr_24) ?_
    rintro _ _ ⟨g34, rfl, rfl⟩
    refine aq ?_
    refine on 6 <| d0 rfl Tryz.func66 rfl (fun w hb hh => w_r06_Value (Mem.snap w) (subA A00 c00 ((6 : Int)).toNat (Lay.sz (BitVec 8))) x28.length (c00 - ((6 : Int)).toNat) _ (RdH.sn (RdT.slc (mM rfl hf00) hx28) w hb hh) hx29) <| du 7 rfl (conv_u64_i64 (a := x29) some_57 und_3 rfl) <| on 10 <| d0 rfl Tryz.func66 rfl (fun w hb hh => w_r06_Value (Mem.snap w) (subA A00 c00 ((8 : Int)).toNat (Lay.sz (BitVec 8))) x31.length (c00 - ((8 : Int)).toNat) _ (RdH.sn (RdT.slc (mM rfl hf00) hx31) w hb hh) hx32) <| du 11 rfl (conv_u64_i64 (a := x32) some_57 und_2 rfl) <| du 12 rfl (build rfl (bu_24_0_1_2 x26.toInt x29.toInt x32.toInt)) <| on 14 <| ds 134 rfl agg_24 rfl rfl rfl <| dd <| k24 _ _ <| sq fun _ k49 => sr fun _ k50 => bd h fun x51 hx51 h => ya (loadBM (k := 134) agg_24 rfl rfl rfl) <| c0 Tryz.func59 rfl (fun w hb hh => w_r07_Valid (Mem.snap w) x26.toInt x29.toInt x32.toInt hx51) <| ya (notB rfl) <| dz k50 <| cnn h rfl not_f (fun q => not_t (Bool.eq_false_iff.2 q)) (fun hc53 h => ?_) fun hc53 h => ?_
    ·refine ss <| k49 _ _ <| sr fun _ k54 => ya (loadBM (k := 134) agg_24 rfl rfl rfl) <| sb 102 agg_24 rfl rfl rfl <| ak rfl k54 <| re ?_
     obtain rfl := si h
     exact rt0 (ResIs.cellTmpM (k := 102) rfl agg_24 rfl rfl rfl rfl)
    refine sr fun _ k55 => ya (build rfl (bu_24_)) <| sb 102 agg_24 rfl rfl rfl <| ak rfl k55 <| re <| tr ?_
    obtain rfl := si h
    exact rt0 (ResIs.cellTmpM (k := 102) rfl agg_24 rfl rfl rfl rfl)
   skip
   refine WS.eff rfl (by decide) (Eff.alloc 134 rfl zr_24) ?_
   rintro _ _ ⟨g34, rfl, rfl⟩
   refine aq ?_
   refine on 2 <| d0 rfl Tryz.func66 rfl (fun w hb hh => w_r06_Value (Mem.snap w) (subA A00 c00 ((4 : Int)).toNat (Lay.sz (BitVec 8))) x25.length (c00 - ((4 : Int)).toNat) _ (RdH.sn (RdT.slc (mM rfl hf00) hx25) w hb hh) hx26) <| du 3 rfl (conv_u64_i64 (a := x26) some_57 und_3 rfl) <| on 6 <| d0 rfl Tryz.func66 rfl (fun w hb hh => w_r06_Value (Mem.snap w) (subA A00 c00 ((6 : Int)).toNat (Lay.sz (BitVec 8))) x28.length (c00 - ((6 : Int)).toNat) _ (RdH.sn (RdT.slc (mM rfl hf00) hx28) w hb hh) hx29) <| du 7 rfl (conv_u64_i64 (a := x29) some_57 und_3 rfl) <| on 10 <| d0 rfl Tryz.func66 rfl (fun w hb hh => w_r06_Value (Mem.snap w) (subA A00 c00 ((8 : Int)).toNat (Lay.sz (BitVec 8))) x31.length (c00 - ((8 : Int)).toNat) _ (RdH.sn (RdT.slc (mM rfl hf00) hx31) w hb hh) hx32) <| du 11 rfl (conv_u64_i64 (a := x32) some_57 und_2 rfl) <| du 12 rfl (build rfl (bu_24_0_1_2 x26.toInt x29.toInt x32.toInt)) <| on 14 <| ds 134 rfl agg_24 rfl rfl rfl <| dd <| k24 _ _ <| sq fun _ k56 => sr fun _ k57 => bd h fun x58 hx58 h => ya (loadBM (k := 134) agg_24 rfl rfl rfl) <| c0 Tryz.func59 rfl (fun w hb hh => w_r07_Valid (Mem.snap w) x26.toInt x29.toInt x32.toInt hx58) <| ya (notB rfl) <| dz k57 <| cnn h rfl not_f (fun q => not_t (Bool.eq_false_iff.2 q)) (fun hc60 h => ?_) fun hc60 h => ?_
   ·refine ss <| k56 _ _ <| sr fun _ k61 => ya (loadBM (k := 134) agg_24 rfl rfl rfl) <| sb 102 agg_24 rfl rfl rfl <| ak rfl k61 <| re ?_
    obtain rfl := si h
    exact rt0 (ResIs.cellTmpM (k := 102) rfl agg_24 rfl rfl rfl rfl)
   refine sr fun _ k62 => ya (build rfl (bu_24_)) <| sb 102 agg_24 rfl rfl rfl <| ak rfl k62 <| re <| tr ?_
   obtain rfl := si h
   exact rt0 (ResIs.cellTmpM (k := 102) rfl agg_24 rfl rfl rfl rfl)
  refine sr fun _ k63 => ya (build rfl (bu_24_)) <| sb 102 agg_24 rfl rfl rfl <| ak rfl k63 <| re <| tr ?_
  obtain rfl := si h
  exact rt0 (ResIs.cellTmpM (k := 102) rfl agg_24 rfl rfl rfl rfl)
 refine sr fun _ k64 => ya (build rfl (bu_24_)) <| sb 102 agg_24 rfl rfl rfl <| ak rfl k64 <| re <| tr ?_
 obtain rfl := si h
 exact rt0 (ResIs.cellTmpM (k := 102) rfl agg_24 rfl rfl rfl rfl)
theorem w_index_ascending (M0 : Mem) (A00 : Option Addr) (n00 c00 : Nat) (x00 : List Sapi_Item) (hf00 : SlT M0 A00 n00 c00 x00) {res : Bool} (h : m_index_ascending x00 = some res) :
  Fn Tryz.prog 94 #[.slice A00 n00 c00] M0 fun r M' es => r = .bool res /\ es = [] := by
 refine Fn.intro (N := 26) Tryz.func94 rfl rfl (nle rfl) fun w0 => ?_
 unfold m_index_ascending at h
 refine sr fun _ k1 => ak rfl k1 <| ct (σ := Unit) (fun _ => []) (fun _ => [(0, .mem M0)]) (fun _ => m_index_ascending_j0 = some res) (fun _ k2 => ?_) ?_
 ·refine sr fun _ k3 => mv rfl <| ya (lenC (xs := x00) und_25 rfl (mM rfl hf00)) <| mv rfl <| dz k3 <| bl <| lp (τ := Int) (fun x4 => [(0, .slice A00 n00 c00), (5, .slice A00 n00 c00), (6, I64 (x00.length : Int)), (7, I64 x4)]) (fun x4 => [(0, .mem M0)]) (fun q5 x4 => m_index_ascending_l1 x00 q5 x4 = some res) ((0 : Int)) ?_ (by simp [m_index_ascending_l1]) ?_
  ·exact h
  rintro q5 x4 h _ k6
  unfold m_index_ascending_l1 at h
  refine sr fun _ k7 => ya (lss rfl rfl) <| dz k7 <| sq fun _ k8 => cI h rfl (fun hc9 h => ?_) fun hc9 h => ?_
  ·refine ss <| k8 _ _ <| sq fun _ k10 => bl <| sr fun _ k11 => bd h fun x12 hx12 h => mv rfl <| ya (idxC (xs := x00) sty_25 rfl rfl (mM rfl hf00) hx12) <| ya (loadA (xs := x00) agg_59 rfl (mM rfl hf00) hx12 rfl) <| al 113 zr_59 fun g13 => asn rfl <| sb 113 agg_59 rfl rfl rfl <| dz k11 <| sd [(0, _), (113, _)] mixed fun _ k14 => ?_
   by_cases hc15 : (0 : Int) < x4
   ·replace h := of_t hc15 h
    obtain ⟨x16, hx16, h⟩ := bnd h
    obtain ⟨x17, hx17, h⟩ := bnd h
    refine dm 0 rfl rfl <| du 1 rfl (gtr rfl rfl) <| dm 2 rfl rfl <| WD.new (v' := .bool true) (congrArg Value.bool (decide_eq_true hc15)) <| dv 3 rfl (fieldAddr Tryz.underlying59 rfl nz_57 rfl rfl) <| dv 4 rfl (loadB (k := 113) scal_57 rfl rfl rfl) <| dv 5 rfl (Yld.move rfl) <| dv 6 rfl (Yld.move rfl) <| dv 7 rfl (subC rfl rfl hx16) <| dv 8 rfl (idxC (xs := x00) sty_25 rfl rfl (mM rfl hf00) hx17) <| dv 9 rfl (fieldAddrC Tryz.underlying59 rfl nz_57 rfl rfl) <| dv 10 rfl (loadC (xs := x00) (j := 0) scal_57 rfl (mM rfl hf00) hx17 rfl rfl) <| dv 11 rfl (leq_u64 (a := x12.fKey) (b := x17.fKey) rfl rfl) <| du 12 rfl (pickT rfl rfl) <| dd <| k14 _ _ <| cI h rfl (fun hc18 h => ?_) fun hc18 h => ?_
    ·refine sr fun _ k19 => ak rfl k19 <| re <| br <| tr <| tr <| br <| tr ?_
     obtain rfl := si h
     exact rt0 (ResIs.one rfl rfl)
    refine WC.skip <| bn <| tn <| k10 _ _ <| rg fun _ k20 => bd h fun x21 hx21 h => ya (addC rfl rfl hx21) <| mv rfl <| dz k20 <| tn <| kw (k6 (x21) h)
   replace h := of_f hc15 h
   refine dm 0 rfl rfl <| du 1 rfl (gtr rfl rfl) <| dm 2 rfl rfl <| WD.new (v' := .bool false) (congrArg Value.bool (decide_eq_false hc15)) <| dw 3 rfl <| dw 4 rfl <| dw 5 rfl <| dw 6 rfl <| dw 7 rfl <| dw 8 rfl <| dw 9 rfl <| dw 10 rfl <| dw 11 rfl <| du 12 rfl (pickF rfl rfl) <| dd <| k14 _ _ <| cdF rfl <| WC.skip <| bn <| tn <| k10 _ _ <| rg fun _ k22 => bd h fun x23 hx23 h => ya (addC rfl rfl hx23) <| mv rfl <| dz k22 <| tn <| kw (k6 (x23) h)
  exact xi <| te <| te <| bx <| tn <| kw (k2 () h)
 rintro _ h
 unfold m_index_ascending_j0 at h
 refine sr fun _ k24 => ak rfl k24 <| re ?_
 obtain rfl := si h
 exact rt0 (ResIs.one rfl rfl)
theorem w_index_valid (M0 : Mem) (u0 : BitVec 64) (u1 : BitVec 32) (u2 u3 : Int) {res : Bool} (h : m_index_valid u0 u1 u2 u3 = some res) :
  Fn Tryz.prog 96 #[.agg ([U64 u0, U32 u1, I64 u2, I64 u3] : List Value).toArray] M0 fun r M' es => r = .bool res /\ es = [] := by
 refine Fn.intro (N := 27) Tryz.func96 rfl rfl (nle rfl) fun w0 => ?_
 unfold m_index_valid at h
 refine sr fun _ k1 => bb 102 [U64 u0, U32 u1, I64 u2, I64 u3] rfl fun g2 => ak rfl k1 <| sr fun _ k3 => ya (fieldAddr Tryz.underlying59 rfl nz_2 rfl rfl) <| ya (loadB (k := 102) scal_2 rfl rfl rfl) <| ya (geq rfl rfl) <| mv rfl <| spl h decide_eq_true decide_eq_false (fun hc4 h => ?_) fun hc4 h => ?_
 ·refine yg (fieldAddr Tryz.underlying59 rfl nz_2 rfl rfl) <| yg (loadB (k := 102) scal_2 rfl rfl rfl) <| yg (leq rfl rfl) <| pt rfl rfl <| mv rfl <| spl h decide_eq_true decide_eq_false (fun hc5 h => ?_) fun hc5 h => ?_
  ·obtain ⟨x6, hx6, h⟩ := bnd h
   refine yg (fieldAddr Tryz.underlying59 rfl nz_2 rfl rfl) <| yg (loadB (k := 102) scal_2 rfl rfl rfl) <| yg (remC rfl rfl hx6) <| yg (eqlI rfl rfl) <| pt rfl rfl <| mv rfl <| spl h beq_iff_eq.2 beq_eq_false_iff_ne.2 (fun hc7 h => ?_) fun hc7 h => ?_
   ·refine yg (fieldAddr Tryz.underlying59 rfl nz_3 rfl rfl) <| yg (loadB (k := 102) scal_3 rfl rfl rfl) <| yg (geq rfl rfl) <| pt rfl rfl <| mv rfl <| spl h decide_eq_true decide_eq_false (fun hc8 h => ?_) fun hc8 h => ?_
    ·refine yg (fieldAddr Tryz.underlying59 rfl nz_3 rfl rfl) <| yg (loadB (k := 102) scal_3 rfl rfl rfl) <| yg (leq rfl rfl) <| pt rfl rfl <| ak rfl k3 <| re ?_
     obtain rfl := si h
     exact rt0 (ResIs.one rfl rfl)
    refine sk <| sk <| sk <| pf rfl rfl <| ak rfl k3 <| re ?_
    obtain rfl := si h
    exact rt0 (ResIs.one rfl rfl)
   refine sk <| sk <| sk <| pf rfl rfl <| mv rfl <| sk <| sk <| sk <| pf rfl rfl <| ak rfl k3 <| re ?_
   obtain rfl := si h
   exact rt0 (ResIs.one rfl rfl)
  refine sk <| sk <| sk <| sk <| pf rfl rfl <| mv rfl <| sk <| sk <| sk <| pf rfl rfl <| mv rfl <| sk <| sk <| sk <| pf rfl rfl <| ak rfl k3 <| re ?_
  obtain rfl := si h
  exact rt0 (ResIs.one rfl rfl)
 refine sk <| sk <| sk <| pf rfl rfl <| mv rfl <| sk <| sk <| sk <| sk <| pf rfl rfl <| mv rfl <| sk <| sk <| sk <| pf rfl rfl <| mv rfl <| sk <| sk <| sk <| pf rfl rfl <| ak rfl k3 <| re ?_
 obtain rfl := si h
 exact rt0 (ResIs.one rfl rfl)
theorem w_index_Valid (M0 : Mem) (A00 : Option Addr) (n00 c00 : Nat) (x00 : List Sapi_Item) (hf00 : SlT M0 A00 n00 c00 x00) {res : Bool} (h : m_index_Valid x00 = some res) :
  Fn Tryz.prog 55 #[.slice A00 n00 c00] M0 fun r M' es => r = .bool res /\ es = [] := by
 refine Fn.intro (N := 10) Tryz.func55 rfl rfl (nle rfl) fun w0 => ?_
 unfold m_index_Valid at h
 refine sr fun _ k1 => ak rfl k1 <| sr fun _ k2 => bd h fun x3 hx3 h => mv rfl <| c0 Tryz.func94 rfl (fun w hb hh => w_index_ascending (Mem.snap w) A00 n00 c00 _ (sM rfl hf00 w hb hh) hx3) <| mv rfl <| spl h id Bool.eq_false_iff.2 (fun hc5 h => ?_) fun hc5 h => ?_
 ·refine mvg rfl <| WL.inlG (by decide) rfl Tryz.func56 nm_56 rfl rfl (Tri.intro (N := 9) Tryz.func56 rfl rfl (nle rfl) ?_)
  refine sr fun _ k6 => ak rfl k6 <| sr fun _ k7 => mv rfl <| mv rfl <| WL.inl (by decide) Tryz.func97 nm_97 rfl rfl (Tri.intro (N := 19) Tryz.func97 rfl rfl (nle rfl) ?_)
  refine sr fun _ k8 => ak rfl k8 <| ct (σ := Unit) (fun _ => []) (fun _ => [(0, .mem M0)]) (fun _ => m_index_Valid_j0 = some res) (fun _ k9 => ?_) ?_
  ·refine sr fun _ k10 => mv rfl <| ya (lenC (xs := x00) und_25 rfl (mM rfl hf00)) <| mv rfl <| dz k10 <| bl <| lp (τ := Int) (fun x11 => [(0, .slice A00 n00 c00), (1, .func (.func 95) #[] #[]), (7, I64 (x00.length : Int)), (8, I64 x11)]) (fun x11 => [(0, .mem M0)]) (fun q12 x11 => m_index_Valid_l1 x00 q12 x11 = some res) ((0 : Int)) ?_ (by simp [m_index_Valid_l1]) ?_
   ·exact h
   rintro q12 x11 h _ k13
   unfold m_index_Valid_l1 at h
   refine sr fun _ k14 => ya (lss rfl rfl) <| dz k14 <| sq fun _ k15 => cI h rfl (fun hc16 h => ?_) fun hc16 h => ?_
   ·refine ss <| k15 _ _ <| sq fun _ k17 => bl <| sr fun _ k18 => mv rfl <| ak rfl k18 <| sr fun _ k19 => bd h fun x20 hx20 h => mv rfl <| mv rfl <| mv rfl <| ya (idxC (xs := x00) sty_25 rfl rfl (mM rfl hf00) hx20) <| ya (loadA (xs := x00) agg_59 rfl (mM rfl hf00) hx20 rfl) <| WL.inlV (by decide) rfl Tryz.func95 nm_95 rfl rfl (Tri.intro (N := 6) Tryz.func95 rfl rfl (nle rfl) ?_)
    refine sr fun _ k21 => bb 122 [U64 x20.fKey, U32 x20.fCookie, I64 x20.fOff, I64 x20.fSize] rfl fun g22 => ak rfl k21 <| sr fun _ k23 => bd h fun x24 hx24 h => ya (loadBM (k := 122) agg_59 rfl rfl rfl) <| c0 Tryz.func96 rfl (fun w hb hh => w_index_valid (Mem.snap w) x20.fKey x20.fCookie x20.fOff x20.fSize hx24) <| ya (notB rfl) <| ak rfl k23 <| re <| Ret.go (ResIs.one rfl rfl) <| dz k19 <| cnn h rfl not_f (fun q => not_t (Bool.eq_false_iff.2 q)) (fun hc26 h => ?_) fun hc26 h => ?_
    ·refine WC.skip <| bn <| tn <| k17 _ _ <| rg fun _ k27 => bd h fun x28 hx28 h => ya (addC rfl rfl hx28) <| mv rfl <| dz k27 <| tn <| kw (k13 (x28) h)
    refine sr fun _ k29 => mv rfl <| ak rfl k29 <| re <| br <| tr <| tr <| br <| tr <| Ret.go (ResIs.one rfl rfl) <| ya (geq rfl rfl) <| ak rfl k7 <| re <| Ret.go (ResIs.one rfl rfl) <| yg (notB rfl) <| pt rfl rfl <| ak rfl k2 <| re ?_
    obtain rfl := si h
    exact rt0 (ResIs.one rfl rfl)
   exact xi <| te <| te <| bx <| tn <| kw (k9 () h)
  rintro _ h
  unfold m_index_Valid_j0 at h
  refine sr fun _ k30 => ak rfl k30 <| re <| Ret.go (ResIs.one rfl rfl) <| ya (geq rfl rfl) <| ak rfl k7 <| re <| Ret.go (ResIs.one rfl rfl) <| yg (notB rfl) <| pt rfl rfl <| ak rfl k2 <| re ?_
  obtain rfl := si h
  exact rt0 (ResIs.one rfl rfl)
 refine sk <| sk <| sk <| pf rfl rfl <| ak rfl k2 <| re ?_
 obtain rfl := si h
 exact rt0 (ResIs.one rfl rfl)
theorem w_r08_ValidItem (M0 : Mem) (u0 : BitVec 64) (u1 : BitVec 32) (u2 u3 : Int) {res : Bool} (h : m_r08_ValidItem u0 u1 u2 u3 = some res) :
  Fn Tryz.prog 98 #[.agg ([U64 u0, U32 u1, I64 u2, I64 u3] : List Value).toArray] M0 fun r M' es => r = .bool res /\ es = [] := by
 refine Fn.intro (N := 27) Tryz.func98 rfl rfl (nle rfl) fun w0 => ?_
 unfold m_r08_ValidItem at h
 refine sr fun _ k1 => bb 102 [U64 u0, U32 u1, I64 u2, I64 u3] rfl fun g2 => ak rfl k1 <| sr fun _ k3 => ya (fieldAddr Tryz.underlying59 rfl nz_2 rfl rfl) <| ya (loadB (k := 102) scal_2 rfl rfl rfl) <| ya (geq rfl rfl) <| mv rfl <| spl h decide_eq_true decide_eq_false (fun hc4 h => ?_) fun hc4 h => ?_
 ·refine yg (fieldAddr Tryz.underlying59 rfl nz_2 rfl rfl) <| yg (loadB (k := 102) scal_2 rfl rfl rfl) <| yg (leq rfl rfl) <| pt rfl rfl <| mv rfl <| spl h decide_eq_true decide_eq_false (fun hc5 h => ?_) fun hc5 h => ?_
  ·obtain ⟨x6, hx6, h⟩ := bnd h
   refine yg (fieldAddr Tryz.underlying59 rfl nz_2 rfl rfl) <| yg (loadB (k := 102) scal_2 rfl rfl rfl) <| yg (remC rfl rfl hx6) <| yg (eqlI rfl rfl) <| pt rfl rfl <| mv rfl <| spl h beq_iff_eq.2 beq_eq_false_iff_ne.2 (fun hc7 h => ?_) fun hc7 h => ?_
   ·refine yg (fieldAddr Tryz.underlying59 rfl nz_3 rfl rfl) <| yg (loadB (k := 102) scal_3 rfl rfl rfl) <| yg (geq rfl rfl) <| pt rfl rfl <| mv rfl <| spl h decide_eq_true decide_eq_false (fun hc8 h => ?_) fun hc8 h => ?_
    ·refine yg (fieldAddr Tryz.underlying59 rfl nz_3 rfl rfl) <| yg (loadB (k := 102) scal_3 rfl rfl rfl) <| yg (leq rfl rfl) <| pt rfl rfl <| ak rfl k3 <| re ?_
     obtain rfl := si h
     exact rt0 (ResIs.one rfl rfl)
    refine sk <| sk <| sk <| pf rfl rfl <| ak rfl k3 <| re ?_
    obtain rfl := si h
    exact rt0 (ResIs.one rfl rfl)
   refine sk <| sk <| sk <| pf rfl rfl <| mv rfl <| sk <| sk <| sk <| pf rfl rfl <| ak rfl k3 <| re ?_
   obtain rfl := si h
   exact rt0 (ResIs.one rfl rfl)
  refine sk <| sk <| sk <| sk <| pf rfl rfl <| mv rfl <| sk <| sk <| sk <| pf rfl rfl <| mv rfl <| sk <| sk <| sk <| pf rfl rfl <| ak rfl k3 <| re ?_
  obtain rfl := si h
  exact rt0 (ResIs.one rfl rfl)
 refine sk <| sk <| sk <| pf rfl rfl <| mv rfl <| sk <| sk <| sk <| sk <| pf rfl rfl <| mv rfl <| sk <| sk <| sk <| pf rfl rfl <| mv rfl <| sk <| sk <| sk <| pf rfl rfl <| ak rfl k3 <| re ?_
 obtain rfl := si h
 exact rt0 (ResIs.one rfl rfl)
theorem w_r08_Valid (M0 : Mem) (A00 : Option Addr) (n00 c00 : Nat) (x00 : List Sapi_Item) (hf00 : SlT M0 A00 n00 c00 x00) {res : Bool} (h : m_r08_Valid x00 = some res) :
  Fn Tryz.prog 60 #[.slice A00 n00 c00] M0 fun r M' es => r = .bool res /\ es = [] := by
 refine Fn.intro (N := 34) Tryz.func60 rfl rfl (nle rfl) fun w0 => ?_
 unfold m_r08_Valid at h
 refine sr fun _ k1 => ak rfl k1 <| ct (σ := Unit) (fun _ => []) (fun _ => [(0, .mem M0)]) (fun _ => m_r08_Valid_j0 = some res) (fun _ k2 => ?_) ?_
 ·refine sr fun _ k3 => ak rfl k3 <| bl <| lp (τ := Int) (fun x4 => [(0, .slice A00 n00 c00), (3, I64 x4)]) (fun x4 => [(0, .mem M0)]) (fun q5 x4 => m_r08_Valid_l1 x00 q5 x4 = some res) ((0 : Int)) ?_ (by simp [m_r08_Valid_l1]) ?_
  ·exact h
  rintro q5 x4 h _ k6
  unfold m_r08_Valid_l1 at h
  refine sq fun _ k7 => sr fun _ k8 => mv rfl <| mv rfl <| ya (lenC (xs := x00) und_25 rfl (mM rfl hf00)) <| ya (lss rfl rfl) <| dz k8 <| cI h rfl (fun hc9 h => ?_) fun hc9 h => ?_
  ·refine ss <| k7 _ _ <| sq fun _ k10 => bl <| sd [(0, _)] mixed fun _ k11 => ?_
   obtain ⟨x12, hx12, h⟩ := bnd h
   obtain ⟨x13, hx13, h⟩ := bnd h
   by_cases hc15 : x13 = true
   ·replace h := of_t hc15 h
    by_cases hc16 : (0 : Int) < x4
    ·replace h := of_t hc16 h
     obtain ⟨x17, hx17, h⟩ := bnd h
     obtain ⟨x18, hx18, h⟩ := bnd h
     obtain ⟨x19, hx19, h⟩ := bnd h
     refine dm 0 rfl rfl <| dm 1 rfl rfl <| du 2 rfl (idxC (xs := x00) sty_25 rfl rfl (mM rfl hf00) hx12) <| du 3 rfl (loadA (xs := x00) agg_59 rfl (mM rfl hf00) hx12 rfl) <| on 4 <| d0 rfl Tryz.func98 rfl (fun w hb hh => w_r08_ValidItem (Mem.snap w) x12.fKey x12.fCookie x12.fOff x12.fSize hx13) <| du 5 rfl (notB rfl) <| dm 6 rfl rfl <| WD.new (v' := .bool false) (congrArg Value.bool (not_f hc15)) <| dv 7 rfl (Yld.move rfl) <| dv 8 rfl (gtr rfl rfl) <| dv 9 rfl (Yld.move rfl) <| WD.new (v' := .bool true) (congrArg Value.bool (decide_eq_true hc16)) <| dv 10 rfl (Yld.move rfl) <| dv 11 rfl (Yld.move rfl) <| dv 12 rfl (idxC (xs := x00) sty_25 rfl rfl (mM rfl hf00) hx17) <| dv 13 rfl (fieldAddrC Tryz.underlying59 rfl nz_57 rfl rfl) <| dv 14 rfl (loadC (xs := x00) (j := 0) scal_57 rfl (mM rfl hf00) hx17 rfl rfl) <| dv 15 rfl (Yld.move rfl) <| dv 16 rfl (Yld.move rfl) <| dv 17 rfl (subC rfl rfl hx18) <| dv 18 rfl (idxC (xs := x00) sty_25 rfl rfl (mM rfl hf00) hx19) <| dv 19 rfl (fieldAddrC Tryz.underlying59 rfl nz_57 rfl rfl) <| dv 20 rfl (loadC (xs := x00) (j := 0) scal_57 rfl (mM rfl hf00) hx19 rfl rfl) <| dv 21 rfl (leq_u64 (a := x17.fKey) (b := x19.fKey) rfl rfl) <| dv 22 rfl (pickT rfl rfl) <| du 23 rfl (pickF rfl rfl) <| dd <| k11 _ _ <| cI h rfl (fun hc20 h => ?_) fun hc20 h => ?_
     ·refine sr fun _ k21 => ak rfl k21 <| re <| br <| tr <| tr <| br <| tr ?_
      obtain rfl := si h
      exact rt0 (ResIs.one rfl rfl)
     refine WC.skip <| bn <| tn <| k10 _ _ <| rg fun _ k22 => bd h fun x23 hx23 h => mv rfl <| ya (addC rfl rfl hx23) <| ak rfl k22 <| tn <| kw (k6 (x23) h)
    replace h := of_f hc16 h
    refine dm 0 rfl rfl <| dm 1 rfl rfl <| du 2 rfl (idxC (xs := x00) sty_25 rfl rfl (mM rfl hf00) hx12) <| du 3 rfl (loadA (xs := x00) agg_59 rfl (mM rfl hf00) hx12 rfl) <| on 4 <| d0 rfl Tryz.func98 rfl (fun w hb hh => w_r08_ValidItem (Mem.snap w) x12.fKey x12.fCookie x12.fOff x12.fSize hx13) <| du 5 rfl (notB rfl) <| dm 6 rfl rfl <| WD.new (v' := .bool false) (congrArg Value.bool (not_f hc15)) <| dv 7 rfl (Yld.move rfl) <| dv 8 rfl (gtr rfl rfl) <| dv 9 rfl (Yld.move rfl) <| WD.new (v' := .bool false) (congrArg Value.bool (decide_eq_false hc16)) <| dw 10 rfl <| dw 11 rfl <| dw 12 rfl <| dw 13 rfl <| dw 14 rfl <| dw 15 rfl <| dw 16 rfl <| dw 17 rfl <| dw 18 rfl <| dw 19 rfl <| dw 20 rfl <| dw 21 rfl <| dv 22 rfl (pickF rfl rfl) <| du 23 rfl (pickF rfl rfl) <| dd <| k11 _ _ <| cdF rfl <| WC.skip <| bn <| tn <| k10 _ _ <| rg fun _ k24 => bd h fun x25 hx25 h => mv rfl <| ya (addC rfl rfl hx25) <| ak rfl k24 <| tn <| kw (k6 (x25) h)
   replace h := of_f hc15 h
   refine dm 0 rfl rfl <| dm 1 rfl rfl <| du 2 rfl (idxC (xs := x00) sty_25 rfl rfl (mM rfl hf00) hx12) <| du 3 rfl (loadA (xs := x00) agg_59 rfl (mM rfl hf00) hx12 rfl) <| on 4 <| d0 rfl Tryz.func98 rfl (fun w hb hh => w_r08_ValidItem (Mem.snap w) x12.fKey x12.fCookie x12.fOff x12.fSize hx13) <| du 5 rfl (notB rfl) <| dm 6 rfl rfl <| WD.new (v' := .bool true) (congrArg Value.bool (not_t (Bool.eq_false_iff.2 hc15))) <| dw 7 rfl <| dw 8 rfl <| dw 9 rfl <| WD.takeU 10 rfl (by kernel_rfl) (by kernel_rfl) (by kernel_rfl) (by decide) rfl <| WD.takeU 11 rfl (by kernel_rfl) (by kernel_rfl) (by kernel_rfl) (by decide) rfl <| WD.takeU 12 rfl (by kernel_rfl) (by kernel_rfl) (by kernel_rfl) (by decide) rfl <| WD.takeU 13 rfl (by kernel_rfl) (by kernel_rfl) (by kernel_rfl) (by decide) rfl <| WD.takeU 14 rfl (by kernel_rfl) (by kernel_rfl) (by kernel_rfl) (by decide) rfl <| WD.takeU 15 rfl (by kernel_rfl) (by kernel_rfl) (by kernel_rfl) (by decide) rfl <| WD.takeU 16 rfl (by kernel_rfl) (by kernel_rfl) (by kernel_rfl) (by decide) rfl <| WD.takeU 17 rfl (by kernel_rfl) (by kernel_rfl) (by kernel_rfl) (by decide) rfl <| WD.takeU 18 rfl (by kernel_rfl) (by kernel_rfl) (by kernel_rfl) (by decide) rfl <| WD.takeU 19 rfl (by kernel_rfl) (by kernel_rfl) (by kernel_rfl) (by decide) rfl <| WD.takeU 20 rfl (by kernel_rfl) (by kernel_rfl) (by kernel_rfl) (by decide) rfl <| WD.takeU 21 rfl (by kernel_rfl) (by kernel_rfl) (by kernel_rfl) (by decide) rfl <| dw 22 rfl <| du 23 rfl (pickT rfl rfl) <| dd <| k11 _ _ <| cdT rfl <| sr fun _ k26 => ak rfl k26 <| re <| br <| tr <| tr <| br <| tr ?_
   obtain rfl := si h
   exact rt0 (ResIs.one rfl rfl)
  exact xi <| te <| te <| bx <| tn <| kw (k2 () h)
 rintro _ h
 unfold m_r08_Valid_j0 at h
 refine sr fun _ k27 => ak rfl k27 <| re ?_
 obtain rfl := si h
 exact rt0 (ResIs.one rfl rfl)
theorem w_r08_Sorted (M0 : Mem) (A00 : Option Addr) (n00 c00 : Nat) (x00 : List Sapi_Item) (hf00 : SlT M0 A00 n00 c00 x00) {res : (List Sapi_Item)} (h : m_r08_Sorted x00 = some res) :
  Fn Tryz.prog 103 #[.slice A00 n00 c00] M0 fun r M' es => ∃ (A1 : Option Addr) (n1 c1 : Nat), r = .slice A1 n1 c1 /\ es = [.own 59 (Lay.sz Sapi_Item) A1 n1 c1 (cel res)] := by
 refine Fn.intro (N := 66) Tryz.func103 rfl rfl (nle rfl) fun w0 => ?_
 unfold m_r08_Sorted at h
 refine sr fun _ k1 => ak rfl k1 <| sr fun _ k2 => ak rfl k2 <| ct (σ := (Option Addr) × Nat × Nat × (List Sapi_Item)) (fun ⟨A5, n6, c7, x8⟩ => [(3, .slice A5 n6 c7)]) (fun ⟨A5, n6, c7, x8⟩ => [(0, .mem M0), (104, .own 59 (Lay.sz Sapi_Item) A5 n6 c7 (cel x8))]) (fun ⟨A5, n6, c7, x8⟩ => m_r08_Sorted_j0 x8 = some res) (fun _ k9 => ?_) ?_
 ·refine sr fun _ k10 => ak rfl k10 <| bl <| WC.nilOwn 112 59 (Lay.sz Sapi_Item) none <| lp (τ := (Option Addr) × Nat × Nat × (List Sapi_Item) × Int) (fun ⟨A13, n14, c15, x16, x17⟩ => [(0, .slice A00 n00 c00), (3, .slice A13 n14 c15), (4, I64 x17)]) (fun ⟨A13, n14, c15, x16, x17⟩ => [(0, .mem M0), (112, .own 59 (Lay.sz Sapi_Item) A13 n14 c15 (cel x16))]) (fun q18 ⟨A13, n14, c15, x16, x17⟩ => m_r08_Sorted_l1 x00 q18 x16 x17 = some res) ⟨none, 0, 0, ([] : List Sapi_Item), (0 : Int)⟩ ?_ (by simp [m_r08_Sorted_l1]) ?_
  ·exact h
  rintro q18 ⟨A13, n14, c15, x16, x17⟩ h _ k19
  unfold m_r08_Sorted_l1 at h
  refine sq fun _ k20 => sr fun _ k21 => mv rfl <| mv rfl <| ya (lenC (xs := x00) und_25 rfl (mM rfl hf00)) <| ya (lss rfl rfl) <| dz k21 <| cI h rfl (fun hc22 h => ?_) fun hc22 h => ?_
  ·refine ss <| k20 _ _ <| ct (σ := (Option Addr) × Nat × Nat × (List Sapi_Item)) (fun ⟨A23, n24, c25, x26⟩ => [(0, .slice A00 n00 c00), (3, .slice A23 n24 c25), (4, I64 x17)]) (fun ⟨A23, n24, c25, x26⟩ => [(0, .mem M0), (112, .own 59 (Lay.sz Sapi_Item) A23 n24 c25 (cel x26))]) (fun ⟨A23, n24, c25, x26⟩ => m_r08_Sorted_j2 x17 (m_r08_Sorted_l1 x00 q18) x26 = some res) (fun _ k27 => ?_) ?_
   ·refine bl <| sr fun _ k28 => ak rfl k28 <| ct (σ := Int) (fun x29 => [(0, .slice A00 n00 c00), (3, .slice A13 n14 c15), (4, I64 x17), (5, I64 x29)]) (fun x29 => [(0, .mem M0), (112, .own 59 (Lay.sz Sapi_Item) A13 n14 c15 (cel x16))]) (fun x29 => m_r08_Sorted_j3 x00 x16 x17 (m_r08_Sorted_l1 x00 q18) x29 = some res) (fun _ k30 => ?_) ?_
    ·refine bl <| lp (τ := Int) (fun x31 => [(0, .slice A00 n00 c00), (3, .slice A13 n14 c15), (4, I64 x17), (5, I64 x31)]) (fun x31 => [(0, .mem M0), (112, .own 59 (Lay.sz Sapi_Item) A13 n14 c15 (cel x16))]) (fun q32 x31 => m_r08_Sorted_l4 x00 x16 x17 (m_r08_Sorted_l1 x00 q18) q32 x31 = some res) ((0 : Int)) ?_ (by simp [m_r08_Sorted_l4]) ?_
     ·exact h
     rintro q32 x31 h _ k33
     unfold m_r08_Sorted_l4 at h
     refine sq fun _ k34 => sd [(0, _), (112, _)] mixed fun _ k35 => ?_
     by_cases hc36 : x31 < (x16.length : Int)
     ·replace h := of_t hc36 h
      obtain ⟨x37, hx37, h⟩ := bnd h
      obtain ⟨x38, hx38, h⟩ := bnd h
      refine dm 0 rfl rfl <| dm 1 rfl rfl <| du 2 rfl (lenC (xs := x16) und_25 rfl (rO 112 rfl)) <| du 3 rfl (lss rfl rfl) <| dm 4 rfl rfl <| WD.new (v' := .bool true) (congrArg Value.bool (decide_eq_true hc36)) <| dv 5 rfl (Yld.move rfl) <| dv 6 rfl (Yld.move rfl) <| dv 7 rfl (idxC (xs := x16) sty_25 rfl rfl (rO 112 rfl) hx37) <| dv 8 rfl (fieldAddrC Tryz.underlying59 rfl nz_57 rfl rfl) <| dv 9 rfl (loadC (xs := x16) (j := 0) scal_57 rfl (rO 112 rfl) hx37 rfl rfl) <| dv 10 rfl (Yld.move rfl) <| dv 11 rfl (Yld.move rfl) <| dv 12 rfl (idxC (xs := x00) sty_25 rfl rfl (mM rfl hf00) hx38) <| dv 13 rfl (fieldAddrC Tryz.underlying59 rfl nz_57 rfl rfl) <| dv 14 rfl (loadC (xs := x00) (j := 0) scal_57 rfl (mM rfl hf00) hx38 rfl rfl) <| dv 15 rfl (lss_u64 (a := x37.fKey) (b := x38.fKey) rfl rfl) <| du 16 rfl (pickT rfl rfl) <| dd <| k35 _ _ <| cI h rfl (fun hc39 h => ?_) fun hc39 h => ?_
      ·refine ss <| k34 _ _ <| bl <| rg fun _ k40 => bd h fun x41 hx41 h => mv rfl <| ya (addC rfl rfl hx41) <| ak rfl k40 <| bn <| tn <| kw (k33 (x41) h)
      exact xi <| te <| te <| bx <| tn <| kw (k30 x31 h)
     replace h := of_f hc36 h
     exact dm 0 rfl rfl <| dm 1 rfl rfl <| du 2 rfl (lenC (xs := x16) und_25 rfl (rO 112 rfl)) <| du 3 rfl (lss rfl rfl) <| dm 4 rfl rfl <| WD.new (v' := .bool false) (congrArg Value.bool (decide_eq_false hc36)) <| dw 5 rfl <| dw 6 rfl <| dw 7 rfl <| dw 8 rfl <| dw 9 rfl <| dw 10 rfl <| dw 11 rfl <| dw 12 rfl <| dw 13 rfl <| dw 14 rfl <| dw 15 rfl <| du 16 rfl (pickF rfl rfl) <| dd <| k35 _ _ <| cdF rfl <| xi <| te <| te <| bx <| tn <| kw (k30 x31 h)
    rintro x29 h
    unfold m_r08_Sorted_j3 at h
    refine sr fun _ k42 => ?_
    obtain ⟨x44, hx44, h⟩ := bnd h
    obtain ⟨x45, hx45, h⟩ := bnd h
    refine WL.eff (by decide) (Eff.buildCA 143 ([] : List Sapi_Item) sty_25 rfl rfl rfl (by decide)) ?_
    rintro _ _ ⟨g43, rfl, rfl⟩
    refine mv rfl <| mv rfl <| ya (sliceLC (xs := x16) sty_25 rfl rfl (rO 112 rfl) hx44) <| ap 143 (xs := ([] : List Sapi_Item)) (ys := x44) sty_25 rfl rfl rfl (RdT.slc (rO 112 rfl) hx44) hx45 fun A46 c47 => ak rfl k42 <| sq fun _ k48 => sd [(0, _), (112, _), (143, _)] mixed fun _ k49 => ?_
    by_cases hc50 : (0 : Int) < (x45.length : Int)
    ·replace h := of_t hc50 h
     obtain ⟨x51, hx51, h⟩ := bnd h
     obtain ⟨x52, hx52, h⟩ := bnd h
     refine dm 0 rfl rfl <| du 1 rfl (lenC (xs := x45) und_25 rfl (rO 143 rfl)) <| du 2 rfl (gtr rfl rfl) <| dm 3 rfl rfl <| WD.new (v' := .bool true) (congrArg Value.bool (decide_eq_true hc50)) <| dv 4 rfl (Yld.move rfl) <| dv 5 rfl (idxC (xs := x45) sty_25 rfl rfl (rO 143 rfl) hx51) <| dv 6 rfl (fieldAddrC Tryz.underlying59 rfl nz_57 rfl rfl) <| dv 7 rfl (loadC (xs := x45) (j := 0) scal_57 rfl (rO 143 rfl) hx51 rfl rfl) <| dv 8 rfl (Yld.move rfl) <| dv 9 rfl (Yld.move rfl) <| dv 10 rfl (idxC (xs := x00) sty_25 rfl rfl (mM rfl hf00) hx52) <| dv 11 rfl (fieldAddrC Tryz.underlying59 rfl nz_57 rfl rfl) <| dv 12 rfl (loadC (xs := x00) (j := 0) scal_57 rfl (mM rfl hf00) hx52 rfl rfl) <| dv 13 rfl (eql_u64 (a := x51.fKey) (b := x52.fKey) rfl rfl) <| du 14 rfl (pickT rfl rfl) <| dd <| k49 _ _ <| cnd h rfl beq_iff_eq.2 beq_eq_false_iff_ne.2 (fun hc53 h => ?_) fun hc53 h => ?_
     ·refine rg fun _ k54 => bd h fun x55 hx55 h => mv rfl <| ya (sliceLC (xs := x45) sty_25 rfl rfl (rO 143 rfl) hx55) <| ak rfl k54 <| tn <| k48 _ _ <| rd [(0, _), (143, _)] mixed fun _ k56 => ?_
      obtain ⟨x57, hx57, h⟩ := bnd h
      obtain ⟨x58, hx58, h⟩ := bnd h
      obtain ⟨x60, hx60, h⟩ := bnd h
      obtain ⟨x63, hx63, h⟩ := bnd h
      refine dm 0 rfl rfl <| dm 1 rfl rfl <| dm 3 rfl rfl <| dm 4 rfl rfl <| du 5 rfl (idxC (xs := x00) sty_25 rfl rfl (mM rfl hf00) hx58) <| du 6 rfl (loadA (xs := x00) agg_59 rfl (mM rfl hf00) hx58 rfl) <| dm 9 rfl rfl <| WD.two 2 7 (by kernel_rfl) ?_ ?_
      ·refine dy rfl (sliceHC (xs := x16) sty_25 rfl rfl (rO 112 rfl) hx57) <| on 7 <| WS.eff rfl (by decide) (Eff.buildCA 159 ([x58] : List Sapi_Item) sty_25 rfl rfl rfl (by decide)) ?_
       rintro _ _ ⟨g59, rfl, rfl⟩
       refine aq ?_
       refine on 8 <| WS.eff rfl (by decide) (Eff.appendPC 112 (xs := x16) (ys := ([x58] : List Sapi_Item)) (pre := x57) sty_25 hx57 rfl rfl rfl (rO 159 rfl) hx60) ?_
       rintro _ _ ⟨A61, c62, rfl, rfl⟩
       refine aq ?_
       refine on 10 <| WS.eff rfl (by decide) (Eff.appendC 112 (xs := x60) (ys := x55) sty_25 rfl rfl rfl (RdT.slc (rO 143 rfl) hx55) hx63) ?_
       rintro _ _ ⟨A64, c65, rfl, rfl⟩
       refine aq ?_
       exact du 11 rfl (Yld.assign rfl) <| dd <| k56 _ _ <| bn <| tn <| kw (k27 ⟨A64, x63.length, c65, x63⟩ h)
      skip
      refine WS.eff rfl (by decide) (Eff.buildCA 159 ([x58] : List Sapi_Item) sty_25 rfl rfl rfl (by decide)) ?_
      rintro _ _ ⟨g59, rfl, rfl⟩
      refine aq ?_
      refine on 2 <| dy rfl (sliceHC (xs := x16) sty_25 rfl rfl (rO 112 rfl) hx57) <| on 8 <| WS.eff rfl (by decide) (Eff.appendPC 112 (xs := x16) (ys := ([x58] : List Sapi_Item)) (pre := x57) sty_25 hx57 rfl rfl rfl (rO 159 rfl) hx60) ?_
      rintro _ _ ⟨A61, c62, rfl, rfl⟩
      refine aq ?_
      refine on 10 <| WS.eff rfl (by decide) (Eff.appendC 112 (xs := x60) (ys := x55) sty_25 rfl rfl rfl (RdT.slc (rO 143 rfl) hx55) hx63) ?_
      rintro _ _ ⟨A64, c65, rfl, rfl⟩
      refine aq ?_
      exact du 11 rfl (Yld.assign rfl) <| dd <| k56 _ _ <| bn <| tn <| kw (k27 ⟨A64, x63.length, c65, x63⟩ h)
     refine ss <| k48 _ _ <| rd [(0, _), (143, _)] mixed fun _ k66 => ?_
     obtain ⟨x67, hx67, h⟩ := bnd h
     obtain ⟨x68, hx68, h⟩ := bnd h
     obtain ⟨x70, hx70, h⟩ := bnd h
     obtain ⟨x73, hx73, h⟩ := bnd h
     refine dm 0 rfl rfl <| dm 1 rfl rfl <| dm 3 rfl rfl <| dm 4 rfl rfl <| du 5 rfl (idxC (xs := x00) sty_25 rfl rfl (mM rfl hf00) hx68) <| du 6 rfl (loadA (xs := x00) agg_59 rfl (mM rfl hf00) hx68 rfl) <| dm 9 rfl rfl <| WD.two 2 7 (by kernel_rfl) ?_ ?_
     ·refine dy rfl (sliceHC (xs := x16) sty_25 rfl rfl (rO 112 rfl) hx67) <| on 7 <| WS.eff rfl (by decide) (Eff.buildCA 169 ([x68] : List Sapi_Item) sty_25 rfl rfl rfl (by decide)) ?_
      rintro _ _ ⟨g69, rfl, rfl⟩
      refine aq ?_
      refine on 8 <| WS.eff rfl (by decide) (Eff.appendPC 112 (xs := x16) (ys := ([x68] : List Sapi_Item)) (pre := x67) sty_25 hx67 rfl rfl rfl (rO 169 rfl) hx70) ?_
      rintro _ _ ⟨A71, c72, rfl, rfl⟩
      refine aq ?_
      refine on 10 <| WS.eff rfl (by decide) (Eff.appendC 112 (xs := x70) (ys := x45) sty_25 rfl rfl rfl (rO 143 rfl) hx73) ?_
      rintro _ _ ⟨A74, c75, rfl, rfl⟩
      refine aq ?_
      exact du 11 rfl (Yld.assign rfl) <| dd <| k66 _ _ <| bn <| tn <| kw (k27 ⟨A74, x73.length, c75, x73⟩ h)
     skip
     refine WS.eff rfl (by decide) (Eff.buildCA 169 ([x68] : List Sapi_Item) sty_25 rfl rfl rfl (by decide)) ?_
     rintro _ _ ⟨g69, rfl, rfl⟩
     refine aq ?_
     refine on 2 <| dy rfl (sliceHC (xs := x16) sty_25 rfl rfl (rO 112 rfl) hx67) <| on 8 <| WS.eff rfl (by decide) (Eff.appendPC 112 (xs := x16) (ys := ([x68] : List Sapi_Item)) (pre := x67) sty_25 hx67 rfl rfl rfl (rO 169 rfl) hx70) ?_
     rintro _ _ ⟨A71, c72, rfl, rfl⟩
     refine aq ?_
     refine on 10 <| WS.eff rfl (by decide) (Eff.appendC 112 (xs := x70) (ys := x45) sty_25 rfl rfl rfl (rO 143 rfl) hx73) ?_
     rintro _ _ ⟨A74, c75, rfl, rfl⟩
     refine aq ?_
     exact du 11 rfl (Yld.assign rfl) <| dd <| k66 _ _ <| bn <| tn <| kw (k27 ⟨A74, x73.length, c75, x73⟩ h)
    replace h := of_f hc50 h
    refine dm 0 rfl rfl <| du 1 rfl (lenC (xs := x45) und_25 rfl (rO 143 rfl)) <| du 2 rfl (gtr rfl rfl) <| dm 3 rfl rfl <| WD.new (v' := .bool false) (congrArg Value.bool (decide_eq_false hc50)) <| dw 4 rfl <| dw 5 rfl <| dw 6 rfl <| dw 7 rfl <| dw 8 rfl <| dw 9 rfl <| dw 10 rfl <| dw 11 rfl <| dw 12 rfl <| dw 13 rfl <| du 14 rfl (pickF rfl rfl) <| dd <| k49 _ _ <| cdF rfl <| ss <| k48 _ _ <| rd [(0, _), (143, _)] mixed fun _ k76 => ?_
    obtain ⟨x77, hx77, h⟩ := bnd h
    obtain ⟨x78, hx78, h⟩ := bnd h
    obtain ⟨x80, hx80, h⟩ := bnd h
    obtain ⟨x83, hx83, h⟩ := bnd h
    refine dm 0 rfl rfl <| dm 1 rfl rfl <| dm 3 rfl rfl <| dm 4 rfl rfl <| du 5 rfl (idxC (xs := x00) sty_25 rfl rfl (mM rfl hf00) hx78) <| du 6 rfl (loadA (xs := x00) agg_59 rfl (mM rfl hf00) hx78 rfl) <| dm 9 rfl rfl <| WD.two 2 7 (by kernel_rfl) ?_ ?_
    ·refine dy rfl (sliceHC (xs := x16) sty_25 rfl rfl (rO 112 rfl) hx77) <| on 7 <| WS.eff rfl (by decide) (Eff.buildCA 179 ([x78] : List Sapi_Item) sty_25 rfl rfl rfl (by decide)) ?_
     rintro _ _ ⟨g79, rfl, rfl⟩
     refine aq ?_
     refine on 8 <| WS.eff rfl (by decide) (Eff.appendPC 112 (xs := x16) (ys := ([x78] : List Sapi_Item)) (pre := x77) sty_25 hx77 rfl rfl rfl (rO 179 rfl) hx80) ?_
     rintro _ _ ⟨A81, c82, rfl, rfl⟩
     refine aq ?_
     refine on 10 <| WS.eff rfl (by decide) (Eff.appendC 112 (xs := x80) (ys := x45) sty_25 rfl rfl rfl (rO 143 rfl) hx83) ?_
     rintro _ _ ⟨A84, c85, rfl, rfl⟩
     refine aq ?_
     exact du 11 rfl (Yld.assign rfl) <| dd <| k76 _ _ <| bn <| tn <| kw (k27 ⟨A84, x83.length, c85, x83⟩ h)
    skip
    refine WS.eff rfl (by decide) (Eff.buildCA 179 ([x78] : List Sapi_Item) sty_25 rfl rfl rfl (by decide)) ?_
    rintro _ _ ⟨g79, rfl, rfl⟩
    refine aq ?_
    refine on 2 <| dy rfl (sliceHC (xs := x16) sty_25 rfl rfl (rO 112 rfl) hx77) <| on 8 <| WS.eff rfl (by decide) (Eff.appendPC 112 (xs := x16) (ys := ([x78] : List Sapi_Item)) (pre := x77) sty_25 hx77 rfl rfl rfl (rO 179 rfl) hx80) ?_
    rintro _ _ ⟨A81, c82, rfl, rfl⟩
    refine aq ?_
    refine on 10 <| WS.eff rfl (by decide) (Eff.appendC 112 (xs := x80) (ys := x45) sty_25 rfl rfl rfl (rO 143 rfl) hx83) ?_
    rintro _ _ ⟨A84, c85, rfl, rfl⟩
    refine aq ?_
    exact du 11 rfl (Yld.assign rfl) <| dd <| k76 _ _ <| bn <| tn <| kw (k27 ⟨A84, x83.length, c85, x83⟩ h)
   rintro ⟨A23, n24, c25, x26⟩ h
   unfold m_r08_Sorted_j2 at h
   refine rg fun _ k86 => bd h fun x87 hx87 h => mv rfl <| ya (addC rfl rfl hx87) <| ak rfl k86 <| tn <| kw (k19 ⟨A23, n24, c25, x26, x87⟩ h)
  exact xi <| te <| te <| bx <| tn <| KK.move 112 104 rfl rfl <| kw (k9 ⟨A13, n14, c15, x16⟩ h)
 rintro ⟨A5, n6, c7, x8⟩ h
 unfold m_r08_Sorted_j0 at h
 refine sr fun _ k88 => mv rfl <| ak rfl k88 <| re ?_
 obtain rfl := si h
 exact rt [104] (ResIs.one rfl rfl) (Ext.refl _ _) ⟨A5, n6, c7, rfl, rfl⟩
theorem w_r08_Put (M0 : Mem) (A00 : Option Addr) (n00 c00 : Nat) (x00 : List Sapi_Item) (hf00 : SlT M0 A00 n00 c00 x00) (v0 : BitVec 64) (v1 : BitVec 32) (v2 v3 : Int) {res : (List Sapi_Item)} (h : m_r08_Put x00 v0 v1 v2 v3 = some res) :
  Fn Tryz.prog 76 #[.slice A00 n00 c00, .agg ([U64 v0, U32 v1, I64 v2, I64 v3] : List Value).toArray] M0 fun r M' es => ∃ (A1 : Option Addr) (n1 c1 : Nat), r = .slice A1 n1 c1 /\ es = [.own 59 (Lay.sz Sapi_Item) A1 n1 c1 (cel res)] := by
 refine Fn.intro (N := 54) Tryz.func76 rfl rfl (nle rfl) fun w0 => ?_
 unfold m_r08_Put at h
 refine sr fun _ k1 => bb 102 [U64 v0, U32 v1, I64 v2, I64 v3] rfl fun g2 => ak rfl k1 <| sr fun _ k3 => ak rfl k3 <| sr fun _ k4 => ak rfl k4 <| sr fun _ k5 => bd h fun x6 hx6 h => mv rfl <| c1 110 Tryz.func103 rfl (fun w hb hh => w_r08_Sorted (Mem.snap w) A00 n00 c00 _ (sM rfl hf00 w hb hh) hx6) fun A11 n12 c13 => ak rfl k5 <| ct (σ := (Option Addr) × Nat × Nat × (List Sapi_Item) × Bool) (fun ⟨A16, n17, c18, x19, x20⟩ => [(3, pv g2), (5, .slice A16 n17 c18), (6, .bool x20)]) (fun ⟨A16, n17, c18, x19, x20⟩ => [(0, .mem M0), (102, .blk g2 59 [U64 v0, U32 v1, I64 v2, I64 v3]), (115, .own 59 (Lay.sz Sapi_Item) A16 n17 c18 (cel x19))]) (fun ⟨A16, n17, c18, x19, x20⟩ => m_r08_Put_j0 v0 v1 v2 v3 x19 x20 = some res) (fun _ k21 => ?_) ?_
 ·refine sr fun _ k22 => ak rfl k22 <| bl <| WC.nilOwn 124 59 (Lay.sz Sapi_Item) none <| lp (τ := (Option Addr) × Nat × Nat × (List Sapi_Item) × Bool × Int) (fun ⟨A25, n26, c27, x28, x29, x30⟩ => [(0, .slice A11 n12 c13), (3, pv g2), (5, .slice A25 n26 c27), (6, .bool x29), (7, I64 x30)]) (fun ⟨A25, n26, c27, x28, x29, x30⟩ => [(0, .mem M0), (102, .blk g2 59 [U64 v0, U32 v1, I64 v2, I64 v3]), (110, .own 59 (Lay.sz Sapi_Item) A11 n12 c13 (cel x6)), (124, .own 59 (Lay.sz Sapi_Item) A25 n26 c27 (cel x28))]) (fun q31 ⟨A25, n26, c27, x28, x29, x30⟩ => m_r08_Put_l1 v0 v1 v2 v3 x6 q31 x28 x29 x30 = some res) ⟨none, 0, 0, ([] : List Sapi_Item), false, (0 : Int)⟩ ?_ (by simp [m_r08_Put_l1]) ?_
  ·exact h
  rintro q31 ⟨A25, n26, c27, x28, x29, x30⟩ h _ k32
  unfold m_r08_Put_l1 at h
  refine sq fun _ k33 => sr fun _ k34 => mv rfl <| mv rfl <| ya (lenC (xs := x6) und_25 rfl (rO 110 rfl)) <| ya (lss rfl rfl) <| dz k34 <| cI h rfl (fun hc35 h => ?_) fun hc35 h => ?_
  ·refine ss <| k33 _ _ <| sq fun _ k36 => bl <| sq fun _ k37 => sd [(0, _), (102, _), (110, _), (124, _)] mixed fun _ k38 => ?_
   by_cases hc39 : x29 = true
   ·replace h := of_t hc39 h
    refine dm 0 rfl rfl <| du 1 rfl (notB rfl) <| dm 2 rfl rfl <| WD.new (v' := .bool false) (congrArg Value.bool (not_f hc39)) <| dw 3 rfl <| dw 4 rfl <| dw 5 rfl <| dw 6 rfl <| dw 7 rfl <| dw 8 rfl <| dw 9 rfl <| dw 10 rfl <| du 11 rfl (pickF rfl rfl) <| dd <| k38 _ _ <| cdF rfl <| ss <| k37 _ _ <| sd [(0, _), (102, _), (110, _), (124, _)] mixed fun _ k40 => bd h fun x41 hx41 h => dm 0 rfl rfl <| dm 1 rfl rfl <| du 2 rfl (idxC (xs := x6) sty_25 rfl rfl (rO 110 rfl) hx41) <| du 3 rfl (fieldAddrC Tryz.underlying59 rfl nz_57 rfl rfl) <| du 4 rfl (loadC (xs := x6) (j := 0) scal_57 rfl (rO 110 rfl) hx41 rfl rfl) <| du 5 rfl (fieldAddr Tryz.underlying59 rfl nz_57 rfl rfl) <| du 6 rfl (loadB (k := 102) scal_57 rfl rfl rfl) <| du 7 rfl (neq_u64 (a := x41.fKey) (b := v0) rfl rfl) <| dd <| k40 _ _ <| cnn h rfl bne_eq_false_iff_eq.2 bne_iff_ne.2 (fun hc42 h => ?_) fun hc42 h => ?_
    ·refine WC.skip <| bn <| tn <| k36 _ _ <| rg fun _ k43 => bd h fun x44 hx44 h => mv rfl <| ya (addC rfl rfl hx44) <| ak rfl k43 <| tn <| kw (k32 ⟨A25, n26, c27, x28, x29, x44⟩ h)
    refine rg fun _ k45 => ?_
    obtain ⟨x46, hx46, h⟩ := bnd h
    obtain ⟨x48, hx48, h⟩ := bnd h
    refine mv rfl <| mv rfl <| mv rfl <| ya (idxC (xs := x6) sty_25 rfl rfl (rO 110 rfl) hx46) <| ya (loadA (xs := x6) agg_59 rfl (rO 110 rfl) hx46 rfl) <| WL.eff (by decide) (Eff.buildCA 147 ([x46] : List Sapi_Item) sty_25 rfl rfl rfl (by decide)) ?_
    rintro _ _ ⟨g47, rfl, rfl⟩
    refine ap 124 (xs := x28) (ys := ([x46] : List Sapi_Item)) sty_25 rfl rfl rfl (rO 147 rfl) hx48 fun A49 c50 => ak rfl k45 <| bn <| tn <| k36 _ _ <| rg fun _ k51 => bd h fun x52 hx52 h => mv rfl <| ya (addC rfl rfl hx52) <| ak rfl k51 <| tn <| kw (k32 ⟨A49, x48.length, c50, x48, x29, x52⟩ h)
   replace h := of_f hc39 h
   obtain ⟨x53, hx53, h⟩ := bnd h
   refine dm 0 rfl rfl <| du 1 rfl (notB rfl) <| dm 2 rfl rfl <| WD.new (v' := .bool true) (congrArg Value.bool (not_t (Bool.eq_false_iff.2 hc39))) <| dv 3 rfl (Yld.move rfl) <| dv 4 rfl (Yld.move rfl) <| dv 5 rfl (idxC (xs := x6) sty_25 rfl rfl (rO 110 rfl) hx53) <| dv 6 rfl (fieldAddrC Tryz.underlying59 rfl nz_57 rfl rfl) <| dv 7 rfl (loadC (xs := x6) (j := 0) scal_57 rfl (rO 110 rfl) hx53 rfl rfl) <| dv 8 rfl (fieldAddr Tryz.underlying59 rfl nz_57 rfl rfl) <| dv 9 rfl (loadB (k := 102) scal_57 rfl rfl rfl) <| dv 10 rfl (geq_u64 (a := x53.fKey) (b := v0) rfl rfl) <| du 11 rfl (pickT rfl rfl) <| dd <| k38 _ _ <| cI h rfl (fun hc54 h => ?_) fun hc54 h => ?_
   ·refine rg fun _ k55 => bd h fun x57 hx57 h => mv rfl <| ya (loadBM (k := 102) agg_59 rfl rfl rfl) <| WL.eff (by decide) (Eff.buildCA 156 ([(Sapi_Item.mk v0 v1 v2 v3)] : List Sapi_Item) sty_25 rfl rfl rfl (by decide)) ?_
    rintro _ _ ⟨g56, rfl, rfl⟩
    refine ap 124 (xs := x28) (ys := ([(Sapi_Item.mk v0 v1 v2 v3)] : List Sapi_Item)) sty_25 rfl rfl rfl (rO 156 rfl) hx57 fun A58 c59 => asn rfl <| ak rfl k55 <| tn <| k37 _ _ <| sd [(0, _), (102, _), (110, _), (124, _), (156, _)] mixed fun _ k60 => bd h fun x61 hx61 h => dm 0 rfl rfl <| dm 1 rfl rfl <| du 2 rfl (idxC (xs := x6) sty_25 rfl rfl (rO 110 rfl) hx61) <| du 3 rfl (fieldAddrC Tryz.underlying59 rfl nz_57 rfl rfl) <| du 4 rfl (loadC (xs := x6) (j := 0) scal_57 rfl (rO 110 rfl) hx61 rfl rfl) <| du 5 rfl (fieldAddr Tryz.underlying59 rfl nz_57 rfl rfl) <| du 6 rfl (loadB (k := 102) scal_57 rfl rfl rfl) <| du 7 rfl (neq_u64 (a := x61.fKey) (b := v0) rfl rfl) <| dd <| k60 _ _ <| cnn h rfl bne_eq_false_iff_eq.2 bne_iff_ne.2 (fun hc62 h => ?_) fun hc62 h => ?_
    ·refine WC.skip <| bn <| tn <| k36 _ _ <| rg fun _ k63 => bd h fun x64 hx64 h => mv rfl <| ya (addC rfl rfl hx64) <| ak rfl k63 <| tn <| kw (k32 ⟨A58, x57.length, c59, x57, true, x64⟩ h)
    refine rg fun _ k65 => ?_
    obtain ⟨x66, hx66, h⟩ := bnd h
    obtain ⟨x68, hx68, h⟩ := bnd h
    refine mv rfl <| mv rfl <| mv rfl <| ya (idxC (xs := x6) sty_25 rfl rfl (rO 110 rfl) hx66) <| ya (loadA (xs := x6) agg_59 rfl (rO 110 rfl) hx66 rfl) <| WL.eff (by decide) (Eff.buildCA 167 ([x66] : List Sapi_Item) sty_25 rfl rfl rfl (by decide)) ?_
    rintro _ _ ⟨g67, rfl, rfl⟩
    refine ap 124 (xs := x57) (ys := ([x66] : List Sapi_Item)) sty_25 rfl rfl rfl (rO 167 rfl) hx68 fun A69 c70 => ak rfl k65 <| bn <| tn <| k36 _ _ <| rg fun _ k71 => bd h fun x72 hx72 h => mv rfl <| ya (addC rfl rfl hx72) <| ak rfl k71 <| tn <| kw (k32 ⟨A69, x68.length, c70, x68, true, x72⟩ h)
   refine ss <| k37 _ _ <| sd [(0, _), (102, _), (110, _), (124, _)] mixed fun _ k73 => bd h fun x74 hx74 h => dm 0 rfl rfl <| dm 1 rfl rfl <| du 2 rfl (idxC (xs := x6) sty_25 rfl rfl (rO 110 rfl) hx74) <| du 3 rfl (fieldAddrC Tryz.underlying59 rfl nz_57 rfl rfl) <| du 4 rfl (loadC (xs := x6) (j := 0) scal_57 rfl (rO 110 rfl) hx74 rfl rfl) <| du 5 rfl (fieldAddr Tryz.underlying59 rfl nz_57 rfl rfl) <| du 6 rfl (loadB (k := 102) scal_57 rfl rfl rfl) <| du 7 rfl (neq_u64 (a := x74.fKey) (b := v0) rfl rfl) <| dd <| k73 _ _ <| cnn h rfl bne_eq_false_iff_eq.2 bne_iff_ne.2 (fun hc75 h => ?_) fun hc75 h => ?_
   ·refine WC.skip <| bn <| tn <| k36 _ _ <| rg fun _ k76 => bd h fun x77 hx77 h => mv rfl <| ya (addC rfl rfl hx77) <| ak rfl k76 <| tn <| kw (k32 ⟨A25, n26, c27, x28, x29, x77⟩ h)
   refine rg fun _ k78 => ?_
   obtain ⟨x79, hx79, h⟩ := bnd h
   obtain ⟨x81, hx81, h⟩ := bnd h
   refine mv rfl <| mv rfl <| mv rfl <| ya (idxC (xs := x6) sty_25 rfl rfl (rO 110 rfl) hx79) <| ya (loadA (xs := x6) agg_59 rfl (rO 110 rfl) hx79 rfl) <| WL.eff (by decide) (Eff.buildCA 180 ([x79] : List Sapi_Item) sty_25 rfl rfl rfl (by decide)) ?_
   rintro _ _ ⟨g80, rfl, rfl⟩
   refine ap 124 (xs := x28) (ys := ([x79] : List Sapi_Item)) sty_25 rfl rfl rfl (rO 180 rfl) hx81 fun A82 c83 => ak rfl k78 <| bn <| tn <| k36 _ _ <| rg fun _ k84 => bd h fun x85 hx85 h => mv rfl <| ya (addC rfl rfl hx85) <| ak rfl k84 <| tn <| kw (k32 ⟨A82, x81.length, c83, x81, x29, x85⟩ h)
  exact xi <| te <| te <| bx <| tn <| KK.move 124 115 rfl rfl <| kw (k21 ⟨A25, n26, c27, x28, x29⟩ h)
 rintro ⟨A16, n17, c18, x19, x20⟩ h
 unfold m_r08_Put_j0 at h
 refine sq fun _ k86 => sr fun _ k87 => mv rfl <| ya (notB rfl) <| dz k87 <| cnn h rfl not_f (fun q => not_t (Bool.eq_false_iff.2 q)) (fun hc88 h => ?_) fun hc88 h => ?_
 ·refine ss <| k86 _ _ <| sr fun _ k89 => mv rfl <| ak rfl k89 <| re ?_
  obtain rfl := si h
  exact rt [115] (ResIs.one rfl rfl) (Ext.refl _ _) ⟨A16, n17, c18, rfl, rfl⟩
 refine rg fun _ k90 => bd h fun x92 hx92 h => mv rfl <| ya (loadBM (k := 102) agg_59 rfl rfl rfl) <| WL.eff (by decide) (Eff.buildCA 191 ([(Sapi_Item.mk v0 v1 v2 v3)] : List Sapi_Item) sty_25 rfl rfl rfl (by decide)) ?_
 rintro _ _ ⟨g91, rfl, rfl⟩
 refine ap 115 (xs := x19) (ys := ([(Sapi_Item.mk v0 v1 v2 v3)] : List Sapi_Item)) sty_25 rfl rfl rfl (rO 191 rfl) hx92 fun A93 c94 => ak rfl k90 <| tn <| k86 _ _ <| sr fun _ k95 => mv rfl <| ak rfl k95 <| re ?_
 obtain rfl := si h
 exact rt [115] (ResIs.one rfl rfl) (Ext.refl _ _) ⟨A93, x92.length, c94, rfl, rfl⟩
theorem w_r08_Drop (M0 : Mem) (A00 : Option Addr) (n00 c00 : Nat) (x00 : List Sapi_Item) (hf00 : SlT M0 A00 n00 c00 x00) (x01 : BitVec 64) {res : (List Sapi_Item)} (h : m_r08_Drop x00 x01 = some res) :
  Fn Tryz.prog 75 #[.slice A00 n00 c00, U64 x01] M0 fun r M' es => ∃ (A1 : Option Addr) (n1 c1 : Nat), r = .slice A1 n1 c1 /\ es = [.own 59 (Lay.sz Sapi_Item) A1 n1 c1 (cel res)] := by
 refine Fn.intro (N := 30) Tryz.func75 rfl rfl (nle rfl) fun w0 => ?_
 unfold m_r08_Drop at h
 refine sr fun _ k1 => ak rfl k1 <| sr fun _ k2 => ak rfl k2 <| sr fun _ k3 => bd h fun x4 hx4 h => mv rfl <| c1 108 Tryz.func103 rfl (fun w hb hh => w_r08_Sorted (Mem.snap w) A00 n00 c00 _ (sM rfl hf00 w hb hh) hx4) fun A9 n10 c11 => ak rfl k3 <| ct (σ := (Option Addr) × Nat × Nat × (List Sapi_Item)) (fun ⟨A14, n15, c16, x17⟩ => [(5, .slice A14 n15 c16)]) (fun ⟨A14, n15, c16, x17⟩ => [(0, .mem M0), (113, .own 59 (Lay.sz Sapi_Item) A14 n15 c16 (cel x17))]) (fun ⟨A14, n15, c16, x17⟩ => m_r08_Drop_j0 x17 = some res) (fun _ k18 => ?_) ?_
 ·refine sr fun _ k19 => ak rfl k19 <| bl <| WC.nilOwn 121 59 (Lay.sz Sapi_Item) none <| lp (τ := (Option Addr) × Nat × Nat × (List Sapi_Item) × Int) (fun ⟨A22, n23, c24, x25, x26⟩ => [(0, .slice A9 n10 c11), (1, U64 x01), (5, .slice A22 n23 c24), (6, I64 x26)]) (fun ⟨A22, n23, c24, x25, x26⟩ => [(0, .mem M0), (108, .own 59 (Lay.sz Sapi_Item) A9 n10 c11 (cel x4)), (121, .own 59 (Lay.sz Sapi_Item) A22 n23 c24 (cel x25))]) (fun q27 ⟨A22, n23, c24, x25, x26⟩ => m_r08_Drop_l1 x01 x4 q27 x25 x26 = some res) ⟨none, 0, 0, ([] : List Sapi_Item), (0 : Int)⟩ ?_ (by simp [m_r08_Drop_l1]) ?_
  ·exact h
  rintro q27 ⟨A22, n23, c24, x25, x26⟩ h _ k28
  unfold m_r08_Drop_l1 at h
  refine sq fun _ k29 => sr fun _ k30 => mv rfl <| mv rfl <| ya (lenC (xs := x4) und_25 rfl (rO 108 rfl)) <| ya (lss rfl rfl) <| dz k30 <| cI h rfl (fun hc31 h => ?_) fun hc31 h => ?_
  ·refine ss <| k29 _ _ <| sq fun _ k32 => bl <| sr fun _ k33 => bd h fun x34 hx34 h => mv rfl <| mv rfl <| ya (idxC (xs := x4) sty_25 rfl rfl (rO 108 rfl) hx34) <| ya (fieldAddrC Tryz.underlying59 rfl nz_57 rfl rfl) <| ya (loadC (xs := x4) (j := 0) scal_57 rfl (rO 108 rfl) hx34 rfl rfl) <| mv rfl <| ya (neq_u64 (a := x34.fKey) (b := x01) rfl rfl) <| dz k33 <| cnn h rfl bne_eq_false_iff_eq.2 bne_iff_ne.2 (fun hc35 h => ?_) fun hc35 h => ?_
   ·refine WC.skip <| bn <| tn <| k32 _ _ <| rg fun _ k36 => bd h fun x37 hx37 h => mv rfl <| ya (addC rfl rfl hx37) <| ak rfl k36 <| tn <| kw (k28 ⟨A22, n23, c24, x25, x37⟩ h)
   refine rg fun _ k38 => ?_
   obtain ⟨x39, hx39, h⟩ := bnd h
   obtain ⟨x41, hx41, h⟩ := bnd h
   refine mv rfl <| mv rfl <| mv rfl <| ya (idxC (xs := x4) sty_25 rfl rfl (rO 108 rfl) hx39) <| ya (loadA (xs := x4) agg_59 rfl (rO 108 rfl) hx39 rfl) <| WL.eff (by decide) (Eff.buildCA 140 ([x39] : List Sapi_Item) sty_25 rfl rfl rfl (by decide)) ?_
   rintro _ _ ⟨g40, rfl, rfl⟩
   refine ap 121 (xs := x25) (ys := ([x39] : List Sapi_Item)) sty_25 rfl rfl rfl (rO 140 rfl) hx41 fun A42 c43 => ak rfl k38 <| bn <| tn <| k32 _ _ <| rg fun _ k44 => bd h fun x45 hx45 h => mv rfl <| ya (addC rfl rfl hx45) <| ak rfl k44 <| tn <| kw (k28 ⟨A42, x41.length, c43, x41, x45⟩ h)
  exact xi <| te <| te <| bx <| tn <| KK.move 121 113 rfl rfl <| kw (k18 ⟨A22, n23, c24, x25⟩ h)
 rintro ⟨A14, n15, c16, x17⟩ h
 unfold m_r08_Drop_j0 at h
 refine sr fun _ k46 => mv rfl <| ak rfl k46 <| re ?_
 obtain rfl := si h
 exact rt [113] (ResIs.one rfl rfl) (Ext.refl _ _) ⟨A14, n15, c16, rfl, rfl⟩
theorem bu_59_0_1_2_3 : ∀ (a0 : BitVec 64) (a1 : BitVec 32) (a2 : Int) (a3 : Int), Tryz.prog.built 59 [(0, U64 a0), (1, U32 a1), (2, I64 a2), (3, I64 a3)] = some ([U64 a0, U32 a1, I64 a2, I64 a3] : List Value).toArray := fun a0 a1 a2 a3 => by kernel_rfl
theorem nm_39 : (Tryz.f39.name == "runtime.NumGoroutine") = false := by kernel_rfl
theorem w_r03_SameRows (M0 : Mem) (A00 : Option Addr) (n00 c00 : Nat) (rs00 : List Hdr) (x00 : List By) (hf00 : SlT M0 A00 n00 c00 rs00) (hq00 : Rels ((RelB (α := BitVec 8)) M0) rs00 x00) (A01 : Option Addr) (n01 c01 : Nat) (rs01 : List Hdr) (x01 : List By) (hf01 : SlT M0 A01 n01 c01 rs01) (hq01 : Rels ((RelB (α := BitVec 8)) M0) rs01 x01) {res : Bool} (h : m_r03_SameRows x00 x01 = some res) :
  Fn Tryz.prog 13 #[.slice A00 n00 c00, .slice A01 n01 c01] M0 fun r M' es => r = .bool res /\ es = [] := by
 refine Fn.intro (N := 28) Tryz.func13 rfl rfl (nle rfl) fun w0 => ?_
 unfold m_r03_SameRows at h
 refine sr fun _ k1 => ak rfl k1 <| sq fun _ k2 => sr fun _ k3 => mv rfl <| ya (lenD (rs := rs00) (xs := x00) (Rels.len hq00) und_30 rfl (mM rfl hf00)) <| mv rfl <| ya (lenD (rs := rs01) (xs := x01) (Rels.len hq01) und_30 rfl (mM rfl hf01)) <| ya (neqI rfl rfl) <| dz k3 <| cnn h rfl bne_eq_false_iff_eq.2 bne_iff_ne.2 (fun hc4 h => ?_) fun hc4 h => ?_
 ·refine ss <| k2 _ _ <| ct (σ := Unit) (fun _ => []) (fun _ => [(0, .mem M0)]) (fun _ => m_r03_SameRows_j0 = some res) (fun _ k5 => ?_) ?_
  ·refine sr fun _ k6 => ak rfl k6 <| bl <| lp (τ := Int) (fun x7 => [(0, .slice A00 n00 c00), (1, .slice A01 n01 c01), (5, I64 x7)]) (fun x7 => [(0, .mem M0)]) (fun q8 x7 => m_r03_SameRows_l1 x00 x01 q8 x7 = some res) ((0 : Int)) ?_ (by simp [m_r03_SameRows_l1]) ?_
   ·exact h
   rintro q8 x7 h _ k9
   unfold m_r03_SameRows_l1 at h
   refine sq fun _ k10 => sr fun _ k11 => mv rfl <| mv rfl <| ya (lenD (rs := rs00) (xs := x00) (Rels.len hq00) und_30 rfl (mM rfl hf00)) <| ya (lss rfl rfl) <| dz k11 <| cI h rfl (fun hc12 h => ?_) fun hc12 h => ?_
   ·refine ss <| k10 _ _ <| sq fun _ k13 => bl <| sd [(0, _)] mixed fun _ k14 => ?_
    obtain ⟨x15, hx15, h⟩ := bnd h
    obtain ⟨x19, hx19, h⟩ := bnd h
    refine dm 0 rfl rfl <| dm 1 rfl rfl ?_
    obtain ⟨r_16, hr17, hq18⟩ := Rels.idx hq00 hx15
    refine du 2 rfl (idxC (xs := rs00) sty_30 rfl rfl (mM rfl hf00) hr17) <| du 3 rfl (loadC0 (xs := rs00) scal_22 rfl (mM rfl hf00) hr17 rfl) <| du 4 rfl (b2sC (xs := x15) und_22 und_5 und_9 rfl (mM rfl hq18)) <| dm 5 rfl rfl <| dm 6 rfl rfl ?_
    obtain ⟨r_20, hr21, hq22⟩ := Rels.idx hq01 hx19
    refine du 7 rfl (idxC (xs := rs01) sty_30 rfl rfl (mM rfl hf01) hr21) <| du 8 rfl (loadC0 (xs := rs01) scal_22 rfl (mM rfl hf01) hr21 rfl) <| du 9 rfl (b2sC (xs := x19) und_22 und_5 und_9 rfl (mM rfl hq22)) <| du 10 rfl (neqStr (a := x15) (b := x19) rfl rfl) <| dd <| k14 _ _ <| cnn h rfl neq_of_eq neq_of_ne (fun hc23 h => ?_) fun hc23 h => ?_
    ·refine WC.skip <| bn <| tn <| k13 _ _ <| rg fun _ k24 => bd h fun x25 hx25 h => mv rfl <| ya (addC rfl rfl hx25) <| ak rfl k24 <| tn <| kw (k9 (x25) h)
    refine sr fun _ k26 => ak rfl k26 <| re <| br <| tr <| tr <| br <| tr ?_
    obtain rfl := si h
    exact rt0 (ResIs.one rfl rfl)
   exact xi <| te <| te <| bx <| tn <| kw (k5 () h)
  rintro _ h
  unfold m_r03_SameRows_j0 at h
  refine sr fun _ k27 => ak rfl k27 <| re ?_
  obtain rfl := si h
  exact rt0 (ResIs.one rfl rfl)
 refine sr fun _ k28 => ak rfl k28 <| re <| tr ?_
 obtain rfl := si h
 exact rt0 (ResIs.one rfl rfl)
theorem w_slices_Clone_api_Item_api_Item (M0 : Mem) (A00 : Option Addr) (n00 c00 : Nat) (x00 : List Sapi_Item) (hf00 : SlT M0 A00 n00 c00 x00) {res : (List Sapi_Item)} (h : m_slices_Clone_api_Item_api_Item x00 = some res) :
  Fn Tryz.prog 35 #[.slice A00 n00 c00] M0 fun r M' es => ∃ (A1 : Option Addr) (n1 c1 : Nat), r = .slice A1 n1 c1 /\ es = [.own 59 (Lay.sz Sapi_Item) A1 n1 c1 (cel res)] := by
 refine Fn.intro (N := 8) Tryz.func35 rfl rfl (nle rfl) fun w0 => ?_
 unfold m_slices_Clone_api_Item_api_Item at h
 refine sr fun _ k1 => ak rfl k1 <| sq fun _ k2 => sr fun _ k3 => mv rfl <| ya (eqlNil und_25 rfl rfl) <| dn <| k3 _ _ ?_
 by_cases hA4 : A00 = none
 ·have hz := nil_of hf00 hA4
  subst hz
  replace h : some ([] : List Sapi_Item) = some res := h
  refine WC.condTe rfl (by rw [hA4]; rfl) <| sr fun _ k5 => ak rfl k5 <| re <| tr <| QK.nilOwn 106 59 (Lay.sz Sapi_Item) none ?_
  obtain rfl := si h
  exact rt [106] (ResIs.one rfl rfl) (Ext.refl _ _) ⟨none, 0, 0, rfl, rfl⟩
 skip
 refine WC.condFe rfl (isNone_ne hA4) <| ss <| k2 _ _ <| sr fun _ k7 => bd h fun x9 hx9 h => WL.eff (by decide) (Eff.buildCA 108 ([] : List Sapi_Item) sty_25 rfl rfl rfl (by decide)) ?_
 rintro _ _ ⟨g8, rfl, rfl⟩
 refine mv rfl <| ap 108 (xs := ([] : List Sapi_Item)) (ys := x00) sty_25 rfl rfl rfl (mM rfl hf00) hx9 fun A10 c11 => ak rfl k7 <| re ?_
 obtain rfl := si h
 exact rt [108] (ResIs.one rfl rfl) (Ext.refl _ _) ⟨A10, x9.length, c11, rfl, rfl⟩
theorem nm_57 : (Tryz.f57.name == "runtime.NumGoroutine") = false := by kernel_rfl
theorem nz_24 : (Tryz.prog.info? 24).map (fun i => decide (i.size = 0)) = some false := by kernel_rfl
theorem nz_25 : (Tryz.prog.info? 25).map (fun i => decide (i.size = 0)) = some false := by kernel_rfl
theorem scal_25 : scal Tryz.prog 25 = true := by kernel_rfl
theorem w_stripe_Size (M0 : Mem) (x00 : Int) {res : Int} (h : m_stripe_Size x00 = some res) :
  Fn Tryz.prog 68 #[I64 x00] M0 fun r M' es => r = I64 res /\ es = [] := by
 refine Fn.intro (N := 10) Tryz.func68 rfl rfl (nle rfl) fun w0 => ?_
 unfold m_stripe_Size at h
 refine sr fun _ k1 => ak rfl k1 <| sq fun _ k2 => sr fun _ k3 => mv rfl <| ya (leq rfl rfl) <| dz k3 <| cI h rfl (fun hc4 h => ?_) fun hc4 h => ?_
 ·refine sr fun _ k5 => ak rfl k5 <| re <| tr ?_
  obtain rfl := si h
  exact rt0 (ResIs.one rfl rfl)
 refine ss <| k2 _ _ <| sr fun _ k6 => ?_
 obtain ⟨x7, hx7, h⟩ := bnd h
 obtain ⟨x8, hx8, h⟩ := bnd h
 obtain ⟨x9, hx9, h⟩ := bnd h
 obtain ⟨x10, hx10, h⟩ := bnd h
 refine mv rfl <| ya (subC rfl rfl hx7) <| ya (quoC rfl rfl hx8) <| ya (addC rfl rfl hx9) <| ya (mulC rfl rfl hx10) <| ak rfl k6 <| re ?_
 obtain rfl := si h
 exact rt0 (ResIs.one rfl rfl)
theorem w_stripe_place (M0 : Mem) (x00 : Int) {res : Int × Int} (h : m_stripe_place x00 = some res) :
  Fn Tryz.prog 101 #[I64 x00] M0 fun r M' es => r = .tuple #[I64 res.1, I64 res.2] /\ es = [] := by
 refine Fn.intro (N := 15) Tryz.func101 rfl rfl (nle rfl) fun w0 => ?_
 unfold m_stripe_place at h
 refine sr fun _ k1 => asn rfl <| ak rfl k1 <| sr fun _ k2 => bd h fun x3 hx3 h => mv rfl <| ya (quoC rfl rfl hx3) <| ak rfl k2 <| sr fun _ k4 => ?_
 obtain ⟨x5, hx5, h⟩ := bnd h
 obtain ⟨x6, hx6, h⟩ := bnd h
 obtain ⟨x7, hx7, h⟩ := bnd h
 obtain ⟨x8, hx8, h⟩ := bnd h
 obtain ⟨x9, hx9, h⟩ := bnd h
 refine mv rfl <| ya (remC rfl rfl hx5) <| mv rfl <| ya (quoC rfl rfl hx6) <| ya (mulC rfl rfl hx7) <| mv rfl <| ya (remC rfl rfl hx8) <| ya (addC rfl rfl hx9) <| asn rfl <| ak rfl k4 <| re ?_
 obtain rfl := si h
 exact rt0 (ResIs.two rfl rfl rfl)
theorem w_r05_Size (M0 : Mem) (x00 : Int) {res : Int} (h : m_r05_Size x00 = some res) :
  Fn Tryz.prog 48 #[I64 x00] M0 fun r M' es => r = I64 res /\ es = [] := by
 refine Fn.intro (N := 15) Tryz.func48 rfl rfl (nle rfl) fun w0 => ?_
 unfold m_r05_Size at h
 refine sr fun _ k1 => ak rfl k1 <| sq fun _ k2 => sr fun _ k3 => mv rfl <| ya (lss rfl rfl) <| dz k3 <| cI h rfl (fun hc4 h => ?_) fun hc4 h => ?_
 ·refine sr fun _ k5 => ak rfl k5 <| re <| tr ?_
  obtain rfl := si h
  exact rt0 (ResIs.one rfl rfl)
 refine ss <| k2 _ _ <| sr fun _ k6 => bd h fun x7 hx7 h => mv rfl <| ya (quoC rfl rfl hx7) <| ak rfl k6 <| sq fun _ k8 => sr fun _ k9 => bd h fun x10 hx10 h => mv rfl <| ya (remC rfl rfl hx10) <| ya (gtr rfl rfl) <| dz k9 <| cI h rfl (fun hc11 h => ?_) fun hc11 h => ?_
 ·refine rg fun _ k12 => bd h fun x13 hx13 h => mv rfl <| ya (addC rfl rfl hx13) <| ak rfl k12 <| tn <| k8 _ _ <| sr fun _ k14 => bd h fun x15 hx15 h => mv rfl <| ya (mulC rfl rfl hx15) <| ak rfl k14 <| re ?_
  obtain rfl := si h
  exact rt0 (ResIs.one rfl rfl)
 refine ss <| k8 _ _ <| sr fun _ k16 => bd h fun x17 hx17 h => mv rfl <| ya (mulC rfl rfl hx17) <| ak rfl k16 <| re ?_
 obtain rfl := si h
 exact rt0 (ResIs.one rfl rfl)
theorem w_r05_Place (M0 : Mem) (x00 : Int) {res : Int × Int × Int} (h : m_r05_Place x00 = some res) :
  Fn Tryz.prog 82 #[I64 x00] M0 fun r M' es => r = .tuple #[I64 res.1, I64 res.2.1, I64 res.2.2] /\ es = [] := by
 refine Fn.intro (N := 18) Tryz.func82 rfl rfl (nle rfl) fun w0 => ?_
 unfold m_r05_Place at h
 refine sr fun _ k1 => asn rfl <| asn rfl <| ak rfl k1 <| sq fun _ k2 => sr fun _ k3 => mv rfl <| ya (lss rfl rfl) <| dz k3 <| cI h rfl (fun hc4 h => ?_) fun hc4 h => ?_
 ·refine sr fun _ k5 => asn rfl <| asn rfl <| ak rfl k5 <| re <| tr ?_
  obtain rfl := si h
  exact rt0 (ResIs.three rfl rfl rfl rfl)
 refine ss <| k2 _ _ <| sr fun _ k6 => bd h fun x7 hx7 h => mv rfl <| ya (quoC rfl rfl hx7) <| ak rfl k6 <| sr fun _ k8 => ?_
 obtain ⟨x9, hx9, h⟩ := bnd h
 obtain ⟨x10, hx10, h⟩ := bnd h
 obtain ⟨x11, hx11, h⟩ := bnd h
 obtain ⟨x12, hx12, h⟩ := bnd h
 obtain ⟨x13, hx13, h⟩ := bnd h
 refine mv rfl <| ya (remC rfl rfl hx9) <| mv rfl <| ya (quoC rfl rfl hx10) <| ya (mulC rfl rfl hx11) <| mv rfl <| ya (remC rfl rfl hx12) <| ya (addC rfl rfl hx13) <| asn rfl <| asn rfl <| ak rfl k8 <| re ?_
 obtain rfl := si h
 exact rt0 (ResIs.three rfl rfl rfl rfl)
theorem w_shards_Valid (M0 : Mem) (u0 u1 u2 u3 : Int) (u4 u5 u6 u7 u8 u9 : BitVec 32) (A00_10 : Option Addr) (n00_10 c00_10 : Nat) (u10 : List Sapi_Item) (hf00_10 : SlT M0 A00_10 n00_10 c00_10 u10) {res : Bool} (h : m_shards_Valid u0 u1 u2 u3 u4 u5 u6 u7 u8 u9 u10 = some res) :
  Fn Tryz.prog 24 #[.agg ([I64 u0, I64 u1, I64 u2, I64 u3, U32 u4, U32 u5, U32 u6, U32 u7, U32 u8, U32 u9, .slice A00_10 n00_10 c00_10] : List Value).toArray] M0 fun r M' es => r = .bool res /\ es = [] := by
 refine Fn.intro (N := 28) Tryz.func24 rfl rfl (nle rfl) fun w0 => ?_
 unfold m_shards_Valid at h
 refine sr fun _ k1 => bb 102 [I64 u0, I64 u1, I64 u2, I64 u3, U32 u4, U32 u5, U32 u6, U32 u7, U32 u8, U32 u9, .slice A00_10 n00_10 c00_10] rfl fun g2 => ak rfl k1 <| sq fun _ k3 => sr fun _ k4 => bd h fun x5 hx5 h => ya (fieldAddr Tryz.underlying34 rfl nz_24 rfl rfl) <| ya (loadBP (k := 102) (us := [I64 u0, I64 u1, I64 u2]) agg_24 rfl rfl rfl rfl) <| c0 Tryz.func54 rfl (fun w hb hh => w_superblock_Valid (Mem.snap w) u0 u1 u2 hx5) <| ya (notB rfl) <| mv rfl <| spn h not_f (fun q => not_t (Bool.eq_false_iff.2 q)) (fun hc7 h => ?_) fun hc7 h => ?_
 ·refine yg (fieldAddr Tryz.underlying34 rfl nz_2 rfl rfl) <| yg (loadB (k := 102) scal_2 rfl rfl rfl) <| yg (lss rfl rfl) <| pf rfl rfl <| mv rfl <| spl h decide_eq_true decide_eq_false (fun hc8 h => ?_) fun hc8 h => ?_
  ·refine sk <| sk <| sk <| pt rfl rfl <| mv rfl <| sk <| sk <| sk <| sk <| pt rfl rfl <| dz k4 <| cdT rfl <| sr fun _ k9 => ak rfl k9 <| re <| tr ?_
   obtain rfl := si h
   exact rt0 (ResIs.one rfl rfl)
  refine yg (fieldAddr Tryz.underlying34 rfl nz_2 rfl rfl) <| yg (loadB (k := 102) scal_2 rfl rfl rfl) <| yg (gtr rfl rfl) <| pf rfl rfl <| mv rfl <| spl h decide_eq_true decide_eq_false (fun hc10 h => ?_) fun hc10 h => ?_
  ·refine sk <| sk <| sk <| sk <| pt rfl rfl <| dz k4 <| cdT rfl <| sr fun _ k11 => ak rfl k11 <| re <| tr ?_
   obtain rfl := si h
   exact rt0 (ResIs.one rfl rfl)
  obtain ⟨x12, hx12, h⟩ := bnd h
  refine yg (fieldAddr Tryz.underlying34 rfl nz_25 rfl rfl) <| yg (loadB (k := 102) scal_25 rfl rfl rfl) <| c0g Tryz.func55 rfl (fun w hb hh => w_index_Valid (Mem.snap w) A00_10 n00_10 c00_10 _ (sM rfl hf00_10 w hb hh) hx12) <| yg (notB rfl) <| pf rfl rfl <| dz k4 <| cnn h rfl not_f (fun q => not_t (Bool.eq_false_iff.2 q)) (fun hc14 h => ?_) fun hc14 h => ?_
  ·refine ss <| k3 _ _ <| sr fun _ k15 => ya (fieldAddr Tryz.underlying34 rfl nz_25 rfl rfl) <| ya (loadB (k := 102) scal_25 rfl rfl rfl) <| ya (makeFunc rfl rfl) <| WL.inl (by decide) Tryz.func56 nm_56 rfl rfl (Tri.intro (N := 9) Tryz.func56 rfl rfl (nle rfl) ?_)
   refine sr fun _ k16 => ak rfl k16 <| sr fun _ k17 => mv rfl <| mv rfl <| WL.inl (by decide) Tryz.func97 nm_97 rfl rfl (Tri.intro (N := 19) Tryz.func97 rfl rfl (nle rfl) ?_)
   refine sr fun _ k18 => ak rfl k18 <| ct (σ := Unit) (fun _ => []) (fun _ => [(0, .mem M0), (102, .blk g2 34 [I64 u0, I64 u1, I64 u2, I64 u3, U32 u4, U32 u5, U32 u6, U32 u7, U32 u8, U32 u9, .slice A00_10 n00_10 c00_10])]) (fun _ => m_shards_Valid_j0 = some res) (fun _ k19 => ?_) ?_
   ·refine sr fun _ k20 => mv rfl <| ya (lenC (xs := u10) und_25 rfl (mM rfl hf00_10)) <| mv rfl <| dz k20 <| bl <| lp (τ := Int) (fun x21 => [(0, .slice A00_10 n00_10 c00_10), (1, .func (.func 57) #[] #[pv g2]), (7, I64 (u10.length : Int)), (8, I64 x21)]) (fun x21 => [(0, .mem M0), (102, .blk g2 34 [I64 u0, I64 u1, I64 u2, I64 u3, U32 u4, U32 u5, U32 u6, U32 u7, U32 u8, U32 u9, .slice A00_10 n00_10 c00_10])]) (fun q22 x21 => m_shards_Valid_l1 u10 u3 q22 x21 = some res) ((0 : Int)) ?_ (by simp [m_shards_Valid_l1]) ?_
    ·exact h
    rintro q22 x21 h _ k23
    unfold m_shards_Valid_l1 at h
    refine sr fun _ k24 => ya (lss rfl rfl) <| dz k24 <| sq fun _ k25 => cI h rfl (fun hc26 h => ?_) fun hc26 h => ?_
    ·refine ss <| k25 _ _ <| sq fun _ k27 => bl <| sr fun _ k28 => mv rfl <| ak rfl k28 <| sr fun _ k29 => bd h fun x30 hx30 h => mv rfl <| mv rfl <| mv rfl <| ya (idxC (xs := u10) sty_25 rfl rfl (mM rfl hf00_10) hx30) <| ya (loadA (xs := u10) agg_59 rfl (mM rfl hf00_10) hx30 rfl) <| WL.inlV (by decide) rfl Tryz.func57 nm_57 rfl rfl (Tri.intro (N := 13) Tryz.func57 rfl rfl (nle rfl) ?_)
     refine sr fun _ k31 => bb 132 [U64 x30.fKey, U32 x30.fCookie, I64 x30.fOff, I64 x30.fSize] rfl fun g32 => ak rfl k31 <| sd [(0, _), (102, _), (132, _)] mixed fun _ k33 => ?_
     obtain ⟨x34, hx34, h⟩ := bnd h
     obtain ⟨x36, hx36, h⟩ := bnd h
     refine du 0 rfl (fieldAddr Tryz.underlying59 rfl nz_2 rfl rfl) <| du 1 rfl (loadB (k := 132) scal_2 rfl rfl rfl) <| du 2 rfl (fieldAddr Tryz.underlying59 rfl nz_3 rfl rfl) <| du 3 rfl (loadB (k := 132) scal_3 rfl rfl rfl) <| du 6 rfl (fieldAddr Tryz.underlying34 rfl nz_2 rfl rfl) <| du 7 rfl (loadB (k := 102) scal_2 rfl rfl rfl) <| on 4 <| d0 rfl Tryz.func58 rfl (fun w hb hh => w_needle_Size (Mem.snap w) x30.fSize hx34) <| du 5 rfl (addC rfl rfl hx36) <| du 8 rfl (gtr rfl rfl) <| du 9 rfl (Yld.assign rfl) <| dd <| k33 _ _ <| re <| Ret.go (ResIs.one rfl rfl) <| dz k29 <| cI h rfl (fun hc37 h => ?_) fun hc37 h => ?_
     ·refine sr fun _ k38 => mv rfl <| ak rfl k38 <| re <| br <| tr <| tr <| br <| tr <| Ret.go (ResIs.one rfl rfl) <| ya (geq rfl rfl) <| ak rfl k17 <| re <| Ret.go (ResIs.one rfl rfl) <| ya (notB rfl) <| ak rfl k15 <| re ?_
      obtain rfl := si h
      exact rt0 (ResIs.one rfl rfl)
     refine WC.skip <| bn <| tn <| k27 _ _ <| rg fun _ k39 => bd h fun x40 hx40 h => ya (addC rfl rfl hx40) <| mv rfl <| dz k39 <| tn <| kw (k23 (x40) h)
    exact xi <| te <| te <| bx <| tn <| kw (k19 () h)
   rintro _ h
   unfold m_shards_Valid_j0 at h
   refine sr fun _ k41 => ak rfl k41 <| re <| Ret.go (ResIs.one rfl rfl) <| ya (geq rfl rfl) <| ak rfl k17 <| re <| Ret.go (ResIs.one rfl rfl) <| ya (notB rfl) <| ak rfl k15 <| re ?_
   obtain rfl := si h
   exact rt0 (ResIs.one rfl rfl)
  refine sr fun _ k42 => ak rfl k42 <| re <| tr ?_
  obtain rfl := si h
  exact rt0 (ResIs.one rfl rfl)
 refine sk <| sk <| sk <| pt rfl rfl <| mv rfl <| sk <| sk <| sk <| pt rfl rfl <| mv rfl <| sk <| sk <| sk <| sk <| pt rfl rfl <| dz k4 <| cdT rfl <| sr fun _ k43 => ak rfl k43 <| re <| tr ?_
 obtain rfl := si h
 exact rt0 (ResIs.one rfl rfl)
theorem w_r17_Valid (M0 : Mem) (u0 u1 u2 u3 : Int) (u4 u5 u6 u7 u8 u9 : BitVec 32) (A00_10 : Option Addr) (n00_10 c00_10 : Nat) (u10 : List Sapi_Item) (hf00_10 : SlT M0 A00_10 n00_10 c00_10 u10) {res : Bool} (h : m_r17_Valid u0 u1 u2 u3 u4 u5 u6 u7 u8 u9 u10 = some res) :
  Fn Tryz.prog 25 #[.agg ([I64 u0, I64 u1, I64 u2, I64 u3, U32 u4, U32 u5, U32 u6, U32 u7, U32 u8, U32 u9, .slice A00_10 n00_10 c00_10] : List Value).toArray] M0 fun r M' es => r = .bool res /\ es = [] := by
 refine Fn.intro (N := 48) Tryz.func25 rfl rfl (nle rfl) fun w0 => ?_
 unfold m_r17_Valid at h
 refine sr fun _ k1 => bb 102 [I64 u0, I64 u1, I64 u2, I64 u3, U32 u4, U32 u5, U32 u6, U32 u7, U32 u8, U32 u9, .slice A00_10 n00_10 c00_10] rfl fun g2 => ak rfl k1 <| ct (σ := Unit) (fun _ => [(1, pv g2)]) (fun _ => [(0, .mem M0), (102, .blk g2 38 [I64 u0, I64 u1, I64 u2, I64 u3, U32 u4, U32 u5, U32 u6, U32 u7, U32 u8, U32 u9, .slice A00_10 n00_10 c00_10])]) (fun _ => m_r17_Valid_j0 u10 u3 = some res) (fun _ k3 => ?_) ?_
 ·refine sr fun _ k4 => bd h fun x5 hx5 h => ya (fieldAddr Tryz.underlying38 rfl nz_24 rfl rfl) <| ya (loadBP (k := 102) (us := [I64 u0, I64 u1, I64 u2]) agg_24 rfl rfl rfl rfl) <| c0 Tryz.func59 rfl (fun w hb hh => w_r07_Valid (Mem.snap w) u0 u1 u2 hx5) <| ya (notB rfl) <| mv rfl <| spn h not_f (fun q => not_t (Bool.eq_false_iff.2 q)) (fun hc7 h => ?_) fun hc7 h => ?_
  ·refine yg (fieldAddr Tryz.underlying38 rfl nz_2 rfl rfl) <| yg (loadB (k := 102) scal_2 rfl rfl rfl) <| yg (lss rfl rfl) <| pf rfl rfl <| mv rfl <| spl h decide_eq_true decide_eq_false (fun hc8 h => ?_) fun hc8 h => ?_
   ·refine sk <| sk <| sk <| pt rfl rfl <| mv rfl <| sk <| sk <| sk <| sk <| pt rfl rfl <| dz k4 <| cdT rfl <| sr fun _ k9 => ak rfl k9 <| re <| tr ?_
    obtain rfl := si h
    exact rt0 (ResIs.one rfl rfl)
   refine yg (fieldAddr Tryz.underlying38 rfl nz_2 rfl rfl) <| yg (loadB (k := 102) scal_2 rfl rfl rfl) <| yg (gtr rfl rfl) <| pf rfl rfl <| mv rfl <| spl h decide_eq_true decide_eq_false (fun hc10 h => ?_) fun hc10 h => ?_
   ·refine sk <| sk <| sk <| sk <| pt rfl rfl <| dz k4 <| cdT rfl <| sr fun _ k11 => ak rfl k11 <| re <| tr ?_
    obtain rfl := si h
    exact rt0 (ResIs.one rfl rfl)
   obtain ⟨x12, hx12, h⟩ := bnd h
   refine yg (fieldAddr Tryz.underlying38 rfl nz_25 rfl rfl) <| yg (loadB (k := 102) scal_25 rfl rfl rfl) <| c0g Tryz.func60 rfl (fun w hb hh => w_r08_Valid (Mem.snap w) A00_10 n00_10 c00_10 _ (sM rfl hf00_10 w hb hh) hx12) <| yg (notB rfl) <| pf rfl rfl <| dz k4 <| cnn h rfl not_f (fun q => not_t (Bool.eq_false_iff.2 q)) (fun hc14 h => ?_) fun hc14 h => ?_
   ·exact WC.skip <| tn <| kw (k3 () h)
   refine sr fun _ k15 => ak rfl k15 <| re <| tr ?_
   obtain rfl := si h
   exact rt0 (ResIs.one rfl rfl)
  refine sk <| sk <| sk <| pt rfl rfl <| mv rfl <| sk <| sk <| sk <| pt rfl rfl <| mv rfl <| sk <| sk <| sk <| sk <| pt rfl rfl <| dz k4 <| cdT rfl <| sr fun _ k16 => ak rfl k16 <| re <| tr ?_
  obtain rfl := si h
  exact rt0 (ResIs.one rfl rfl)
 rintro _ h
 unfold m_r17_Valid_j0 at h
 refine ct (σ := Unit) (fun _ => []) (fun _ => [(0, .mem M0)]) (fun _ => m_r17_Valid_j1 = some res) (fun _ k17 => ?_) ?_
 ·refine sr fun _ k18 => ak rfl k18 <| bl <| lp (τ := Int) (fun x19 => [(1, pv g2), (3, I64 x19)]) (fun x19 => [(0, .mem M0), (102, .blk g2 38 [I64 u0, I64 u1, I64 u2, I64 u3, U32 u4, U32 u5, U32 u6, U32 u7, U32 u8, U32 u9, .slice A00_10 n00_10 c00_10])]) (fun q20 x19 => m_r17_Valid_l2 u10 u3 q20 x19 = some res) ((0 : Int)) ?_ (by simp [m_r17_Valid_l2]) ?_
  ·exact h
  rintro q20 x19 h _ k21
  unfold m_r17_Valid_l2 at h
  refine sq fun _ k22 => sr fun _ k23 => mv rfl <| ya (fieldAddr Tryz.underlying38 rfl nz_25 rfl rfl) <| ya (loadB (k := 102) scal_25 rfl rfl rfl) <| ya (lenC (xs := u10) und_25 rfl (mM rfl hf00_10)) <| ya (lss rfl rfl) <| dz k23 <| cI h rfl (fun hc24 h => ?_) fun hc24 h => ?_
  ·refine ss <| k22 _ _ <| sq fun _ k25 => bl <| sd [(0, _), (102, _)] mixed fun _ k26 => ?_
   obtain ⟨x27, hx27, h⟩ := bnd h
   obtain ⟨x28, hx28, h⟩ := bnd h
   obtain ⟨x29, hx29, h⟩ := bnd h
   obtain ⟨x31, hx31, h⟩ := bnd h
   refine du 0 rfl (fieldAddr Tryz.underlying38 rfl nz_25 rfl rfl) <| du 1 rfl (loadB (k := 102) scal_25 rfl rfl rfl) <| dm 2 rfl rfl <| du 3 rfl (idxC (xs := u10) sty_25 rfl rfl (mM rfl hf00_10) hx27) <| du 4 rfl (fieldAddrC Tryz.underlying59 rfl nz_2 rfl rfl) <| du 5 rfl (loadC (xs := u10) (j := 2) scal_2 rfl (mM rfl hf00_10) hx27 rfl rfl) <| du 6 rfl (fieldAddr Tryz.underlying38 rfl nz_25 rfl rfl) <| du 7 rfl (loadB (k := 102) scal_25 rfl rfl rfl) <| dm 8 rfl rfl <| du 9 rfl (idxC (xs := u10) sty_25 rfl rfl (mM rfl hf00_10) hx28) <| du 10 rfl (fieldAddrC Tryz.underlying59 rfl nz_3 rfl rfl) <| du 11 rfl (loadC (xs := u10) (j := 3) scal_3 rfl (mM rfl hf00_10) hx28 rfl rfl) <| du 14 rfl (fieldAddr Tryz.underlying38 rfl nz_2 rfl rfl) <| du 15 rfl (loadB (k := 102) scal_2 rfl rfl rfl) <| on 12 <| d0 rfl Tryz.func61 rfl (fun w hb hh => w_r06_Size (Mem.snap w) x28.fSize hx29) <| du 13 rfl (addC rfl rfl hx31) <| du 16 rfl (gtr rfl rfl) <| dd <| k26 _ _ <| cI h rfl (fun hc32 h => ?_) fun hc32 h => ?_
   ·refine sr fun _ k33 => ak rfl k33 <| re <| br <| tr <| tr <| br <| tr ?_
    obtain rfl := si h
    exact rt0 (ResIs.one rfl rfl)
   refine WC.skip <| bn <| tn <| k25 _ _ <| rg fun _ k34 => bd h fun x35 hx35 h => mv rfl <| ya (addC rfl rfl hx35) <| ak rfl k34 <| tn <| kw (k21 (x35) h)
  exact xi <| te <| te <| bx <| tn <| kw (k17 () h)
 rintro _ h
 unfold m_r17_Valid_j1 at h
 refine sr fun _ k36 => ak rfl k36 <| re ?_
 obtain rfl := si h
 exact rt0 (ResIs.one rfl rfl)
theorem und_32 : Tryz.prog.underlying 32 = some (.array 6 31) := by kernel_rfl
theorem agg_32 : Agg Tryz.prog 32 6 := ⟨⟨_, Tryz.underlying32, rfl⟩, by kernel_rfl⟩
theorem agg_34 : Agg Tryz.prog 34 11 := ⟨⟨_, Tryz.underlying34, rfl⟩, by kernel_rfl⟩
theorem agg_38 : Agg Tryz.prog 38 11 := ⟨⟨_, Tryz.underlying38, rfl⟩, by kernel_rfl⟩
theorem bu_34_ : Tryz.prog.built 34 [] = some ([I64 (0 : Int), I64 (0 : Int), I64 (0 : Int), I64 (0 : Int), U32 0#32, U32 0#32, U32 0#32, U32 0#32, U32 0#32, U32 0#32, .slice none 0 0] : List Value).toArray := by kernel_rfl
theorem bu_38_ : Tryz.prog.built 38 [] = some ([I64 (0 : Int), I64 (0 : Int), I64 (0 : Int), I64 (0 : Int), U32 0#32, U32 0#32, U32 0#32, U32 0#32, U32 0#32, U32 0#32, .slice none 0 0] : List Value).toArray := by kernel_rfl
theorem bu_38_0_1_3 : ∀ (a0_0 : Int) (a0_1 : Int) (a0_2 : Int) (a1 : Int) (a3 : Option Addr) (n3 c3 : Nat), Tryz.prog.built 38 [(0, .agg ([I64 a0_0, I64 a0_1, I64 a0_2] : List Value).toArray), (1, I64 a1), (3, .slice a3 n3 c3)] = some ([I64 a0_0, I64 a0_1, I64 a0_2, I64 a1, U32 0#32, U32 0#32, U32 0#32, U32 0#32, U32 0#32, U32 0#32, .slice a3 n3 c3] : List Value).toArray := fun a0_0 a0_1 a0_2 a1 a3 n3 c3 => by kernel_rfl
theorem nm_25 : (Tryz.f25.name == "runtime.NumGoroutine") = false := by kernel_rfl
theorem nz_32 : (Tryz.prog.info? 32).map (fun i => decide (i.size = 0)) = some false := by kernel_rfl
theorem siz_31 : (Tryz.prog.info? 31).map (·.size) = some 1 := by kernel_rfl
theorem zr_34 : (Tryz.prog.info? 34).map (fun i => i.zero.map (·.cells)) = some (some ([I64 (0 : Int), I64 (0 : Int), I64 (0 : Int), I64 (0 : Int), U32 0#32, U32 0#32, U32 0#32, U32 0#32, U32 0#32, U32 0#32, .slice none 0 0] : List Value).toArray) := by kernel_rfl
theorem zr_38 : (Tryz.prog.info? 38).map (fun i => i.zero.map (·.cells)) = some (some ([I64 (0 : Int), I64 (0 : Int), I64 (0 : Int), I64 (0 : Int), U32 0#32, U32 0#32, U32 0#32, U32 0#32, U32 0#32, U32 0#32, .slice none 0 0] : List Value).toArray) := by kernel_rfl
end Go.Proofs.YthjnhlmfcejhkaaGreat
