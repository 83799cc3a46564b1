/- A part of the proof. Conditions: as each theorem says. -/
import Derived.Test.YthjnhlmfcejhkaaGreatWke
import Derived.Test.YthjnhlmfcejhkaaGreatMdr
namespace Go.Proofs.YthjnhlmfcejhkaaGreat
set_option maxRecDepth 10000
open Go Go.RowKit Yld
set_option linter.unusedVariables false
theorem und_31 : Tryz.prog.underlying 31 = some (.int .u32) := by kernel_rfl
theorem und_57 : Tryz.prog.underlying 57 = some (.int .u64) := by kernel_rfl
theorem agg_77 : Agg Tryz.prog 77 4 := ⟨⟨_, Tryz.underlying77, rfl⟩, by kernel_rfl⟩
theorem bu_77_ : Tryz.prog.built 77 [] = some ([U64 0#64, U32 0#32, .bool false, .slice none 0 0] : List Value).toArray := by kernel_rfl
theorem bu_77_0_1_2_3 : ∀ (a0 : BitVec 64) (a1 : BitVec 32) (a2 : Bool) (a3 : Option Addr) (n3 c3 : Nat), Tryz.prog.built 77 [(0, U64 a0), (1, U32 a1), (2, .bool a2), (3, .slice a3 n3 c3)] = some ([U64 a0, U32 a1, .bool a2, .slice a3 n3 c3] : List Value).toArray := fun a0 a1 a2 a3 n3 c3 => by kernel_rfl
theorem nm_26 : (Tryz.f26.name == "runtime.NumGoroutine") = false := by kernel_rfl
theorem nm_52 : (Tryz.f52.name == "runtime.NumGoroutine") = false := by kernel_rfl
theorem nz_31 : (Tryz.prog.info? 31).map (fun i => decide (i.size = 0)) = some false := by kernel_rfl
theorem nz_4 : (Tryz.prog.info? 4).map (fun i => decide (i.size = 0)) = some false := by kernel_rfl
theorem nz_57 : (Tryz.prog.info? 57).map (fun i => decide (i.size = 0)) = some false := by kernel_rfl
theorem scal_31 : scal Tryz.prog 31 = true := by kernel_rfl
theorem scal_57 : scal Tryz.prog 57 = true := by kernel_rfl
theorem some_31 : (Tryz.prog.underlying 31).isSome = true := by kernel_rfl
theorem some_57 : (Tryz.prog.underlying 57).isSome = true := by kernel_rfl
theorem zr_77 : (Tryz.prog.info? 77).map (fun i => i.zero.map (·.cells)) = some (some ([U64 0#64, U32 0#32, .bool false, .slice none 0 0] : List Value).toArray) := by kernel_rfl
theorem w_crc32c_Extend (M0 : Mem) (x00 : BitVec 32) (A01 : Option Addr) (n01 c01 : Nat) (x01 : By) (hf01 : SlT M0 A01 n01 c01 x01) {res : (BitVec 32)} (h : m_crc32c_Extend x00 x01 = some res) :
  Fn Tryz.prog 81 #[U32 x00, .slice A01 n01 c01] M0 fun r M' es => r = U32 res /\ es = [] := by
 refine Fn.intro (N := 35) Tryz.func81 rfl rfl (nle rfl) fun w0 => ?_
 unfold m_crc32c_Extend at h
 refine sr fun _ k1 => ya (Yld.assign (v := U32 0#32) rfl) <| dz k1 <| sr fun _ k2 => mv rfl <| ya (not_u32 (a := x00) rfl) <| ak rfl k2 <| ct (σ := (BitVec 32)) (fun x3 => [(5, U32 x3)]) (fun x3 => [(0, .mem M0)]) (fun x3 => m_crc32c_Extend_j0 x3 = some res) (fun _ k4 => ?_) ?_
 ·refine sr fun _ k5 => mv rfl <| ya (lenC (xs := x01) und_22 rfl (mM rfl hf01)) <| mv rfl <| dz k5 <| bl <| lp (τ := (BitVec 32) × Int) (fun ⟨x6, x7⟩ => [(5, U32 x6), (11, .slice A01 n01 c01), (12, I64 (x01.length : Int)), (13, I64 x7)]) (fun ⟨x6, x7⟩ => [(0, .mem M0)]) (fun q8 ⟨x6, x7⟩ => m_crc32c_Extend_l1 x01 q8 x6 x7 = some res) ⟨~~~x00, (0 : Int)⟩ ?_ (by simp [m_crc32c_Extend_l1]) ?_
  ·exact h
  rintro q8 ⟨x6, x7⟩ h _ k9
  unfold m_crc32c_Extend_l1 at h
  refine sr fun _ k10 => ya (lss rfl rfl) <| dz k10 <| sq fun _ k11 => cI h rfl (fun hc12 h => ?_) fun hc12 h => ?_
  ·refine ss <| k11 _ _ <| ct (σ := (BitVec 32)) (fun x13 => [(5, U32 x13), (11, .slice A01 n01 c01), (12, I64 (x01.length : Int)), (13, I64 x7)]) (fun x13 => [(0, .mem M0)]) (fun x13 => m_crc32c_Extend_j2 x7 (m_crc32c_Extend_l1 x01 q8) x13 = some res) (fun _ k14 => ?_) ?_
   ·refine bl <| sr fun _ k15 => bd h fun x16 hx16 h => ya (idxC (xs := x01) sty_22 rfl rfl (mM rfl hf01) hx16) <| ya (loadC0 (xs := x01) scal_5 rfl (mM rfl hf01) hx16 rfl) <| ak rfl k15 <| sr fun _ k17 => mv rfl <| mv rfl <| ya (conv_u8_u32 (a := x16) some_5 und_31 rfl) <| ya (xor_u32 (a := x6) (b := (x16.setWidth 32)) rfl rfl) <| ak rfl k17 <| sr fun _ k18 => mv rfl <| dz k18 <| bl <| lp (τ := (BitVec 32) × Int) (fun ⟨x19, x20⟩ => [(5, U32 x19), (11, .slice A01 n01 c01), (12, I64 (x01.length : Int)), (13, I64 x7), (21, I64 x20)]) (fun ⟨x19, x20⟩ => [(0, .mem M0)]) (fun q21 ⟨x19, x20⟩ => m_crc32c_Extend_l3 x7 (m_crc32c_Extend_l1 x01 q8) q21 x19 x20 = some res) ⟨x6 ^^^ (x16.setWidth 32), (0 : Int)⟩ ?_ (by simp [m_crc32c_Extend_l3]) ?_
    ·exact h
    rintro q21 ⟨x19, x20⟩ h _ k22
    unfold m_crc32c_Extend_l3 at h
    refine sr fun _ k23 => ya (lss rfl rfl) <| dz k23 <| sq fun _ k24 => cI h rfl (fun hc25 h => ?_) fun hc25 h => ?_
    ·refine ss <| k24 _ _ <| sq fun _ k26 => bl <| sr fun _ k27 => mv rfl <| ya (and_u32 (a := x19) (b := 1#32) rfl rfl) <| ak rfl k27 <| sr fun _ k28 => mv rfl <| ya (shrU_u32 (a := x19) (m := 1) rfl rfl) <| ak rfl k28 <| sr fun _ k29 => mv rfl <| ya (eql_u32 (a := (x19 &&& 1#32)) (b := 1#32) rfl rfl) <| dz k29 <| cnd h rfl beq_iff_eq.2 beq_eq_false_iff_ne.2 (fun hc30 h => ?_) fun hc30 h => ?_
     ·refine rg fun _ k31 => mv rfl <| ya (xor_u32 (a := (x19 >>> 1)) (b := 2197175160#32) rfl rfl) <| ak rfl k31 <| bn <| tn <| k26 _ _ <| rg fun _ k32 => bd h fun x33 hx33 h => ya (addC rfl rfl hx33) <| mv rfl <| dz k32 <| tn <| kw (k22 ⟨(x19 >>> 1) ^^^ 2197175160#32, x33⟩ h)
     refine WC.skip <| bn <| tn <| k26 _ _ <| rg fun _ k34 => bd h fun x35 hx35 h => ya (addC rfl rfl hx35) <| mv rfl <| dz k34 <| tn <| kw (k22 ⟨x19 >>> 1, x35⟩ h)
    exact xi <| te <| te <| bx <| bn <| tn <| kw (k14 x19 h)
   rintro x13 h
   unfold m_crc32c_Extend_j2 at h
   refine rg fun _ k36 => bd h fun x37 hx37 h => ya (addC rfl rfl hx37) <| mv rfl <| dz k36 <| tn <| kw (k9 ⟨x13, x37⟩ h)
  exact xi <| te <| te <| bx <| tn <| kw (k4 x6 h)
 rintro x3 h
 unfold m_crc32c_Extend_j0 at h
 refine sr fun _ k38 => mv rfl <| ya (not_u32 (a := x3) rfl) <| ak rfl k38 <| re ?_
 obtain rfl := si h
 exact rt0 (ResIs.one rfl rfl)
theorem w_crc32c_Sum (M0 : Mem) (A00 : Option Addr) (n00 c00 : Nat) (x00 : By) (hf00 : SlT M0 A00 n00 c00 x00) {res : (BitVec 32)} (h : m_crc32c_Sum x00 = some res) :
  Fn Tryz.prog 39 #[.slice A00 n00 c00] M0 fun r M' es => r = U32 res /\ es = [] := by
 refine Fn.intro (N := 5) Tryz.func39 rfl rfl (nle rfl) fun w0 => ?_
 unfold m_crc32c_Sum at h
 refine sr fun _ k1 => ya (Yld.assign (v := U32 0#32) rfl) <| dz k1 <| sr fun _ k2 => bd h fun x3 hx3 h => mv rfl <| c0 Tryz.func81 rfl (fun w hb hh => w_crc32c_Extend (Mem.snap w) 0#32 A00 n00 c00 _ (sM rfl hf00 w hb hh) hx3) <| ak rfl k2 <| re ?_
 obtain rfl := si h
 exact rt0 (ResIs.one rfl rfl)
theorem w_r01_shift (M0 : Mem) (x00 : BitVec 32) {res : (BitVec 32)} (h : m_r01_shift x00 = some res) :
  Fn Tryz.prog 112 #[U32 x00] M0 fun r M' es => r = U32 res /\ es = [] := by
 refine Fn.intro (N := 17) Tryz.func112 rfl rfl (nle rfl) fun w0 => ?_
 unfold m_r01_shift at h
 refine sr fun _ k1 => ya (Yld.assign (v := U32 0#32) rfl) <| dz k1 <| ct (σ := (BitVec 32)) (fun x2 => [(0, U32 x2)]) (fun x2 => [(0, .mem M0)]) (fun x2 => m_r01_shift_j0 x2 = some res) (fun _ k3 => ?_) ?_
 ·refine sr fun _ k4 => ak rfl k4 <| bl <| lp (τ := (BitVec 32) × Int) (fun ⟨x5, x6⟩ => [(0, U32 x5), (3, I64 x6)]) (fun ⟨x5, x6⟩ => [(0, .mem M0)]) (fun q7 ⟨x5, x6⟩ => m_r01_shift_l1 q7 x5 x6 = some res) ⟨x00, (0 : Int)⟩ ?_ (by simp [m_r01_shift_l1]) ?_
  ·exact h
  rintro q7 ⟨x5, x6⟩ h _ k8
  unfold m_r01_shift_l1 at h
  refine sq fun _ k9 => sr fun _ k10 => mv rfl <| ya (lss rfl rfl) <| dz k10 <| cI h rfl (fun hc11 h => ?_) fun hc11 h => ?_
  ·refine ss <| k9 _ _ <| sq fun _ k12 => bl <| sr fun _ k13 => mv rfl <| ya (and_u32 (a := x5) (b := 1#32) rfl rfl) <| ya (eql_u32 (a := (x5 &&& 1#32)) (b := 1#32) rfl rfl) <| dz k13 <| cnd h rfl beq_iff_eq.2 beq_eq_false_iff_ne.2 (fun hc14 h => ?_) fun hc14 h => ?_
   ·refine rg fun _ k15 => mv rfl <| ya (shrU_u32 (a := x5) (m := 1) rfl rfl) <| ya (xor_u32 (a := (x5 >>> 1)) (b := 2197175160#32) rfl rfl) <| ak rfl k15 <| bn <| tn <| k12 _ _ <| rg fun _ k16 => bd h fun x17 hx17 h => mv rfl <| ya (addC rfl rfl hx17) <| ak rfl k16 <| tn <| kw (k8 ⟨(x5 >>> 1) ^^^ 2197175160#32, x17⟩ h)
   refine rg fun _ k18 => mv rfl <| ya (shrU_u32 (a := x5) (m := 1) rfl rfl) <| ak rfl k18 <| bn <| tn <| k12 _ _ <| rg fun _ k19 => bd h fun x20 hx20 h => mv rfl <| ya (addC rfl rfl hx20) <| ak rfl k19 <| tn <| kw (k8 ⟨x5 >>> 1, x20⟩ h)
  exact xi <| te <| te <| bx <| tn <| kw (k3 x5 h)
 rintro x2 h
 unfold m_r01_shift_j0 at h
 refine sr fun _ k21 => mv rfl <| ak rfl k21 <| re ?_
 obtain rfl := si h
 exact rt0 (ResIs.one rfl rfl)
theorem w_r01_Extend (M0 : Mem) (x00 : BitVec 32) (A01 : Option Addr) (n01 c01 : Nat) (x01 : By) (hf01 : SlT M0 A01 n01 c01 x01) {res : (BitVec 32)} (h : m_r01_Extend x00 x01 = some res) :
  Fn Tryz.prog 85 #[U32 x00, .slice A01 n01 c01] M0 fun r M' es => r = U32 res /\ es = [] := by
 refine Fn.intro (N := 25) Tryz.func85 rfl rfl (nle rfl) fun w0 => ?_
 unfold m_r01_Extend at h
 refine sr fun _ k1 => ya (Yld.assign (v := U32 0#32) rfl) <| dz k1 <| sr fun _ k2 => mv rfl <| ya (not_u32 (a := x00) rfl) <| ak rfl k2 <| ct (σ := (BitVec 32)) (fun x3 => [(5, U32 x3)]) (fun x3 => [(0, .mem M0)]) (fun x3 => m_r01_Extend_j0 x3 = some res) (fun _ k4 => ?_) ?_
 ·refine sr fun _ k5 => ak rfl k5 <| bl <| lp (τ := (BitVec 32) × Int) (fun ⟨x6, x7⟩ => [(1, .slice A01 n01 c01), (5, U32 x6), (6, I64 x7)]) (fun ⟨x6, x7⟩ => [(0, .mem M0)]) (fun q8 ⟨x6, x7⟩ => m_r01_Extend_l1 x01 q8 x6 x7 = some res) ⟨~~~x00, (0 : Int)⟩ ?_ (by simp [m_r01_Extend_l1]) ?_
  ·exact h
  rintro q8 ⟨x6, x7⟩ h _ k9
  unfold m_r01_Extend_l1 at h
  refine sq fun _ k10 => sr fun _ k11 => mv rfl <| mv rfl <| ya (lenC (xs := x01) und_22 rfl (mM rfl hf01)) <| ya (lss rfl rfl) <| dz k11 <| cI h rfl (fun hc12 h => ?_) fun hc12 h => ?_
  ·refine ss <| k10 _ _ <| sq fun _ k13 => bl <| rg fun _ k14 => ?_
   obtain ⟨x15, hx15, h⟩ := bnd h
   obtain ⟨x16, hx16, h⟩ := bnd h
   refine mv rfl <| mv rfl <| mv rfl <| ya (idxC (xs := x01) sty_22 rfl rfl (mM rfl hf01) hx15) <| ya (loadC0 (xs := x01) scal_5 rfl (mM rfl hf01) hx15 rfl) <| ya (conv_u8_u32 (a := x15) some_5 und_31 rfl) <| ya (xor_u32 (a := x6) (b := (x15.setWidth 32)) rfl rfl) <| c0 Tryz.func112 rfl (fun w hb hh => w_r01_shift (Mem.snap w) (x6 ^^^ (x15.setWidth 32)) hx16) <| ak rfl k14 <| bn <| tn <| k13 _ _ <| rg fun _ k18 => bd h fun x19 hx19 h => mv rfl <| ya (addC rfl rfl hx19) <| ak rfl k18 <| tn <| kw (k9 ⟨x16, x19⟩ h)
  exact xi <| te <| te <| bx <| tn <| kw (k4 x6 h)
 rintro x3 h
 unfold m_r01_Extend_j0 at h
 refine sr fun _ k20 => mv rfl <| ya (not_u32 (a := x3) rfl) <| ak rfl k20 <| re ?_
 obtain rfl := si h
 exact rt0 (ResIs.one rfl rfl)
theorem w_r01_Sum (M0 : Mem) (A00 : Option Addr) (n00 c00 : Nat) (x00 : By) (hf00 : SlT M0 A00 n00 c00 x00) {res : (BitVec 32)} (h : m_r01_Sum x00 = some res) :
  Fn Tryz.prog 42 #[.slice A00 n00 c00] M0 fun r M' es => r = U32 res /\ es = [] := by
 refine Fn.intro (N := 5) Tryz.func42 rfl rfl (nle rfl) fun w0 => ?_
 unfold m_r01_Sum at h
 refine sr fun _ k1 => ya (Yld.assign (v := U32 0#32) rfl) <| dz k1 <| sr fun _ k2 => bd h fun x3 hx3 h => mv rfl <| c0 Tryz.func85 rfl (fun w hb hh => w_r01_Extend (Mem.snap w) 0#32 A00 n00 c00 _ (sM rfl hf00 w hb hh) hx3) <| ak rfl k2 <| re ?_
 obtain rfl := si h
 exact rt0 (ResIs.one rfl rfl)
theorem w_needle_Size (M0 : Mem) (x00 : Int) {res : Int} (h : m_needle_Size x00 = some res) :
  Fn Tryz.prog 58 #[I64 x00] M0 fun r M' es => r = I64 res /\ es = [] := by
 refine Fn.intro (N := 16) Tryz.func58 rfl rfl (nle rfl) fun w0 => ?_
 unfold m_needle_Size at h
 refine sr fun _ k1 => ak rfl k1 <| sq fun _ k2 => sr fun _ k3 => mv rfl <| ya (lss rfl rfl) <| mv rfl <| spl h decide_eq_true decide_eq_false (fun hc4 h => ?_) fun hc4 h => ?_
 ·refine sk <| sk <| pt rfl rfl <| dz k3 <| cdT rfl <| sr fun _ k5 => ak rfl k5 <| re <| tr ?_
  obtain rfl := si h
  exact rt0 (ResIs.one rfl rfl)
 refine mvg rfl <| yg (gtr rfl rfl) <| pf rfl rfl <| dz k3 <| cI h rfl (fun hc6 h => ?_) fun hc6 h => ?_
 ·refine sr fun _ k7 => ak rfl k7 <| re <| tr ?_
  obtain rfl := si h
  exact rt0 (ResIs.one rfl rfl)
 refine ss <| k2 _ _ <| sr fun _ k8 => ?_
 obtain ⟨x9, hx9, h⟩ := bnd h
 obtain ⟨x10, hx10, h⟩ := bnd h
 obtain ⟨x11, hx11, h⟩ := bnd h
 obtain ⟨x12, hx12, h⟩ := bnd h
 obtain ⟨x13, hx13, h⟩ := bnd h
 obtain ⟨x14, hx14, h⟩ := bnd h
 refine mv rfl <| ya (addC rfl rfl hx9) <| ya (addC rfl rfl hx10) <| ya (addC rfl rfl hx11) <| ya (subC rfl rfl hx12) <| ya (quoC rfl rfl hx13) <| ya (mulC rfl rfl hx14) <| ak rfl k8 <| re ?_
 obtain rfl := si h
 exact rt0 (ResIs.one rfl rfl)
theorem w_r06_Size (M0 : Mem) (x00 : Int) {res : Int} (h : m_r06_Size x00 = some res) :
  Fn Tryz.prog 61 #[I64 x00] M0 fun r M' es => r = I64 res /\ es = [] := by
 refine Fn.intro (N := 15) Tryz.func61 rfl rfl (nle rfl) fun w0 => ?_
 unfold m_r06_Size at h
 refine sr fun _ k1 => ak rfl k1 <| sq fun _ k2 => sr fun _ k3 => mv rfl <| ya (lss rfl rfl) <| mv rfl <| spl h decide_eq_true decide_eq_false (fun hc4 h => ?_) fun hc4 h => ?_
 ·refine sk <| sk <| pt rfl rfl <| dz k3 <| cdT rfl <| sr fun _ k5 => ak rfl k5 <| re <| tr ?_
  obtain rfl := si h
  exact rt0 (ResIs.one rfl rfl)
 refine mvg rfl <| yg (gtr rfl rfl) <| pf rfl rfl <| dz k3 <| cI h rfl (fun hc6 h => ?_) fun hc6 h => ?_
 ·refine sr fun _ k7 => ak rfl k7 <| re <| tr ?_
  obtain rfl := si h
  exact rt0 (ResIs.one rfl rfl)
 refine ss <| k2 _ _ <| sr fun _ k8 => ?_
 obtain ⟨x9, hx9, h⟩ := bnd h
 obtain ⟨x10, hx10, h⟩ := bnd h
 obtain ⟨x11, hx11, h⟩ := bnd h
 obtain ⟨x12, hx12, h⟩ := bnd h
 obtain ⟨x13, hx13, h⟩ := bnd h
 refine mv rfl <| ya (addC rfl rfl hx9) <| ya (addC rfl rfl hx10) <| ya (addC rfl rfl hx11) <| ya (quoC rfl rfl hx12) <| ya (mulC rfl rfl hx13) <| ak rfl k8 <| re ?_
 obtain rfl := si h
 exact rt0 (ResIs.one rfl rfl)
theorem w_r06_Valid (M0 : Mem) (u0 : BitVec 64) (u1 : BitVec 32) (u2 : Bool) (A00_3 : Option Addr) (n00_3 c00_3 : Nat) (u3 : By) (hf00_3 : SlT M0 A00_3 n00_3 c00_3 u3) {res : Bool} (h : m_r06_Valid u0 u1 u2 u3 = some res) :
  Fn Tryz.prog 72 #[.agg ([U64 u0, U32 u1, .bool u2, .slice A00_3 n00_3 c00_3] : List Value).toArray] M0 fun r M' es => r = .bool res /\ es = [] := by
 refine Fn.intro (N := 18) Tryz.func72 rfl rfl (nle rfl) fun w0 => ?_
 unfold m_r06_Valid at h
 refine sr fun _ k1 => bb 102 [U64 u0, U32 u1, .bool u2, .slice A00_3 n00_3 c00_3] rfl fun g2 => ak rfl k1 <| sr fun _ k3 => ya (fieldAddr Tryz.underlying77 rfl nz_22 rfl rfl) <| ya (loadB (k := 102) scal_22 rfl rfl rfl) <| ya (lenC (xs := u3) und_22 rfl (mM rfl hf00_3)) <| ya (leq rfl rfl) <| mv rfl <| spl h decide_eq_true decide_eq_false (fun hc4 h => ?_) fun hc4 h => ?_
 ·refine yg (fieldAddr Tryz.underlying77 rfl nz_4 rfl rfl) <| yg (loadB (k := 102) scal_4 rfl rfl rfl) <| mvg rfl <| spl h id Bool.eq_false_iff.2 (fun hc5 h => ?_) fun hc5 h => ?_
  ·refine yg (fieldAddr Tryz.underlying77 rfl nz_22 rfl rfl) <| yg (loadB (k := 102) scal_22 rfl rfl rfl) <| yg (lenC (xs := u3) und_22 rfl (mM rfl hf00_3)) <| yg (gtr rfl rfl) <| yg (pickT rfl rfl) <| yg (notB rfl) <| pt rfl rfl <| ak rfl k3 <| re ?_
   obtain rfl := si h
   exact rt0 (ResIs.one rfl rfl)
  refine sk <| sk <| sk <| sk <| yg (pickF rfl rfl) <| yg (notB rfl) <| pt rfl rfl <| ak rfl k3 <| re ?_
  obtain rfl := si h
  exact rt0 (ResIs.one rfl rfl)
 refine sk <| sk <| sk <| WL.skipU (by decide) rfl <| WL.skipU (by decide) rfl <| WL.skipU (by decide) rfl <| WL.skipU (by decide) rfl <| sk <| sk <| pf rfl rfl <| ak rfl k3 <| re ?_
 obtain rfl := si h
 exact rt0 (ResIs.one rfl rfl)
theorem w_r06_Value (M0 : Mem) (A00 : Option Addr) (n00 c00 : Nat) (x00 : By) (hf00 : SlT M0 A00 n00 c00 x00) {res : (BitVec 64)} (h : m_r06_Value x00 = some res) :
  Fn Tryz.prog 66 #[.slice A00 n00 c00] M0 fun r M' es => r = U64 res /\ es = [] := by
 refine Fn.intro (N := 20) Tryz.func66 rfl rfl (nle rfl) fun w0 => ?_
 unfold m_r06_Value at h
 refine sr fun _ k1 => ya (Yld.assign (v := U64 0#64) rfl) <| dz k1 <| sr fun _ k2 => ya (Yld.assign (v := U64 0#64) rfl) <| dz k2 <| ct (σ := (BitVec 64)) (fun x3 => [(3, U64 x3)]) (fun x3 => [(0, .mem M0)]) (fun x3 => m_r06_Value_j0 x3 = some res) (fun _ k4 => ?_) ?_
 ·refine sr fun _ k5 => ak rfl k5 <| bl <| lp (τ := (BitVec 64) × Int) (fun ⟨x6, x7⟩ => [(0, .slice A00 n00 c00), (3, U64 x6), (4, I64 x7)]) (fun ⟨x6, x7⟩ => [(0, .mem M0)]) (fun q8 ⟨x6, x7⟩ => m_r06_Value_l1 x00 q8 x6 x7 = some res) ⟨0#64, (0 : Int)⟩ ?_ (by simp [m_r06_Value_l1]) ?_
  ·exact h
  rintro q8 ⟨x6, x7⟩ h _ k9
  unfold m_r06_Value_l1 at h
  refine sq fun _ k10 => sr fun _ k11 => mv rfl <| mv rfl <| ya (lenC (xs := x00) und_22 rfl (mM rfl hf00)) <| ya (lss rfl rfl) <| dz k11 <| cI h rfl (fun hc12 h => ?_) fun hc12 h => ?_
  ·refine ss <| k10 _ _ <| sq fun _ k13 => bl <| rg fun _ k14 => bd h fun x15 hx15 h => mv rfl <| ya (shlU_u64 (a := x6) (m := 8) rfl rfl) <| mv rfl <| mv rfl <| ya (idxC (xs := x00) sty_22 rfl rfl (mM rfl hf00) hx15) <| ya (loadC0 (xs := x00) scal_5 rfl (mM rfl hf00) hx15 rfl) <| ya (conv_u8_u64 (a := x15) some_5 und_57 rfl) <| ya (or_u64 (a := (x6 <<< 8)) (b := (x15.setWidth 64)) rfl rfl) <| ak rfl k14 <| bn <| tn <| k13 _ _ <| rg fun _ k16 => bd h fun x17 hx17 h => mv rfl <| ya (addC rfl rfl hx17) <| ak rfl k16 <| tn <| kw (k9 ⟨(x6 <<< 8) ||| (x15.setWidth 64), x17⟩ h)
  exact xi <| te <| te <| bx <| tn <| kw (k4 x6 h)
 rintro x3 h
 unfold m_r06_Value_j0 at h
 refine sr fun _ k18 => mv rfl <| ak rfl k18 <| re ?_
 obtain rfl := si h
 exact rt0 (ResIs.one rfl rfl)
theorem w_r06_Number (M0 : Mem) (x00 : BitVec 64) (x01 : Int) {res : By} (h : m_r06_Number x00 x01 = some res) :
  Fn Tryz.prog 52 #[U64 x00, I64 x01] M0 fun r M' es => ∃ (A1 : Option Addr) (n1 c1 : Nat), r = .slice A1 n1 c1 /\ es = [.own 5 (Lay.sz (BitVec 8)) A1 n1 c1 (cel res)] := by
 refine Fn.intro (N := 23) Tryz.func52 rfl rfl (nle rfl) fun w0 => ?_
 unfold m_r06_Number at h
 refine sr fun _ k1 => ak rfl k1 <| sr fun _ k2 => ak rfl k2 <| ct (σ := (Option Addr) × Nat × Nat × By) (fun ⟨A5, n6, c7, x8⟩ => [(5, .slice A5 n6 c7)]) (fun ⟨A5, n6, c7, x8⟩ => [(0, .mem M0), (104, .own 5 (Lay.sz (BitVec 8)) A5 n6 c7 (cel x8))]) (fun ⟨A5, n6, c7, x8⟩ => m_r06_Number_j0 x8 = some res) (fun _ k9 => ?_) ?_
 ·refine sr fun _ k10 => bd h fun x11 hx11 h => mv rfl <| ya (subC rfl rfl hx11) <| ak rfl k10 <| bl <| WC.nilOwn 113 5 (Lay.sz (BitVec 8)) none <| lp (τ := (Option Addr) × Nat × Nat × By × Int) (fun ⟨A14, n15, c16, x17, x18⟩ => [(0, U64 x00), (5, .slice A14 n15 c16), (6, I64 x18)]) (fun ⟨A14, n15, c16, x17, x18⟩ => [(0, .mem M0), (113, .own 5 (Lay.sz (BitVec 8)) A14 n15 c16 (cel x17))]) (fun q19 ⟨A14, n15, c16, x17, x18⟩ => m_r06_Number_l1 x00 q19 x17 x18 = some res) ⟨none, 0, 0, ([] : By), x11⟩ ?_ (by simp [m_r06_Number_l1]) ?_
  ·exact h
  rintro q19 ⟨A14, n15, c16, x17, x18⟩ h _ k20
  unfold m_r06_Number_l1 at h
  refine sq fun _ k21 => sr fun _ k22 => mv rfl <| ya (geq rfl rfl) <| dz k22 <| cI h rfl (fun hc23 h => ?_) fun hc23 h => ?_
  ·refine ss <| k21 _ _ <| sq fun _ k24 => bl <| rg fun _ k25 => ?_
   obtain ⟨x26, hx26, h⟩ := bnd h
   obtain ⟨x28, hx28, h⟩ := bnd h
   refine mv rfl <| mv rfl <| mv rfl <| ya (mulC rfl rfl hx26) <| ya (conv_i64_u64 some_3 und_47 rfl) <| ya (shrU_u64 (a := x00) (m := (BitVec.ofInt 64 x26).toNat) rfl rfl) <| ya (conv_u64_u8 (a := (x00 >>> (BitVec.ofInt 64 x26).toNat)) some_57 und_5 rfl) <| WL.eff (by decide) (Eff.buildC 127 ([(x00 >>> (BitVec.ofInt 64 x26).toNat).setWidth 8] : By) sty_22 rfl rfl rfl rfl rfl (by decide)) ?_
   rintro _ _ ⟨g27, rfl, rfl⟩
   refine ap 113 (xs := x17) (ys := ([(x00 >>> (BitVec.ofInt 64 x26).toNat).setWidth 8] : By)) sty_22 rfl rfl rfl (rO 127 rfl) hx28 fun A29 c30 => ak rfl k25 <| bn <| tn <| k24 _ _ <| rg fun _ k31 => bd h fun x32 hx32 h => mv rfl <| ya (subC rfl rfl hx32) <| ak rfl k31 <| tn <| kw (k20 ⟨A29, x28.length, c30, x28, x32⟩ h)
  exact xi <| te <| te <| bx <| tn <| KK.move 113 104 rfl rfl <| kw (k9 ⟨A14, n15, c16, x17⟩ h)
 rintro ⟨A5, n6, c7, x8⟩ h
 unfold m_r06_Number_j0 at h
 refine sr fun _ k33 => mv rfl <| ak rfl k33 <| re ?_
 obtain rfl := si h
 exact rt [104] (ResIs.one rfl rfl) (Ext.refl _ _) ⟨A5, n6, c7, rfl, rfl⟩
theorem w_r06_Check (M0 : Mem) (A00 : Option Addr) (n00 c00 : Nat) (x00 : By) (hf00 : SlT M0 A00 n00 c00 x00) {res : By} (h : m_r06_Check x00 = some res) :
  Fn Tryz.prog 26 #[.slice A00 n00 c00] M0 fun r M' es => ∃ (A1 : Option Addr) (n1 c1 : Nat), r = .slice A1 n1 c1 /\ es = [.own 5 (Lay.sz (BitVec 8)) A1 n1 c1 (cel res)] := by
 refine Fn.intro (N := 18) Tryz.func26 rfl rfl (nle rfl) fun w0 => ?_
 unfold m_r06_Check at h
 refine sr fun _ k1 => ak rfl k1 <| sr fun _ k2 => bd h fun x3 hx3 h => mv rfl <| c0 Tryz.func42 rfl (fun w hb hh => w_r01_Sum (Mem.snap w) A00 n00 c00 _ (sM rfl hf00 w hb hh) hx3) <| ak rfl k2 <| sr fun _ k5 => mv rfl <| ya (conv_u32_u8 (a := x3) some_31 und_5 rfl) <| mv rfl <| ya (shrU_u32 (a := x3) (m := 8) rfl rfl) <| ya (conv_u32_u8 (a := (x3 >>> 8)) some_31 und_5 rfl) <| mv rfl <| ya (shrU_u32 (a := x3) (m := 16) rfl rfl) <| ya (conv_u32_u8 (a := (x3 >>> 16)) some_31 und_5 rfl) <| mv rfl <| ya (shrU_u32 (a := x3) (m := 24) rfl rfl) <| ya (conv_u32_u8 (a := (x3 >>> 24)) some_31 und_5 rfl) <| WL.eff (by decide) (Eff.buildC 106 ([x3.setWidth 8, (x3 >>> 8).setWidth 8, (x3 >>> 16).setWidth 8, (x3 >>> 24).setWidth 8] : By) sty_22 rfl rfl rfl rfl rfl (by decide)) ?_
 rintro _ _ ⟨g6, rfl, rfl⟩
 refine ak rfl k5 <| re ?_
 obtain rfl := si h
 exact rt [106] (ResIs.one rfl rfl) (Ext.refl _ _) ⟨(some ⟨g6, 0, none⟩), ([x3.setWidth 8, (x3 >>> 8).setWidth 8, (x3 >>> 16).setWidth 8, (x3 >>> 24).setWidth 8] : By).length, ([x3.setWidth 8, (x3 >>> 8).setWidth 8, (x3 >>> 16).setWidth 8, (x3 >>> 24).setWidth 8] : By).length, rfl, rfl⟩
theorem w_slices_Equal_byte_byte (M0 : Mem) (A00 : Option Addr) (n00 c00 : Nat) (x00 : By) (hf00 : SlT M0 A00 n00 c00 x00) (A01 : Option Addr) (n01 c01 : Nat) (x01 : By) (hf01 : SlT M0 A01 n01 c01 x01) {res : Bool} (h : m_slices_Equal_byte_byte x00 x01 = some res) :
  Fn Tryz.prog 63 #[.slice A00 n00 c00, .slice A01 n01 c01] M0 fun r M' es => r = .bool res /\ es = [] := by
 refine Fn.intro (N := 26) Tryz.func63 rfl rfl (nle rfl) fun w0 => ?_
 unfold m_slices_Equal_byte_byte at h
 refine sr fun _ k1 => ak rfl k1 <| sq fun _ k2 => sr fun _ k3 => mv rfl <| ya (lenC (xs := x00) und_22 rfl (mM rfl hf00)) <| mv rfl <| ya (lenC (xs := x01) und_22 rfl (mM rfl hf01)) <| ya (neqI rfl rfl) <| dz k3 <| cnn h rfl bne_eq_false_iff_eq.2 bne_iff_ne.2 (fun hc4 h => ?_) fun hc4 h => ?_
 ·refine ss <| k2 _ _ <| ct (σ := Unit) (fun _ => []) (fun _ => [(0, .mem M0)]) (fun _ => m_slices_Equal_byte_byte_j0 = some res) (fun _ k5 => ?_) ?_
  ·refine sr fun _ k6 => mv rfl <| ya (lenC (xs := x00) und_22 rfl (mM rfl hf00)) <| mv rfl <| dz k6 <| bl <| lp (τ := Int) (fun x7 => [(0, .slice A00 n00 c00), (1, .slice A01 n01 c01), (12, I64 (x00.length : Int)), (13, I64 x7)]) (fun x7 => [(0, .mem M0)]) (fun q8 x7 => m_slices_Equal_byte_byte_l1 x00 x01 q8 x7 = some res) ((0 : Int)) ?_ (by simp [m_slices_Equal_byte_byte_l1]) ?_
   ·exact h
   rintro q8 x7 h _ k9
   unfold m_slices_Equal_byte_byte_l1 at h
   refine sr fun _ k10 => ya (lss rfl rfl) <| dz k10 <| sq fun _ k11 => cI h rfl (fun hc12 h => ?_) fun hc12 h => ?_
   ·refine ss <| k11 _ _ <| sq fun _ k13 => bl <| sr fun _ k14 => mv rfl <| ak rfl k14 <| sd [(0, _)] mixed fun _ k15 => ?_
    obtain ⟨x16, hx16, h⟩ := bnd h
    obtain ⟨x17, hx17, h⟩ := bnd h
    refine dm 0 rfl rfl <| dm 1 rfl rfl <| du 2 rfl (idxC (xs := x00) sty_22 rfl rfl (mM rfl hf00) hx16) <| du 3 rfl (loadC0 (xs := x00) scal_5 rfl (mM rfl hf00) hx16 rfl) <| dm 4 rfl rfl <| dm 5 rfl rfl <| du 6 rfl (idxC (xs := x01) sty_22 rfl rfl (mM rfl hf01) hx17) <| du 7 rfl (loadC0 (xs := x01) scal_5 rfl (mM rfl hf01) hx17 rfl) <| du 8 rfl (neq_u8 (a := x16) (b := x17) rfl rfl) <| dd <| k15 _ _ <| cnn h rfl bne_eq_false_iff_eq.2 bne_iff_ne.2 (fun hc18 h => ?_) fun hc18 h => ?_
    ·refine WC.skip <| bn <| tn <| k13 _ _ <| rg fun _ k19 => bd h fun x20 hx20 h => ya (addC rfl rfl hx20) <| mv rfl <| dz k19 <| tn <| kw (k9 (x20) h)
    refine sr fun _ k21 => ak rfl k21 <| re <| br <| tr <| tr <| br <| tr ?_
    obtain rfl := si h
    exact rt0 (ResIs.one rfl rfl)
   exact xi <| te <| te <| bx <| tn <| kw (k5 () h)
  rintro _ h
  unfold m_slices_Equal_byte_byte_j0 at h
  refine sr fun _ k22 => ak rfl k22 <| re ?_
  obtain rfl := si h
  exact rt0 (ResIs.one rfl rfl)
 refine sr fun _ k23 => ak rfl k23 <| re <| tr ?_
 obtain rfl := si h
 exact rt0 (ResIs.one rfl rfl)
theorem w_r06_Encode (M0 : Mem) (u0 : BitVec 64) (u1 : BitVec 32) (u2 : Bool) (A00_3 : Option Addr) (n00_3 c00_3 : Nat) (u3 : By) (hf00_3 : SlT M0 A00_3 n00_3 c00_3 u3) {res : By × Int} (h : m_r06_Encode u0 u1 u2 u3 = some res) :
  Fn Tryz.prog 32 #[.agg ([U64 u0, U32 u1, .bool u2, .slice A00_3 n00_3 c00_3] : List Value).toArray] M0 fun r M' es => ∃ (A1 : Option Addr) (n1 c1 : Nat), r = .tuple #[.slice A1 n1 c1, I64 res.2] /\ es = [.own 5 (Lay.sz (BitVec 8)) A1 n1 c1 (cel res.1)] := by
 refine Fn.intro (N := 54) Tryz.func32 rfl rfl (nle rfl) fun w0 => ?_
 unfold m_r06_Encode at h
 refine sr fun _ k1 => bb 102 [U64 u0, U32 u1, .bool u2, .slice A00_3 n00_3 c00_3] rfl fun g2 => asn rfl <| ak rfl k1 <| sq fun _ k3 => sr fun _ k4 => ya (fieldAddr Tryz.underlying77 rfl nz_22 rfl rfl) <| ya (loadB (k := 102) scal_22 rfl rfl rfl) <| ya (lenC (xs := u3) und_22 rfl (mM rfl hf00_3)) <| ya (gtr rfl rfl) <| dz k4 <| cI h rfl (fun hc5 h => ?_) fun hc5 h => ?_
 ·refine sr fun _ k6 => asn rfl <| ak rfl k6 <| re <| tr <| QK.nilOwn 107 5 (Lay.sz (BitVec 8)) none ?_
  obtain rfl := si h
  exact rt [107] (ResIs.two rfl rfl rfl) (Ext.refl _ _) ⟨none, 0, 0, rfl, rfl⟩
 refine ss <| k3 _ _ <| sq fun _ k8 => sr fun _ k9 => bd h fun x10 hx10 h => ya (loadBM (k := 102) agg_77 rfl rfl rfl) <| c0 Tryz.func72 rfl (fun w hb hh => w_r06_Valid (Mem.snap w) u0 u1 u2 A00_3 n00_3 c00_3 _ (sM rfl hf00_3 w hb hh) hx10) <| ya (notB rfl) <| dz k9 <| cnn h rfl not_f (fun q => not_t (Bool.eq_false_iff.2 q)) (fun hc12 h => ?_) fun hc12 h => ?_
 ·refine ss <| k8 _ _ <| sr fun _ k13 => WL.eff (by decide) (Eff.buildC 114 ([78#8, 165#8, 0#8, 0#8] : By) sty_22 rfl rfl rfl rfl rfl (by decide)) ?_
  rintro _ _ ⟨g14, rfl, rfl⟩
  refine ak rfl k13 <| ct (σ := By) (fun x15 => [(1, pv g2), (4, .slice (some ⟨g14, 0, none⟩) (([78#8, 165#8, 0#8, 0#8] : By).length) (([78#8, 165#8, 0#8, 0#8] : By).length))]) (fun x15 => [(0, .mem M0), (102, .blk g2 77 [U64 u0, U32 u1, .bool u2, .slice A00_3 n00_3 c00_3]), (114, .own 5 (Lay.sz (BitVec 8)) (some ⟨g14, 0, none⟩) (([78#8, 165#8, 0#8, 0#8] : By).length) (([78#8, 165#8, 0#8, 0#8] : By).length) (cel x15))]) (fun x15 => m_r06_Encode_j0 u0 u1 u3 x15 = some res) (fun _ k16 => ?_) ?_
  ·refine sr fun _ k17 => ya (fieldAddr Tryz.underlying77 rfl nz_4 rfl rfl) <| ya (loadB (k := 102) scal_4 rfl rfl rfl) <| dz k17 <| cnd h rfl id Bool.eq_false_iff.2 (fun hc18 h => ?_) fun hc18 h => ?_
   ·refine rg fun _ k19 => ?_
    obtain ⟨x20, hx20, h⟩ := bnd h
    obtain ⟨x21, hx21, h⟩ := bnd h
    exact mv rfl <| ya (idxC (xs := ([78#8, 165#8, 0#8, 0#8] : By)) sty_22 rfl rfl (rO 114 rfl) hx20) <| WL.eff0 (Eff0.storeC1 114 (xs := ([78#8, 165#8, 0#8, 0#8] : By)) (a' := 1#8) siz_5 rfl rfl rfl rfl rfl rfl hx21) <| dz k19 <| tn <| kw (k16 x21 h)
   exact WC.skip <| tn <| kw (k16 ([78#8, 165#8, 0#8, 0#8] : By) h)
  rintro x15 h
  unfold m_r06_Encode_j0 at h
  refine sr fun _ k22 => ?_
  obtain ⟨x23, hx23, h⟩ := bnd h
  obtain ⟨x31, hx31, h⟩ := bnd h
  refine mv rfl <| ya (fieldAddr Tryz.underlying77 rfl nz_31 rfl rfl) <| ya (loadB (k := 102) scal_31 rfl rfl rfl) <| ya (conv_u32_u64 (a := u1) some_31 und_57 rfl) <| c1 127 Tryz.func52 rfl (fun w hb hh => w_r06_Number (Mem.snap w) (u1.setWidth 64) (4 : Int) hx23) fun A28 n29 c30 => ap 114 (xs := x15) (ys := x23) sty_22 rfl rfl rfl (rO 127 rfl) hx31 fun A32 c33 => ak rfl k22 <| sr fun _ k34 => ?_
  obtain ⟨x35, hx35, h⟩ := bnd h
  obtain ⟨x43, hx43, h⟩ := bnd h
  refine mv rfl <| ya (fieldAddr Tryz.underlying77 rfl nz_57 rfl rfl) <| ya (loadB (k := 102) scal_57 rfl rfl rfl) <| c1 139 Tryz.func52 rfl (fun w hb hh => w_r06_Number (Mem.snap w) u0 (8 : Int) hx35) fun A40 n41 c42 => ap 114 (xs := x31) (ys := x35) sty_22 rfl rfl rfl (rO 139 rfl) hx43 fun A44 c45 => ak rfl k34 <| sr fun _ k46 => ?_
  obtain ⟨x47, hx47, h⟩ := bnd h
  obtain ⟨x55, hx55, h⟩ := bnd h
  refine mv rfl <| ya (fieldAddr Tryz.underlying77 rfl nz_22 rfl rfl) <| ya (loadB (k := 102) scal_22 rfl rfl rfl) <| ya (lenC (xs := u3) und_22 rfl (mM rfl hf00_3)) <| ya (conv_i64_u64 some_3 und_57 rfl) <| c1 151 Tryz.func52 rfl (fun w hb hh => w_r06_Number (Mem.snap w) (BitVec.ofInt 64 (u3.length : Int)) (4 : Int) hx47) fun A52 n53 c54 => ap 114 (xs := x43) (ys := x47) sty_22 rfl rfl rfl (rO 151 rfl) hx55 fun A56 c57 => ak rfl k46 <| sr fun _ k58 => bd h fun x59 hx59 h => mv rfl <| ya (fieldAddr Tryz.underlying77 rfl nz_22 rfl rfl) <| ya (loadB (k := 102) scal_22 rfl rfl rfl) <| ap 114 (xs := x55) (ys := u3) sty_22 rfl rfl rfl (mM rfl hf00_3) hx59 fun A60 c61 => ak rfl k58 <| sr fun _ k62 => ?_
  obtain ⟨x63, hx63, h⟩ := bnd h
  obtain ⟨x71, hx71, h⟩ := bnd h
  refine mv rfl <| mv rfl <| c1 167 Tryz.func26 rfl (fun w hb hh => w_r06_Check (Mem.snap w) A60 x59.length c61 _ (RdH.sn (rO 114 rfl) w hb hh) hx63) fun A68 n69 c70 => ap 114 (xs := x59) (ys := x63) sty_22 rfl rfl rfl (rO 167 rfl) hx71 fun A72 c73 => ak rfl k62 <| ct (σ := (Option Addr) × Nat × Nat × By) (fun ⟨A74, n75, c76, x77⟩ => [(4, .slice A74 n75 c76)]) (fun ⟨A74, n75, c76, x77⟩ => [(0, .mem M0), (114, .own 5 (Lay.sz (BitVec 8)) A74 n75 c76 (cel x77))]) (fun ⟨A74, n75, c76, x77⟩ => m_r06_Encode_j1 x77 = some res) (fun _ k78 => ?_) ?_
  ·refine bl <| lp (τ := (Option Addr) × Nat × Nat × By) (fun ⟨A79, n80, c81, x82⟩ => [(1, pv g2), (4, .slice A79 n80 c81)]) (fun ⟨A79, n80, c81, x82⟩ => [(0, .mem M0), (102, .blk g2 77 [U64 u0, U32 u1, .bool u2, .slice A00_3 n00_3 c00_3]), (114, .own 5 (Lay.sz (BitVec 8)) A79 n80 c81 (cel x82))]) (fun q83 ⟨A79, n80, c81, x82⟩ => m_r06_Encode_l2 u3 q83 x82 = some res) ⟨A72, x71.length, c73, x71⟩ ?_ (by simp [m_r06_Encode_l2]) ?_
   ·exact h
   rintro q83 ⟨A79, n80, c81, x82⟩ h _ k84
   unfold m_r06_Encode_l2 at h
   refine sq fun _ k85 => sr fun _ k86 => bd h fun x87 hx87 h => mv rfl <| ya (lenC (xs := x82) und_22 rfl (rO 114 rfl)) <| ya (fieldAddr Tryz.underlying77 rfl nz_22 rfl rfl) <| ya (loadB (k := 102) scal_22 rfl rfl rfl) <| ya (lenC (xs := u3) und_22 rfl (mM rfl hf00_3)) <| c0 Tryz.func61 rfl (fun w hb hh => w_r06_Size (Mem.snap w) (u3.length : Int) hx87) <| ya (lss rfl rfl) <| dz k86 <| cI h rfl (fun hc89 h => ?_) fun hc89 h => ?_
   ·refine ss <| k85 _ _ <| bl <| rg fun _ k90 => bd h fun x92 hx92 h => mv rfl <| WL.eff (by decide) (Eff.buildC 191 ([0#8] : By) sty_22 rfl rfl rfl rfl rfl (by decide)) ?_
    rintro _ _ ⟨g91, rfl, rfl⟩
    exact ap 114 (xs := x82) (ys := ([0#8] : By)) sty_22 rfl rfl rfl (rO 191 rfl) hx92 fun A93 c94 => ak rfl k90 <| bn <| tn <| kw (k84 ⟨A93, x92.length, c94, x92⟩ h)
   exact xi <| te <| te <| bx <| tn <| kw (k78 ⟨A79, n80, c81, x82⟩ h)
  rintro ⟨A74, n75, c76, x77⟩ h
  unfold m_r06_Encode_j1 at h
  refine sr fun _ k95 => mv rfl <| asn rfl <| ak rfl k95 <| re ?_
  obtain rfl := si h
  exact rt [114] (ResIs.two rfl rfl rfl) (Ext.refl _ _) ⟨A74, n75, c76, rfl, rfl⟩
 refine sr fun _ k96 => asn rfl <| ak rfl k96 <| re <| tr <| QK.nilOwn 197 5 (Lay.sz (BitVec 8)) none ?_
 obtain rfl := si h
 exact rt [197] (ResIs.two rfl rfl rfl) (Ext.refl _ _) ⟨none, 0, 0, rfl, rfl⟩
theorem w_r06_Decode (M0 : Mem) (A00 : Option Addr) (n00 c00 : Nat) (x00 : By) (hf00 : SlT M0 A00 n00 c00 x00) {res : (BitVec 64) × (BitVec 32) × Bool × By × Int × Int} (h : m_r06_Decode x00 = some res) :
  Fn Tryz.prog 102 #[.slice A00 n00 c00] M0 fun r M' es => ∃ (A1 : Option Addr) (n1 c1 : Nat), r = .tuple #[.agg ([U64 res.1, U32 res.2.1, .bool res.2.2.1, .slice A1 n1 c1] : List Value).toArray, I64 res.2.2.2.2.1, I64 res.2.2.2.2.2] /\ es = [.own 5 (Lay.sz (BitVec 8)) A1 n1 c1 (cel res.2.2.2.1)] := by
 refine Fn.intro (N := 108) Tryz.func102 rfl rfl (nle rfl) fun w0 => ?_
 unfold m_r06_Decode at h
 refine sr fun _ k1 => al 102 zr_77 fun g2 => asn rfl <| ak rfl k1 <| sq fun _ k3 => sr fun _ k4 => mv rfl <| ya (lenC (xs := x00) und_22 rfl (mM rfl hf00)) <| ya (lss rfl rfl) <| dz k4 <| cI h rfl (fun hc5 h => ?_) fun hc5 h => ?_
 ·refine sr fun _ k6 => ya (build rfl (bu_77_)) <| sb 102 agg_77 rfl rfl rfl <| asn rfl <| ak rfl k6 <| re <| tr <| QK.nilOwn 107 5 (Lay.sz (BitVec 8)) none ?_
  obtain rfl := si h
  exact rt [107] (ResIs.cellTmp2M (k := 102) rfl agg_77 rfl rfl rfl rfl rfl) (Ext.refl _ _) ⟨none, 0, 0, rfl, rfl⟩
 refine ss <| k3 _ _ <| sr fun _ k8 => ?_
 obtain ⟨x9, hx9, h⟩ := bnd h
 obtain ⟨x10, hx10, h⟩ := bnd h
 refine mv rfl <| ya (sliceLHC (xs := x00) sty_22 rfl rfl rfl (mM rfl hf00) hx9) <| c0 Tryz.func66 rfl (fun w hb hh => w_r06_Value (Mem.snap w) (subA A00 c00 ((16 : Int)).toNat (Lay.sz (BitVec 8))) x9.length (c00 - ((16 : Int)).toNat) _ (RdH.sn (RdT.slc (mM rfl hf00) hx9) w hb hh) hx10) <| ak rfl k8 <| ct (σ := Unit) (fun _ => [(0, .slice A00 n00 c00), (2, pv g2), (5, U64 x10)]) (fun _ => [(0, .mem M0), (102, .blk g2 77 [U64 0#64, U32 0#32, .bool false, .slice none 0 0])]) (fun _ => m_r06_Decode_j0 x00 x10 = some res) (fun _ k12 => ?_) ?_
 ·refine sr fun _ k13 => bd h fun x14 hx14 h => mv rfl <| ya (idxC (xs := x00) sty_22 rfl rfl (mM rfl hf00) hx14) <| ya (loadC0 (xs := x00) scal_5 rfl (mM rfl hf00) hx14 rfl) <| ya (neq_u8 (a := x14) (b := 78#8) rfl rfl) <| mv rfl <| spn h bne_eq_false_iff_eq.2 bne_iff_ne.2 (fun hc15 h => ?_) fun hc15 h => ?_
  ·obtain ⟨x16, hx16, h⟩ := bnd h
   refine mvg rfl <| yg (idxC (xs := x00) sty_22 rfl rfl (mM rfl hf00) hx16) <| yg (loadC0 (xs := x00) scal_5 rfl (mM rfl hf00) hx16 rfl) <| yg (neq_u8 (a := x16) (b := 165#8) rfl rfl) <| pf rfl rfl <| mv rfl <| spn h bne_eq_false_iff_eq.2 bne_iff_ne.2 (fun hc17 h => ?_) fun hc17 h => ?_
   ·obtain ⟨x18, hx18, h⟩ := bnd h
    refine mvg rfl <| yg (idxC (xs := x00) sty_22 rfl rfl (mM rfl hf00) hx18) <| yg (loadC0 (xs := x00) scal_5 rfl (mM rfl hf00) hx18 rfl) <| yg (gtr_u8 (a := x18) (b := 1#8) rfl rfl) <| pf rfl rfl <| mv rfl <| spl h decide_eq_true decide_eq_false (fun hc19 h => ?_) fun hc19 h => ?_
    ·refine sk <| sk <| sk <| sk <| pt rfl rfl <| mv rfl <| sk <| sk <| pt rfl rfl <| mv rfl <| sk <| sk <| sk <| sk <| sk <| WL.skipU (by decide) rfl <| WL.skipU (by decide) rfl <| sk <| pt rfl rfl <| dz k13 <| cdT rfl <| sr fun _ k20 => ya (build rfl (bu_77_)) <| sb 102 agg_77 rfl rfl rfl <| asn rfl <| ak rfl k20 <| re <| tr <| QK.nilOwn 121 5 (Lay.sz (BitVec 8)) none ?_
     obtain rfl := si h
     exact rt [121] (ResIs.cellTmp2M (k := 102) rfl agg_77 rfl rfl rfl rfl rfl) (Ext.refl _ _) ⟨none, 0, 0, rfl, rfl⟩
    obtain ⟨x22, hx22, h⟩ := bnd h
    refine mvg rfl <| yg (idxC (xs := x00) sty_22 rfl rfl (mM rfl hf00) hx22) <| yg (loadC0 (xs := x00) scal_5 rfl (mM rfl hf00) hx22 rfl) <| yg (neq_u8 (a := x22) (b := 0#8) rfl rfl) <| pf rfl rfl <| mv rfl <| spn h bne_eq_false_iff_eq.2 bne_iff_ne.2 (fun hc23 h => ?_) fun hc23 h => ?_
    ·refine mvg rfl <| yg (gtr_u64 (a := x10) (b := 4096#64) rfl rfl) <| pf rfl rfl <| mv rfl <| spl h decide_eq_true decide_eq_false (fun hc24 h => ?_) fun hc24 h => ?_
     ·refine sk <| sk <| sk <| sk <| sk <| WL.skipU (by decide) rfl <| WL.skipU (by decide) rfl <| sk <| pt rfl rfl <| dz k13 <| cdT rfl <| sr fun _ k25 => ya (build rfl (bu_77_)) <| sb 102 agg_77 rfl rfl rfl <| asn rfl <| ak rfl k25 <| re <| tr <| QK.nilOwn 126 5 (Lay.sz (BitVec 8)) none ?_
      obtain rfl := si h
      exact rt [126] (ResIs.cellTmp2M (k := 102) rfl agg_77 rfl rfl rfl rfl rfl) (Ext.refl _ _) ⟨none, 0, 0, rfl, rfl⟩
     obtain ⟨x27, hx27, h⟩ := bnd h
     refine mvg rfl <| yg (idxC (xs := x00) sty_22 rfl rfl (mM rfl hf00) hx27) <| yg (loadC0 (xs := x00) scal_5 rfl (mM rfl hf00) hx27 rfl) <| yg (eql_u8 (a := x27) (b := 1#8) rfl rfl) <| mvg rfl <| spl h beq_iff_eq.2 beq_eq_false_iff_ne.2 (fun hc28 h => ?_) fun hc28 h => ?_
     ·refine mvg rfl <| yg (gtr_u64 (a := x10) (b := 0#64) rfl rfl) <| yg (pickT rfl rfl) <| pf rfl rfl <| dz k13 <| cI h rfl (fun hc29 h => ?_) fun hc29 h => ?_
      ·refine sr fun _ k30 => ya (build rfl (bu_77_)) <| sb 102 agg_77 rfl rfl rfl <| asn rfl <| ak rfl k30 <| re <| tr <| QK.nilOwn 131 5 (Lay.sz (BitVec 8)) none ?_
       obtain rfl := si h
       exact rt [131] (ResIs.cellTmp2M (k := 102) rfl agg_77 rfl rfl rfl rfl rfl) (Ext.refl _ _) ⟨none, 0, 0, rfl, rfl⟩
      exact WC.skip <| tn <| kw (k12 () h)
     exact sk <| sk <| yg (pickF rfl rfl) <| pf rfl rfl <| dz k13 <| cdF rfl <| WC.skip <| tn <| kw (k12 () h)
    refine sk <| sk <| pt rfl rfl <| mv rfl <| sk <| sk <| sk <| sk <| sk <| WL.skipU (by decide) rfl <| WL.skipU (by decide) rfl <| sk <| pt rfl rfl <| dz k13 <| cdT rfl <| sr fun _ k32 => ya (build rfl (bu_77_)) <| sb 102 agg_77 rfl rfl rfl <| asn rfl <| ak rfl k32 <| re <| tr <| QK.nilOwn 133 5 (Lay.sz (BitVec 8)) none ?_
    obtain rfl := si h
    exact rt [133] (ResIs.cellTmp2M (k := 102) rfl agg_77 rfl rfl rfl rfl rfl) (Ext.refl _ _) ⟨none, 0, 0, rfl, rfl⟩
   refine sk <| sk <| sk <| sk <| pt rfl rfl <| mv rfl <| sk <| sk <| sk <| sk <| pt rfl rfl <| mv rfl <| sk <| sk <| pt rfl rfl <| mv rfl <| sk <| sk <| sk <| sk <| sk <| WL.skipU (by decide) rfl <| WL.skipU (by decide) rfl <| sk <| pt rfl rfl <| dz k13 <| cdT rfl <| sr fun _ k34 => ya (build rfl (bu_77_)) <| sb 102 agg_77 rfl rfl rfl <| asn rfl <| ak rfl k34 <| re <| tr <| QK.nilOwn 135 5 (Lay.sz (BitVec 8)) none ?_
   obtain rfl := si h
   exact rt [135] (ResIs.cellTmp2M (k := 102) rfl agg_77 rfl rfl rfl rfl rfl) (Ext.refl _ _) ⟨none, 0, 0, rfl, rfl⟩
  refine sk <| sk <| sk <| sk <| pt rfl rfl <| mv rfl <| sk <| sk <| sk <| sk <| pt rfl rfl <| mv rfl <| sk <| sk <| sk <| sk <| pt rfl rfl <| mv rfl <| sk <| sk <| pt rfl rfl <| mv rfl <| sk <| sk <| sk <| sk <| sk <| WL.skipU (by decide) rfl <| WL.skipU (by decide) rfl <| sk <| pt rfl rfl <| dz k13 <| cdT rfl <| sr fun _ k36 => ya (build rfl (bu_77_)) <| sb 102 agg_77 rfl rfl rfl <| asn rfl <| ak rfl k36 <| re <| tr <| QK.nilOwn 137 5 (Lay.sz (BitVec 8)) none ?_
  obtain rfl := si h
  exact rt [137] (ResIs.cellTmp2M (k := 102) rfl agg_77 rfl rfl rfl rfl rfl) (Ext.refl _ _) ⟨none, 0, 0, rfl, rfl⟩
 rintro _ h
 unfold m_r06_Decode_j0 at h
 refine sr fun _ k38 => ?_
 obtain ⟨x39, hx39, h⟩ := bnd h
 obtain ⟨x41, hx41, h⟩ := bnd h
 refine mv rfl <| ya (conv_u64_i64 (a := x10) some_57 und_3 rfl) <| c0 Tryz.func61 rfl (fun w hb hh => w_r06_Size (Mem.snap w) x10.toInt hx39) <| mv rfl <| ya (conv_u64_i64 (a := x10) some_57 und_3 rfl) <| ya (addC rfl rfl hx41) <| asn rfl <| ak rfl k38 <| sq fun _ k42 => sr fun _ k43 => mv rfl <| ya (lenC (xs := x00) und_22 rfl (mM rfl hf00)) <| mv rfl <| ya (lss rfl rfl) <| dz k43 <| cI h rfl (fun hc44 h => ?_) fun hc44 h => ?_
 ·refine sr fun _ k45 => ya (build rfl (bu_77_)) <| sb 102 agg_77 rfl rfl rfl <| asn rfl <| ak rfl k45 <| re <| tr <| QK.nilOwn 146 5 (Lay.sz (BitVec 8)) none ?_
  obtain rfl := si h
  exact rt [146] (ResIs.cellTmp2M (k := 102) rfl agg_77 rfl rfl rfl rfl rfl) (Ext.refl _ _) ⟨none, 0, 0, rfl, rfl⟩
 refine ss <| k42 _ _ <| sq fun _ k47 => sd [(0, _), (102, _)] mixed fun _ k48 => ?_
 obtain ⟨x49, hx49, h⟩ := bnd h
 obtain ⟨x50, hx50, h⟩ := bnd h
 obtain ⟨x58, hx58, h⟩ := bnd h
 obtain ⟨x59, hx59, h⟩ := bnd h
 refine dm 0 rfl rfl <| dm 1 rfl rfl <| du 2 rfl (sliceHC (xs := x00) sty_22 rfl rfl (mM rfl hf00) hx49) <| dm 5 rfl rfl <| dm 6 rfl rfl <| dm 7 rfl rfl <| du 8 rfl (addC rfl rfl hx58) <| du 9 rfl (sliceLHC (xs := x00) sty_22 rfl rfl rfl (mM rfl hf00) hx59) <| du 10 rfl (b2sC (xs := x59) und_22 und_5 und_9 rfl (RdT.slc (mM rfl hf00) hx59)) <| on 3 <| WS.eff rfl (by decide) (Eff.callS 154 rfl Tryz.func26 nm_26 rfl rfl (fun w hb hh => w_r06_Check (Mem.snap w) A00 x49.length c00 _ (RdH.sn (RdT.slc0 (mM rfl hf00) hx49) w hb hh) hx50)) ?_
 rintro _ _ ⟨_, ⟨A55, n56, c57, rfl, rfl⟩, rfl⟩
 refine aq ?_
 refine on 4 <| dy rfl (b2sC (xs := x50) und_22 und_5 und_9 rfl (rO 154 rfl)) <| du 11 rfl (neqStr (a := x50) (b := x59) rfl rfl) <| dd <| k48 _ _ <| cnn h rfl neq_of_eq neq_of_ne (fun hc60 h => ?_) fun hc60 h => ?_
 ·refine ss <| k47 _ _ <| ct (σ := Unit) (fun _ => [(0, .slice A00 n00 c00), (2, pv g2), (6, I64 x39), (7, I64 x41)]) (fun _ => [(0, .mem M0), (102, .blk g2 77 [U64 0#64, U32 0#32, .bool false, .slice none 0 0])]) (fun _ => m_r06_Decode_j1 x00 x39 x41 = some res) (fun _ k61 => ?_) ?_
  ·refine sr fun _ k62 => bd h fun x63 hx63 h => mv rfl <| ya (addC rfl rfl hx63) <| ak rfl k62 <| bl <| lp (τ := Int) (fun x64 => [(0, .slice A00 n00 c00), (2, pv g2), (6, I64 x39), (7, I64 x41), (8, I64 x64)]) (fun x64 => [(0, .mem M0), (102, .blk g2 77 [U64 0#64, U32 0#32, .bool false, .slice none 0 0])]) (fun q65 x64 => m_r06_Decode_l2 x00 x39 x41 q65 x64 = some res) (x63) ?_ (by simp [m_r06_Decode_l2]) ?_
   ·exact h
   rintro q65 x64 h _ k66
   unfold m_r06_Decode_l2 at h
   refine sq fun _ k67 => sr fun _ k68 => mv rfl <| mv rfl <| ya (lss rfl rfl) <| dz k68 <| cI h rfl (fun hc69 h => ?_) fun hc69 h => ?_
   ·refine ss <| k67 _ _ <| sq fun _ k70 => bl <| sr fun _ k71 => bd h fun x72 hx72 h => mv rfl <| mv rfl <| ya (idxC (xs := x00) sty_22 rfl rfl (mM rfl hf00) hx72) <| ya (loadC0 (xs := x00) scal_5 rfl (mM rfl hf00) hx72 rfl) <| ya (neq_u8 (a := x72) (b := 0#8) rfl rfl) <| dz k71 <| cnn h rfl bne_eq_false_iff_eq.2 bne_iff_ne.2 (fun hc73 h => ?_) fun hc73 h => ?_
    ·refine WC.skip <| bn <| tn <| k70 _ _ <| rg fun _ k74 => bd h fun x75 hx75 h => mv rfl <| ya (addC rfl rfl hx75) <| ak rfl k74 <| tn <| kw (k66 (x75) h)
    refine sr fun _ k76 => ya (build rfl (bu_77_)) <| sb 102 agg_77 rfl rfl rfl <| asn rfl <| ak rfl k76 <| re <| br <| tr <| tr <| br <| tr <| QK.nilOwn 177 5 (Lay.sz (BitVec 8)) none ?_
    obtain rfl := si h
    exact rt [177] (ResIs.cellTmp2M (k := 102) rfl agg_77 rfl rfl rfl rfl rfl) (Ext.refl _ _) ⟨none, 0, 0, rfl, rfl⟩
   exact xi <| te <| te <| bx <| tn <| kw (k61 () h)
  rintro _ h
  unfold m_r06_Decode_j1 at h
  refine sd [(0, _)] mixed fun _ k78 => ?_
  obtain ⟨x79, hx79, h⟩ := bnd h
  obtain ⟨x80, hx80, h⟩ := bnd h
  obtain ⟨x82, hx82, h⟩ := bnd h
  obtain ⟨x83, hx83, h⟩ := bnd h
  obtain ⟨x85, hx85, h⟩ := bnd h
  obtain ⟨x87, hx87, h⟩ := bnd h
  obtain ⟨x88, hx88, h⟩ := bnd h
  refine dm 0 rfl rfl <| du 1 rfl (sliceLHC (xs := x00) sty_22 rfl rfl rfl (mM rfl hf00) hx79) <| dm 3 rfl rfl <| du 4 rfl (sliceLHC (xs := x00) sty_22 rfl rfl rfl (mM rfl hf00) hx82) <| dm 7 rfl rfl <| du 8 rfl (idxC (xs := x00) sty_22 rfl rfl (mM rfl hf00) hx85) <| du 9 rfl (loadC0 (xs := x00) scal_5 rfl (mM rfl hf00) hx85 rfl) <| du 10 rfl (eql_u8 (a := x85) (b := 1#8) rfl rfl) <| dm 12 rfl rfl <| dm 13 rfl rfl <| du 14 rfl (sliceLHC (xs := x00) sty_22 rfl rfl rfl (mM rfl hf00) hx87) <| dm 17 rfl rfl <| WD.two 2 11 (by kernel_rfl) ?_ ?_
  ·refine d0 rfl Tryz.func66 rfl (fun w hb hh => w_r06_Value (Mem.snap w) (subA A00 c00 ((8 : Int)).toNat (Lay.sz (BitVec 8))) x79.length (c00 - ((8 : Int)).toNat) _ (RdH.sn (RdT.slc (mM rfl hf00) hx79) w hb hh) hx80) <| WD.two 5 11 (by kernel_rfl) ?_ ?_
   ·refine d0 rfl Tryz.func66 rfl (fun w hb hh => w_r06_Value (Mem.snap w) (subA A00 c00 ((4 : Int)).toNat (Lay.sz (BitVec 8))) x82.length (c00 - ((4 : Int)).toNat) _ (RdH.sn (RdT.slc (mM rfl hf00) hx82) w hb hh) hx83) <| du 6 rfl (conv_u64_u32 (a := x83) some_57 und_31 rfl) <| on 11 <| WS.eff rfl (by decide) (Eff.buildC 186 ([] : By) sty_22 rfl rfl rfl rfl rfl (by decide)) ?_
    rintro _ _ ⟨g86, rfl, rfl⟩
    refine aq ?_
    refine on 15 <| WS.eff rfl (by decide) (Eff.appendC 186 (xs := ([] : By)) (ys := x87) sty_22 rfl rfl rfl (RdT.slc (mM rfl hf00) hx87) hx88) ?_
    rintro _ _ ⟨A89, c90, rfl, rfl⟩
    refine aq ?_
    refine du 16 rfl (build rfl (bu_77_0_1_2_3 x80 (x83.setWidth 32) (x85 == 1#8) A89 x88.length c90)) <| on 18 <| ds 102 rfl agg_77 rfl rfl rfl <| du 19 rfl (Yld.assign rfl) <| du 20 rfl (Yld.assign rfl) <| dd <| k78 _ _ <| re ?_
    obtain rfl := si h
    exact rt [186] (ResIs.cellTmp2M (k := 102) rfl agg_77 rfl rfl rfl rfl rfl) (Ext.refl _ _) ⟨A89, x88.length, c90, rfl, rfl⟩
   skip
   refine WS.eff rfl (by decide) (Eff.buildC 186 ([] : By) sty_22 rfl rfl rfl rfl rfl (by decide)) ?_
   rintro _ _ ⟨g86, rfl, rfl⟩
   refine aq ?_
   refine on 5 <| d0 rfl Tryz.func66 rfl (fun w hb hh => w_r06_Value (Mem.snap w) (subA A00 c00 ((4 : Int)).toNat (Lay.sz (BitVec 8))) x82.length (c00 - ((4 : Int)).toNat) _ (RdH.sn (RdT.slc (mM rfl hf00) hx82) w hb hh) hx83) <| du 6 rfl (conv_u64_u32 (a := x83) some_57 und_31 rfl) <| on 15 <| WS.eff rfl (by decide) (Eff.appendC 186 (xs := ([] : By)) (ys := x87) sty_22 rfl rfl rfl (RdT.slc (mM rfl hf00) hx87) hx88) ?_
   rintro _ _ ⟨A89, c90, rfl, rfl⟩
   refine aq ?_
   refine du 16 rfl (build rfl (bu_77_0_1_2_3 x80 (x83.setWidth 32) (x85 == 1#8) A89 x88.length c90)) <| on 18 <| ds 102 rfl agg_77 rfl rfl rfl <| du 19 rfl (Yld.assign rfl) <| du 20 rfl (Yld.assign rfl) <| dd <| k78 _ _ <| re ?_
   obtain rfl := si h
   exact rt [186] (ResIs.cellTmp2M (k := 102) rfl agg_77 rfl rfl rfl rfl rfl) (Ext.refl _ _) ⟨A89, x88.length, c90, rfl, rfl⟩
  skip
  refine WS.eff rfl (by decide) (Eff.buildC 186 ([] : By) sty_22 rfl rfl rfl rfl rfl (by decide)) ?_
  rintro _ _ ⟨g86, rfl, rfl⟩
  refine aq ?_
  refine on 2 <| d0 rfl Tryz.func66 rfl (fun w hb hh => w_r06_Value (Mem.snap w) (subA A00 c00 ((8 : Int)).toNat (Lay.sz (BitVec 8))) x79.length (c00 - ((8 : Int)).toNat) _ (RdH.sn (RdT.slc (mM rfl hf00) hx79) w hb hh) hx80) <| on 5 <| d0 rfl Tryz.func66 rfl (fun w hb hh => w_r06_Value (Mem.snap w) (subA A00 c00 ((4 : Int)).toNat (Lay.sz (BitVec 8))) x82.length (c00 - ((4 : Int)).toNat) _ (RdH.sn (RdT.slc (mM rfl hf00) hx82) w hb hh) hx83) <| du 6 rfl (conv_u64_u32 (a := x83) some_57 und_31 rfl) <| on 15 <| WS.eff rfl (by decide) (Eff.appendC 186 (xs := ([] : By)) (ys := x87) sty_22 rfl rfl rfl (RdT.slc (mM rfl hf00) hx87) hx88) ?_
  rintro _ _ ⟨A89, c90, rfl, rfl⟩
  refine aq ?_
  refine du 16 rfl (build rfl (bu_77_0_1_2_3 x80 (x83.setWidth 32) (x85 == 1#8) A89 x88.length c90)) <| on 18 <| ds 102 rfl agg_77 rfl rfl rfl <| du 19 rfl (Yld.assign rfl) <| du 20 rfl (Yld.assign rfl) <| dd <| k78 _ _ <| re ?_
  obtain rfl := si h
  exact rt [186] (ResIs.cellTmp2M (k := 102) rfl agg_77 rfl rfl rfl rfl rfl) (Ext.refl _ _) ⟨A89, x88.length, c90, rfl, rfl⟩
 refine sr fun _ k91 => ya (build rfl (bu_77_)) <| sb 102 agg_77 rfl rfl rfl <| asn rfl <| ak rfl k91 <| re <| tr <| QK.nilOwn 192 5 (Lay.sz (BitVec 8)) none ?_
 obtain rfl := si h
 exact rt [192] (ResIs.cellTmp2M (k := 102) rfl agg_77 rfl rfl rfl rfl rfl) (Ext.refl _ _) ⟨none, 0, 0, rfl, rfl⟩
end Go.Proofs.YthjnhlmfcejhkaaGreat
