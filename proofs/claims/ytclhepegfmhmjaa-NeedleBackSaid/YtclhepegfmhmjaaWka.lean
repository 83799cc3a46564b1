/-
  Walks (a): what a function's model gives, the function returns. Printed by a program of ours (vcm.py) from the function's operations. Conditions: as each theorem says.
-/
import Derived.Test.YtclhepegfmhmjaaX10
import Derived.Test.YtclhepegfmhmjaaProg
import Derived.Test.YtclhepegfmhmjaaMda
namespace Go.Proofs.Ytclhepegfmhmjaa
open Go Go.RowKit
set_option linter.unusedVariables false

theorem und_22 : Try.prog.underlying 22 = some (.int .u64) := by kernel_rfl
theorem und_23 : Try.prog.underlying 23 = some (.int .u32) := by kernel_rfl
theorem und_24 : Try.prog.underlying 24 = some (.slice 5) := by kernel_rfl
theorem und_43 : Try.prog.underlying 43 = some (.int .u64) := by kernel_rfl
theorem und_5 : Try.prog.underlying 5 = some (.int .u8) := by kernel_rfl
theorem nm_30 : (Try.f30.name == "runtime.NumGoroutine") = false := by kernel_rfl
theorem nm_31 : (Try.f31.name == "runtime.NumGoroutine") = false := by kernel_rfl
theorem nm_32 : (Try.f32.name == "runtime.NumGoroutine") = false := by kernel_rfl
theorem nm_33 : (Try.f33.name == "runtime.NumGoroutine") = false := by kernel_rfl
theorem nz_24 : (Try.prog.info? 24).map (fun i => decide (i.size = 0)) = some false := by kernel_rfl
theorem nz_4 : (Try.prog.info? 4).map (fun i => decide (i.size = 0)) = some false := by kernel_rfl
theorem scal_24 : scal Try.prog 24 = true := by kernel_rfl
theorem scal_4 : scal Try.prog 4 = true := by kernel_rfl
theorem scal_5 : scal Try.prog 5 = true := by kernel_rfl
theorem some_22 : (Try.prog.underlying 22).isSome = true := by kernel_rfl
theorem some_23 : (Try.prog.underlying 23).isSome = true := by kernel_rfl
theorem some_3 : (Try.prog.underlying 3).isSome = true := by kernel_rfl
theorem some_5 : (Try.prog.underlying 5).isSome = true := by kernel_rfl
theorem sty_24 : STy Try.prog 24 5 (U8 0#8) 1 1 := STy.of und_24 (by kernel_rfl) rfl

set_option maxRecDepth 10000 in
theorem w_crc32c_Extend (M0 : Mem) (x00 : BitVec 32) (A01 : Option Addr) (n01 c01 : Nat) (x01 : List (BitVec 8)) (hf01 : SlT M0 A01 n01 c01 x01) {res : (BitVec 32)} (h : m_crc32c_Extend x00 x01 = some res) :
    Fn Try.prog 30 #[U32 x00, .slice A01 n01 c01] M0 fun r M' es => r = U32 res ∧ es = [] := by
  refine Fn.intro (N := 35) Try.func30 rfl rfl (Nat.le_of_ble_eq_true rfl) fun w0 => ?_
  unfold m_crc32c_Extend at h
  refine WC.seqRegion fun K1 hK1 => ?_
  refine WL.yld (by decide) (Yld.assign (v := U32 0#32) rfl) ?_
  refine WL.done (hK1 _ _ ?_)
  refine WC.seqRegion fun K2 hK2 => ?_
  refine WL.yld (by decide) (Yld.move rfl) ?_
  refine WL.yld (by decide) (Yld.not_u32 (a := x00) rfl) ?_
  refine WL.yld (by decide) (Yld.assign rfl) ?_
  refine WL.done (hK2 _ _ ?_)
  refine WC.seqCut (σ := (BitVec 32)) (fun x3 => [(5, U32 x3)]) (fun x3 => [(0, .mem M0)]) (fun x3 => m_crc32c_Extend_j0 x3 = some res) (fun K4 hK4 => ?_) ?_
  · skip
    refine WC.seqRegion fun K5 hK5 => ?_
    refine WL.yld (by decide) (Yld.move rfl) ?_
    refine WL.yld (by decide) (Yld.lenC (xs := x01) und_24 rfl (RdH.memM (k := 0) rfl hf01)) ?_
    refine WL.yld (by decide) (Yld.move rfl) ?_
    refine WL.done (hK5 _ _ ?_)
    refine WC.block ?_
    refine WC.loop (σ := Nat × (BitVec 32) × Int) (fun ⟨q8, x6, x7⟩ => [(5, U32 x6), (11, .slice A01 n01 c01), (12, I64 (x01.length : Int)), (13, I64 x7)]) (fun ⟨q8, x6, x7⟩ => [(0, .mem M0)]) (fun ⟨q8, x6, x7⟩ => m_crc32c_Extend_l1 x01 q8 x6 x7 = some res) (fun ⟨q8, x6, x7⟩ => q8) ⟨forever, ~~~x00, (0 : Int)⟩ ?_ (Sub.cons rfl (Sub.cons rfl (Sub.cons rfl (Sub.cons rfl (Sub.nil _))))) (Sub.cons rfl (Sub.nil _)) ?_
    · exact h
    rintro ⟨q8, x6, x7⟩ h K9 hK9
    cases q8 with
    | zero => exact absurd h (by simp [m_crc32c_Extend_l1])
    | succ q8 =>
      unfold m_crc32c_Extend_l1 at h
      refine WC.seqRegion fun K10 hK10 => ?_
      refine WL.yld (by decide) (Yld.lss rfl rfl) ?_
      refine WL.done (hK10 _ _ ?_)
      refine WC.seq fun K11 hK11 => ?_
      by_cases hc12 : x7 < (x01.length : Int)
      · replace h := of_t hc12 h
        refine WC.condTe rfl (decide_eq_true hc12) ?_
        refine WC.skip ?_
        refine QK.thenN (hK11 _ _ ?_)
        refine WC.seqCut (σ := (BitVec 32)) (fun x13 => [(5, U32 x13), (11, .slice A01 n01 c01), (12, I64 (x01.length : Int)), (13, I64 x7)]) (fun x13 => [(0, .mem M0)]) (fun x13 => m_crc32c_Extend_j2 x7 (m_crc32c_Extend_l1 x01 q8) x13 = some res) (fun K14 hK14 => ?_) ?_
        · skip
          refine WC.block ?_
          refine WC.seqRegion fun K15 hK15 => ?_
          obtain ⟨x16, hx16, h⟩ := bnd h
          refine WL.yld (by decide) (Yld.idxC (xs := x01) sty_24 rfl rfl (RdH.memM (k := 0) rfl hf01) hx16) ?_
          refine WL.yld (by decide) (Yld.loadC0 (xs := x01) scal_5 rfl (RdH.memM (k := 0) rfl hf01) hx16 rfl) ?_
          refine WL.yld (by decide) (Yld.assign rfl) ?_
          refine WL.done (hK15 _ _ ?_)
          refine WC.seqRegion fun K17 hK17 => ?_
          refine WL.yld (by decide) (Yld.move rfl) ?_
          refine WL.yld (by decide) (Yld.move rfl) ?_
          refine WL.yld (by decide) (Yld.conv_u8_u32 (a := x16) some_5 und_23 rfl) ?_
          refine WL.yld (by decide) (Yld.xor_u32 (a := x6) (b := (x16.setWidth 32)) rfl rfl) ?_
          refine WL.yld (by decide) (Yld.assign rfl) ?_
          refine WL.done (hK17 _ _ ?_)
          refine WC.seqRegion fun K18 hK18 => ?_
          refine WL.yld (by decide) (Yld.move rfl) ?_
          refine WL.done (hK18 _ _ ?_)
          refine WC.block ?_
          refine WC.loop (σ := Nat × (BitVec 32) × Int) (fun ⟨q21, x19, x20⟩ => [(5, U32 x19), (11, .slice A01 n01 c01), (12, I64 (x01.length : Int)), (13, I64 x7), (21, I64 x20)]) (fun ⟨q21, x19, x20⟩ => [(0, .mem M0)]) (fun ⟨q21, x19, x20⟩ => m_crc32c_Extend_l3 x7 (m_crc32c_Extend_l1 x01 q8) q21 x19 x20 = some res) (fun ⟨q21, x19, x20⟩ => q21) ⟨forever, x6 ^^^ (x16.setWidth 32), (0 : Int)⟩ ?_ (Sub.cons rfl (Sub.cons rfl (Sub.cons rfl (Sub.cons rfl (Sub.cons rfl (Sub.nil _)))))) (Sub.cons rfl (Sub.nil _)) ?_
          · exact h
          rintro ⟨q21, x19, x20⟩ h K22 hK22
          cases q21 with
          | zero => exact absurd h (by simp [m_crc32c_Extend_l3])
          | succ q21 =>
            unfold m_crc32c_Extend_l3 at h
            refine WC.seqRegion fun K23 hK23 => ?_
            refine WL.yld (by decide) (Yld.lss rfl rfl) ?_
            refine WL.done (hK23 _ _ ?_)
            refine WC.seq fun K24 hK24 => ?_
            by_cases hc25 : x20 < (8 : Int)
            · replace h := of_t hc25 h
              refine WC.condTe rfl (decide_eq_true hc25) ?_
              refine WC.skip ?_
              refine QK.thenN (hK24 _ _ ?_)
              refine WC.seq fun K26 hK26 => ?_
              refine WC.block ?_
              refine WC.seqRegion fun K27 hK27 => ?_
              refine WL.yld (by decide) (Yld.move rfl) ?_
              refine WL.yld (by decide) (Yld.and_u32 (a := x19) (b := 1#32) rfl rfl) ?_
              refine WL.yld (by decide) (Yld.assign rfl) ?_
              refine WL.done (hK27 _ _ ?_)
              refine WC.seqRegion fun K28 hK28 => ?_
              refine WL.yld (by decide) (Yld.move rfl) ?_
              refine WL.yld (by decide) (Yld.shrU_u32 (a := x19) (m := 1) rfl rfl) ?_
              refine WL.yld (by decide) (Yld.assign rfl) ?_
              refine WL.done (hK28 _ _ ?_)
              refine WC.seqRegion fun K29 hK29 => ?_
              refine WL.yld (by decide) (Yld.move rfl) ?_
              refine WL.yld (by decide) (Yld.eql_u32 (a := (x19 &&& 1#32)) (b := 1#32) rfl rfl) ?_
              refine WL.done (hK29 _ _ ?_)
              by_cases hc30 : (x19 &&& 1#32) = 1#32
              · replace h := of_t hc30 h
                refine WC.condTe rfl (beq_iff_eq.2 hc30) ?_
                refine WC.region fun K31 hK31 => ?_
                refine WL.yld (by decide) (Yld.move rfl) ?_
                refine WL.yld (by decide) (Yld.xor_u32 (a := (x19 >>> 1)) (b := 2197175160#32) rfl rfl) ?_
                refine WL.yld (by decide) (Yld.assign rfl) ?_
                refine WL.done (hK31 _ _ ?_)
                refine QK.blockN ?_
                refine QK.thenN (hK26 _ _ ?_)
                refine WC.region fun K32 hK32 => ?_
                obtain ⟨x33, hx33, h⟩ := bnd h
                refine WL.yld (by decide) (Yld.addC rfl rfl hx33) ?_
                refine WL.yld (by decide) (Yld.move rfl) ?_
                refine WL.done (hK32 _ _ ?_)
                refine QK.thenN ?_
                refine hK22 ⟨q21, (x19 >>> 1) ^^^ 2197175160#32, x33⟩ _ _ ?_ (Nat.lt_succ_self _) (Sub.cons rfl (Sub.cons rfl (Sub.cons rfl (Sub.cons rfl (Sub.cons rfl (Sub.nil _)))))) (Sub.cons rfl (Sub.nil _))
                exact h
              · replace h := of_f hc30 h
                refine WC.condFe rfl (beq_eq_false_iff_ne.2 hc30) ?_
                refine WC.skip ?_
                refine QK.blockN ?_
                refine QK.thenN (hK26 _ _ ?_)
                refine WC.region fun K34 hK34 => ?_
                obtain ⟨x35, hx35, h⟩ := bnd h
                refine WL.yld (by decide) (Yld.addC rfl rfl hx35) ?_
                refine WL.yld (by decide) (Yld.move rfl) ?_
                refine WL.done (hK34 _ _ ?_)
                refine QK.thenN ?_
                refine hK22 ⟨q21, x19 >>> 1, x35⟩ _ _ ?_ (Nat.lt_succ_self _) (Sub.cons rfl (Sub.cons rfl (Sub.cons rfl (Sub.cons rfl (Sub.cons rfl (Sub.nil _)))))) (Sub.cons rfl (Sub.nil _))
                exact h
            · replace h := of_f hc25 h
              refine WC.condFe rfl (decide_eq_false hc25) ?_
              refine WC.exit (QK.thenE (QK.thenE (QK.blockX ?_)))
              refine QK.blockN ?_
              refine QK.thenN ?_
              refine hK14 x19 _ _ ?_ (Sub.cons rfl (Sub.cons rfl (Sub.cons rfl (Sub.cons rfl (Sub.nil _))))) (Sub.cons rfl (Sub.nil _))
              exact h
        · rintro x13 h
          unfold m_crc32c_Extend_j2 at h
          refine WC.region fun K36 hK36 => ?_
          obtain ⟨x37, hx37, h⟩ := bnd h
          refine WL.yld (by decide) (Yld.addC rfl rfl hx37) ?_
          refine WL.yld (by decide) (Yld.move rfl) ?_
          refine WL.done (hK36 _ _ ?_)
          refine QK.thenN ?_
          refine hK9 ⟨q8, x13, x37⟩ _ _ ?_ (Nat.lt_succ_self _) (Sub.cons rfl (Sub.cons rfl (Sub.cons rfl (Sub.cons rfl (Sub.nil _))))) (Sub.cons rfl (Sub.nil _))
          exact h
      · replace h := of_f hc12 h
        refine WC.condFe rfl (decide_eq_false hc12) ?_
        refine WC.exit (QK.thenE (QK.thenE (QK.blockX ?_)))
        refine QK.thenN ?_
        refine hK4 x6 _ _ ?_ (Sub.cons rfl (Sub.nil _)) (Sub.cons rfl (Sub.nil _))
        exact h
  · rintro x3 h
    unfold m_crc32c_Extend_j0 at h
    refine WC.seqRegion fun K38 hK38 => ?_
    refine WL.yld (by decide) (Yld.move rfl) ?_
    refine WL.yld (by decide) (Yld.not_u32 (a := x3) rfl) ?_
    refine WL.yld (by decide) (Yld.assign rfl) ?_
    refine WL.done (hK38 _ _ ?_)
    refine WC.ret ?_
    injection h with h; subst h
    exact Ret.fn [] (ResIs.one rfl rfl) rfl (Ext.refl _ _) rfl (by decide) rfl rfl ⟨rfl, rfl⟩

set_option maxRecDepth 10000 in
theorem w_crc32c_Sum (M0 : Mem) (A00 : Option Addr) (n00 c00 : Nat) (x00 : List (BitVec 8)) (hf00 : SlT M0 A00 n00 c00 x00) {res : (BitVec 32)} (h : m_crc32c_Sum x00 = some res) :
    Fn Try.prog 23 #[.slice A00 n00 c00] M0 fun r M' es => r = U32 res ∧ es = [] := by
  refine Fn.intro (N := 5) Try.func23 rfl rfl (Nat.le_of_ble_eq_true rfl) fun w0 => ?_
  unfold m_crc32c_Sum at h
  refine WC.seqRegion fun K1 hK1 => ?_
  refine WL.yld (by decide) (Yld.assign (v := U32 0#32) rfl) ?_
  refine WL.done (hK1 _ _ ?_)
  refine WC.seqRegion fun K2 hK2 => ?_
  obtain ⟨x3, hx3, h⟩ := bnd h
  refine WL.yld (by decide) (Yld.move rfl) ?_
  refine WL.eff (by decide) (Eff.callS 104 rfl Try.func30 nm_30 rfl rfl (fun w hb hh => w_crc32c_Extend (Mem.snap w) 0#32 A00 n00 c00 _ (RdH.sn (RdH.memM (k := 0) rfl hf00) w hb hh) hx3)) ?_
  rintro _ _ ⟨_, ⟨rfl, rfl⟩, rfl⟩
  refine WL.yld (by decide) (Yld.assign rfl) ?_
  refine WL.done (hK2 _ _ ?_)
  refine WC.ret ?_
  injection h with h; subst h
  exact Ret.fn [] (ResIs.one rfl rfl) rfl (Ext.refl _ _) rfl (by decide) rfl rfl ⟨rfl, rfl⟩

set_option maxRecDepth 10000 in
theorem w_r01_shift (M0 : Mem) (x00 : BitVec 32) {res : (BitVec 32)} (h : m_r01_shift x00 = some res) :
    Fn Try.prog 33 #[U32 x00] M0 fun r M' es => r = U32 res ∧ es = [] := by
  refine Fn.intro (N := 17) Try.func33 rfl rfl (Nat.le_of_ble_eq_true rfl) fun w0 => ?_
  unfold m_r01_shift at h
  refine WC.seqRegion fun K1 hK1 => ?_
  refine WL.yld (by decide) (Yld.assign (v := U32 0#32) rfl) ?_
  refine WL.done (hK1 _ _ ?_)
  refine WC.seqCut (σ := (BitVec 32)) (fun x2 => [(0, U32 x2)]) (fun x2 => [(0, .mem M0)]) (fun x2 => m_r01_shift_j0 x2 = some res) (fun K3 hK3 => ?_) ?_
  · skip
    refine WC.seqRegion fun K4 hK4 => ?_
    refine WL.yld (by decide) (Yld.assign rfl) ?_
    refine WL.done (hK4 _ _ ?_)
    refine WC.block ?_
    refine WC.loop (σ := Nat × (BitVec 32) × Int) (fun ⟨q7, x5, x6⟩ => [(0, U32 x5), (3, I64 x6)]) (fun ⟨q7, x5, x6⟩ => [(0, .mem M0)]) (fun ⟨q7, x5, x6⟩ => m_r01_shift_l1 q7 x5 x6 = some res) (fun ⟨q7, x5, x6⟩ => q7) ⟨forever, x00, (0 : Int)⟩ ?_ (Sub.cons rfl (Sub.cons rfl (Sub.nil _))) (Sub.cons rfl (Sub.nil _)) ?_
    · exact h
    rintro ⟨q7, x5, x6⟩ h K8 hK8
    cases q7 with
    | zero => exact absurd h (by simp [m_r01_shift_l1])
    | succ q7 =>
      unfold m_r01_shift_l1 at h
      refine WC.seq fun K9 hK9 => ?_
      refine WC.seqRegion fun K10 hK10 => ?_
      refine WL.yld (by decide) (Yld.move rfl) ?_
      refine WL.yld (by decide) (Yld.lss rfl rfl) ?_
      refine WL.done (hK10 _ _ ?_)
      by_cases hc11 : x6 < (8 : Int)
      · replace h := of_t hc11 h
        refine WC.condTe rfl (decide_eq_true hc11) ?_
        refine WC.skip ?_
        refine QK.thenN (hK9 _ _ ?_)
        refine WC.seq fun K12 hK12 => ?_
        refine WC.block ?_
        refine WC.seqRegion fun K13 hK13 => ?_
        refine WL.yld (by decide) (Yld.move rfl) ?_
        refine WL.yld (by decide) (Yld.and_u32 (a := x5) (b := 1#32) rfl rfl) ?_
        refine WL.yld (by decide) (Yld.eql_u32 (a := (x5 &&& 1#32)) (b := 1#32) rfl rfl) ?_
        refine WL.done (hK13 _ _ ?_)
        by_cases hc14 : (x5 &&& 1#32) = 1#32
        · replace h := of_t hc14 h
          refine WC.condTe rfl (beq_iff_eq.2 hc14) ?_
          refine WC.region fun K15 hK15 => ?_
          refine WL.yld (by decide) (Yld.move rfl) ?_
          refine WL.yld (by decide) (Yld.shrU_u32 (a := x5) (m := 1) rfl rfl) ?_
          refine WL.yld (by decide) (Yld.xor_u32 (a := (x5 >>> 1)) (b := 2197175160#32) rfl rfl) ?_
          refine WL.yld (by decide) (Yld.assign rfl) ?_
          refine WL.done (hK15 _ _ ?_)
          refine QK.blockN ?_
          refine QK.thenN (hK12 _ _ ?_)
          refine WC.region fun K16 hK16 => ?_
          obtain ⟨x17, hx17, h⟩ := bnd h
          refine WL.yld (by decide) (Yld.move rfl) ?_
          refine WL.yld (by decide) (Yld.addC rfl rfl hx17) ?_
          refine WL.yld (by decide) (Yld.assign rfl) ?_
          refine WL.done (hK16 _ _ ?_)
          refine QK.thenN ?_
          refine hK8 ⟨q7, (x5 >>> 1) ^^^ 2197175160#32, x17⟩ _ _ ?_ (Nat.lt_succ_self _) (Sub.cons rfl (Sub.cons rfl (Sub.nil _))) (Sub.cons rfl (Sub.nil _))
          exact h
        · replace h := of_f hc14 h
          refine WC.condFe rfl (beq_eq_false_iff_ne.2 hc14) ?_
          refine WC.region fun K18 hK18 => ?_
          refine WL.yld (by decide) (Yld.move rfl) ?_
          refine WL.yld (by decide) (Yld.shrU_u32 (a := x5) (m := 1) rfl rfl) ?_
          refine WL.yld (by decide) (Yld.assign rfl) ?_
          refine WL.done (hK18 _ _ ?_)
          refine QK.blockN ?_
          refine QK.thenN (hK12 _ _ ?_)
          refine WC.region fun K19 hK19 => ?_
          obtain ⟨x20, hx20, h⟩ := bnd h
          refine WL.yld (by decide) (Yld.move rfl) ?_
          refine WL.yld (by decide) (Yld.addC rfl rfl hx20) ?_
          refine WL.yld (by decide) (Yld.assign rfl) ?_
          refine WL.done (hK19 _ _ ?_)
          refine QK.thenN ?_
          refine hK8 ⟨q7, x5 >>> 1, x20⟩ _ _ ?_ (Nat.lt_succ_self _) (Sub.cons rfl (Sub.cons rfl (Sub.nil _))) (Sub.cons rfl (Sub.nil _))
          exact h
      · replace h := of_f hc11 h
        refine WC.condFe rfl (decide_eq_false hc11) ?_
        refine WC.exit (QK.thenE (QK.thenE (QK.blockX ?_)))
        refine QK.thenN ?_
        refine hK3 x5 _ _ ?_ (Sub.cons rfl (Sub.nil _)) (Sub.cons rfl (Sub.nil _))
        exact h
  · rintro x2 h
    unfold m_r01_shift_j0 at h
    refine WC.seqRegion fun K21 hK21 => ?_
    refine WL.yld (by decide) (Yld.move rfl) ?_
    refine WL.yld (by decide) (Yld.assign rfl) ?_
    refine WL.done (hK21 _ _ ?_)
    refine WC.ret ?_
    injection h with h; subst h
    exact Ret.fn [] (ResIs.one rfl rfl) rfl (Ext.refl _ _) rfl (by decide) rfl rfl ⟨rfl, rfl⟩

set_option maxRecDepth 10000 in
theorem w_r01_Extend (M0 : Mem) (x00 : BitVec 32) (A01 : Option Addr) (n01 c01 : Nat) (x01 : List (BitVec 8)) (hf01 : SlT M0 A01 n01 c01 x01) {res : (BitVec 32)} (h : m_r01_Extend x00 x01 = some res) :
    Fn Try.prog 32 #[U32 x00, .slice A01 n01 c01] M0 fun r M' es => r = U32 res ∧ es = [] := by
  refine Fn.intro (N := 25) Try.func32 rfl rfl (Nat.le_of_ble_eq_true rfl) fun w0 => ?_
  unfold m_r01_Extend at h
  refine WC.seqRegion fun K1 hK1 => ?_
  refine WL.yld (by decide) (Yld.assign (v := U32 0#32) rfl) ?_
  refine WL.done (hK1 _ _ ?_)
  refine WC.seqRegion fun K2 hK2 => ?_
  refine WL.yld (by decide) (Yld.move rfl) ?_
  refine WL.yld (by decide) (Yld.not_u32 (a := x00) rfl) ?_
  refine WL.yld (by decide) (Yld.assign rfl) ?_
  refine WL.done (hK2 _ _ ?_)
  refine WC.seqCut (σ := (BitVec 32)) (fun x3 => [(5, U32 x3)]) (fun x3 => [(0, .mem M0)]) (fun x3 => m_r01_Extend_j0 x3 = some res) (fun K4 hK4 => ?_) ?_
  · skip
    refine WC.seqRegion fun K5 hK5 => ?_
    refine WL.yld (by decide) (Yld.assign rfl) ?_
    refine WL.done (hK5 _ _ ?_)
    refine WC.block ?_
    refine WC.loop (σ := Nat × (BitVec 32) × Int) (fun ⟨q8, x6, x7⟩ => [(1, .slice A01 n01 c01), (5, U32 x6), (6, I64 x7)]) (fun ⟨q8, x6, x7⟩ => [(0, .mem M0)]) (fun ⟨q8, x6, x7⟩ => m_r01_Extend_l1 x01 q8 x6 x7 = some res) (fun ⟨q8, x6, x7⟩ => q8) ⟨forever, ~~~x00, (0 : Int)⟩ ?_ (Sub.cons rfl (Sub.cons rfl (Sub.cons rfl (Sub.nil _)))) (Sub.cons rfl (Sub.nil _)) ?_
    · exact h
    rintro ⟨q8, x6, x7⟩ h K9 hK9
    cases q8 with
    | zero => exact absurd h (by simp [m_r01_Extend_l1])
    | succ q8 =>
      unfold m_r01_Extend_l1 at h
      refine WC.seq fun K10 hK10 => ?_
      refine WC.seqRegion fun K11 hK11 => ?_
      refine WL.yld (by decide) (Yld.move rfl) ?_
      refine WL.yld (by decide) (Yld.move rfl) ?_
      refine WL.yld (by decide) (Yld.lenC (xs := x01) und_24 rfl (RdH.memM (k := 0) rfl hf01)) ?_
      refine WL.yld (by decide) (Yld.lss rfl rfl) ?_
      refine WL.done (hK11 _ _ ?_)
      by_cases hc12 : x7 < (x01.length : Int)
      · replace h := of_t hc12 h
        refine WC.condTe rfl (decide_eq_true hc12) ?_
        refine WC.skip ?_
        refine QK.thenN (hK10 _ _ ?_)
        refine WC.seq fun K13 hK13 => ?_
        refine WC.block ?_
        refine WC.region fun K14 hK14 => ?_
        obtain ⟨x15, hx15, h⟩ := bnd h
        obtain ⟨x16, hx16, h⟩ := bnd h
        refine WL.yld (by decide) (Yld.move rfl) ?_
        refine WL.yld (by decide) (Yld.move rfl) ?_
        refine WL.yld (by decide) (Yld.move rfl) ?_
        refine WL.yld (by decide) (Yld.idxC (xs := x01) sty_24 rfl rfl (RdH.memM (k := 0) rfl hf01) hx15) ?_
        refine WL.yld (by decide) (Yld.loadC0 (xs := x01) scal_5 rfl (RdH.memM (k := 0) rfl hf01) hx15 rfl) ?_
        refine WL.yld (by decide) (Yld.conv_u8_u32 (a := x15) some_5 und_23 rfl) ?_
        refine WL.yld (by decide) (Yld.xor_u32 (a := x6) (b := (x15.setWidth 32)) rfl rfl) ?_
        refine WL.eff (by decide) (Eff.callS 117 rfl Try.func33 nm_33 rfl rfl (fun w hb hh => w_r01_shift (Mem.snap w) (x6 ^^^ (x15.setWidth 32)) hx16)) ?_
        rintro _ _ ⟨_, ⟨rfl, rfl⟩, rfl⟩
        refine WL.yld (by decide) (Yld.assign rfl) ?_
        refine WL.done (hK14 _ _ ?_)
        refine QK.blockN ?_
        refine QK.thenN (hK13 _ _ ?_)
        refine WC.region fun K18 hK18 => ?_
        obtain ⟨x19, hx19, h⟩ := bnd h
        refine WL.yld (by decide) (Yld.move rfl) ?_
        refine WL.yld (by decide) (Yld.addC rfl rfl hx19) ?_
        refine WL.yld (by decide) (Yld.assign rfl) ?_
        refine WL.done (hK18 _ _ ?_)
        refine QK.thenN ?_
        refine hK9 ⟨q8, x16, x19⟩ _ _ ?_ (Nat.lt_succ_self _) (Sub.cons rfl (Sub.cons rfl (Sub.cons rfl (Sub.nil _)))) (Sub.cons rfl (Sub.nil _))
        exact h
      · replace h := of_f hc12 h
        refine WC.condFe rfl (decide_eq_false hc12) ?_
        refine WC.exit (QK.thenE (QK.thenE (QK.blockX ?_)))
        refine QK.thenN ?_
        refine hK4 x6 _ _ ?_ (Sub.cons rfl (Sub.nil _)) (Sub.cons rfl (Sub.nil _))
        exact h
  · rintro x3 h
    unfold m_r01_Extend_j0 at h
    refine WC.seqRegion fun K20 hK20 => ?_
    refine WL.yld (by decide) (Yld.move rfl) ?_
    refine WL.yld (by decide) (Yld.not_u32 (a := x3) rfl) ?_
    refine WL.yld (by decide) (Yld.assign rfl) ?_
    refine WL.done (hK20 _ _ ?_)
    refine WC.ret ?_
    injection h with h; subst h
    exact Ret.fn [] (ResIs.one rfl rfl) rfl (Ext.refl _ _) rfl (by decide) rfl rfl ⟨rfl, rfl⟩

set_option maxRecDepth 10000 in
theorem w_r01_Sum (M0 : Mem) (A00 : Option Addr) (n00 c00 : Nat) (x00 : List (BitVec 8)) (hf00 : SlT M0 A00 n00 c00 x00) {res : (BitVec 32)} (h : m_r01_Sum x00 = some res) :
    Fn Try.prog 31 #[.slice A00 n00 c00] M0 fun r M' es => r = U32 res ∧ es = [] := by
  refine Fn.intro (N := 5) Try.func31 rfl rfl (Nat.le_of_ble_eq_true rfl) fun w0 => ?_
  unfold m_r01_Sum at h
  refine WC.seqRegion fun K1 hK1 => ?_
  refine WL.yld (by decide) (Yld.assign (v := U32 0#32) rfl) ?_
  refine WL.done (hK1 _ _ ?_)
  refine WC.seqRegion fun K2 hK2 => ?_
  obtain ⟨x3, hx3, h⟩ := bnd h
  refine WL.yld (by decide) (Yld.move rfl) ?_
  refine WL.eff (by decide) (Eff.callS 104 rfl Try.func32 nm_32 rfl rfl (fun w hb hh => w_r01_Extend (Mem.snap w) 0#32 A00 n00 c00 _ (RdH.sn (RdH.memM (k := 0) rfl hf00) w hb hh) hx3)) ?_
  rintro _ _ ⟨_, ⟨rfl, rfl⟩, rfl⟩
  refine WL.yld (by decide) (Yld.assign rfl) ?_
  refine WL.done (hK2 _ _ ?_)
  refine WC.ret ?_
  injection h with h; subst h
  exact Ret.fn [] (ResIs.one rfl rfl) rfl (Ext.refl _ _) rfl (by decide) rfl rfl ⟨rfl, rfl⟩

set_option maxRecDepth 10000 in
theorem w_needle_Size (M0 : Mem) (x00 : Int) {res : Int} (h : m_needle_Size x00 = some res) :
    Fn Try.prog 10 #[I64 x00] M0 fun r M' es => r = I64 res ∧ es = [] := by
  refine Fn.intro (N := 16) Try.func10 rfl rfl (Nat.le_of_ble_eq_true rfl) fun w0 => ?_
  unfold m_needle_Size at h
  refine WC.seqRegion fun K1 hK1 => ?_
  refine WL.yld (by decide) (Yld.assign rfl) ?_
  refine WL.done (hK1 _ _ ?_)
  refine WC.seq fun K2 hK2 => ?_
  refine WC.seqRegion fun K3 hK3 => ?_
  by_cases hc4 : x00 < (0 : Int)
  · replace h := of_t hc4 h
    refine WL.yld (by decide) (Yld.move rfl) ?_
    refine WL.yld (by decide) (Yld.lss rfl rfl) ?_
    refine WL.yld (by decide) (Yld.move rfl) ?_
    refine WL.new (v' := .bool true) (congrArg Value.bool (decide_eq_true hc4)) ?_
    refine WL.skip (by decide) rfl rfl ?_
    refine WL.skip (by decide) rfl rfl ?_
    refine WL.yld (by decide) (Yld.pickT rfl rfl) ?_
    refine WL.done (hK3 _ _ ?_)
    refine WC.condT rfl ?_
    refine WC.seqRegion fun K5 hK5 => ?_
    refine WL.yld (by decide) (Yld.assign rfl) ?_
    refine WL.done (hK5 _ _ ?_)
    refine WC.ret (QK.thenR ?_)
    injection h with h; subst h
    exact Ret.fn [] (ResIs.one rfl rfl) rfl (Ext.refl _ _) rfl (by decide) rfl rfl ⟨rfl, rfl⟩
  · replace h := of_f hc4 h
    refine WL.yld (by decide) (Yld.move rfl) ?_
    refine WL.yld (by decide) (Yld.lss rfl rfl) ?_
    refine WL.yld (by decide) (Yld.move rfl) ?_
    refine WL.new (v' := .bool false) (congrArg Value.bool (decide_eq_false hc4)) ?_
    refine WL.yldG (by decide) rfl (Yld.move rfl) ?_
    refine WL.yldG (by decide) rfl (Yld.gtr rfl rfl) ?_
    refine WL.yld (by decide) (Yld.pickF rfl rfl) ?_
    refine WL.done (hK3 _ _ ?_)
    by_cases hc6 : (4096 : Int) < x00
    · replace h := of_t hc6 h
      refine WC.condTe rfl (decide_eq_true hc6) ?_
      refine WC.seqRegion fun K7 hK7 => ?_
      refine WL.yld (by decide) (Yld.assign rfl) ?_
      refine WL.done (hK7 _ _ ?_)
      refine WC.ret (QK.thenR ?_)
      injection h with h; subst h
      exact Ret.fn [] (ResIs.one rfl rfl) rfl (Ext.refl _ _) rfl (by decide) rfl rfl ⟨rfl, rfl⟩
    · replace h := of_f hc6 h
      refine WC.condFe rfl (decide_eq_false hc6) ?_
      refine WC.skip ?_
      refine QK.thenN (hK2 _ _ ?_)
      refine WC.seqRegion fun K8 hK8 => ?_
      obtain ⟨x9, hx9, h⟩ := bnd h
      obtain ⟨x10, hx10, h⟩ := bnd h
      obtain ⟨x11, hx11, h⟩ := bnd h
      obtain ⟨x12, hx12, h⟩ := bnd h
      obtain ⟨x13, hx13, h⟩ := bnd h
      obtain ⟨x14, hx14, h⟩ := bnd h
      refine WL.yld (by decide) (Yld.move rfl) ?_
      refine WL.yld (by decide) (Yld.addC rfl rfl hx9) ?_
      refine WL.yld (by decide) (Yld.addC rfl rfl hx10) ?_
      refine WL.yld (by decide) (Yld.addC rfl rfl hx11) ?_
      refine WL.yld (by decide) (Yld.subC rfl rfl hx12) ?_
      refine WL.yld (by decide) (Yld.quoC rfl rfl hx13) ?_
      refine WL.yld (by decide) (Yld.mulC rfl rfl hx14) ?_
      refine WL.yld (by decide) (Yld.assign rfl) ?_
      refine WL.done (hK8 _ _ ?_)
      refine WC.ret ?_
      injection h with h; subst h
      exact Ret.fn [] (ResIs.one rfl rfl) rfl (Ext.refl _ _) rfl (by decide) rfl rfl ⟨rfl, rfl⟩

set_option maxRecDepth 10000 in
theorem w_r06_Size (M0 : Mem) (x00 : Int) {res : Int} (h : m_r06_Size x00 = some res) :
    Fn Try.prog 11 #[I64 x00] M0 fun r M' es => r = I64 res ∧ es = [] := by
  refine Fn.intro (N := 15) Try.func11 rfl rfl (Nat.le_of_ble_eq_true rfl) fun w0 => ?_
  unfold m_r06_Size at h
  refine WC.seqRegion fun K1 hK1 => ?_
  refine WL.yld (by decide) (Yld.assign rfl) ?_
  refine WL.done (hK1 _ _ ?_)
  refine WC.seq fun K2 hK2 => ?_
  refine WC.seqRegion fun K3 hK3 => ?_
  by_cases hc4 : x00 < (0 : Int)
  · replace h := of_t hc4 h
    refine WL.yld (by decide) (Yld.move rfl) ?_
    refine WL.yld (by decide) (Yld.lss rfl rfl) ?_
    refine WL.yld (by decide) (Yld.move rfl) ?_
    refine WL.new (v' := .bool true) (congrArg Value.bool (decide_eq_true hc4)) ?_
    refine WL.skip (by decide) rfl rfl ?_
    refine WL.skip (by decide) rfl rfl ?_
    refine WL.yld (by decide) (Yld.pickT rfl rfl) ?_
    refine WL.done (hK3 _ _ ?_)
    refine WC.condT rfl ?_
    refine WC.seqRegion fun K5 hK5 => ?_
    refine WL.yld (by decide) (Yld.assign rfl) ?_
    refine WL.done (hK5 _ _ ?_)
    refine WC.ret (QK.thenR ?_)
    injection h with h; subst h
    exact Ret.fn [] (ResIs.one rfl rfl) rfl (Ext.refl _ _) rfl (by decide) rfl rfl ⟨rfl, rfl⟩
  · replace h := of_f hc4 h
    refine WL.yld (by decide) (Yld.move rfl) ?_
    refine WL.yld (by decide) (Yld.lss rfl rfl) ?_
    refine WL.yld (by decide) (Yld.move rfl) ?_
    refine WL.new (v' := .bool false) (congrArg Value.bool (decide_eq_false hc4)) ?_
    refine WL.yldG (by decide) rfl (Yld.move rfl) ?_
    refine WL.yldG (by decide) rfl (Yld.gtr rfl rfl) ?_
    refine WL.yld (by decide) (Yld.pickF rfl rfl) ?_
    refine WL.done (hK3 _ _ ?_)
    by_cases hc6 : (4096 : Int) < x00
    · replace h := of_t hc6 h
      refine WC.condTe rfl (decide_eq_true hc6) ?_
      refine WC.seqRegion fun K7 hK7 => ?_
      refine WL.yld (by decide) (Yld.assign rfl) ?_
      refine WL.done (hK7 _ _ ?_)
      refine WC.ret (QK.thenR ?_)
      injection h with h; subst h
      exact Ret.fn [] (ResIs.one rfl rfl) rfl (Ext.refl _ _) rfl (by decide) rfl rfl ⟨rfl, rfl⟩
    · replace h := of_f hc6 h
      refine WC.condFe rfl (decide_eq_false hc6) ?_
      refine WC.skip ?_
      refine QK.thenN (hK2 _ _ ?_)
      refine WC.seqRegion fun K8 hK8 => ?_
      obtain ⟨x9, hx9, h⟩ := bnd h
      obtain ⟨x10, hx10, h⟩ := bnd h
      obtain ⟨x11, hx11, h⟩ := bnd h
      obtain ⟨x12, hx12, h⟩ := bnd h
      obtain ⟨x13, hx13, h⟩ := bnd h
      refine WL.yld (by decide) (Yld.move rfl) ?_
      refine WL.yld (by decide) (Yld.addC rfl rfl hx9) ?_
      refine WL.yld (by decide) (Yld.addC rfl rfl hx10) ?_
      refine WL.yld (by decide) (Yld.addC rfl rfl hx11) ?_
      refine WL.yld (by decide) (Yld.quoC rfl rfl hx12) ?_
      refine WL.yld (by decide) (Yld.mulC rfl rfl hx13) ?_
      refine WL.yld (by decide) (Yld.assign rfl) ?_
      refine WL.done (hK8 _ _ ?_)
      refine WC.ret ?_
      injection h with h; subst h
      exact Ret.fn [] (ResIs.one rfl rfl) rfl (Ext.refl _ _) rfl (by decide) rfl rfl ⟨rfl, rfl⟩

set_option maxRecDepth 10000 in
theorem w_needle_Valid (M0 : Mem) (x00_0 : BitVec 64) (x00_1 : BitVec 32) (x00_2 : Bool) (A00_3 : Option Addr) (n00_3 c00_3 : Nat) (x00_3 : List (BitVec 8)) (hf00_3 : SlT M0 A00_3 n00_3 c00_3 x00_3) {res : Bool} (h : m_needle_Valid x00_0 x00_1 x00_2 x00_3 = some res) :
    Fn Try.prog 12 #[.agg ([U64 x00_0, U32 x00_1, .bool x00_2, .slice A00_3 n00_3 c00_3] : List Value).toArray] M0 fun r M' es => r = .bool res ∧ es = [] := by
  refine Fn.intro (N := 18) Try.func12 rfl rfl (Nat.le_of_ble_eq_true rfl) fun w0 => ?_
  unfold m_needle_Valid at h
  refine WC.seqRegion fun K1 hK1 => ?_
  refine WL.eff (by decide) (Eff.box 102 (us := [U64 x00_0, U32 x00_1, .bool x00_2, .slice A00_3 n00_3 c00_3]) rfl rfl rfl) ?_
  rintro _ _ ⟨g2, rfl, rfl⟩
  refine WL.yld (by decide) (Yld.assign rfl) ?_
  refine WL.done (hK1 _ _ ?_)
  refine WC.seqRegion fun K3 hK3 => ?_
  by_cases hc4 : (x00_3.length : Int) ≤ (4096 : Int)
  · replace h := of_t hc4 h
    by_cases hc5 : x00_2 = true
    · replace h := of_t hc5 h
      refine WL.yld (by decide) (Yld.fieldAddr Try.underlying26 rfl nz_24 rfl rfl) ?_
      refine WL.yld (by decide) (Yld.loadB (k := 102) scal_24 rfl rfl rfl) ?_
      refine WL.yld (by decide) (Yld.lenC (xs := x00_3) und_24 rfl (RdH.memM (k := 0) rfl hf00_3)) ?_
      refine WL.yld (by decide) (Yld.leq rfl rfl) ?_
      refine WL.yld (by decide) (Yld.move rfl) ?_
      refine WL.new (v' := .bool true) (congrArg Value.bool (decide_eq_true hc4)) ?_
      refine WL.yldG (by decide) rfl (Yld.fieldAddr Try.underlying26 rfl nz_4 rfl rfl) ?_
      refine WL.yldG (by decide) rfl (Yld.loadB (k := 102) scal_4 rfl rfl rfl) ?_
      refine WL.yldG (by decide) rfl (Yld.move rfl) ?_
      refine WL.new (v' := .bool true) (congrArg Value.bool hc5) ?_
      refine WL.yldG (by decide) rfl (Yld.fieldAddr Try.underlying26 rfl nz_24 rfl rfl) ?_
      refine WL.yldG (by decide) rfl (Yld.loadB (k := 102) scal_24 rfl rfl rfl) ?_
      refine WL.yldG (by decide) rfl (Yld.lenC (xs := x00_3) und_24 rfl (RdH.memM (k := 0) rfl hf00_3)) ?_
      refine WL.yldG (by decide) rfl (Yld.gtr rfl rfl) ?_
      refine WL.yldG (by decide) rfl (Yld.pickT rfl rfl) ?_
      refine WL.yldG (by decide) rfl (Yld.notB rfl) ?_
      refine WL.yld (by decide) (Yld.pickT rfl rfl) ?_
      refine WL.yld (by decide) (Yld.assign rfl) ?_
      refine WL.done (hK3 _ _ ?_)
      refine WC.ret ?_
      injection h with h; subst h
      exact Ret.fn [] (ResIs.one rfl rfl) rfl (Ext.refl _ _) rfl (by decide) rfl rfl ⟨rfl, rfl⟩
    · replace h := of_f hc5 h
      refine WL.yld (by decide) (Yld.fieldAddr Try.underlying26 rfl nz_24 rfl rfl) ?_
      refine WL.yld (by decide) (Yld.loadB (k := 102) scal_24 rfl rfl rfl) ?_
      refine WL.yld (by decide) (Yld.lenC (xs := x00_3) und_24 rfl (RdH.memM (k := 0) rfl hf00_3)) ?_
      refine WL.yld (by decide) (Yld.leq rfl rfl) ?_
      refine WL.yld (by decide) (Yld.move rfl) ?_
      refine WL.new (v' := .bool true) (congrArg Value.bool (decide_eq_true hc4)) ?_
      refine WL.yldG (by decide) rfl (Yld.fieldAddr Try.underlying26 rfl nz_4 rfl rfl) ?_
      refine WL.yldG (by decide) rfl (Yld.loadB (k := 102) scal_4 rfl rfl rfl) ?_
      refine WL.yldG (by decide) rfl (Yld.move rfl) ?_
      refine WL.new (v' := .bool false) (congrArg Value.bool (Bool.eq_false_iff.2 hc5)) ?_
      refine WL.skip (by decide) rfl rfl ?_
      refine WL.skip (by decide) rfl rfl ?_
      refine WL.skip (by decide) rfl rfl ?_
      refine WL.skip (by decide) rfl rfl ?_
      refine WL.yldG (by decide) rfl (Yld.pickF rfl rfl) ?_
      refine WL.yldG (by decide) rfl (Yld.notB rfl) ?_
      refine WL.yld (by decide) (Yld.pickT rfl rfl) ?_
      refine WL.yld (by decide) (Yld.assign rfl) ?_
      refine WL.done (hK3 _ _ ?_)
      refine WC.ret ?_
      injection h with h; subst h
      exact Ret.fn [] (ResIs.one rfl rfl) rfl (Ext.refl _ _) rfl (by decide) rfl rfl ⟨rfl, rfl⟩
  · replace h := of_f hc4 h
    refine WL.yld (by decide) (Yld.fieldAddr Try.underlying26 rfl nz_24 rfl rfl) ?_
    refine WL.yld (by decide) (Yld.loadB (k := 102) scal_24 rfl rfl rfl) ?_
    refine WL.yld (by decide) (Yld.lenC (xs := x00_3) und_24 rfl (RdH.memM (k := 0) rfl hf00_3)) ?_
    refine WL.yld (by decide) (Yld.leq rfl rfl) ?_
    refine WL.yld (by decide) (Yld.move rfl) ?_
    refine WL.new (v' := .bool false) (congrArg Value.bool (decide_eq_false hc4)) ?_
    refine WL.skip (by decide) rfl rfl ?_
    refine WL.skip (by decide) rfl rfl ?_
    refine WL.skip (by decide) rfl rfl ?_
    refine WL.skipU (by decide) rfl ?_
    refine WL.skipU (by decide) rfl ?_
    refine WL.skipU (by decide) rfl ?_
    refine WL.skipU (by decide) rfl ?_
    refine WL.skip (by decide) rfl rfl ?_
    refine WL.skip (by decide) rfl rfl ?_
    refine WL.yld (by decide) (Yld.pickF rfl rfl) ?_
    refine WL.yld (by decide) (Yld.assign rfl) ?_
    refine WL.done (hK3 _ _ ?_)
    refine WC.ret ?_
    injection h with h; subst h
    exact Ret.fn [] (ResIs.one rfl rfl) rfl (Ext.refl _ _) rfl (by decide) rfl rfl ⟨rfl, rfl⟩

set_option maxRecDepth 10000 in
theorem w_r06_Valid (M0 : Mem) (x00_0 : BitVec 64) (x00_1 : BitVec 32) (x00_2 : Bool) (A00_3 : Option Addr) (n00_3 c00_3 : Nat) (x00_3 : List (BitVec 8)) (hf00_3 : SlT M0 A00_3 n00_3 c00_3 x00_3) {res : Bool} (h : m_r06_Valid x00_0 x00_1 x00_2 x00_3 = some res) :
    Fn Try.prog 13 #[.agg ([U64 x00_0, U32 x00_1, .bool x00_2, .slice A00_3 n00_3 c00_3] : List Value).toArray] M0 fun r M' es => r = .bool res ∧ es = [] := by
  refine Fn.intro (N := 18) Try.func13 rfl rfl (Nat.le_of_ble_eq_true rfl) fun w0 => ?_
  unfold m_r06_Valid at h
  refine WC.seqRegion fun K1 hK1 => ?_
  refine WL.eff (by decide) (Eff.box 102 (us := [U64 x00_0, U32 x00_1, .bool x00_2, .slice A00_3 n00_3 c00_3]) rfl rfl rfl) ?_
  rintro _ _ ⟨g2, rfl, rfl⟩
  refine WL.yld (by decide) (Yld.assign rfl) ?_
  refine WL.done (hK1 _ _ ?_)
  refine WC.seqRegion fun K3 hK3 => ?_
  by_cases hc4 : (x00_3.length : Int) ≤ (4096 : Int)
  · replace h := of_t hc4 h
    by_cases hc5 : x00_2 = true
    · replace h := of_t hc5 h
      refine WL.yld (by decide) (Yld.fieldAddr Try.underlying26 rfl nz_24 rfl rfl) ?_
      refine WL.yld (by decide) (Yld.loadB (k := 102) scal_24 rfl rfl rfl) ?_
      refine WL.yld (by decide) (Yld.lenC (xs := x00_3) und_24 rfl (RdH.memM (k := 0) rfl hf00_3)) ?_
      refine WL.yld (by decide) (Yld.leq rfl rfl) ?_
      refine WL.yld (by decide) (Yld.move rfl) ?_
      refine WL.new (v' := .bool true) (congrArg Value.bool (decide_eq_true hc4)) ?_
      refine WL.yldG (by decide) rfl (Yld.fieldAddr Try.underlying26 rfl nz_4 rfl rfl) ?_
      refine WL.yldG (by decide) rfl (Yld.loadB (k := 102) scal_4 rfl rfl rfl) ?_
      refine WL.yldG (by decide) rfl (Yld.move rfl) ?_
      refine WL.new (v' := .bool true) (congrArg Value.bool hc5) ?_
      refine WL.yldG (by decide) rfl (Yld.fieldAddr Try.underlying26 rfl nz_24 rfl rfl) ?_
      refine WL.yldG (by decide) rfl (Yld.loadB (k := 102) scal_24 rfl rfl rfl) ?_
      refine WL.yldG (by decide) rfl (Yld.lenC (xs := x00_3) und_24 rfl (RdH.memM (k := 0) rfl hf00_3)) ?_
      refine WL.yldG (by decide) rfl (Yld.gtr rfl rfl) ?_
      refine WL.yldG (by decide) rfl (Yld.pickT rfl rfl) ?_
      refine WL.yldG (by decide) rfl (Yld.notB rfl) ?_
      refine WL.yld (by decide) (Yld.pickT rfl rfl) ?_
      refine WL.yld (by decide) (Yld.assign rfl) ?_
      refine WL.done (hK3 _ _ ?_)
      refine WC.ret ?_
      injection h with h; subst h
      exact Ret.fn [] (ResIs.one rfl rfl) rfl (Ext.refl _ _) rfl (by decide) rfl rfl ⟨rfl, rfl⟩
    · replace h := of_f hc5 h
      refine WL.yld (by decide) (Yld.fieldAddr Try.underlying26 rfl nz_24 rfl rfl) ?_
      refine WL.yld (by decide) (Yld.loadB (k := 102) scal_24 rfl rfl rfl) ?_
      refine WL.yld (by decide) (Yld.lenC (xs := x00_3) und_24 rfl (RdH.memM (k := 0) rfl hf00_3)) ?_
      refine WL.yld (by decide) (Yld.leq rfl rfl) ?_
      refine WL.yld (by decide) (Yld.move rfl) ?_
      refine WL.new (v' := .bool true) (congrArg Value.bool (decide_eq_true hc4)) ?_
      refine WL.yldG (by decide) rfl (Yld.fieldAddr Try.underlying26 rfl nz_4 rfl rfl) ?_
      refine WL.yldG (by decide) rfl (Yld.loadB (k := 102) scal_4 rfl rfl rfl) ?_
      refine WL.yldG (by decide) rfl (Yld.move rfl) ?_
      refine WL.new (v' := .bool false) (congrArg Value.bool (Bool.eq_false_iff.2 hc5)) ?_
      refine WL.skip (by decide) rfl rfl ?_
      refine WL.skip (by decide) rfl rfl ?_
      refine WL.skip (by decide) rfl rfl ?_
      refine WL.skip (by decide) rfl rfl ?_
      refine WL.yldG (by decide) rfl (Yld.pickF rfl rfl) ?_
      refine WL.yldG (by decide) rfl (Yld.notB rfl) ?_
      refine WL.yld (by decide) (Yld.pickT rfl rfl) ?_
      refine WL.yld (by decide) (Yld.assign rfl) ?_
      refine WL.done (hK3 _ _ ?_)
      refine WC.ret ?_
      injection h with h; subst h
      exact Ret.fn [] (ResIs.one rfl rfl) rfl (Ext.refl _ _) rfl (by decide) rfl rfl ⟨rfl, rfl⟩
  · replace h := of_f hc4 h
    refine WL.yld (by decide) (Yld.fieldAddr Try.underlying26 rfl nz_24 rfl rfl) ?_
    refine WL.yld (by decide) (Yld.loadB (k := 102) scal_24 rfl rfl rfl) ?_
    refine WL.yld (by decide) (Yld.lenC (xs := x00_3) und_24 rfl (RdH.memM (k := 0) rfl hf00_3)) ?_
    refine WL.yld (by decide) (Yld.leq rfl rfl) ?_
    refine WL.yld (by decide) (Yld.move rfl) ?_
    refine WL.new (v' := .bool false) (congrArg Value.bool (decide_eq_false hc4)) ?_
    refine WL.skip (by decide) rfl rfl ?_
    refine WL.skip (by decide) rfl rfl ?_
    refine WL.skip (by decide) rfl rfl ?_
    refine WL.skipU (by decide) rfl ?_
    refine WL.skipU (by decide) rfl ?_
    refine WL.skipU (by decide) rfl ?_
    refine WL.skipU (by decide) rfl ?_
    refine WL.skip (by decide) rfl rfl ?_
    refine WL.skip (by decide) rfl rfl ?_
    refine WL.yld (by decide) (Yld.pickF rfl rfl) ?_
    refine WL.yld (by decide) (Yld.assign rfl) ?_
    refine WL.done (hK3 _ _ ?_)
    refine WC.ret ?_
    injection h with h; subst h
    exact Ret.fn [] (ResIs.one rfl rfl) rfl (Ext.refl _ _) rfl (by decide) rfl rfl ⟨rfl, rfl⟩

set_option maxRecDepth 10000 in
theorem w_needle_big (M0 : Mem) (A00 : Option Addr) (n00 c00 : Nat) (x00 : List (BitVec 8)) (hf00 : SlT M0 A00 n00 c00 x00) {res : (BitVec 64)} (h : m_needle_big x00 = some res) :
    Fn Try.prog 26 #[.slice A00 n00 c00] M0 fun r M' es => r = U64 res ∧ es = [] := by
  refine Fn.intro (N := 19) Try.func26 rfl rfl (Nat.le_of_ble_eq_true rfl) fun w0 => ?_
  unfold m_needle_big at h
  refine WC.seqRegion fun K1 hK1 => ?_
  refine WL.yld (by decide) (Yld.assign (v := U64 0#64) rfl) ?_
  refine WL.done (hK1 _ _ ?_)
  refine WC.seqRegion fun K2 hK2 => ?_
  refine WL.yld (by decide) (Yld.assign (v := U64 0#64) rfl) ?_
  refine WL.done (hK2 _ _ ?_)
  refine WC.seqCut (σ := (BitVec 64)) (fun x3 => [(3, U64 x3)]) (fun x3 => [(0, .mem M0)]) (fun x3 => m_needle_big_j0 x3 = some res) (fun K4 hK4 => ?_) ?_
  · skip
    refine WC.seqRegion fun K5 hK5 => ?_
    refine WL.yld (by decide) (Yld.move rfl) ?_
    refine WL.yld (by decide) (Yld.lenC (xs := x00) und_24 rfl (RdH.memM (k := 0) rfl hf00)) ?_
    refine WL.yld (by decide) (Yld.move rfl) ?_
    refine WL.done (hK5 _ _ ?_)
    refine WC.block ?_
    refine WC.loop (σ := Nat × (BitVec 64) × Int) (fun ⟨q8, x6, x7⟩ => [(3, U64 x6), (6, .slice A00 n00 c00), (7, I64 (x00.length : Int)), (8, I64 x7)]) (fun ⟨q8, x6, x7⟩ => [(0, .mem M0)]) (fun ⟨q8, x6, x7⟩ => m_needle_big_l1 x00 q8 x6 x7 = some res) (fun ⟨q8, x6, x7⟩ => q8) ⟨forever, 0#64, (0 : Int)⟩ ?_ (Sub.cons rfl (Sub.cons rfl (Sub.cons rfl (Sub.cons rfl (Sub.nil _))))) (Sub.cons rfl (Sub.nil _)) ?_
    · exact h
    rintro ⟨q8, x6, x7⟩ h K9 hK9
    cases q8 with
    | zero => exact absurd h (by simp [m_needle_big_l1])
    | succ q8 =>
      unfold m_needle_big_l1 at h
      refine WC.seqRegion fun K10 hK10 => ?_
      refine WL.yld (by decide) (Yld.lss rfl rfl) ?_
      refine WL.done (hK10 _ _ ?_)
      refine WC.seq fun K11 hK11 => ?_
      by_cases hc12 : x7 < (x00.length : Int)
      · replace h := of_t hc12 h
        refine WC.condTe rfl (decide_eq_true hc12) ?_
        refine WC.skip ?_
        refine QK.thenN (hK11 _ _ ?_)
        refine WC.seq fun K13 hK13 => ?_
        refine WC.block ?_
        refine WC.seqRegion fun K14 hK14 => ?_
        obtain ⟨x15, hx15, h⟩ := bnd h
        refine WL.yld (by decide) (Yld.idxC (xs := x00) sty_24 rfl rfl (RdH.memM (k := 0) rfl hf00) hx15) ?_
        refine WL.yld (by decide) (Yld.loadC0 (xs := x00) scal_5 rfl (RdH.memM (k := 0) rfl hf00) hx15 rfl) ?_
        refine WL.yld (by decide) (Yld.assign rfl) ?_
        refine WL.done (hK14 _ _ ?_)
        refine WC.region fun K16 hK16 => ?_
        refine WL.yld (by decide) (Yld.move rfl) ?_
        refine WL.yld (by decide) (Yld.shlU_u64 (a := x6) (m := 8) rfl rfl) ?_
        refine WL.yld (by decide) (Yld.move rfl) ?_
        refine WL.yld (by decide) (Yld.conv_u8_u64 (a := x15) some_5 und_22 rfl) ?_
        refine WL.yld (by decide) (Yld.or_u64 (a := (x6 <<< 8)) (b := (x15.setWidth 64)) rfl rfl) ?_
        refine WL.yld (by decide) (Yld.assign rfl) ?_
        refine WL.done (hK16 _ _ ?_)
        refine QK.blockN ?_
        refine QK.thenN (hK13 _ _ ?_)
        refine WC.region fun K17 hK17 => ?_
        obtain ⟨x18, hx18, h⟩ := bnd h
        refine WL.yld (by decide) (Yld.addC rfl rfl hx18) ?_
        refine WL.yld (by decide) (Yld.move rfl) ?_
        refine WL.done (hK17 _ _ ?_)
        refine QK.thenN ?_
        refine hK9 ⟨q8, (x6 <<< 8) ||| (x15.setWidth 64), x18⟩ _ _ ?_ (Nat.lt_succ_self _) (Sub.cons rfl (Sub.cons rfl (Sub.cons rfl (Sub.cons rfl (Sub.nil _))))) (Sub.cons rfl (Sub.nil _))
        exact h
      · replace h := of_f hc12 h
        refine WC.condFe rfl (decide_eq_false hc12) ?_
        refine WC.exit (QK.thenE (QK.thenE (QK.blockX ?_)))
        refine QK.thenN ?_
        refine hK4 x6 _ _ ?_ (Sub.cons rfl (Sub.nil _)) (Sub.cons rfl (Sub.nil _))
        exact h
  · rintro x3 h
    unfold m_needle_big_j0 at h
    refine WC.seqRegion fun K19 hK19 => ?_
    refine WL.yld (by decide) (Yld.move rfl) ?_
    refine WL.yld (by decide) (Yld.assign rfl) ?_
    refine WL.done (hK19 _ _ ?_)
    refine WC.ret ?_
    injection h with h; subst h
    exact Ret.fn [] (ResIs.one rfl rfl) rfl (Ext.refl _ _) rfl (by decide) rfl rfl ⟨rfl, rfl⟩

set_option maxRecDepth 10000 in
theorem w_r06_Value (M0 : Mem) (A00 : Option Addr) (n00 c00 : Nat) (x00 : List (BitVec 8)) (hf00 : SlT M0 A00 n00 c00 x00) {res : (BitVec 64)} (h : m_r06_Value x00 = some res) :
    Fn Try.prog 29 #[.slice A00 n00 c00] M0 fun r M' es => r = U64 res ∧ es = [] := by
  refine Fn.intro (N := 20) Try.func29 rfl rfl (Nat.le_of_ble_eq_true rfl) fun w0 => ?_
  unfold m_r06_Value at h
  refine WC.seqRegion fun K1 hK1 => ?_
  refine WL.yld (by decide) (Yld.assign (v := U64 0#64) rfl) ?_
  refine WL.done (hK1 _ _ ?_)
  refine WC.seqRegion fun K2 hK2 => ?_
  refine WL.yld (by decide) (Yld.assign (v := U64 0#64) rfl) ?_
  refine WL.done (hK2 _ _ ?_)
  refine WC.seqCut (σ := (BitVec 64)) (fun x3 => [(3, U64 x3)]) (fun x3 => [(0, .mem M0)]) (fun x3 => m_r06_Value_j0 x3 = some res) (fun K4 hK4 => ?_) ?_
  · skip
    refine WC.seqRegion fun K5 hK5 => ?_
    refine WL.yld (by decide) (Yld.assign rfl) ?_
    refine WL.done (hK5 _ _ ?_)
    refine WC.block ?_
    refine WC.loop (σ := Nat × (BitVec 64) × Int) (fun ⟨q8, x6, x7⟩ => [(0, .slice A00 n00 c00), (3, U64 x6), (4, I64 x7)]) (fun ⟨q8, x6, x7⟩ => [(0, .mem M0)]) (fun ⟨q8, x6, x7⟩ => m_r06_Value_l1 x00 q8 x6 x7 = some res) (fun ⟨q8, x6, x7⟩ => q8) ⟨forever, 0#64, (0 : Int)⟩ ?_ (Sub.cons rfl (Sub.cons rfl (Sub.cons rfl (Sub.nil _)))) (Sub.cons rfl (Sub.nil _)) ?_
    · exact h
    rintro ⟨q8, x6, x7⟩ h K9 hK9
    cases q8 with
    | zero => exact absurd h (by simp [m_r06_Value_l1])
    | succ q8 =>
      unfold m_r06_Value_l1 at h
      refine WC.seq fun K10 hK10 => ?_
      refine WC.seqRegion fun K11 hK11 => ?_
      refine WL.yld (by decide) (Yld.move rfl) ?_
      refine WL.yld (by decide) (Yld.move rfl) ?_
      refine WL.yld (by decide) (Yld.lenC (xs := x00) und_24 rfl (RdH.memM (k := 0) rfl hf00)) ?_
      refine WL.yld (by decide) (Yld.lss rfl rfl) ?_
      refine WL.done (hK11 _ _ ?_)
      by_cases hc12 : x7 < (x00.length : Int)
      · replace h := of_t hc12 h
        refine WC.condTe rfl (decide_eq_true hc12) ?_
        refine WC.skip ?_
        refine QK.thenN (hK10 _ _ ?_)
        refine WC.seq fun K13 hK13 => ?_
        refine WC.block ?_
        refine WC.region fun K14 hK14 => ?_
        obtain ⟨x15, hx15, h⟩ := bnd h
        refine WL.yld (by decide) (Yld.move rfl) ?_
        refine WL.yld (by decide) (Yld.shlU_u64 (a := x6) (m := 8) rfl rfl) ?_
        refine WL.yld (by decide) (Yld.move rfl) ?_
        refine WL.yld (by decide) (Yld.move rfl) ?_
        refine WL.yld (by decide) (Yld.idxC (xs := x00) sty_24 rfl rfl (RdH.memM (k := 0) rfl hf00) hx15) ?_
        refine WL.yld (by decide) (Yld.loadC0 (xs := x00) scal_5 rfl (RdH.memM (k := 0) rfl hf00) hx15 rfl) ?_
        refine WL.yld (by decide) (Yld.conv_u8_u64 (a := x15) some_5 und_22 rfl) ?_
        refine WL.yld (by decide) (Yld.or_u64 (a := (x6 <<< 8)) (b := (x15.setWidth 64)) rfl rfl) ?_
        refine WL.yld (by decide) (Yld.assign rfl) ?_
        refine WL.done (hK14 _ _ ?_)
        refine QK.blockN ?_
        refine QK.thenN (hK13 _ _ ?_)
        refine WC.region fun K16 hK16 => ?_
        obtain ⟨x17, hx17, h⟩ := bnd h
        refine WL.yld (by decide) (Yld.move rfl) ?_
        refine WL.yld (by decide) (Yld.addC rfl rfl hx17) ?_
        refine WL.yld (by decide) (Yld.assign rfl) ?_
        refine WL.done (hK16 _ _ ?_)
        refine QK.thenN ?_
        refine hK9 ⟨q8, (x6 <<< 8) ||| (x15.setWidth 64), x17⟩ _ _ ?_ (Nat.lt_succ_self _) (Sub.cons rfl (Sub.cons rfl (Sub.cons rfl (Sub.nil _)))) (Sub.cons rfl (Sub.nil _))
        exact h
      · replace h := of_f hc12 h
        refine WC.condFe rfl (decide_eq_false hc12) ?_
        refine WC.exit (QK.thenE (QK.thenE (QK.blockX ?_)))
        refine QK.thenN ?_
        refine hK4 x6 _ _ ?_ (Sub.cons rfl (Sub.nil _)) (Sub.cons rfl (Sub.nil _))
        exact h
  · rintro x3 h
    unfold m_r06_Value_j0 at h
    refine WC.seqRegion fun K18 hK18 => ?_
    refine WL.yld (by decide) (Yld.move rfl) ?_
    refine WL.yld (by decide) (Yld.assign rfl) ?_
    refine WL.done (hK18 _ _ ?_)
    refine WC.ret ?_
    injection h with h; subst h
    exact Ret.fn [] (ResIs.one rfl rfl) rfl (Ext.refl _ _) rfl (by decide) rfl rfl ⟨rfl, rfl⟩

set_option maxRecDepth 10000 in
theorem w_r06_Number (M0 : Mem) (x00 : BitVec 64) (x01 : Int) {res : (List (BitVec 8))} (h : m_r06_Number x00 x01 = some res) :
    Fn Try.prog 24 #[U64 x00, I64 x01] M0 fun r M' es => ∃ (A1 : Option Addr) (n1 c1 : Nat), r = .slice A1 n1 c1 ∧ es = [.own 5 (Lay.sz (BitVec 8)) A1 n1 c1 (cel res)] := by
  refine Fn.intro (N := 23) Try.func24 rfl rfl (Nat.le_of_ble_eq_true rfl) fun w0 => ?_
  unfold m_r06_Number at h
  refine WC.seqRegion fun K1 hK1 => ?_
  refine WL.yld (by decide) (Yld.assign rfl) ?_
  refine WL.done (hK1 _ _ ?_)
  refine WC.seqRegion fun K2 hK2 => ?_
  refine WL.yld (by decide) (Yld.assign rfl) ?_
  refine WL.done (hK2 _ _ ?_)
  refine WC.seqCut (σ := (Option Addr) × Nat × Nat × (List (BitVec 8))) (fun ⟨A5, n6, c7, x8⟩ => [(5, .slice A5 n6 c7)]) (fun ⟨A5, n6, c7, x8⟩ => [(0, .mem M0), (104, .own 5 (Lay.sz (BitVec 8)) A5 n6 c7 (cel x8))]) (fun ⟨A5, n6, c7, x8⟩ => m_r06_Number_j0 x8 = some res) (fun K9 hK9 => ?_) ?_
  · skip
    refine WC.seqRegion fun K10 hK10 => ?_
    obtain ⟨x11, hx11, h⟩ := bnd h
    refine WL.yld (by decide) (Yld.move rfl) ?_
    refine WL.yld (by decide) (Yld.subC rfl rfl hx11) ?_
    refine WL.yld (by decide) (Yld.assign rfl) ?_
    refine WL.done (hK10 _ _ ?_)
    refine WC.block ?_
    refine WC.nilOwn 113 5 (Lay.sz (BitVec 8)) none ?_
    refine WC.loop (σ := Nat × (Option Addr) × Nat × Nat × (List (BitVec 8)) × Int) (fun ⟨q19, A14, n15, c16, x17, x18⟩ => [(0, U64 x00), (5, .slice A14 n15 c16), (6, I64 x18)]) (fun ⟨q19, A14, n15, c16, x17, x18⟩ => [(0, .mem M0), (113, .own 5 (Lay.sz (BitVec 8)) A14 n15 c16 (cel x17))]) (fun ⟨q19, A14, n15, c16, x17, x18⟩ => m_r06_Number_l1 x00 q19 x17 x18 = some res) (fun ⟨q19, A14, n15, c16, x17, x18⟩ => q19) ⟨forever, none, 0, 0, ([] : List (BitVec 8)), x11⟩ ?_ (Sub.cons rfl (Sub.cons rfl (Sub.cons rfl (Sub.nil _)))) (Sub.cons rfl (Sub.cons rfl (Sub.nil _))) ?_
    · exact h
    rintro ⟨q19, A14, n15, c16, x17, x18⟩ h K20 hK20
    cases q19 with
    | zero => exact absurd h (by simp [m_r06_Number_l1])
    | succ q19 =>
      unfold m_r06_Number_l1 at h
      refine WC.seq fun K21 hK21 => ?_
      refine WC.seqRegion fun K22 hK22 => ?_
      refine WL.yld (by decide) (Yld.move rfl) ?_
      refine WL.yld (by decide) (Yld.geq rfl rfl) ?_
      refine WL.done (hK22 _ _ ?_)
      by_cases hc23 : (0 : Int) ≤ x18
      · replace h := of_t hc23 h
        refine WC.condTe rfl (decide_eq_true hc23) ?_
        refine WC.skip ?_
        refine QK.thenN (hK21 _ _ ?_)
        refine WC.seq fun K24 hK24 => ?_
        refine WC.block ?_
        refine WC.region fun K25 hK25 => ?_
        obtain ⟨x26, hx26, h⟩ := bnd h
        obtain ⟨x28, hx28, h⟩ := bnd h
        refine WL.yld (by decide) (Yld.move rfl) ?_
        refine WL.yld (by decide) (Yld.move rfl) ?_
        refine WL.yld (by decide) (Yld.move rfl) ?_
        refine WL.yld (by decide) (Yld.mulC rfl rfl hx26) ?_
        refine WL.yld (by decide) (Yld.conv_i64_u64 some_3 und_43 rfl) ?_
        refine WL.yld (by decide) (Yld.shrU_u64 (a := x00) (m := (BitVec.ofInt 64 x26).toNat) rfl rfl) ?_
        refine WL.yld (by decide) (Yld.conv_u64_u8 (a := (x00 >>> (BitVec.ofInt 64 x26).toNat)) some_22 und_5 rfl) ?_
        refine WL.eff (by decide) (Eff.buildC 127 ([(x00 >>> (BitVec.ofInt 64 x26).toNat).setWidth 8] : List (BitVec 8)) sty_24 rfl rfl rfl rfl rfl (by decide)) ?_
        rintro _ _ ⟨g27, rfl, rfl⟩
        refine WL.eff (by decide) (Eff.appendC 113 (xs := x17) (ys := ([(x00 >>> (BitVec.ofInt 64 x26).toNat).setWidth 8] : List (BitVec 8))) sty_24 rfl rfl rfl (RdH.own (k := 127) rfl) hx28) ?_
        rintro _ _ ⟨A29, c30, rfl, rfl⟩
        refine WL.yld (by decide) (Yld.assign rfl) ?_
        refine WL.done (hK25 _ _ ?_)
        refine QK.blockN ?_
        refine QK.thenN (hK24 _ _ ?_)
        refine WC.region fun K31 hK31 => ?_
        obtain ⟨x32, hx32, h⟩ := bnd h
        refine WL.yld (by decide) (Yld.move rfl) ?_
        refine WL.yld (by decide) (Yld.subC rfl rfl hx32) ?_
        refine WL.yld (by decide) (Yld.assign rfl) ?_
        refine WL.done (hK31 _ _ ?_)
        refine QK.thenN ?_
        refine hK20 ⟨q19, A29, x28.length, c30, x28, x32⟩ _ _ ?_ (Nat.lt_succ_self _) (Sub.cons rfl (Sub.cons rfl (Sub.cons rfl (Sub.nil _)))) (Sub.cons rfl (Sub.cons rfl (Sub.nil _)))
        exact h
      · replace h := of_f hc23 h
        refine WC.condFe rfl (decide_eq_false hc23) ?_
        refine WC.exit (QK.thenE (QK.thenE (QK.blockX ?_)))
        refine QK.thenN ?_
        refine KK.move 113 104 rfl rfl ?_
        refine hK9 ⟨A14, n15, c16, x17⟩ _ _ ?_ (Sub.cons rfl (Sub.nil _)) (Sub.cons rfl (Sub.cons rfl (Sub.nil _)))
        exact h
  · rintro ⟨A5, n6, c7, x8⟩ h
    unfold m_r06_Number_j0 at h
    refine WC.seqRegion fun K33 hK33 => ?_
    refine WL.yld (by decide) (Yld.move rfl) ?_
    refine WL.yld (by decide) (Yld.assign rfl) ?_
    refine WL.done (hK33 _ _ ?_)
    refine WC.ret ?_
    injection h with h; subst h
    exact Ret.fn [104] (ResIs.one rfl rfl) rfl (Ext.refl _ _) rfl (by decide) rfl rfl ⟨A5, n6, c7, rfl, rfl⟩

set_option maxRecDepth 10000 in
theorem w_r06_Check (M0 : Mem) (A00 : Option Addr) (n00 c00 : Nat) (x00 : List (BitVec 8)) (hf00 : SlT M0 A00 n00 c00 x00) {res : (List (BitVec 8))} (h : m_r06_Check x00 = some res) :
    Fn Try.prog 25 #[.slice A00 n00 c00] M0 fun r M' es => ∃ (A1 : Option Addr) (n1 c1 : Nat), r = .slice A1 n1 c1 ∧ es = [.own 5 (Lay.sz (BitVec 8)) A1 n1 c1 (cel res)] := by
  refine Fn.intro (N := 18) Try.func25 rfl rfl (Nat.le_of_ble_eq_true rfl) fun w0 => ?_
  unfold m_r06_Check at h
  refine WC.seqRegion fun K1 hK1 => ?_
  refine WL.yld (by decide) (Yld.assign rfl) ?_
  refine WL.done (hK1 _ _ ?_)
  refine WC.seqRegion fun K2 hK2 => ?_
  obtain ⟨x3, hx3, h⟩ := bnd h
  refine WL.yld (by decide) (Yld.move rfl) ?_
  refine WL.eff (by decide) (Eff.callS 104 rfl Try.func31 nm_31 rfl rfl (fun w hb hh => w_r01_Sum (Mem.snap w) A00 n00 c00 _ (RdH.sn (RdH.memM (k := 0) rfl hf00) w hb hh) hx3)) ?_
  rintro _ _ ⟨_, ⟨rfl, rfl⟩, rfl⟩
  refine WL.yld (by decide) (Yld.assign rfl) ?_
  refine WL.done (hK2 _ _ ?_)
  refine WC.seqRegion fun K5 hK5 => ?_
  refine WL.yld (by decide) (Yld.move rfl) ?_
  refine WL.yld (by decide) (Yld.conv_u32_u8 (a := x3) some_23 und_5 rfl) ?_
  refine WL.yld (by decide) (Yld.move rfl) ?_
  refine WL.yld (by decide) (Yld.shrU_u32 (a := x3) (m := 8) rfl rfl) ?_
  refine WL.yld (by decide) (Yld.conv_u32_u8 (a := (x3 >>> 8)) some_23 und_5 rfl) ?_
  refine WL.yld (by decide) (Yld.move rfl) ?_
  refine WL.yld (by decide) (Yld.shrU_u32 (a := x3) (m := 16) rfl rfl) ?_
  refine WL.yld (by decide) (Yld.conv_u32_u8 (a := (x3 >>> 16)) some_23 und_5 rfl) ?_
  refine WL.yld (by decide) (Yld.move rfl) ?_
  refine WL.yld (by decide) (Yld.shrU_u32 (a := x3) (m := 24) rfl rfl) ?_
  refine WL.yld (by decide) (Yld.conv_u32_u8 (a := (x3 >>> 24)) some_23 und_5 rfl) ?_
  refine WL.eff (by decide) (Eff.buildC 106 ([x3.setWidth 8, (x3 >>> 8).setWidth 8, (x3 >>> 16).setWidth 8, (x3 >>> 24).setWidth 8] : List (BitVec 8)) sty_24 rfl rfl rfl rfl rfl (by decide)) ?_
  rintro _ _ ⟨g6, rfl, rfl⟩
  refine WL.yld (by decide) (Yld.assign rfl) ?_
  refine WL.done (hK5 _ _ ?_)
  refine WC.ret ?_
  injection h with h; subst h
  exact Ret.fn [106] (ResIs.one rfl rfl) rfl (Ext.refl _ _) rfl (by decide) rfl rfl ⟨(some ⟨g6, 0, none⟩), ([x3.setWidth 8, (x3 >>> 8).setWidth 8, (x3 >>> 16).setWidth 8, (x3 >>> 24).setWidth 8] : List (BitVec 8)).length, ([x3.setWidth 8, (x3 >>> 8).setWidth 8, (x3 >>> 16).setWidth 8, (x3 >>> 24).setWidth 8] : List (BitVec 8)).length, rfl, rfl⟩

end Go.Proofs.Ytclhepegfmhmjaa
