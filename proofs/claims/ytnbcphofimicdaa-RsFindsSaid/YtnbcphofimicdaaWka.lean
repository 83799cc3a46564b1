/-
 Walks (a): what a function's model gives, the function returns. Printed by a program of ours (vcm.py) from the function's operations. Conditions: as each theorem says.
-/
import Derived.Test.YtnbcphofimicdaaX13
import Derived.Test.YtnbcphofimicdaaProg
import Derived.Test.YtnbcphofimicdaaMda
namespace Go.Proofs.Ytnbcphofimicdaa
open Go Go.RowKit
set_option linter.unusedVariables false

theorem und_22 : Try.prog.underlying 22 = some (.slice 5) := by kernel_rfl
theorem und_3 : Try.prog.underlying 3 = some (.int .i64) := by kernel_rfl
theorem und_47 : Try.prog.underlying 47 = some (.int .u64) := by kernel_rfl
theorem und_5 : Try.prog.underlying 5 = some (.int .u8) := by kernel_rfl
theorem und_89 : Try.prog.underlying 89 = some (.array 510 5) := by kernel_rfl
theorem und_90 : Try.prog.underlying 90 = some (.array 256 3) := by kernel_rfl
theorem agg_89 : Agg Try.prog 89 510 := ⟨⟨_, Try.underlying89, rfl⟩, by kernel_rfl⟩
theorem agg_90 : Agg Try.prog 90 256 := ⟨⟨_, Try.underlying90, rfl⟩, by kernel_rfl⟩
theorem mixed : Try.prog.follows .mixedOrders = true := by kernel_rfl
theorem nm_56 : (Try.f56.name == "runtime.NumGoroutine") = false := by kernel_rfl
theorem nm_61 : (Try.f61.name == "runtime.NumGoroutine") = false := by kernel_rfl
theorem nm_64 : (Try.f64.name == "runtime.NumGoroutine") = false := by kernel_rfl
theorem scal_3 : scal Try.prog 3 = true := by kernel_rfl
theorem scal_5 : scal Try.prog 5 = true := by kernel_rfl
theorem siz_3 : (Try.prog.info? 3).map (·.size) = some 1 := by kernel_rfl
theorem siz_5 : (Try.prog.info? 5).map (·.size) = some 1 := by kernel_rfl
theorem some_3 : (Try.prog.underlying 3).isSome = true := by kernel_rfl
theorem some_5 : (Try.prog.underlying 5).isSome = true := by kernel_rfl
theorem sty_22 : STy Try.prog 22 5 (U8 0#8) 1 1 := STy.of und_22 (by kernel_rfl) rfl
theorem zr_89 : (Try.prog.info? 89).map (fun i => i.zero.map (·.cells)) = some (some (cel (List.replicate 510 (0#8))).toArray) := by kernel_rfl
theorem zr_90 : (Try.prog.info? 90).map (fun i => i.zero.map (·.cells)) = some (some (cel (List.replicate 256 ((0 : Int)))).toArray) := by kernel_rfl

set_option maxRecDepth 10000 in
theorem w_gf256_Mul (M0 : Mem) (x00 : BitVec 8) (x01 : BitVec 8) {res : (BitVec 8)} (h : m_gf256_Mul x00 x01 = some res) :
  Fn Try.prog 54 #[U8 x00, U8 x01] M0 fun r M' es => r = U8 res ∧ es = [] := by
 refine Fn.intro (N := 28) Try.func54 rfl rfl (Nat.le_of_ble_eq_true rfl) fun w0 => ?_
 unfold m_gf256_Mul at h
 refine WC.seqRegion fun K1 hK1 => ?_
 refine WL.yld (by decide) (Yld.assign (v := U8 0#8) rfl) ?_
 refine WL.done (hK1 _ _ ?_)
 refine WC.seqRegion fun K2 hK2 => ?_
 refine WL.yld (by decide) (Yld.move rfl) ?_
 refine WL.yld (by decide) (Yld.conv_u8_i64 (a := x00) some_5 und_3 rfl) ?_
 refine WL.yld (by decide) (Yld.assign rfl) ?_
 refine WL.yld (by decide) (Yld.assign rfl) ?_
 refine WL.done (hK2 _ _ ?_)
 refine WC.seqCut (σ := Int) (fun x3 => [(5, I64 x3)]) (fun x3 => [(0, .mem M0)]) (fun x3 => m_gf256_Mul_j0 x3 = some res) (fun K4 hK4 => ?_) ?_
 ·
  skip
  refine WC.block ?_
  refine WC.loop (σ := Nat × (BitVec 8) × Int × Int) (fun ⟨q8, x5, x6, x7⟩ => [(1, U8 x5), (5, I64 x6), (6, I64 x7)]) (fun ⟨q8, x5, x6, x7⟩ => [(0, .mem M0)]) (fun ⟨q8, x5, x6, x7⟩ => m_gf256_Mul_l1 q8 x5 x6 x7 = some res) (fun ⟨q8, x5, x6, x7⟩ => q8) ⟨forever, x01, (0 : Int), (x00.toNat : Int)⟩ ?_ (Sub.cons rfl (Sub.cons rfl (Sub.cons rfl (Sub.nil _)))) (Sub.cons rfl (Sub.nil _)) ?_
  ·
   exact h
  rintro ⟨q8, x5, x6, x7⟩ h K9 hK9
  cases q8 with
  | zero => exact absurd h (by simp [m_gf256_Mul_l1])
  | succ q8 =>
   unfold m_gf256_Mul_l1 at h
   refine WC.seq fun K10 hK10 => ?_
   refine WC.seqRegion fun K11 hK11 => ?_
   refine WL.yld (by decide) (Yld.move rfl) ?_
   refine WL.yld (by decide) (Yld.neq_u8 (a := x5) (b := 0#8) rfl rfl) ?_
   refine WL.done (hK11 _ _ ?_)
   by_cases hc12 : x5 = 0#8
   ·
    replace h := of_t hc12 h
    refine WC.condFe rfl (bne_eq_false_iff_eq.2 hc12) ?_
    refine WC.exit (QK.thenE (QK.thenE (QK.blockX ?_)))
    refine QK.thenN ?_
    refine hK4 x6 _ _ ?_ (Sub.cons rfl (Sub.nil _)) (Sub.cons rfl (Sub.nil _))
    exact h
   ·
    replace h := of_f hc12 h
    refine WC.condTe rfl (bne_iff_ne.2 hc12) ?_
    refine WC.skip ?_
    refine QK.thenN (hK10 _ _ ?_)
    refine WC.seq fun K13 hK13 => ?_
    refine WC.block ?_
    refine WC.seq fun K14 hK14 => ?_
    refine WC.seqRegion fun K15 hK15 => ?_
    refine WL.yld (by decide) (Yld.move rfl) ?_
    refine WL.yld (by decide) (Yld.and_u8 (a := x5) (b := 1#8) rfl rfl) ?_
    refine WL.yld (by decide) (Yld.eql_u8 (a := (x5 &&& 1#8)) (b := 1#8) rfl rfl) ?_
    refine WL.done (hK15 _ _ ?_)
    by_cases hc16 : (x5 &&& 1#8) = 1#8
    ·
     replace h := of_t hc16 h
     refine WC.condTe rfl (beq_iff_eq.2 hc16) ?_
     refine WC.region fun K17 hK17 => ?_
     refine WL.yld (by decide) (Yld.move rfl) ?_
     refine WL.yld (by decide) (Yld.move rfl) ?_
     refine WL.yld (by decide) (Yld.xorC rfl rfl) ?_
     refine WL.yld (by decide) (Yld.assign rfl) ?_
     refine WL.done (hK17 _ _ ?_)
     refine QK.thenN (hK14 _ _ ?_)
     refine WC.seqRegion fun K18 hK18 => ?_
     obtain ⟨x19, hx19, h⟩ := bnd h
     refine WL.yld (by decide) (Yld.move rfl) ?_
     refine WL.yld (by decide) (Yld.shlC rfl rfl hx19) ?_
     refine WL.yld (by decide) (Yld.assign rfl) ?_
     refine WL.done (hK18 _ _ ?_)
     refine WC.seqRegion fun K20 hK20 => ?_
     obtain ⟨x21, hx21, h⟩ := bnd h
     refine WL.yld (by decide) (Yld.move rfl) ?_
     refine WL.yld (by decide) (Yld.shrC rfl rfl hx21) ?_
     refine WL.yld (by decide) (Yld.eqlI rfl rfl) ?_
     refine WL.done (hK20 _ _ ?_)
     by_cases hc22 : x21 = (1 : Int)
     ·
      replace h := of_t hc22 h
      refine WC.condTe rfl (beq_iff_eq.2 hc22) ?_
      refine WC.region fun K23 hK23 => ?_
      refine WL.yld (by decide) (Yld.move rfl) ?_
      refine WL.yld (by decide) (Yld.xorC rfl rfl) ?_
      refine WL.yld (by decide) (Yld.assign rfl) ?_
      refine WL.done (hK23 _ _ ?_)
      refine QK.blockN ?_
      refine QK.thenN (hK13 _ _ ?_)
      refine WC.region fun K24 hK24 => ?_
      refine WL.yld (by decide) (Yld.move rfl) ?_
      refine WL.yld (by decide) (Yld.shrU_u8 (a := x5) (m := 1) rfl rfl) ?_
      refine WL.yld (by decide) (Yld.assign rfl) ?_
      refine WL.done (hK24 _ _ ?_)
      refine QK.thenN ?_
      refine hK9 ⟨q8, x5 >>> 1, xori x6 x7, xori x19 (285 : Int)⟩ _ _ ?_ (Nat.lt_succ_self _) (Sub.cons rfl (Sub.cons rfl (Sub.cons rfl (Sub.nil _)))) (Sub.cons rfl (Sub.nil _))
      exact h
     ·
      replace h := of_f hc22 h
      refine WC.condFe rfl (beq_eq_false_iff_ne.2 hc22) ?_
      refine WC.skip ?_
      refine QK.blockN ?_
      refine QK.thenN (hK13 _ _ ?_)
      refine WC.region fun K25 hK25 => ?_
      refine WL.yld (by decide) (Yld.move rfl) ?_
      refine WL.yld (by decide) (Yld.shrU_u8 (a := x5) (m := 1) rfl rfl) ?_
      refine WL.yld (by decide) (Yld.assign rfl) ?_
      refine WL.done (hK25 _ _ ?_)
      refine QK.thenN ?_
      refine hK9 ⟨q8, x5 >>> 1, xori x6 x7, x19⟩ _ _ ?_ (Nat.lt_succ_self _) (Sub.cons rfl (Sub.cons rfl (Sub.cons rfl (Sub.nil _)))) (Sub.cons rfl (Sub.nil _))
      exact h
    ·
     replace h := of_f hc16 h
     refine WC.condFe rfl (beq_eq_false_iff_ne.2 hc16) ?_
     refine WC.skip ?_
     refine QK.thenN (hK14 _ _ ?_)
     refine WC.seqRegion fun K26 hK26 => ?_
     obtain ⟨x27, hx27, h⟩ := bnd h
     refine WL.yld (by decide) (Yld.move rfl) ?_
     refine WL.yld (by decide) (Yld.shlC rfl rfl hx27) ?_
     refine WL.yld (by decide) (Yld.assign rfl) ?_
     refine WL.done (hK26 _ _ ?_)
     refine WC.seqRegion fun K28 hK28 => ?_
     obtain ⟨x29, hx29, h⟩ := bnd h
     refine WL.yld (by decide) (Yld.move rfl) ?_
     refine WL.yld (by decide) (Yld.shrC rfl rfl hx29) ?_
     refine WL.yld (by decide) (Yld.eqlI rfl rfl) ?_
     refine WL.done (hK28 _ _ ?_)
     by_cases hc30 : x29 = (1 : Int)
     ·
      replace h := of_t hc30 h
      refine WC.condTe rfl (beq_iff_eq.2 hc30) ?_
      refine WC.region fun K31 hK31 => ?_
      refine WL.yld (by decide) (Yld.move rfl) ?_
      refine WL.yld (by decide) (Yld.xorC rfl rfl) ?_
      refine WL.yld (by decide) (Yld.assign rfl) ?_
      refine WL.done (hK31 _ _ ?_)
      refine QK.blockN ?_
      refine QK.thenN (hK13 _ _ ?_)
      refine WC.region fun K32 hK32 => ?_
      refine WL.yld (by decide) (Yld.move rfl) ?_
      refine WL.yld (by decide) (Yld.shrU_u8 (a := x5) (m := 1) rfl rfl) ?_
      refine WL.yld (by decide) (Yld.assign rfl) ?_
      refine WL.done (hK32 _ _ ?_)
      refine QK.thenN ?_
      refine hK9 ⟨q8, x5 >>> 1, x6, xori x27 (285 : Int)⟩ _ _ ?_ (Nat.lt_succ_self _) (Sub.cons rfl (Sub.cons rfl (Sub.cons rfl (Sub.nil _)))) (Sub.cons rfl (Sub.nil _))
      exact h
     ·
      replace h := of_f hc30 h
      refine WC.condFe rfl (beq_eq_false_iff_ne.2 hc30) ?_
      refine WC.skip ?_
      refine QK.blockN ?_
      refine QK.thenN (hK13 _ _ ?_)
      refine WC.region fun K33 hK33 => ?_
      refine WL.yld (by decide) (Yld.move rfl) ?_
      refine WL.yld (by decide) (Yld.shrU_u8 (a := x5) (m := 1) rfl rfl) ?_
      refine WL.yld (by decide) (Yld.assign rfl) ?_
      refine WL.done (hK33 _ _ ?_)
      refine QK.thenN ?_
      refine hK9 ⟨q8, x5 >>> 1, x6, x27⟩ _ _ ?_ (Nat.lt_succ_self _) (Sub.cons rfl (Sub.cons rfl (Sub.cons rfl (Sub.nil _)))) (Sub.cons rfl (Sub.nil _))
      exact h
 ·
  rintro x3 h
  unfold m_gf256_Mul_j0 at h
  refine WC.seqRegion fun K34 hK34 => ?_
  refine WL.yld (by decide) (Yld.move rfl) ?_
  refine WL.yld (by decide) (Yld.conv_i64_u8 some_3 und_5 rfl) ?_
  refine WL.yld (by decide) (Yld.assign rfl) ?_
  refine WL.done (hK34 _ _ ?_)
  refine WC.ret ?_
  injection h with h; subst h
  exact Ret.fn [] (ResIs.one rfl rfl) rfl (Ext.refl _ _) rfl (by decide) rfl rfl ⟨rfl, rfl⟩

set_option maxRecDepth 10000 in
theorem w_gf256_tables (M0 : Mem)  {res : (List (BitVec 8)) × (List (Int))} (h : m_gf256_tables = some res) :
  Fn Try.prog 61 #[] M0 fun r M' es => r = .tuple #[.agg (cel res.1).toArray, .agg (cel res.2).toArray] ∧ es = [] ∧ (res.1).length = 510 ∧ (res.2).length = 256 := by
 refine Fn.intro (N := 29) Try.func61 rfl rfl (Nat.le_of_ble_eq_true rfl) fun w0 => ?_
 unfold m_gf256_tables at h
 refine WC.seqRegion fun K1 hK1 => ?_
 refine WL.eff (by decide) (Eff.alloc 102 rfl zr_89) ?_
 rintro _ _ ⟨g2, rfl, rfl⟩
 refine WL.eff (by decide) (Eff.alloc 103 rfl zr_90) ?_
 rintro _ _ ⟨g3, rfl, rfl⟩
 refine WL.done (hK1 _ _ ?_)
 refine WC.seqRegion fun K4 hK4 => ?_
 refine WL.yld (by decide) (Yld.assign rfl) ?_
 refine WL.done (hK4 _ _ ?_)
 refine WC.seqCut (σ := (List (BitVec 8)) × (List (Int))) (fun ⟨x5, x7⟩ => [(0, .pointer (some ⟨g2, 0, none⟩)), (1, .pointer (some ⟨g3, 0, none⟩))]) (fun ⟨x5, x7⟩ => [(0, .mem M0), (102, .blk g2 89 (cel x5)), (103, .blk g3 90 (cel x7))]) (fun ⟨x5, x7⟩ => m_gf256_tables_j0 x5 x7 = some res ∧ x5.length = 510 ∧ x7.length = 256) (fun K9 hK9 => ?_) ?_
 ·
  skip
  refine WC.seqRegion fun K10 hK10 => ?_
  refine WL.yld (by decide) (Yld.move rfl) ?_
  refine WL.done (hK10 _ _ ?_)
  refine WC.block ?_
  refine WC.loop (σ := Nat × (List (BitVec 8)) × (List (Int)) × Int × Int) (fun ⟨q17, x11, x13, x15, x16⟩ => [(0, .pointer (some ⟨g2, 0, none⟩)), (1, .pointer (some ⟨g3, 0, none⟩)), (2, I64 x15), (4, I64 x16)]) (fun ⟨q17, x11, x13, x15, x16⟩ => [(0, .mem M0), (102, .blk g2 89 (cel x11)), (103, .blk g3 90 (cel x13))]) (fun ⟨q17, x11, x13, x15, x16⟩ => m_gf256_tables_l1 q17 x11 x13 x15 x16 = some res ∧ x11.length = 510 ∧ x13.length = 256) (fun ⟨q17, x11, x13, x15, x16⟩ => q17) ⟨forever, (List.replicate 510 (0#8)), (List.replicate 256 ((0 : Int))), (1 : Int), (0 : Int)⟩ ?_ (Sub.cons rfl (Sub.cons rfl (Sub.cons rfl (Sub.cons rfl (Sub.nil _))))) (Sub.cons rfl (Sub.cons rfl (Sub.cons rfl (Sub.nil _)))) ?_
  ·
   exact ⟨h, List.length_replicate, List.length_replicate⟩
  rintro ⟨q17, x11, x13, x15, x16⟩ ⟨h, hl12, hl14⟩ K18 hK18
  cases q17 with
  | zero => exact absurd h (by simp [m_gf256_tables_l1])
  | succ q17 =>
   unfold m_gf256_tables_l1 at h
   refine WC.seqRegion fun K19 hK19 => ?_
   refine WL.yld (by decide) (Yld.lss rfl rfl) ?_
   refine WL.done (hK19 _ _ ?_)
   refine WC.seq fun K20 hK20 => ?_
   by_cases hc21 : x16 < (255 : Int)
   ·
    replace h := of_t hc21 h
    refine WC.condTe rfl (decide_eq_true hc21) ?_
    refine WC.skip ?_
    refine QK.thenN (hK20 _ _ ?_)
    refine WC.seq fun K22 hK22 => ?_
    refine WC.block ?_
    refine WC.seqRegion fun K23 hK23 => ?_
    refine WL.yld (by decide) (Yld.move rfl) ?_
    refine WL.yld (by decide) (Yld.assign rfl) ?_
    refine WL.done (hK23 _ _ ?_)
    refine WC.seqRegion fun K24 hK24 => ?_
    obtain ⟨x25, hx25, h⟩ := bnd h
    obtain ⟨x26, hx26, h⟩ := bnd h
    obtain ⟨x27, hx27, h⟩ := bnd h
    obtain ⟨x28, hx28, h⟩ := bnd h
    obtain ⟨x29, hx29, h⟩ := bnd h
    refine WL.yld (by decide) (Yld.move rfl) ?_
    refine WL.yld (by decide) (Yld.move rfl) ?_
    refine WL.yld (by decide) (Yld.addC rfl rfl hx25) ?_
    refine WL.yld (by decide) (Yld.move rfl) ?_
    refine WL.yld (by decide) (Yld.conv_i64_u8 some_3 und_5 rfl) ?_
    refine WL.yld (by decide) (Yld.move rfl) ?_
    refine WL.yld (by decide) (Yld.conv_i64_u8 some_3 und_5 rfl) ?_
    refine WL.yld (by decide) (Yld.idxArrC (xs := x11) und_89 rfl rfl rfl hl12 hx26) ?_
    refine WL.eff0 (Eff0.storeArrC 102 (xs := x11) (a' := BitVec.ofInt 8 x15) siz_5 rfl rfl rfl rfl rfl rfl hx27) ?_
    refine WL.yld (by decide) (Yld.idxArrC (xs := x27) und_89 rfl rfl rfl (upd_len hx27 hl12) hx28) ?_
    refine WL.eff0 (Eff0.storeArrC 102 (xs := x27) (a' := BitVec.ofInt 8 x15) siz_5 rfl rfl rfl rfl rfl rfl hx29) ?_
    refine WL.done (hK24 _ _ ?_)
    refine WC.seqRegion fun K30 hK30 => ?_
    obtain ⟨x31, hx31, h⟩ := bnd h
    obtain ⟨x32, hx32, h⟩ := bnd h
    refine WL.yld (by decide) (Yld.move rfl) ?_
    refine WL.yld (by decide) (Yld.move rfl) ?_
    refine WL.yld (by decide) (Yld.idxArrC (xs := x13) und_90 rfl rfl rfl hl14 hx31) ?_
    refine WL.eff0 (Eff0.storeArrC 103 (xs := x13) (a' := x16) siz_3 rfl rfl rfl rfl rfl rfl hx32) ?_
    refine WL.done (hK30 _ _ ?_)
    refine WC.seqRegion fun K33 hK33 => ?_
    obtain ⟨x34, hx34, h⟩ := bnd h
    refine WL.yld (by decide) (Yld.move rfl) ?_
    refine WL.yld (by decide) (Yld.shlC rfl rfl hx34) ?_
    refine WL.yld (by decide) (Yld.assign rfl) ?_
    refine WL.done (hK33 _ _ ?_)
    refine WC.seqRegion fun K35 hK35 => ?_
    obtain ⟨x36, hx36, h⟩ := bnd h
    refine WL.yld (by decide) (Yld.move rfl) ?_
    refine WL.yld (by decide) (Yld.shrC rfl rfl hx36) ?_
    refine WL.yld (by decide) (Yld.eqlI rfl rfl) ?_
    refine WL.done (hK35 _ _ ?_)
    by_cases hc37 : x36 = (1 : Int)
    ·
     replace h := of_t hc37 h
     refine WC.condTe rfl (beq_iff_eq.2 hc37) ?_
     refine WC.region fun K38 hK38 => ?_
     refine WL.yld (by decide) (Yld.move rfl) ?_
     refine WL.yld (by decide) (Yld.xorC rfl rfl) ?_
     refine WL.yld (by decide) (Yld.assign rfl) ?_
     refine WL.done (hK38 _ _ ?_)
     refine QK.blockN ?_
     refine QK.thenN (hK22 _ _ ?_)
     refine WC.region fun K39 hK39 => ?_
     obtain ⟨x40, hx40, h⟩ := bnd h
     refine WL.yld (by decide) (Yld.addC rfl rfl hx40) ?_
     refine WL.yld (by decide) (Yld.move rfl) ?_
     refine WL.done (hK39 _ _ ?_)
     refine QK.thenN ?_
     refine hK18 ⟨q17, x29, x32, xori x34 (285 : Int), x40⟩ _ _ ?_ (Nat.lt_succ_self _) (Sub.cons rfl (Sub.cons rfl (Sub.cons rfl (Sub.cons rfl (Sub.nil _))))) (Sub.cons rfl (Sub.cons rfl (Sub.cons rfl (Sub.nil _))))
     exact ⟨h, (upd_len hx29 (upd_len hx27 hl12)), (upd_len hx32 hl14)⟩
    ·
     replace h := of_f hc37 h
     refine WC.condFe rfl (beq_eq_false_iff_ne.2 hc37) ?_
     refine WC.skip ?_
     refine QK.blockN ?_
     refine QK.thenN (hK22 _ _ ?_)
     refine WC.region fun K41 hK41 => ?_
     obtain ⟨x42, hx42, h⟩ := bnd h
     refine WL.yld (by decide) (Yld.addC rfl rfl hx42) ?_
     refine WL.yld (by decide) (Yld.move rfl) ?_
     refine WL.done (hK41 _ _ ?_)
     refine QK.thenN ?_
     refine hK18 ⟨q17, x29, x32, x34, x42⟩ _ _ ?_ (Nat.lt_succ_self _) (Sub.cons rfl (Sub.cons rfl (Sub.cons rfl (Sub.cons rfl (Sub.nil _))))) (Sub.cons rfl (Sub.cons rfl (Sub.cons rfl (Sub.nil _))))
     exact ⟨h, (upd_len hx29 (upd_len hx27 hl12)), (upd_len hx32 hl14)⟩
   ·
    replace h := of_f hc21 h
    refine WC.condFe rfl (decide_eq_false hc21) ?_
    refine WC.exit (QK.thenE (QK.thenE (QK.blockX ?_)))
    refine QK.thenN ?_
    refine hK9 ⟨x11, x13⟩ _ _ ?_ (Sub.cons rfl (Sub.cons rfl (Sub.nil _))) (Sub.cons rfl (Sub.cons rfl (Sub.cons rfl (Sub.nil _))))
    exact ⟨h, hl12, hl14⟩
 ·
  rintro ⟨x5, x7⟩ ⟨h, hl6, hl8⟩
  unfold m_gf256_tables_j0 at h
  refine WC.seqRegionD (n := 4) [(0, _)] rfl mixed (Sub.cons rfl (Sub.nil _)) fun K43 hK43 => ?_
  refine WD.two 0 1 (by kernel_rfl) ?_ ?_
  ·
   skip
   refine WS.yld rfl (by decide) (Yld.loadBM (k := 102) agg_89 rfl rfl (cel_len1 rfl hl6)) ?_
   refine WD.two 1 2 (by kernel_rfl) ?_ ?_
   ·
    skip
    refine WS.yld rfl (by decide) (Yld.loadBM (k := 103) agg_90 rfl rfl (cel_len1 rfl hl8)) ?_
    refine WD.one 2 (by kernel_rfl) ?_
    refine WS.eff0 rfl (Eff0.storeBAM 102 agg_89 rfl rfl rfl ⟨cel_len1 rfl hl6, cel_len1 rfl hl6⟩ (cel_all _)) (Sub.cons rfl (Sub.nil _)) ?_
    refine WD.one 3 (by kernel_rfl) ?_
    refine WS.eff0 rfl (Eff0.storeBAM 103 agg_90 rfl rfl rfl ⟨cel_len1 rfl hl8, cel_len1 rfl hl8⟩ (cel_all _)) (Sub.cons rfl (Sub.nil _)) ?_
    refine WD.done (by kernel_rfl) (hK43 _ _ ?_)
    refine WC.ret ?_
    injection h with h; subst h
    exact Ret.fn [] (ResIs.cell2M (k := 102) (k' := 103) rfl agg_89 agg_90 rfl rfl rfl rfl (cel_len1 rfl hl6) (cel_len1 rfl hl8)) rfl (Ext.refl _ _) rfl (by decide) rfl rfl ⟨rfl, rfl, hl6, hl8⟩
   ·
    skip
    refine WS.eff0 rfl (Eff0.storeBAM 102 agg_89 rfl rfl rfl ⟨cel_len1 rfl hl6, cel_len1 rfl hl6⟩ (cel_all _)) (Sub.cons rfl (Sub.nil _)) ?_
    refine WD.one 1 (by kernel_rfl) ?_
    refine WS.yld rfl (by decide) (Yld.loadBM (k := 103) agg_90 rfl rfl (cel_len1 rfl hl8)) ?_
    refine WD.one 3 (by kernel_rfl) ?_
    refine WS.eff0 rfl (Eff0.storeBAM 103 agg_90 rfl rfl rfl ⟨cel_len1 rfl hl8, cel_len1 rfl hl8⟩ (cel_all _)) (Sub.cons rfl (Sub.nil _)) ?_
    refine WD.done (by kernel_rfl) (hK43 _ _ ?_)
    refine WC.ret ?_
    injection h with h; subst h
    exact Ret.fn [] (ResIs.cell2M (k := 102) (k' := 103) rfl agg_89 agg_90 rfl rfl rfl rfl (cel_len1 rfl hl6) (cel_len1 rfl hl8)) rfl (Ext.refl _ _) rfl (by decide) rfl rfl ⟨rfl, rfl, hl6, hl8⟩
  ·
   skip
   refine WS.yld rfl (by decide) (Yld.loadBM (k := 103) agg_90 rfl rfl (cel_len1 rfl hl8)) ?_
   refine WD.one 0 (by kernel_rfl) ?_
   refine WS.yld rfl (by decide) (Yld.loadBM (k := 102) agg_89 rfl rfl (cel_len1 rfl hl6)) ?_
   refine WD.one 2 (by kernel_rfl) ?_
   refine WS.eff0 rfl (Eff0.storeBAM 102 agg_89 rfl rfl rfl ⟨cel_len1 rfl hl6, cel_len1 rfl hl6⟩ (cel_all _)) (Sub.cons rfl (Sub.nil _)) ?_
   refine WD.one 3 (by kernel_rfl) ?_
   refine WS.eff0 rfl (Eff0.storeBAM 103 agg_90 rfl rfl rfl ⟨cel_len1 rfl hl8, cel_len1 rfl hl8⟩ (cel_all _)) (Sub.cons rfl (Sub.nil _)) ?_
   refine WD.done (by kernel_rfl) (hK43 _ _ ?_)
   refine WC.ret ?_
   injection h with h; subst h
   exact Ret.fn [] (ResIs.cell2M (k := 102) (k' := 103) rfl agg_89 agg_90 rfl rfl rfl rfl (cel_len1 rfl hl6) (cel_len1 rfl hl8)) rfl (Ext.refl _ _) rfl (by decide) rfl rfl ⟨rfl, rfl, hl6, hl8⟩

set_option maxRecDepth 10000 in
theorem w_gf256_within (M0 : Mem) (x00 : Int) {res : Int} (h : m_gf256_within x00 = some res) :
  Fn Try.prog 64 #[I64 x00] M0 fun r M' es => r = I64 res ∧ es = [] := by
 refine Fn.intro (N := 7) Try.func64 rfl rfl (Nat.le_of_ble_eq_true rfl) fun w0 => ?_
 unfold m_gf256_within at h
 refine WC.seqRegion fun K1 hK1 => ?_
 refine WL.yld (by decide) (Yld.assign rfl) ?_
 refine WL.done (hK1 _ _ ?_)
 refine WC.seqRegion fun K2 hK2 => ?_
 obtain ⟨x3, hx3, h⟩ := bnd h
 obtain ⟨x4, hx4, h⟩ := bnd h
 obtain ⟨x5, hx5, h⟩ := bnd h
 refine WL.yld (by decide) (Yld.move rfl) ?_
 refine WL.yld (by decide) (Yld.remC rfl rfl hx3) ?_
 refine WL.yld (by decide) (Yld.addC rfl rfl hx4) ?_
 refine WL.yld (by decide) (Yld.remC rfl rfl hx5) ?_
 refine WL.yld (by decide) (Yld.assign rfl) ?_
 refine WL.done (hK2 _ _ ?_)
 refine WC.ret ?_
 injection h with h; subst h
 exact Ret.fn [] (ResIs.one rfl rfl) rfl (Ext.refl _ _) rfl (by decide) rfl rfl ⟨rfl, rfl⟩

set_option maxRecDepth 10000 in
theorem w_gf256_Inv (M0 : Mem) (x00 : BitVec 8) {res : (BitVec 8) × Int} (h : m_gf256_Inv x00 = some res) :
  Fn Try.prog 39 #[U8 x00] M0 fun r M' es => r = .tuple #[U8 res.1, I64 res.2] ∧ es = [] := by
 refine Fn.intro (N := 18) Try.func39 rfl rfl (Nat.le_of_ble_eq_true rfl) fun w0 => ?_
 unfold m_gf256_Inv at h
 refine WC.seqRegion fun K1 hK1 => ?_
 refine WL.yld (by decide) (Yld.assign (v := U8 0#8) rfl) ?_
 refine WL.yld (by decide) (Yld.assign rfl) ?_
 refine WL.done (hK1 _ _ ?_)
 refine WC.seq fun K2 hK2 => ?_
 refine WC.seqRegion fun K3 hK3 => ?_
 refine WL.yld (by decide) (Yld.move rfl) ?_
 refine WL.yld (by decide) (Yld.eql_u8 (a := x00) (b := 0#8) rfl rfl) ?_
 refine WL.done (hK3 _ _ ?_)
 by_cases hc4 : x00 = 0#8
 ·
  replace h := of_t hc4 h
  refine WC.condTe rfl (beq_iff_eq.2 hc4) ?_
  refine WC.seqRegion fun K5 hK5 => ?_
  refine WL.yld (by decide) (Yld.assign (v := U8 0#8) rfl) ?_
  refine WL.yld (by decide) (Yld.assign rfl) ?_
  refine WL.done (hK5 _ _ ?_)
  refine WC.ret (QK.thenR ?_)
  injection h with h; subst h
  exact Ret.fn [] (ResIs.two rfl rfl rfl) rfl (Ext.refl _ _) rfl (by decide) rfl rfl ⟨rfl, rfl⟩
 ·
  replace h := of_f hc4 h
  refine WC.condFe rfl (beq_eq_false_iff_ne.2 hc4) ?_
  refine WC.skip ?_
  refine QK.thenN (hK2 _ _ ?_)
  refine WC.seqRegion fun K6 hK6 => ?_
  obtain ⟨x7, hx7, h⟩ := bnd h
  refine WL.eff (by decide) (Eff.callS 110 rfl Try.func61 nm_61 rfl rfl (fun w hb hh => w_gf256_tables (Mem.snap w) hx7)) ?_
  rintro _ _ ⟨_, ⟨rfl, rfl, hl11, hl12⟩, rfl⟩
  refine WL.yld (by decide) (Yld.move rfl) ?_
  refine WL.yld (by decide) (Yld.extract rfl rfl) ?_
  refine WL.yld (by decide) (Yld.extract rfl rfl) ?_
  refine WL.eff (by decide) (Eff.alloc 113 rfl zr_89) ?_
  rintro _ _ ⟨g13, rfl, rfl⟩
  refine WL.eff (by decide) (Eff.alloc 114 rfl zr_90) ?_
  rintro _ _ ⟨g14, rfl, rfl⟩
  refine WL.eff0 (Eff0.storeBAM 113 agg_89 rfl rfl rfl ⟨cel_len1 rfl hl11, cel_len1 rfl List.length_replicate⟩ (cel_all _)) ?_
  refine WL.eff0 (Eff0.storeBAM 114 agg_90 rfl rfl rfl ⟨cel_len1 rfl hl12, cel_len1 rfl List.length_replicate⟩ (cel_all _)) ?_
  refine WL.done (hK6 _ _ ?_)
  refine WC.seqRegion fun K15 hK15 => ?_
  obtain ⟨x16, hx16, h⟩ := bnd h
  obtain ⟨x17, hx17, h⟩ := bnd h
  obtain ⟨x18, hx18, h⟩ := bnd h
  refine WL.yld (by decide) (Yld.move rfl) ?_
  refine WL.yld (by decide) (Yld.idxArrC (xs := x7.2) und_90 rfl rfl rfl hl12 hx16) ?_
  refine WL.yld (by decide) (Yld.loadArrC (xs := x7.2) (k := 114) scal_3 rfl rfl hx16 rfl) ?_
  refine WL.yld (by decide) (Yld.subC rfl rfl hx17) ?_
  refine WL.yld (by decide) (Yld.idxArrC (xs := x7.1) und_89 rfl rfl rfl hl11 hx18) ?_
  refine WL.yld (by decide) (Yld.loadArrC (xs := x7.1) (k := 113) scal_5 rfl rfl hx18 rfl) ?_
  refine WL.yld (by decide) (Yld.assign rfl) ?_
  refine WL.yld (by decide) (Yld.assign rfl) ?_
  refine WL.done (hK15 _ _ ?_)
  refine WC.ret ?_
  injection h with h; subst h
  exact Ret.fn [] (ResIs.two rfl rfl rfl) rfl (Ext.refl _ _) rfl (by decide) rfl rfl ⟨rfl, rfl⟩

set_option maxRecDepth 10000 in
theorem w_gf256_Pow (M0 : Mem) (x00 : BitVec 8) (x01 : Int) {res : (BitVec 8)} (h : m_gf256_Pow x00 x01 = some res) :
  Fn Try.prog 53 #[U8 x00, I64 x01] M0 fun r M' es => r = U8 res ∧ es = [] := by
 refine Fn.intro (N := 26) Try.func53 rfl rfl (Nat.le_of_ble_eq_true rfl) fun w0 => ?_
 unfold m_gf256_Pow at h
 refine WC.seqRegion fun K1 hK1 => ?_
 refine WL.yld (by decide) (Yld.assign (v := U8 0#8) rfl) ?_
 refine WL.done (hK1 _ _ ?_)
 refine WC.seq fun K2 hK2 => ?_
 refine WC.block ?_
 refine WC.seqRegion fun K3 hK3 => ?_
 refine WL.yld (by decide) (Yld.move rfl) ?_
 refine WL.yld (by decide) (Yld.eqlI rfl rfl) ?_
 refine WL.yld (by decide) (Yld.assign rfl) ?_
 refine WL.done (hK3 _ _ ?_)
 by_cases hc4 : x01 = (0 : Int)
 ·
  replace h := of_t hc4 h
  refine WC.condTe rfl (beq_iff_eq.2 hc4) ?_
  refine WC.seqRegion fun K5 hK5 => ?_
  refine WL.yld (by decide) (Yld.assign (v := U8 1#8) rfl) ?_
  refine WL.done (hK5 _ _ ?_)
  refine WC.ret (QK.blockR (QK.thenR ?_))
  injection h with h; subst h
  exact Ret.fn [] (ResIs.one rfl rfl) rfl (Ext.refl _ _) rfl (by decide) rfl rfl ⟨rfl, rfl⟩
 ·
  replace h := of_f hc4 h
  refine WC.condFe rfl (beq_eq_false_iff_ne.2 hc4) ?_
  refine WC.seqRegion fun K6 hK6 => ?_
  refine WL.yld (by decide) (Yld.move rfl) ?_
  refine WL.yld (by decide) (Yld.eql_u8 (a := x00) (b := 0#8) rfl rfl) ?_
  refine WL.yld (by decide) (Yld.assign rfl) ?_
  refine WL.done (hK6 _ _ ?_)
  by_cases hc7 : x00 = 0#8
  ·
   replace h := of_t hc7 h
   refine WC.condTe rfl (beq_iff_eq.2 hc7) ?_
   refine WC.seqRegion fun K8 hK8 => ?_
   refine WL.yld (by decide) (Yld.assign (v := U8 0#8) rfl) ?_
   refine WL.done (hK8 _ _ ?_)
   refine WC.ret (QK.blockR (QK.thenR ?_))
   injection h with h; subst h
   exact Ret.fn [] (ResIs.one rfl rfl) rfl (Ext.refl _ _) rfl (by decide) rfl rfl ⟨rfl, rfl⟩
  ·
   replace h := of_f hc7 h
   refine WC.condFe rfl (beq_eq_false_iff_ne.2 hc7) ?_
   refine WC.skip ?_
   refine QK.blockN ?_
   refine QK.thenN (hK2 _ _ ?_)
   refine WC.seqRegion fun K9 hK9 => ?_
   obtain ⟨x10, hx10, h⟩ := bnd h
   refine WL.eff (by decide) (Eff.callS 113 rfl Try.func61 nm_61 rfl rfl (fun w hb hh => w_gf256_tables (Mem.snap w) hx10)) ?_
   rintro _ _ ⟨_, ⟨rfl, rfl, hl14, hl15⟩, rfl⟩
   refine WL.yld (by decide) (Yld.move rfl) ?_
   refine WL.yld (by decide) (Yld.extract rfl rfl) ?_
   refine WL.yld (by decide) (Yld.extract rfl rfl) ?_
   refine WL.eff (by decide) (Eff.alloc 116 rfl zr_89) ?_
   rintro _ _ ⟨g16, rfl, rfl⟩
   refine WL.eff (by decide) (Eff.alloc 117 rfl zr_90) ?_
   rintro _ _ ⟨g17, rfl, rfl⟩
   refine WL.eff0 (Eff0.storeBAM 116 agg_89 rfl rfl rfl ⟨cel_len1 rfl hl14, cel_len1 rfl List.length_replicate⟩ (cel_all _)) ?_
   refine WL.eff0 (Eff0.storeBAM 117 agg_90 rfl rfl rfl ⟨cel_len1 rfl hl15, cel_len1 rfl List.length_replicate⟩ (cel_all _)) ?_
   refine WL.done (hK9 _ _ ?_)
   refine WC.seqRegionD (n := 10) [(0, _), (116, _), (117, _)] rfl mixed (Sub.cons rfl (Sub.cons rfl (Sub.cons rfl (Sub.nil _)))) fun K18 hK18 => ?_
   obtain ⟨x19, hx19, h⟩ := bnd h
   obtain ⟨x20, hx20, h⟩ := bnd h
   obtain ⟨x22, hx22, h⟩ := bnd h
   obtain ⟨x23, hx23, h⟩ := bnd h
   obtain ⟨x24, hx24, h⟩ := bnd h
   refine WD.take 0 rfl (by kernel_rfl) (by kernel_rfl) (by kernel_rfl) (by decide) (Yld.move rfl) ?_
   refine WD.take 1 rfl (by kernel_rfl) (by kernel_rfl) (by kernel_rfl) (by decide) (Yld.idxArrC (xs := x10.2) und_90 rfl rfl rfl hl15 hx19) ?_
   refine WD.take 2 rfl (by kernel_rfl) (by kernel_rfl) (by kernel_rfl) (by decide) (Yld.loadArrC (xs := x10.2) (k := 117) scal_3 rfl rfl hx19 rfl) ?_
   refine WD.take 3 rfl (by kernel_rfl) (by kernel_rfl) (by kernel_rfl) (by decide) (Yld.move rfl) ?_
   refine WD.one 4 (by kernel_rfl) ?_
   refine WS.eff rfl (by decide) (Eff.callS 121 rfl Try.func64 nm_64 rfl rfl (fun w hb hh => w_gf256_within (Mem.snap w) x01 hx20)) ?_
   rintro _ _ ⟨_, ⟨rfl, rfl⟩, rfl⟩
   refine ⟨(Sub.cons rfl (Sub.cons rfl (Sub.cons rfl (Sub.nil _)))), ?_⟩
   refine WD.take 5 rfl (by kernel_rfl) (by kernel_rfl) (by kernel_rfl) (by decide) (Yld.mulC rfl rfl hx22) ?_
   refine WD.take 6 rfl (by kernel_rfl) (by kernel_rfl) (by kernel_rfl) (by decide) (Yld.remC rfl rfl hx23) ?_
   refine WD.take 7 rfl (by kernel_rfl) (by kernel_rfl) (by kernel_rfl) (by decide) (Yld.idxArrC (xs := x10.1) und_89 rfl rfl rfl hl14 hx24) ?_
   refine WD.take 8 rfl (by kernel_rfl) (by kernel_rfl) (by kernel_rfl) (by decide) (Yld.loadArrC (xs := x10.1) (k := 116) scal_5 rfl rfl hx24 rfl) ?_
   refine WD.take 9 rfl (by kernel_rfl) (by kernel_rfl) (by kernel_rfl) (by decide) (Yld.assign rfl) ?_
   refine WD.done (by kernel_rfl) (hK18 _ _ ?_)
   refine WC.ret ?_
   injection h with h; subst h
   exact Ret.fn [] (ResIs.one rfl rfl) rfl (Ext.refl _ _) rfl (by decide) rfl rfl ⟨rfl, rfl⟩

set_option maxRecDepth 10000 in
theorem w_gf256_MulAdd (M0 : Mem) (A00 : Option Addr) (n00 c00 : Nat) (x00 : List (BitVec 8)) (hf00 : SlT M0 A00 n00 c00 x00) (A01 : Option Addr) (n01 c01 : Nat) (x01 : List (BitVec 8)) (hf01 : SlT M0 A01 n01 c01 x01) (x02 : BitVec 8) {res : (List (BitVec 8)) × Int} (h : m_gf256_MulAdd x00 x01 x02 = some res) :
  Fn Try.prog 63 #[.slice A00 n00 c00, .slice A01 n01 c01, U8 x02] M0 fun r M' es => ∃ (A1 : Option Addr) (n1 c1 : Nat), r = .tuple #[.slice A1 n1 c1, I64 res.2] ∧ es = [.own 5 (Lay.sz (BitVec 8)) A1 n1 c1 (cel res.1)] := by
 refine Fn.intro (N := 54) Try.func63 rfl rfl (Nat.le_of_ble_eq_true rfl) fun w0 => ?_
 unfold m_gf256_MulAdd at h
 refine WC.seqRegion fun K1 hK1 => ?_
 refine WL.yld (by decide) (Yld.assign rfl) ?_
 refine WL.yld (by decide) (Yld.assign rfl) ?_
 refine WL.done (hK1 _ _ ?_)
 refine WC.seq fun K2 hK2 => ?_
 refine WC.seqRegion fun K3 hK3 => ?_
 refine WL.yld (by decide) (Yld.move rfl) ?_
 refine WL.yld (by decide) (Yld.lenC (xs := x00) und_22 rfl (RdH.memM (k := 0) rfl hf00)) ?_
 refine WL.yld (by decide) (Yld.move rfl) ?_
 refine WL.yld (by decide) (Yld.lenC (xs := x01) und_22 rfl (RdH.memM (k := 0) rfl hf01)) ?_
 refine WL.yld (by decide) (Yld.neqI rfl rfl) ?_
 refine WL.done (hK3 _ _ ?_)
 by_cases hc4 : (x00.length : Int) = (x01.length : Int)
 ·
  replace h := of_t hc4 h
  refine WC.condFe rfl (bne_eq_false_iff_eq.2 hc4) ?_
  refine WC.skip ?_
  refine QK.thenN (hK2 _ _ ?_)
  refine WC.seqRegion fun K5 hK5 => ?_
  obtain ⟨x6, hx6, h⟩ := bnd h
  refine WL.eff (by decide) (Eff.callS 109 rfl Try.func61 nm_61 rfl rfl (fun w hb hh => w_gf256_tables (Mem.snap w) hx6)) ?_
  rintro _ _ ⟨_, ⟨rfl, rfl, hl10, hl11⟩, rfl⟩
  refine WL.yld (by decide) (Yld.move rfl) ?_
  refine WL.yld (by decide) (Yld.extract rfl rfl) ?_
  refine WL.yld (by decide) (Yld.extract rfl rfl) ?_
  refine WL.eff (by decide) (Eff.alloc 112 rfl zr_89) ?_
  rintro _ _ ⟨g12, rfl, rfl⟩
  refine WL.eff (by decide) (Eff.alloc 113 rfl zr_90) ?_
  rintro _ _ ⟨g13, rfl, rfl⟩
  refine WL.eff0 (Eff0.storeBAM 112 agg_89 rfl rfl rfl ⟨cel_len1 rfl hl10, cel_len1 rfl List.length_replicate⟩ (cel_all _)) ?_
  refine WL.eff0 (Eff0.storeBAM 113 agg_90 rfl rfl rfl ⟨cel_len1 rfl hl11, cel_len1 rfl List.length_replicate⟩ (cel_all _)) ?_
  refine WL.done (hK5 _ _ ?_)
  refine WC.seqRegion fun K14 hK14 => ?_
  obtain ⟨x16, hx16, h⟩ := bnd h
  refine WL.yld (by decide) (Yld.move rfl) ?_
  refine WL.nilOwn 115 5 (Lay.sz (BitVec 8)) none ?_
  refine WL.eff (by decide) (Eff.appendC 115 (xs := ([] : List (BitVec 8))) (ys := x00) sty_22 rfl rfl rfl (RdH.memM (k := 0) rfl hf00) hx16) ?_
  rintro _ _ ⟨A17, c18, rfl, rfl⟩
  refine WL.yld (by decide) (Yld.assign rfl) ?_
  refine WL.done (hK14 _ _ ?_)
  refine WC.seqCut (σ := (List (BitVec 8))) (fun x19 => [(10, .slice A17 x16.length c18)]) (fun x19 => [(0, .mem M0), (115, .own 5 (Lay.sz (BitVec 8)) A17 x16.length c18 (cel x19))]) (fun x19 => m_gf256_MulAdd_j0 x19 = some res) (fun K20 hK20 => ?_) ?_
  ·
   skip
   refine WC.seqRegion fun K21 hK21 => ?_
   refine WL.yld (by decide) (Yld.move rfl) ?_
   refine WL.yld (by decide) (Yld.lenC (xs := x01) und_22 rfl (RdH.memM (k := 0) rfl hf01)) ?_
   refine WL.yld (by decide) (Yld.move rfl) ?_
   refine WL.done (hK21 _ _ ?_)
   refine WC.block ?_
   refine WC.loop (σ := Nat × (List (BitVec 8)) × Int) (fun ⟨q24, x22, x23⟩ => [(2, U8 x02), (8, .pointer (some ⟨g12, 0, none⟩)), (9, .pointer (some ⟨g13, 0, none⟩)), (10, .slice A17 x16.length c18), (24, .slice A01 n01 c01), (25, I64 (x01.length : Int)), (26, I64 x23)]) (fun ⟨q24, x22, x23⟩ => [(0, .mem M0), (112, .blk g12 89 (cel x6.1)), (113, .blk g13 90 (cel x6.2)), (115, .own 5 (Lay.sz (BitVec 8)) A17 x16.length c18 (cel x22))]) (fun ⟨q24, x22, x23⟩ => m_gf256_MulAdd_l1 x01 x02 x6 q24 x22 x23 = some res) (fun ⟨q24, x22, x23⟩ => q24) ⟨forever, x16, (0 : Int)⟩ ?_ (Sub.cons rfl (Sub.cons rfl (Sub.cons rfl (Sub.cons rfl (Sub.cons rfl (Sub.cons rfl (Sub.cons rfl (Sub.nil _)))))))) (Sub.cons rfl (Sub.cons rfl (Sub.cons rfl (Sub.cons rfl (Sub.nil _))))) ?_
   ·
    exact h
   rintro ⟨q24, x22, x23⟩ h K25 hK25
   cases q24 with
   | zero => exact absurd h (by simp [m_gf256_MulAdd_l1])
   | succ q24 =>
    unfold m_gf256_MulAdd_l1 at h
    refine WC.seqRegion fun K26 hK26 => ?_
    refine WL.yld (by decide) (Yld.lss rfl rfl) ?_
    refine WL.done (hK26 _ _ ?_)
    refine WC.seq fun K27 hK27 => ?_
    by_cases hc28 : x23 < (x01.length : Int)
    ·
     replace h := of_t hc28 h
     refine WC.condTe rfl (decide_eq_true hc28) ?_
     refine WC.skip ?_
     refine QK.thenN (hK27 _ _ ?_)
     refine WC.seq fun K29 hK29 => ?_
     refine WC.block ?_
     refine WC.seqRegion fun K30 hK30 => ?_
     obtain ⟨x31, hx31, h⟩ := bnd h
     refine WL.yld (by decide) (Yld.move rfl) ?_
     refine WL.yld (by decide) (Yld.idxC (xs := x01) sty_22 rfl rfl (RdH.memM (k := 0) rfl hf01) hx31) ?_
     refine WL.yld (by decide) (Yld.loadC0 (xs := x01) scal_5 rfl (RdH.memM (k := 0) rfl hf01) hx31 rfl) ?_
     refine WL.yld (by decide) (Yld.assign rfl) ?_
     refine WL.yld (by decide) (Yld.assign rfl) ?_
     refine WL.done (hK30 _ _ ?_)
     refine WC.seqRegionCut (σ := Bool) (fun x32 => [(2, U8 x02), (8, .pointer (some ⟨g12, 0, none⟩)), (9, .pointer (some ⟨g13, 0, none⟩)), (10, .slice A17 x16.length c18), (11, I64 x23), (12, U8 x31), (24, .slice A01 n01 c01), (25, I64 (x01.length : Int)), (26, I64 x23), (36, .bool x32)]) (fun x32 => [(0, .mem M0), (112, .blk g12 89 (cel x6.1)), (113, .blk g13 90 (cel x6.2)), (115, .own 5 (Lay.sz (BitVec 8)) A17 x16.length c18 (cel x22))]) (fun x32 => m_gf256_MulAdd_j2 x02 x6 x22 x23 x31 (m_gf256_MulAdd_l1 x01 x02 x6 q24) x32 = some res) (fun K33 hK33 => ?_) ?_
     ·
      skip
      by_cases hc35 : x02 = 0#8
      ·
       replace h := of_t hc35 h
       refine WL.yld (by decide) (Yld.move rfl) ?_
       refine WL.yld (by decide) (Yld.neq_u8 (a := x02) (b := 0#8) rfl rfl) ?_
       refine WL.yld (by decide) (Yld.move rfl) ?_
       refine WL.new (v' := .bool false) (congrArg Value.bool (bne_eq_false_iff_eq.2 hc35)) ?_
       refine WL.skip (by decide) rfl rfl ?_
       refine WL.skip (by decide) rfl rfl ?_
       refine WL.yld (by decide) (Yld.pickF rfl rfl) ?_
       refine WL.done ?_
       refine hK33 false _ _ ?_ (Sub.cons rfl (Sub.cons rfl (Sub.cons rfl (Sub.cons rfl (Sub.cons rfl (Sub.cons rfl (Sub.cons rfl (Sub.cons rfl (Sub.cons rfl (Sub.cons rfl (Sub.nil _))))))))))) (Sub.cons rfl (Sub.cons rfl (Sub.cons rfl (Sub.cons rfl (Sub.nil _)))))
       exact h
      ·
       replace h := of_f hc35 h
       refine WL.yld (by decide) (Yld.move rfl) ?_
       refine WL.yld (by decide) (Yld.neq_u8 (a := x02) (b := 0#8) rfl rfl) ?_
       refine WL.yld (by decide) (Yld.move rfl) ?_
       refine WL.new (v' := .bool true) (congrArg Value.bool (bne_iff_ne.2 hc35)) ?_
       refine WL.yldG (by decide) rfl (Yld.move rfl) ?_
       refine WL.yldG (by decide) rfl (Yld.neq_u8 (a := x31) (b := 0#8) rfl rfl) ?_
       refine WL.yld (by decide) (Yld.pickT rfl rfl) ?_
       refine WL.done ?_
       refine hK33 (x31 != 0#8) _ _ ?_ (Sub.cons rfl (Sub.cons rfl (Sub.cons rfl (Sub.cons rfl (Sub.cons rfl (Sub.cons rfl (Sub.cons rfl (Sub.cons rfl (Sub.cons rfl (Sub.cons rfl (Sub.nil _))))))))))) (Sub.cons rfl (Sub.cons rfl (Sub.cons rfl (Sub.cons rfl (Sub.nil _)))))
       exact h
     ·
      rintro x32 h
      unfold m_gf256_MulAdd_j2 at h
      by_cases hc36 : x32 = true
      ·
       replace h := of_t hc36 h
       refine WC.condTe rfl hc36 ?_
       refine WC.regionD (n := 16) [(0, _), (112, _), (113, _)] rfl mixed (Sub.cons rfl (Sub.cons rfl (Sub.cons rfl (Sub.nil _)))) fun K37 hK37 => ?_
       obtain ⟨x38, hx38, h⟩ := bnd h
       obtain ⟨x39, hx39, h⟩ := bnd h
       obtain ⟨x40, hx40, h⟩ := bnd h
       obtain ⟨x41, hx41, h⟩ := bnd h
       obtain ⟨x42, hx42, h⟩ := bnd h
       obtain ⟨x43, hx43, h⟩ := bnd h
       obtain ⟨x44, hx44, h⟩ := bnd h
       refine WD.take 0 rfl (by kernel_rfl) (by kernel_rfl) (by kernel_rfl) (by decide) (Yld.move rfl) ?_
       refine WD.take 1 rfl (by kernel_rfl) (by kernel_rfl) (by kernel_rfl) (by decide) (Yld.move rfl) ?_
       refine WD.take 4 rfl (by kernel_rfl) (by kernel_rfl) (by kernel_rfl) (by decide) (Yld.move rfl) ?_
       refine WD.take 5 rfl (by kernel_rfl) (by kernel_rfl) (by kernel_rfl) (by decide) (Yld.idxArrC (xs := x6.2) und_90 rfl rfl rfl hl11 hx39) ?_
       refine WD.take 6 rfl (by kernel_rfl) (by kernel_rfl) (by kernel_rfl) (by decide) (Yld.loadArrC (xs := x6.2) (k := 113) scal_3 rfl rfl hx39 rfl) ?_
       refine WD.take 7 rfl (by kernel_rfl) (by kernel_rfl) (by kernel_rfl) (by decide) (Yld.move rfl) ?_
       refine WD.take 8 rfl (by kernel_rfl) (by kernel_rfl) (by kernel_rfl) (by decide) (Yld.idxArrC (xs := x6.2) und_90 rfl rfl rfl hl11 hx40) ?_
       refine WD.take 9 rfl (by kernel_rfl) (by kernel_rfl) (by kernel_rfl) (by decide) (Yld.loadArrC (xs := x6.2) (k := 113) scal_3 rfl rfl hx40 rfl) ?_
       refine WD.take 10 rfl (by kernel_rfl) (by kernel_rfl) (by kernel_rfl) (by decide) (Yld.addC rfl rfl hx41) ?_
       refine WD.take 11 rfl (by kernel_rfl) (by kernel_rfl) (by kernel_rfl) (by decide) (Yld.idxArrC (xs := x6.1) und_89 rfl rfl rfl hl10 hx42) ?_
       refine WD.take 12 rfl (by kernel_rfl) (by kernel_rfl) (by kernel_rfl) (by decide) (Yld.loadArrC (xs := x6.1) (k := 112) scal_5 rfl rfl hx42 rfl) ?_
       refine WD.one 2 (by kernel_rfl) ?_
       refine WS.yld rfl (by decide) (Yld.idxC (xs := x22) sty_22 rfl rfl (RdH.own (k := 115) rfl) hx38) ?_
       refine WD.one 3 (by kernel_rfl) ?_
       refine WS.yld rfl (by decide) (Yld.loadC0 (xs := x22) scal_5 rfl (RdH.own (k := 115) rfl) hx38 rfl) ?_
       refine WD.take 13 rfl (by kernel_rfl) (by kernel_rfl) (by kernel_rfl) (by decide) (Yld.xor_u8 (a := x38) (b := x42) rfl rfl) ?_
       refine WD.one 14 (by kernel_rfl) ?_
       refine WS.yld rfl (by decide) (Yld.idxC (xs := x22) sty_22 rfl rfl (RdH.own (k := 115) rfl) hx43) ?_
       refine WD.one 15 (by kernel_rfl) ?_
       refine WS.eff0 rfl (Eff0.storeC1 115 (xs := x22) (a' := x38 ^^^ x42) siz_5 rfl rfl rfl rfl rfl rfl hx44) (Sub.cons rfl (Sub.cons rfl (Sub.cons rfl (Sub.nil _)))) ?_
       refine WD.done (by kernel_rfl) (hK37 _ _ ?_)
       refine QK.blockN ?_
       refine QK.thenN (hK29 _ _ ?_)
       refine WC.region fun K45 hK45 => ?_
       obtain ⟨x46, hx46, h⟩ := bnd h
       refine WL.yld (by decide) (Yld.addC rfl rfl hx46) ?_
       refine WL.yld (by decide) (Yld.move rfl) ?_
       refine WL.done (hK45 _ _ ?_)
       refine QK.thenN ?_
       refine hK25 ⟨q24, x44, x46⟩ _ _ ?_ (Nat.lt_succ_self _) (Sub.cons rfl (Sub.cons rfl (Sub.cons rfl (Sub.cons rfl (Sub.cons rfl (Sub.cons rfl (Sub.cons rfl (Sub.nil _)))))))) (Sub.cons rfl (Sub.cons rfl (Sub.cons rfl (Sub.cons rfl (Sub.nil _)))))
       exact h
      ·
       replace h := of_f hc36 h
       refine WC.condFe rfl (Bool.eq_false_iff.2 hc36) ?_
       refine WC.skip ?_
       refine QK.blockN ?_
       refine QK.thenN (hK29 _ _ ?_)
       refine WC.region fun K47 hK47 => ?_
       obtain ⟨x48, hx48, h⟩ := bnd h
       refine WL.yld (by decide) (Yld.addC rfl rfl hx48) ?_
       refine WL.yld (by decide) (Yld.move rfl) ?_
       refine WL.done (hK47 _ _ ?_)
       refine QK.thenN ?_
       refine hK25 ⟨q24, x22, x48⟩ _ _ ?_ (Nat.lt_succ_self _) (Sub.cons rfl (Sub.cons rfl (Sub.cons rfl (Sub.cons rfl (Sub.cons rfl (Sub.cons rfl (Sub.cons rfl (Sub.nil _)))))))) (Sub.cons rfl (Sub.cons rfl (Sub.cons rfl (Sub.cons rfl (Sub.nil _)))))
       exact h
    ·
     replace h := of_f hc28 h
     refine WC.condFe rfl (decide_eq_false hc28) ?_
     refine WC.exit (QK.thenE (QK.thenE (QK.blockX ?_)))
     refine QK.thenN ?_
     refine hK20 x22 _ _ ?_ (Sub.cons rfl (Sub.nil _)) (Sub.cons rfl (Sub.cons rfl (Sub.nil _)))
     exact h
  ·
   rintro x19 h
   unfold m_gf256_MulAdd_j0 at h
   refine WC.seqRegion fun K49 hK49 => ?_
   refine WL.yld (by decide) (Yld.move rfl) ?_
   refine WL.yld (by decide) (Yld.assign rfl) ?_
   refine WL.yld (by decide) (Yld.assign rfl) ?_
   refine WL.done (hK49 _ _ ?_)
   refine WC.ret ?_
   injection h with h; subst h
   exact Ret.fn [115] (ResIs.two rfl rfl rfl) rfl (Ext.refl _ _) rfl (by decide) rfl rfl ⟨A17, x16.length, c18, rfl, rfl⟩
 ·
  replace h := of_f hc4 h
  refine WC.condTe rfl (bne_iff_ne.2 hc4) ?_
  refine WC.seqRegion fun K50 hK50 => ?_
  refine WL.yld (by decide) (Yld.assign rfl) ?_
  refine WL.yld (by decide) (Yld.assign rfl) ?_
  refine WL.done (hK50 _ _ ?_)
  refine WC.ret (QK.thenR ?_)
  refine QK.nilOwn 151 5 (Lay.sz (BitVec 8)) none ?_
  injection h with h; subst h
  exact Ret.fn [151] (ResIs.two rfl rfl rfl) rfl (Ext.refl _ _) rfl (by decide) rfl rfl ⟨none, 0, 0, rfl, rfl⟩

set_option maxRecDepth 10000 in
theorem w_r02_Mul (M0 : Mem) (x00 : BitVec 8) (x01 : BitVec 8) {res : (BitVec 8)} (h : m_r02_Mul x00 x01 = some res) :
  Fn Try.prog 56 #[U8 x00, U8 x01] M0 fun r M' es => r = U8 res ∧ es = [] := by
 refine Fn.intro (N := 43) Try.func56 rfl rfl (Nat.le_of_ble_eq_true rfl) fun w0 => ?_
 unfold m_r02_Mul at h
 refine WC.seqRegion fun K1 hK1 => ?_
 refine WL.yld (by decide) (Yld.assign (v := U8 0#8) rfl) ?_
 refine WL.done (hK1 _ _ ?_)
 refine WC.seqRegion fun K2 hK2 => ?_
 refine WL.yld (by decide) (Yld.assign rfl) ?_
 refine WL.done (hK2 _ _ ?_)
 refine WC.seqCut (σ := Int) (fun x3 => [(5, I64 x3)]) (fun x3 => [(0, .mem M0)]) (fun x3 => m_r02_Mul_j0 x3 = some res) (fun K4 hK4 => ?_) ?_
 ·
  skip
  refine WC.seqRegion fun K5 hK5 => ?_
  refine WL.yld (by decide) (Yld.assign rfl) ?_
  refine WL.done (hK5 _ _ ?_)
  refine WC.block ?_
  refine WC.loop (σ := Nat × Int × Int) (fun ⟨q8, x6, x7⟩ => [(0, U8 x00), (1, U8 x01), (5, I64 x6), (6, I64 x7)]) (fun ⟨q8, x6, x7⟩ => [(0, .mem M0)]) (fun ⟨q8, x6, x7⟩ => m_r02_Mul_l1 x00 x01 q8 x6 x7 = some res) (fun ⟨q8, x6, x7⟩ => q8) ⟨forever, (0 : Int), (0 : Int)⟩ ?_ (Sub.cons rfl (Sub.cons rfl (Sub.cons rfl (Sub.cons rfl (Sub.nil _))))) (Sub.cons rfl (Sub.nil _)) ?_
  ·
   exact h
  rintro ⟨q8, x6, x7⟩ h K9 hK9
  cases q8 with
  | zero => exact absurd h (by simp [m_r02_Mul_l1])
  | succ q8 =>
   unfold m_r02_Mul_l1 at h
   refine WC.seq fun K10 hK10 => ?_
   refine WC.seqRegion fun K11 hK11 => ?_
   refine WL.yld (by decide) (Yld.move rfl) ?_
   refine WL.yld (by decide) (Yld.lss rfl rfl) ?_
   refine WL.done (hK11 _ _ ?_)
   by_cases hc12 : x7 < (8 : Int)
   ·
    replace h := of_t hc12 h
    refine WC.condTe rfl (decide_eq_true hc12) ?_
    refine WC.skip ?_
    refine QK.thenN (hK10 _ _ ?_)
    refine WC.seq fun K13 hK13 => ?_
    refine WC.block ?_
    refine WC.seqRegion fun K14 hK14 => ?_
    refine WL.yld (by decide) (Yld.move rfl) ?_
    refine WL.yld (by decide) (Yld.move rfl) ?_
    refine WL.yld (by decide) (Yld.conv_i64_u64 some_3 und_47 rfl) ?_
    refine WL.yld (by decide) (Yld.shrU_u8 (a := x01) (m := (BitVec.ofInt 64 x7).toNat) rfl rfl) ?_
    refine WL.yld (by decide) (Yld.and_u8 (a := (x01 >>> (BitVec.ofInt 64 x7).toNat)) (b := 1#8) rfl rfl) ?_
    refine WL.yld (by decide) (Yld.eql_u8 (a := ((x01 >>> (BitVec.ofInt 64 x7).toNat) &&& 1#8)) (b := 1#8) rfl rfl) ?_
    refine WL.done (hK14 _ _ ?_)
    by_cases hc15 : ((x01 >>> (BitVec.ofInt 64 x7).toNat) &&& 1#8) = 1#8
    ·
     replace h := of_t hc15 h
     refine WC.condTe rfl (beq_iff_eq.2 hc15) ?_
     refine WC.region fun K16 hK16 => ?_
     obtain ⟨x17, hx17, h⟩ := bnd h
     refine WL.yld (by decide) (Yld.move rfl) ?_
     refine WL.yld (by decide) (Yld.move rfl) ?_
     refine WL.yld (by decide) (Yld.conv_u8_i64 (a := x00) some_5 und_3 rfl) ?_
     refine WL.yld (by decide) (Yld.move rfl) ?_
     refine WL.yld (by decide) (Yld.conv_i64_u64 some_3 und_47 rfl) ?_
     refine WL.yld (by decide) (Yld.shlC rfl rfl hx17) ?_
     refine WL.yld (by decide) (Yld.xorC rfl rfl) ?_
     refine WL.yld (by decide) (Yld.assign rfl) ?_
     refine WL.done (hK16 _ _ ?_)
     refine QK.blockN ?_
     refine QK.thenN (hK13 _ _ ?_)
     refine WC.region fun K18 hK18 => ?_
     obtain ⟨x19, hx19, h⟩ := bnd h
     refine WL.yld (by decide) (Yld.move rfl) ?_
     refine WL.yld (by decide) (Yld.addC rfl rfl hx19) ?_
     refine WL.yld (by decide) (Yld.assign rfl) ?_
     refine WL.done (hK18 _ _ ?_)
     refine QK.thenN ?_
     refine hK9 ⟨q8, xori x6 x17, x19⟩ _ _ ?_ (Nat.lt_succ_self _) (Sub.cons rfl (Sub.cons rfl (Sub.cons rfl (Sub.cons rfl (Sub.nil _))))) (Sub.cons rfl (Sub.nil _))
     exact h
    ·
     replace h := of_f hc15 h
     refine WC.condFe rfl (beq_eq_false_iff_ne.2 hc15) ?_
     refine WC.skip ?_
     refine QK.blockN ?_
     refine QK.thenN (hK13 _ _ ?_)
     refine WC.region fun K20 hK20 => ?_
     obtain ⟨x21, hx21, h⟩ := bnd h
     refine WL.yld (by decide) (Yld.move rfl) ?_
     refine WL.yld (by decide) (Yld.addC rfl rfl hx21) ?_
     refine WL.yld (by decide) (Yld.assign rfl) ?_
     refine WL.done (hK20 _ _ ?_)
     refine QK.thenN ?_
     refine hK9 ⟨q8, x6, x21⟩ _ _ ?_ (Nat.lt_succ_self _) (Sub.cons rfl (Sub.cons rfl (Sub.cons rfl (Sub.cons rfl (Sub.nil _))))) (Sub.cons rfl (Sub.nil _))
     exact h
   ·
    replace h := of_f hc12 h
    refine WC.condFe rfl (decide_eq_false hc12) ?_
    refine WC.exit (QK.thenE (QK.thenE (QK.blockX ?_)))
    refine QK.thenN ?_
    refine hK4 x6 _ _ ?_ (Sub.cons rfl (Sub.nil _)) (Sub.cons rfl (Sub.nil _))
    exact h
 ·
  rintro x3 h
  unfold m_r02_Mul_j0 at h
  refine WC.seqCut (σ := Int) (fun x22 => [(5, I64 x22)]) (fun x22 => [(0, .mem M0)]) (fun x22 => m_r02_Mul_j2 x22 = some res) (fun K23 hK23 => ?_) ?_
  ·
   skip
   refine WC.seqRegion fun K24 hK24 => ?_
   refine WL.yld (by decide) (Yld.assign rfl) ?_
   refine WL.done (hK24 _ _ ?_)
   refine WC.block ?_
   refine WC.loop (σ := Nat × Int × Int) (fun ⟨q27, x25, x26⟩ => [(5, I64 x25), (7, I64 x26)]) (fun ⟨q27, x25, x26⟩ => [(0, .mem M0)]) (fun ⟨q27, x25, x26⟩ => m_r02_Mul_l3 q27 x25 x26 = some res) (fun ⟨q27, x25, x26⟩ => q27) ⟨forever, x3, (14 : Int)⟩ ?_ (Sub.cons rfl (Sub.cons rfl (Sub.nil _))) (Sub.cons rfl (Sub.nil _)) ?_
   ·
    exact h
   rintro ⟨q27, x25, x26⟩ h K28 hK28
   cases q27 with
   | zero => exact absurd h (by simp [m_r02_Mul_l3])
   | succ q27 =>
    unfold m_r02_Mul_l3 at h
    refine WC.seq fun K29 hK29 => ?_
    refine WC.seqRegion fun K30 hK30 => ?_
    refine WL.yld (by decide) (Yld.move rfl) ?_
    refine WL.yld (by decide) (Yld.geq rfl rfl) ?_
    refine WL.done (hK30 _ _ ?_)
    by_cases hc31 : (8 : Int) ≤ x26
    ·
     replace h := of_t hc31 h
     refine WC.condTe rfl (decide_eq_true hc31) ?_
     refine WC.skip ?_
     refine QK.thenN (hK29 _ _ ?_)
     refine WC.seq fun K32 hK32 => ?_
     refine WC.block ?_
     refine WC.seqRegion fun K33 hK33 => ?_
     obtain ⟨x34, hx34, h⟩ := bnd h
     refine WL.yld (by decide) (Yld.move rfl) ?_
     refine WL.yld (by decide) (Yld.move rfl) ?_
     refine WL.yld (by decide) (Yld.conv_i64_u64 some_3 und_47 rfl) ?_
     refine WL.yld (by decide) (Yld.shrC rfl rfl hx34) ?_
     refine WL.yld (by decide) (Yld.andC rfl rfl) ?_
     refine WL.yld (by decide) (Yld.eqlI rfl rfl) ?_
     refine WL.done (hK33 _ _ ?_)
     by_cases hc35 : (andi x34 (1 : Int)) = (1 : Int)
     ·
      replace h := of_t hc35 h
      refine WC.condTe rfl (beq_iff_eq.2 hc35) ?_
      refine WC.region fun K36 hK36 => ?_
      obtain ⟨x37, hx37, h⟩ := bnd h
      obtain ⟨x38, hx38, h⟩ := bnd h
      refine WL.yld (by decide) (Yld.move rfl) ?_
      refine WL.yld (by decide) (Yld.move rfl) ?_
      refine WL.yld (by decide) (Yld.subC rfl rfl hx37) ?_
      refine WL.yld (by decide) (Yld.conv_i64_u64 some_3 und_47 rfl) ?_
      refine WL.yld (by decide) (Yld.shlC rfl rfl hx38) ?_
      refine WL.yld (by decide) (Yld.xorC rfl rfl) ?_
      refine WL.yld (by decide) (Yld.assign rfl) ?_
      refine WL.done (hK36 _ _ ?_)
      refine QK.blockN ?_
      refine QK.thenN (hK32 _ _ ?_)
      refine WC.region fun K39 hK39 => ?_
      obtain ⟨x40, hx40, h⟩ := bnd h
      refine WL.yld (by decide) (Yld.move rfl) ?_
      refine WL.yld (by decide) (Yld.subC rfl rfl hx40) ?_
      refine WL.yld (by decide) (Yld.assign rfl) ?_
      refine WL.done (hK39 _ _ ?_)
      refine QK.thenN ?_
      refine hK28 ⟨q27, xori x25 x38, x40⟩ _ _ ?_ (Nat.lt_succ_self _) (Sub.cons rfl (Sub.cons rfl (Sub.nil _))) (Sub.cons rfl (Sub.nil _))
      exact h
     ·
      replace h := of_f hc35 h
      refine WC.condFe rfl (beq_eq_false_iff_ne.2 hc35) ?_
      refine WC.skip ?_
      refine QK.blockN ?_
      refine QK.thenN (hK32 _ _ ?_)
      refine WC.region fun K41 hK41 => ?_
      obtain ⟨x42, hx42, h⟩ := bnd h
      refine WL.yld (by decide) (Yld.move rfl) ?_
      refine WL.yld (by decide) (Yld.subC rfl rfl hx42) ?_
      refine WL.yld (by decide) (Yld.assign rfl) ?_
      refine WL.done (hK41 _ _ ?_)
      refine QK.thenN ?_
      refine hK28 ⟨q27, x25, x42⟩ _ _ ?_ (Nat.lt_succ_self _) (Sub.cons rfl (Sub.cons rfl (Sub.nil _))) (Sub.cons rfl (Sub.nil _))
      exact h
    ·
     replace h := of_f hc31 h
     refine WC.condFe rfl (decide_eq_false hc31) ?_
     refine WC.exit (QK.thenE (QK.thenE (QK.blockX ?_)))
     refine QK.thenN ?_
     refine hK23 x25 _ _ ?_ (Sub.cons rfl (Sub.nil _)) (Sub.cons rfl (Sub.nil _))
     exact h
  ·
   rintro x22 h
   unfold m_r02_Mul_j2 at h
   refine WC.seqRegion fun K43 hK43 => ?_
   refine WL.yld (by decide) (Yld.move rfl) ?_
   refine WL.yld (by decide) (Yld.conv_i64_u8 some_3 und_5 rfl) ?_
   refine WL.yld (by decide) (Yld.assign rfl) ?_
   refine WL.done (hK43 _ _ ?_)
   refine WC.ret ?_
   injection h with h; subst h
   exact Ret.fn [] (ResIs.one rfl rfl) rfl (Ext.refl _ _) rfl (by decide) rfl rfl ⟨rfl, rfl⟩

set_option maxRecDepth 10000 in
theorem w_r02_Inv (M0 : Mem) (x00 : BitVec 8) {res : (BitVec 8) × Int} (h : m_r02_Inv x00 = some res) :
  Fn Try.prog 60 #[U8 x00] M0 fun r M' es => r = .tuple #[U8 res.1, I64 res.2] ∧ es = [] := by
 refine Fn.intro (N := 16) Try.func60 rfl rfl (Nat.le_of_ble_eq_true rfl) fun w0 => ?_
 unfold m_r02_Inv at h
 refine WC.seqRegion fun K1 hK1 => ?_
 refine WL.yld (by decide) (Yld.assign (v := U8 0#8) rfl) ?_
 refine WL.yld (by decide) (Yld.assign rfl) ?_
 refine WL.done (hK1 _ _ ?_)
 refine WC.seqCut (σ := Unit) (fun _ => []) (fun _ => [(0, .mem M0)]) (fun _ => m_r02_Inv_j0 = some res) (fun K2 hK2 => ?_) ?_
 ·
  skip
  refine WC.seqRegion fun K3 hK3 => ?_
  refine WL.yld (by decide) (Yld.assign rfl) ?_
  refine WL.done (hK3 _ _ ?_)
  refine WC.block ?_
  refine WC.loop (σ := Nat × Int) (fun ⟨q5, x4⟩ => [(0, U8 x00), (4, I64 x4)]) (fun ⟨q5, x4⟩ => [(0, .mem M0)]) (fun ⟨q5, x4⟩ => m_r02_Inv_l1 x00 q5 x4 = some res) (fun ⟨q5, x4⟩ => q5) ⟨forever, (1 : Int)⟩ ?_ (Sub.cons rfl (Sub.cons rfl (Sub.nil _))) (Sub.cons rfl (Sub.nil _)) ?_
  ·
   exact h
  rintro ⟨q5, x4⟩ h K6 hK6
  cases q5 with
  | zero => exact absurd h (by simp [m_r02_Inv_l1])
  | succ q5 =>
   unfold m_r02_Inv_l1 at h
   refine WC.seq fun K7 hK7 => ?_
   refine WC.seqRegion fun K8 hK8 => ?_
   refine WL.yld (by decide) (Yld.move rfl) ?_
   refine WL.yld (by decide) (Yld.lss rfl rfl) ?_
   refine WL.done (hK8 _ _ ?_)
   by_cases hc9 : x4 < (256 : Int)
   ·
    replace h := of_t hc9 h
    refine WC.condTe rfl (decide_eq_true hc9) ?_
    refine WC.skip ?_
    refine QK.thenN (hK7 _ _ ?_)
    refine WC.seq fun K10 hK10 => ?_
    refine WC.block ?_
    refine WC.seqRegion fun K11 hK11 => ?_
    obtain ⟨x12, hx12, h⟩ := bnd h
    refine WL.yld (by decide) (Yld.move rfl) ?_
    refine WL.yld (by decide) (Yld.move rfl) ?_
    refine WL.yld (by decide) (Yld.conv_i64_u8 some_3 und_5 rfl) ?_
    refine WL.eff (by decide) (Eff.callS 113 rfl Try.func56 nm_56 rfl rfl (fun w hb hh => w_r02_Mul (Mem.snap w) x00 (BitVec.ofInt 8 x4) hx12)) ?_
    rintro _ _ ⟨_, ⟨rfl, rfl⟩, rfl⟩
    refine WL.yld (by decide) (Yld.eql_u8 (a := x12) (b := 1#8) rfl rfl) ?_
    refine WL.done (hK11 _ _ ?_)
    by_cases hc14 : x12 = 1#8
    ·
     replace h := of_t hc14 h
     refine WC.condTe rfl (beq_iff_eq.2 hc14) ?_
     refine WC.seqRegion fun K15 hK15 => ?_
     refine WL.yld (by decide) (Yld.move rfl) ?_
     refine WL.yld (by decide) (Yld.conv_i64_u8 some_3 und_5 rfl) ?_
     refine WL.yld (by decide) (Yld.assign rfl) ?_
     refine WL.yld (by decide) (Yld.assign rfl) ?_
     refine WL.done (hK15 _ _ ?_)
     refine WC.ret (QK.blockR (QK.thenR (QK.thenR (QK.blockR (QK.thenR ?_)))))
     injection h with h; subst h
     exact Ret.fn [] (ResIs.two rfl rfl rfl) rfl (Ext.refl _ _) rfl (by decide) rfl rfl ⟨rfl, rfl⟩
    ·
     replace h := of_f hc14 h
     refine WC.condFe rfl (beq_eq_false_iff_ne.2 hc14) ?_
     refine WC.skip ?_
     refine QK.blockN ?_
     refine QK.thenN (hK10 _ _ ?_)
     refine WC.region fun K16 hK16 => ?_
     obtain ⟨x17, hx17, h⟩ := bnd h
     refine WL.yld (by decide) (Yld.move rfl) ?_
     refine WL.yld (by decide) (Yld.addC rfl rfl hx17) ?_
     refine WL.yld (by decide) (Yld.assign rfl) ?_
     refine WL.done (hK16 _ _ ?_)
     refine QK.thenN ?_
     refine hK6 ⟨q5, x17⟩ _ _ ?_ (Nat.lt_succ_self _) (Sub.cons rfl (Sub.cons rfl (Sub.nil _))) (Sub.cons rfl (Sub.nil _))
     exact h
   ·
    replace h := of_f hc9 h
    refine WC.condFe rfl (decide_eq_false hc9) ?_
    refine WC.exit (QK.thenE (QK.thenE (QK.blockX ?_)))
    refine QK.thenN ?_
    refine hK2 () _ _ ?_ (Sub.nil _) (Sub.cons rfl (Sub.nil _))
    exact h
 ·
  rintro _ h
  unfold m_r02_Inv_j0 at h
  refine WC.seqRegion fun K18 hK18 => ?_
  refine WL.yld (by decide) (Yld.assign (v := U8 0#8) rfl) ?_
  refine WL.yld (by decide) (Yld.assign rfl) ?_
  refine WL.done (hK18 _ _ ?_)
  refine WC.ret ?_
  injection h with h; subst h
  exact Ret.fn [] (ResIs.two rfl rfl rfl) rfl (Ext.refl _ _) rfl (by decide) rfl rfl ⟨rfl, rfl⟩

set_option maxRecDepth 10000 in
theorem w_r02_MulAdd (M0 : Mem) (A00 : Option Addr) (n00 c00 : Nat) (x00 : List (BitVec 8)) (hf00 : SlT M0 A00 n00 c00 x00) (A01 : Option Addr) (n01 c01 : Nat) (x01 : List (BitVec 8)) (hf01 : SlT M0 A01 n01 c01 x01) (x02 : BitVec 8) {res : (List (BitVec 8)) × Int} (h : m_r02_MulAdd x00 x01 x02 = some res) :
  Fn Try.prog 62 #[.slice A00 n00 c00, .slice A01 n01 c01, U8 x02] M0 fun r M' es => ∃ (A1 : Option Addr) (n1 c1 : Nat), r = .tuple #[.slice A1 n1 c1, I64 res.2] ∧ es = [.own 5 (Lay.sz (BitVec 8)) A1 n1 c1 (cel res.1)] := by
 refine Fn.intro (N := 36) Try.func62 rfl rfl (Nat.le_of_ble_eq_true rfl) fun w0 => ?_
 unfold m_r02_MulAdd at h
 refine WC.seqRegion fun K1 hK1 => ?_
 refine WL.yld (by decide) (Yld.assign rfl) ?_
 refine WL.yld (by decide) (Yld.assign rfl) ?_
 refine WL.done (hK1 _ _ ?_)
 refine WC.seq fun K2 hK2 => ?_
 refine WC.seqRegion fun K3 hK3 => ?_
 refine WL.yld (by decide) (Yld.move rfl) ?_
 refine WL.yld (by decide) (Yld.lenC (xs := x00) und_22 rfl (RdH.memM (k := 0) rfl hf00)) ?_
 refine WL.yld (by decide) (Yld.move rfl) ?_
 refine WL.yld (by decide) (Yld.lenC (xs := x01) und_22 rfl (RdH.memM (k := 0) rfl hf01)) ?_
 refine WL.yld (by decide) (Yld.neqI rfl rfl) ?_
 refine WL.done (hK3 _ _ ?_)
 by_cases hc4 : (x00.length : Int) = (x01.length : Int)
 ·
  replace h := of_t hc4 h
  refine WC.condFe rfl (bne_eq_false_iff_eq.2 hc4) ?_
  refine WC.skip ?_
  refine QK.thenN (hK2 _ _ ?_)
  refine WC.seqRegion fun K5 hK5 => ?_
  refine WL.yld (by decide) (Yld.assign rfl) ?_
  refine WL.done (hK5 _ _ ?_)
  refine WC.seqCut (σ := (Option Addr) × Nat × Nat × (List (BitVec 8))) (fun ⟨A8, n9, c10, x11⟩ => [(8, .slice A8 n9 c10)]) (fun ⟨A8, n9, c10, x11⟩ => [(0, .mem M0), (107, .own 5 (Lay.sz (BitVec 8)) A8 n9 c10 (cel x11))]) (fun ⟨A8, n9, c10, x11⟩ => m_r02_MulAdd_j0 x11 = some res) (fun K12 hK12 => ?_) ?_
  ·
   skip
   refine WC.seqRegion fun K13 hK13 => ?_
   refine WL.yld (by decide) (Yld.assign rfl) ?_
   refine WL.done (hK13 _ _ ?_)
   refine WC.block ?_
   refine WC.nilOwn 115 5 (Lay.sz (BitVec 8)) none ?_
   refine WC.loop (σ := Nat × (Option Addr) × Nat × Nat × (List (BitVec 8)) × Int) (fun ⟨q21, A16, n17, c18, x19, x20⟩ => [(0, .slice A00 n00 c00), (1, .slice A01 n01 c01), (2, U8 x02), (8, .slice A16 n17 c18), (9, I64 x20)]) (fun ⟨q21, A16, n17, c18, x19, x20⟩ => [(0, .mem M0), (115, .own 5 (Lay.sz (BitVec 8)) A16 n17 c18 (cel x19))]) (fun ⟨q21, A16, n17, c18, x19, x20⟩ => m_r02_MulAdd_l1 x00 x01 x02 q21 x19 x20 = some res) (fun ⟨q21, A16, n17, c18, x19, x20⟩ => q21) ⟨forever, none, 0, 0, ([] : List (BitVec 8)), (0 : Int)⟩ ?_ (Sub.cons rfl (Sub.cons rfl (Sub.cons rfl (Sub.cons rfl (Sub.cons rfl (Sub.nil _)))))) (Sub.cons rfl (Sub.cons rfl (Sub.nil _))) ?_
   ·
    exact h
   rintro ⟨q21, A16, n17, c18, x19, x20⟩ h K22 hK22
   cases q21 with
   | zero => exact absurd h (by simp [m_r02_MulAdd_l1])
   | succ q21 =>
    unfold m_r02_MulAdd_l1 at h
    refine WC.seq fun K23 hK23 => ?_
    refine WC.seqRegion fun K24 hK24 => ?_
    refine WL.yld (by decide) (Yld.move rfl) ?_
    refine WL.yld (by decide) (Yld.move rfl) ?_
    refine WL.yld (by decide) (Yld.lenC (xs := x00) und_22 rfl (RdH.memM (k := 0) rfl hf00)) ?_
    refine WL.yld (by decide) (Yld.lss rfl rfl) ?_
    refine WL.done (hK24 _ _ ?_)
    by_cases hc25 : x20 < (x00.length : Int)
    ·
     replace h := of_t hc25 h
     refine WC.condTe rfl (decide_eq_true hc25) ?_
     refine WC.skip ?_
     refine QK.thenN (hK23 _ _ ?_)
     refine WC.seq fun K26 hK26 => ?_
     refine WC.block ?_
     refine WC.regionD (n := 15) [(0, _)] rfl mixed (Sub.cons rfl (Sub.nil _)) fun K27 hK27 => ?_
     obtain ⟨x28, hx28, h⟩ := bnd h
     obtain ⟨x29, hx29, h⟩ := bnd h
     obtain ⟨x30, hx30, h⟩ := bnd h
     obtain ⟨x33, hx33, h⟩ := bnd h
     refine WD.take 0 rfl (by kernel_rfl) (by kernel_rfl) (by kernel_rfl) (by decide) (Yld.move rfl) ?_
     refine WD.take 1 rfl (by kernel_rfl) (by kernel_rfl) (by kernel_rfl) (by decide) (Yld.move rfl) ?_
     refine WD.take 2 rfl (by kernel_rfl) (by kernel_rfl) (by kernel_rfl) (by decide) (Yld.move rfl) ?_
     refine WD.take 3 rfl (by kernel_rfl) (by kernel_rfl) (by kernel_rfl) (by decide) (Yld.idxC (xs := x00) sty_22 rfl rfl (RdH.memM (k := 0) rfl hf00) hx28) ?_
     refine WD.take 4 rfl (by kernel_rfl) (by kernel_rfl) (by kernel_rfl) (by decide) (Yld.loadC0 (xs := x00) scal_5 rfl (RdH.memM (k := 0) rfl hf00) hx28 rfl) ?_
     refine WD.take 5 rfl (by kernel_rfl) (by kernel_rfl) (by kernel_rfl) (by decide) (Yld.move rfl) ?_
     refine WD.take 6 rfl (by kernel_rfl) (by kernel_rfl) (by kernel_rfl) (by decide) (Yld.move rfl) ?_
     refine WD.take 7 rfl (by kernel_rfl) (by kernel_rfl) (by kernel_rfl) (by decide) (Yld.move rfl) ?_
     refine WD.take 8 rfl (by kernel_rfl) (by kernel_rfl) (by kernel_rfl) (by decide) (Yld.idxC (xs := x01) sty_22 rfl rfl (RdH.memM (k := 0) rfl hf01) hx29) ?_
     refine WD.take 9 rfl (by kernel_rfl) (by kernel_rfl) (by kernel_rfl) (by decide) (Yld.loadC0 (xs := x01) scal_5 rfl (RdH.memM (k := 0) rfl hf01) hx29 rfl) ?_
     refine WD.one 10 (by kernel_rfl) ?_
     refine WS.eff rfl (by decide) (Eff.callS 131 rfl Try.func56 nm_56 rfl rfl (fun w hb hh => w_r02_Mul (Mem.snap w) x02 x29 hx30)) ?_
     rintro _ _ ⟨_, ⟨rfl, rfl⟩, rfl⟩
     refine ⟨(Sub.cons rfl (Sub.nil _)), ?_⟩
     refine WD.take 11 rfl (by kernel_rfl) (by kernel_rfl) (by kernel_rfl) (by decide) (Yld.xor_u8 (a := x28) (b := x30) rfl rfl) ?_
     refine WD.one 12 (by kernel_rfl) ?_
     refine WS.eff rfl (by decide) (Eff.buildC 132 ([x28 ^^^ x30] : List (BitVec 8)) sty_22 rfl rfl rfl rfl rfl (by decide)) ?_
     rintro _ _ ⟨g32, rfl, rfl⟩
     refine ⟨(Sub.cons rfl (Sub.nil _)), ?_⟩
     refine WD.one 13 (by kernel_rfl) ?_
     refine WS.eff rfl (by decide) (Eff.appendC 115 (xs := x19) (ys := ([x28 ^^^ x30] : List (BitVec 8))) sty_22 rfl rfl rfl (RdH.own (k := 132) rfl) hx33) ?_
     rintro _ _ ⟨A34, c35, rfl, rfl⟩
     refine ⟨(Sub.cons rfl (Sub.nil _)), ?_⟩
     refine WD.take 14 rfl (by kernel_rfl) (by kernel_rfl) (by kernel_rfl) (by decide) (Yld.assign rfl) ?_
     refine WD.done (by kernel_rfl) (hK27 _ _ ?_)
     refine QK.blockN ?_
     refine QK.thenN (hK26 _ _ ?_)
     refine WC.region fun K36 hK36 => ?_
     obtain ⟨x37, hx37, h⟩ := bnd h
     refine WL.yld (by decide) (Yld.move rfl) ?_
     refine WL.yld (by decide) (Yld.addC rfl rfl hx37) ?_
     refine WL.yld (by decide) (Yld.assign rfl) ?_
     refine WL.done (hK36 _ _ ?_)
     refine QK.thenN ?_
     refine hK22 ⟨q21, A34, x33.length, c35, x33, x37⟩ _ _ ?_ (Nat.lt_succ_self _) (Sub.cons rfl (Sub.cons rfl (Sub.cons rfl (Sub.cons rfl (Sub.cons rfl (Sub.nil _)))))) (Sub.cons rfl (Sub.cons rfl (Sub.nil _)))
     exact h
    ·
     replace h := of_f hc25 h
     refine WC.condFe rfl (decide_eq_false hc25) ?_
     refine WC.exit (QK.thenE (QK.thenE (QK.blockX ?_)))
     refine QK.thenN ?_
     refine KK.move 115 107 rfl rfl ?_
     refine hK12 ⟨A16, n17, c18, x19⟩ _ _ ?_ (Sub.cons rfl (Sub.nil _)) (Sub.cons rfl (Sub.cons rfl (Sub.nil _)))
     exact h
  ·
   rintro ⟨A8, n9, c10, x11⟩ h
   unfold m_r02_MulAdd_j0 at h
   refine WC.seqRegion fun K38 hK38 => ?_
   refine WL.yld (by decide) (Yld.move rfl) ?_
   refine WL.yld (by decide) (Yld.assign rfl) ?_
   refine WL.yld (by decide) (Yld.assign rfl) ?_
   refine WL.done (hK38 _ _ ?_)
   refine WC.ret ?_
   injection h with h; subst h
   exact Ret.fn [107] (ResIs.two rfl rfl rfl) rfl (Ext.refl _ _) rfl (by decide) rfl rfl ⟨A8, n9, c10, rfl, rfl⟩
 ·
  replace h := of_f hc4 h
  refine WC.condTe rfl (bne_iff_ne.2 hc4) ?_
  refine WC.seqRegion fun K39 hK39 => ?_
  refine WL.yld (by decide) (Yld.assign rfl) ?_
  refine WL.yld (by decide) (Yld.assign rfl) ?_
  refine WL.done (hK39 _ _ ?_)
  refine WC.ret (QK.thenR ?_)
  refine QK.nilOwn 140 5 (Lay.sz (BitVec 8)) none ?_
  injection h with h; subst h
  exact Ret.fn [140] (ResIs.two rfl rfl rfl) rfl (Ext.refl _ _) rfl (by decide) rfl rfl ⟨none, 0, 0, rfl, rfl⟩

end Go.Proofs.Ytnbcphofimicdaa
