/-
  The walks of crc32c.Extend, Sum and of the reference's.
  Printed by a program of ours (gen.py, spec_crc.py) from the function's operations. Conditions: as each theorem says.
-/
import Derived.Test.YtibopglhgbbmpaaProg
import Derived.Test.YtibopglhgbbmpaaK8
import Derived.Test.YtibopglhgbbmpaaM1
namespace Go.Proofs.Ytibopglhgbbmpaa
open Go Go.RowKit
set_option linter.unusedVariables false

theorem und_23 : Try.prog.underlying 23 = some (.slice 5) := by kernel_rfl
theorem und_33 : Try.prog.underlying 33 = some (.int .u32) := by kernel_rfl
theorem und_34 : Try.prog.underlying 34 = some (.int .u64) := by kernel_rfl
theorem und_69 : Try.prog.underlying 69 = some (.array 32 33) := by kernel_rfl
theorem und_70 : Try.prog.underlying 70 = some (.array 32 33) := by kernel_rfl
theorem agg_69 : Agg Try.prog 69 32 := ⟨⟨_, Try.underlying69, rfl⟩, by kernel_rfl⟩
theorem agg_70 : Agg Try.prog 70 32 := ⟨⟨_, Try.underlying70, rfl⟩, by kernel_rfl⟩
theorem built_70_0 : ∀ (a0 : BitVec 32), Try.prog.built 70 [(0, (U32 a0))] = some (((a0 :: List.replicate 31 0#32).map U32) : List Value).toArray := fun a0 => by kernel_rfl
theorem mixed : Try.prog.follows .mixedOrders = true := by kernel_rfl
theorem nm_37 : (Try.f37.name == "runtime.NumGoroutine") = false := by kernel_rfl
theorem nm_38 : (Try.f38.name == "runtime.NumGoroutine") = false := by kernel_rfl
theorem nm_49 : (Try.f49.name == "runtime.NumGoroutine") = false := by kernel_rfl
theorem nm_50 : (Try.f50.name == "runtime.NumGoroutine") = false := by kernel_rfl
theorem nm_51 : (Try.f51.name == "runtime.NumGoroutine") = false := by kernel_rfl
theorem nm_52 : (Try.f52.name == "runtime.NumGoroutine") = false := by kernel_rfl
theorem nm_53 : (Try.f53.name == "runtime.NumGoroutine") = false := by kernel_rfl
theorem nm_55 : (Try.f55.name == "runtime.NumGoroutine") = false := by kernel_rfl
theorem scal_33 : scal Try.prog 33 = true := by kernel_rfl
theorem scal_5 : scal Try.prog 5 = true := by kernel_rfl
theorem siz_33 : (Try.prog.info? 33).map (·.size) = some 1 := by kernel_rfl
theorem some_3 : (Try.prog.underlying 3).isSome = true := by kernel_rfl
theorem some_5 : (Try.prog.underlying 5).isSome = true := by kernel_rfl
theorem sty_23 : STy Try.prog 23 5 (U8 0#8) 1 1 := STy.of und_23 (by kernel_rfl) rfl
theorem zer_69 : (Try.prog.info? 69).map (fun i => i.zero.map (·.cells)) = some (some (((List.replicate 32 0#32).map U32) : List Value).toArray) := by kernel_rfl
theorem zer_70 : (Try.prog.info? 70).map (fun i => i.zero.map (·.cells)) = some (some (((List.replicate 32 0#32).map U32) : List Value).toArray) := by kernel_rfl

set_option maxRecDepth 10000 in
theorem crc_Extend (w : World) (cc : BitVec 32) {A : Option Addr} {n c : Nat} {xs : List (BitVec 8)} (h : SlR w 1 A n c (xs.map U8)) :
    Fn Try.prog 37 #[U32 cc, .slice A n c] w fun r es => r = U32 (crcExt cc xs) ∧ es = [] := by
  have hl := h.len1
  have hcm := h.cm
  have hle := h.le
  unfold maxLen at hcm
  refine Fn.intro (N := 35) Try.func37 rfl rfl (Nat.le_of_ble_eq_true rfl) ?_
  refine WC.seqRegion fun K1 hK1 => ?_
  refine WL.yld (by decide) (Yld.assign (v := U32 0#32) rfl) ?_
  refine WL.done (hK1 _ _ ?_)
  refine WC.seqRegion fun K2 hK2 => ?_
  refine WL.yld (by decide) (Yld.move rfl) ?_
  refine WL.yld (by decide) (Yld.not_u32 rfl) ?_
  refine WL.yld (by decide) (Yld.assign rfl) ?_
  refine WL.done (hK2 _ _ ?_)
  refine WC.seq fun K3 hK3 => ?_
  refine WC.seqRegion fun K4 hK4 => ?_
  refine WL.yld (by decide) (Yld.move rfl) ?_
  refine WL.yld (by decide) (Yld.len und_23 rfl) ?_
  refine WL.yld (by decide) (Yld.move rfl) ?_
  refine WL.done (hK4 _ _ ?_)
  refine WC.block ?_
  refine WC.loop (σ := Nat × BitVec 32) (fun ⟨k, r⟩ => [(11, .slice A n c), (12, I64 n), (13, I64 (k : Nat)), (5, U32 r)]) (fun ⟨k, r⟩ => []) (fun ⟨k, r⟩ => k ≤ n ∧ r = crcRaw (~~~cc) (xs.take k)) (fun ⟨k, r⟩ => n - k) (0, _) ?_ (Sub.cons rfl (Sub.cons rfl (Sub.cons rfl (Sub.cons rfl (Sub.nil _))))) (Sub.nil _) ?_
  · exact ⟨Nat.zero_le _, rfl⟩
  rintro ⟨k, r⟩ ⟨hk, hr⟩ K5 hK5
  subst hr
  refine WC.seqRegion fun K6 hK6 => ?_
  refine WL.yld (by decide) (Yld.lss rfl rfl) ?_
  refine WL.done (hK6 _ _ ?_)
  refine WC.seq fun K7 hK7 => ?_
  refine WC.cond rfl (fun hc8 => ?_) (fun hc8 => ?_)
  · replace hc8 := of_decide_eq_true hc8
    refine WC.skip ?_
    refine QK.thenN (hK7 _ _ ?_)
    refine WC.seq fun K9 hK9 => ?_
    refine WC.block ?_
    refine WC.seqRegion fun K10 hK10 => ?_
    refine WL.yld (by decide) (Yld.idxAddr1 sty_23 rfl rfl (RdH.old h) (by omega)) ?_
    refine WL.yld (by decide) (Yld.loadR scal_5 rfl (RdH.old h) (getElem?_map1 _ _ 0 (by omega))) ?_
    refine WL.yld (by decide) (Yld.assign rfl) ?_
    refine WL.done (hK10 _ _ ?_)
    refine WC.seqRegion fun K11 hK11 => ?_
    refine WL.yld (by decide) (Yld.move rfl) ?_
    refine WL.yld (by decide) (Yld.move rfl) ?_
    refine WL.yld (by decide) (Yld.conv_u8_u32 some_5 und_33 rfl) ?_
    refine WL.yld (by decide) (Yld.xor_u32 rfl rfl) ?_
    refine WL.yld (by decide) (Yld.assign rfl) ?_
    refine WL.done (hK11 _ _ ?_)
    refine WC.seqRegion fun K12 hK12 => ?_
    refine WL.yld (by decide) (Yld.move rfl) ?_
    refine WL.done (hK12 _ _ ?_)
    refine WC.block ?_
    refine WC.loop (σ := Nat × BitVec 32) (fun ⟨j, r2⟩ => [(11, .slice A n c), (12, I64 n), (13, I64 (k : Nat)), (21, I64 (j : Nat)), (5, U32 r2)]) (fun ⟨j, r2⟩ => []) (fun ⟨j, r2⟩ => j ≤ 8 ∧ r2 = crcIter j (crcRaw (~~~cc) (xs.take k) ^^^ (xs.getD k 0).setWidth 32)) (fun ⟨j, r2⟩ => 8 - j) (0, _) ?_ (Sub.cons rfl (Sub.cons rfl (Sub.cons rfl (Sub.cons rfl (Sub.cons rfl (Sub.nil _)))))) (Sub.nil _) ?_
    · exact ⟨Nat.zero_le _, rfl⟩
    rintro ⟨j, r2⟩ ⟨hj, hr2⟩ K13 hK13
    refine WC.seqRegion fun K14 hK14 => ?_
    refine WL.yld (by decide) (Yld.lss rfl rfl) ?_
    refine WL.done (hK14 _ _ ?_)
    refine WC.seq fun K15 hK15 => ?_
    refine WC.cond rfl (fun hc16 => ?_) (fun hc16 => ?_)
    · replace hc16 := of_decide_eq_true hc16
      refine WC.skip ?_
      refine QK.thenN (hK15 _ _ ?_)
      refine WC.seq fun K17 hK17 => ?_
      refine WC.block ?_
      refine WC.seqRegion fun K18 hK18 => ?_
      refine WL.yld (by decide) (Yld.move rfl) ?_
      refine WL.yld (by decide) (Yld.and_u32 (b := 1#32) rfl rfl) ?_
      refine WL.yld (by decide) (Yld.assign rfl) ?_
      refine WL.done (hK18 _ _ ?_)
      refine WC.seqRegion fun K19 hK19 => ?_
      refine WL.yld (by decide) (Yld.move rfl) ?_
      refine WL.yld (by decide) (Yld.shr_u32 rfl rfl (by omega)) ?_
      refine WL.yld (by decide) (Yld.assign rfl) ?_
      refine WL.done (hK19 _ _ ?_)
      refine WC.seqRegion fun K20 hK20 => ?_
      refine WL.yld (by decide) (Yld.move rfl) ?_
      refine WL.yld (by decide) (Yld.eql_u32 (b := 1#32) rfl rfl) ?_
      refine WL.done (hK20 _ _ ?_)
      refine WC.cond rfl (fun hc21 => ?_) (fun hc21 => ?_)
      · replace hc21 := eq_of_beq hc21
        refine WC.region fun K22 hK22 => ?_
        refine WL.yld (by decide) (Yld.move rfl) ?_
        refine WL.yld (by decide) (Yld.xor_u32 (b := 2197175160#32) rfl rfl) ?_
        refine WL.yld (by decide) (Yld.assign rfl) ?_
        refine WL.done (hK22 _ _ ?_)
        refine QK.blockN ?_
        refine QK.thenN (hK17 _ _ ?_)
        refine WC.region fun K23 hK23 => ?_
        refine WL.yld (by decide) (Yld.add rfl rfl (by omega)) ?_
        refine WL.yld (by decide) (Yld.move rfl) ?_
        refine WL.done (hK23 _ _ ?_)
        refine QK.thenN (hK13 (j + 1, _) _ _ ?_ ?_ (Sub.cons rfl (Sub.cons rfl (Sub.cons rfl (Sub.cons rfl (Sub.cons rfl (Sub.nil _)))))) (Sub.nil _))
        · exact ⟨by omega, by subst hr2; first | exact (if_pos (by assumption)).symm | exact (if_neg (by assumption)).symm⟩
        · dsimp only; omega
      · replace hc21 := ne_of_beq_false hc21
        refine WC.skip ?_
        refine QK.blockN ?_
        refine QK.thenN (hK17 _ _ ?_)
        refine WC.region fun K24 hK24 => ?_
        refine WL.yld (by decide) (Yld.add rfl rfl (by omega)) ?_
        refine WL.yld (by decide) (Yld.move rfl) ?_
        refine WL.done (hK24 _ _ ?_)
        refine QK.thenN (hK13 (j + 1, _) _ _ ?_ ?_ (Sub.cons rfl (Sub.cons rfl (Sub.cons rfl (Sub.cons rfl (Sub.cons rfl (Sub.nil _)))))) (Sub.nil _))
        · exact ⟨by omega, by subst hr2; first | exact (if_pos (by assumption)).symm | exact (if_neg (by assumption)).symm⟩
        · dsimp only; omega
    · replace hc16 := of_decide_eq_false hc16
      obtain rfl : j = 8 := by omega
      refine WC.exit (QK.thenE (QK.thenE (QK.blockX ?_)))
      refine QK.blockN ?_
      refine QK.thenN (hK9 _ _ ?_)
      refine WC.region fun K25 hK25 => ?_
      refine WL.yld (by decide) (Yld.add rfl rfl (by omega)) ?_
      refine WL.yld (by decide) (Yld.move rfl) ?_
      refine WL.done (hK25 _ _ ?_)
      refine QK.thenN (hK5 (k + 1, _) _ _ ?_ ?_ (Sub.cons rfl (Sub.cons rfl (Sub.cons rfl (Sub.cons rfl (Sub.nil _))))) (Sub.nil _))
      · exact ⟨by omega, by subst hr2; rw [crcRaw_take _ _ _ (by omega)]; rfl⟩
      · dsimp only; omega
  · replace hc8 := of_decide_eq_false hc8
    obtain rfl : k = n := by omega
    refine WC.exit (QK.thenE (QK.thenE (QK.blockX ?_)))
    refine QK.thenN (hK3 _ _ ?_)
    refine WC.seqRegion fun K26 hK26 => ?_
    refine WL.yld (by decide) (Yld.move rfl) ?_
    refine WL.yld (by decide) (Yld.not_u32 rfl) ?_
    refine WL.yld (by decide) (Yld.assign rfl) ?_
    refine WL.done (hK26 _ _ ?_)
    refine WC.ret ?_
    exact Ret.fn [] (ResIs.one rfl rfl) rfl (by decide) ⟨by rw [List.take_of_length_le (by omega)]; rfl, rfl⟩

set_option maxRecDepth 10000 in
theorem crc_Sum (w : World) {A : Option Addr} {n c : Nat} {xs : List (BitVec 8)} (h : SlR w 1 A n c (xs.map U8)) :
    Fn Try.prog 35 #[.slice A n c] w fun r es => r = U32 (crcSum xs) ∧ es = [] := by
  have hl := h.len1
  have hcm := h.cm
  have hle := h.le
  unfold maxLen at hcm
  refine Fn.intro (N := 5) Try.func35 rfl rfl (Nat.le_of_ble_eq_true rfl) ?_
  refine WC.seqRegion fun K1 hK1 => ?_
  refine WL.yld (by decide) (Yld.assign (v := U32 0#32) rfl) ?_
  refine WL.done (hK1 _ _ ?_)
  refine WC.seqRegion fun K2 hK2 => ?_
  refine WL.yld (by decide) (Yld.move rfl) ?_
  refine WL.eff (by decide) (Eff.call 101 rfl Try.func37 nm_37 rfl rfl rfl (fun w hb hh => crc_Extend w (0#32) ((RdH.old h) w hb hh))) ?_
  rintro _ _ ⟨_, ⟨rfl, rfl⟩, rfl⟩
  refine WL.yld (by decide) (Yld.assign rfl) ?_
  refine WL.done (hK2 _ _ ?_)
  refine WC.ret ?_
  exact Ret.fn [] (ResIs.one rfl rfl) rfl (by decide) ⟨rfl, rfl⟩

set_option maxRecDepth 10000 in
theorem crc_times (w : World) (ms : List (BitVec 32)) (v : BitVec 32) (hms : ms.length = 32) :
    Fn Try.prog 52 #[.agg (ms.map U32).toArray, U32 v] w fun r es => r = U32 (img ms v) ∧ es = [] := by
  refine Fn.intro (N := 22) Try.func52 rfl rfl (Nat.le_of_ble_eq_true rfl) ?_
  refine WC.seqRegion fun K1 hK1 => ?_
  refine WL.eff (by decide) (Eff.box 101 (us := ms.map U32) rfl rfl rfl) ?_
  rintro _ _ ⟨g101, rfl, rfl⟩
  refine WL.yld (by decide) (Yld.assign (v := U32 0#32) rfl) ?_
  refine WL.done (hK1 _ _ ?_)
  refine WC.seqRegion fun K3 hK3 => ?_
  refine WL.yld (by decide) (Yld.assign (v := U32 0#32) rfl) ?_
  refine WL.done (hK3 _ _ ?_)
  refine WC.seq fun K4 hK4 => ?_
  refine WC.seqRegion fun K5 hK5 => ?_
  refine WL.yld (by decide) (Yld.assign rfl) ?_
  refine WL.done (hK5 _ _ ?_)
  refine WC.block ?_
  refine WC.loop (σ := Nat × BitVec 32) (fun ⟨k, r⟩ => [(2, .pointer (some ⟨g101, 0, none⟩)), (1, U32 (v >>> k)), (5, U32 r), (6, I64 (k : Nat))]) (fun ⟨k, r⟩ => [(101, .blk g101 70 (ms.map U32))]) (fun ⟨k, r⟩ => k ≤ 32 ∧ r = imgTo ms v k) (fun ⟨k, r⟩ => 32 - k) (0, _) ?_ (Sub.cons rfl (Sub.cons rfl (Sub.cons rfl (Sub.cons rfl (Sub.nil _))))) (Sub.cons rfl (Sub.nil _)) ?_
  · exact ⟨Nat.zero_le _, rfl⟩
  rintro ⟨k, r⟩ ⟨hk, hr⟩ K6 hK6
  refine WC.seq fun K7 hK7 => ?_
  refine WC.seqRegion fun K8 hK8 => ?_
  refine WL.yld (by decide) (Yld.move rfl) ?_
  refine WL.yld (by decide) (Yld.neq_u32 (b := 0#32) rfl rfl) ?_
  refine WL.done (hK8 _ _ ?_)
  refine WC.cond rfl (fun hc9 => ?_) (fun hc9 => ?_)
  · replace hc9 := bne_iff_ne.1 hc9
    have hk32 : k < 32 := by
      rcases Nat.lt_or_ge k 32 with h | h
      · exact h
      · obtain rfl : k = 32 := by omega
        exact absurd (shr32 v) hc9
    refine WC.skip ?_
    refine QK.thenN (hK7 _ _ ?_)
    refine WC.seq fun K10 hK10 => ?_
    refine WC.block ?_
    refine WC.seqRegion fun K11 hK11 => ?_
    refine WL.yld (by decide) (Yld.move rfl) ?_
    refine WL.yld (by decide) (Yld.and_u32 (b := 1#32) rfl rfl) ?_
    refine WL.yld (by decide) (Yld.eql_u32 (b := 1#32) rfl rfl) ?_
    refine WL.done (hK11 _ _ ?_)
    refine WC.cond rfl (fun hc12 => ?_) (fun hc12 => ?_)
    · replace hc12 := eq_of_beq hc12
      refine WC.region fun K13 hK13 => ?_
      refine WL.yld (by decide) (Yld.move rfl) ?_
      refine WL.yld (by decide) (Yld.move rfl) ?_
      refine WL.yld (by decide) (Yld.idxArr1 und_70 siz_33 rfl rfl (by omega)) ?_
      refine WL.yld (by decide) (Yld.loadB (k := 101) scal_33 rfl rfl (getElem?_map1 _ _ 0 (by omega))) ?_
      refine WL.yld (by decide) (Yld.xor_u32 rfl rfl) ?_
      refine WL.yld (by decide) (Yld.assign rfl) ?_
      refine WL.done (hK13 _ _ ?_)
      refine QK.blockN ?_
      refine QK.thenN (hK10 _ _ ?_)
      refine WC.region fun K14 hK14 => ?_
      refine WL.yld (by decide) (Yld.move rfl) ?_
      refine WL.yld (by decide) (Yld.add rfl rfl (by omega)) ?_
      refine WL.yld (by decide) (Yld.move rfl) ?_
      refine WL.yld (by decide) (Yld.shr_u32 rfl rfl (by omega)) ?_
      refine WL.new (v' := U32 (v >>> (k + 1))) (by rw [BitVec.shiftRight_add]; rfl) ?_
      refine WL.yld (by decide) (Yld.assign rfl) ?_
      refine WL.yld (by decide) (Yld.assign rfl) ?_
      refine WL.done (hK14 _ _ ?_)
      refine QK.thenN (hK6 (k + 1, _) _ _ ?_ ?_ (Sub.cons rfl (Sub.cons rfl (Sub.cons rfl (Sub.cons rfl (Sub.nil _))))) (Sub.cons rfl (Sub.nil _)))
      · exact ⟨by omega, by subst hr; first | exact (if_pos (by assumption)).symm | exact (if_neg (by assumption)).symm⟩
      · dsimp only; omega
    · replace hc12 := ne_of_beq_false hc12
      refine WC.skip ?_
      refine QK.blockN ?_
      refine QK.thenN (hK10 _ _ ?_)
      refine WC.region fun K15 hK15 => ?_
      refine WL.yld (by decide) (Yld.move rfl) ?_
      refine WL.yld (by decide) (Yld.add rfl rfl (by omega)) ?_
      refine WL.yld (by decide) (Yld.move rfl) ?_
      refine WL.yld (by decide) (Yld.shr_u32 rfl rfl (by omega)) ?_
      refine WL.new (v' := U32 (v >>> (k + 1))) (by rw [BitVec.shiftRight_add]; rfl) ?_
      refine WL.yld (by decide) (Yld.assign rfl) ?_
      refine WL.yld (by decide) (Yld.assign rfl) ?_
      refine WL.done (hK15 _ _ ?_)
      refine QK.thenN (hK6 (k + 1, _) _ _ ?_ ?_ (Sub.cons rfl (Sub.cons rfl (Sub.cons rfl (Sub.cons rfl (Sub.nil _))))) (Sub.cons rfl (Sub.nil _)))
      · exact ⟨by omega, by subst hr; first | exact (if_pos (by assumption)).symm | exact (if_neg (by assumption)).symm⟩
      · dsimp only; omega
  · replace hc9 := bne_eq_false_iff_eq.1 hc9
    refine WC.exit (QK.thenE (QK.thenE (QK.blockX ?_)))
    refine QK.thenN (hK4 _ _ ?_)
    refine WC.seqRegion fun K16 hK16 => ?_
    refine WL.yld (by decide) (Yld.move rfl) ?_
    refine WL.yld (by decide) (Yld.assign rfl) ?_
    refine WL.done (hK16 _ _ ?_)
    refine WC.ret ?_
    exact Ret.fn [] (ResIs.one rfl rfl) rfl (by decide) ⟨by rw [hr, imgTo_img ms v k (by assumption) hk], rfl⟩

set_option maxRecDepth 10000 in
theorem crc_image (w : World) (ms : List (BitVec 32)) (v : BitVec 32) (hms : ms.length = 32) :
    Fn Try.prog 55 #[.agg (ms.map U32).toArray, U32 v] w fun r es => r = U32 (img ms v) ∧ es = [] := by
  refine Fn.intro (N := 23) Try.func55 rfl rfl (Nat.le_of_ble_eq_true rfl) ?_
  refine WC.seqRegion fun K1 hK1 => ?_
  refine WL.eff (by decide) (Eff.box 101 (us := ms.map U32) rfl rfl rfl) ?_
  rintro _ _ ⟨g101, rfl, rfl⟩
  refine WL.yld (by decide) (Yld.assign (v := U32 0#32) rfl) ?_
  refine WL.done (hK1 _ _ ?_)
  refine WC.seqRegion fun K3 hK3 => ?_
  refine WL.yld (by decide) (Yld.assign (v := U32 0#32) rfl) ?_
  refine WL.done (hK3 _ _ ?_)
  refine WC.seq fun K4 hK4 => ?_
  refine WC.seqRegion fun K5 hK5 => ?_
  refine WL.yld (by decide) (Yld.assign rfl) ?_
  refine WL.done (hK5 _ _ ?_)
  refine WC.block ?_
  refine WC.loop (σ := Nat × BitVec 32) (fun ⟨k, r⟩ => [(2, .pointer (some ⟨g101, 0, none⟩)), (1, U32 v), (5, U32 r), (6, I64 (k : Nat))]) (fun ⟨k, r⟩ => [(101, .blk g101 69 (ms.map U32))]) (fun ⟨k, r⟩ => k ≤ 32 ∧ r = imgTo ms v k) (fun ⟨k, r⟩ => 32 - k) (0, _) ?_ (Sub.cons rfl (Sub.cons rfl (Sub.cons rfl (Sub.cons rfl (Sub.nil _))))) (Sub.cons rfl (Sub.nil _)) ?_
  · exact ⟨Nat.zero_le _, rfl⟩
  rintro ⟨k, r⟩ ⟨hk, hr⟩ K6 hK6
  refine WC.seq fun K7 hK7 => ?_
  refine WC.seqRegion fun K8 hK8 => ?_
  refine WL.yld (by decide) (Yld.move rfl) ?_
  refine WL.yld (by decide) (Yld.lss rfl rfl) ?_
  refine WL.done (hK8 _ _ ?_)
  refine WC.cond rfl (fun hc9 => ?_) (fun hc9 => ?_)
  · replace hc9 := of_decide_eq_true hc9
    refine WC.skip ?_
    refine QK.thenN (hK7 _ _ ?_)
    refine WC.seq fun K10 hK10 => ?_
    refine WC.block ?_
    refine WC.seqRegion fun K11 hK11 => ?_
    refine WL.yld (by decide) (Yld.move rfl) ?_
    refine WL.yld (by decide) (Yld.move rfl) ?_
    refine WL.yld (by decide) (Yld.conv_i64_uint some_3 und_34 rfl (by omega)) ?_
    refine WL.yld (by decide) (Yld.shr_u32 rfl rfl (by omega)) ?_
    refine WL.yld (by decide) (Yld.and_u32 (b := 1#32) rfl rfl) ?_
    refine WL.yld (by decide) (Yld.eql_u32 (b := 1#32) rfl rfl) ?_
    refine WL.done (hK11 _ _ ?_)
    refine WC.cond rfl (fun hc12 => ?_) (fun hc12 => ?_)
    · replace hc12 := eq_of_beq hc12
      refine WC.region fun K13 hK13 => ?_
      refine WL.yld (by decide) (Yld.move rfl) ?_
      refine WL.yld (by decide) (Yld.move rfl) ?_
      refine WL.yld (by decide) (Yld.idxArr1 und_69 siz_33 rfl rfl (by omega)) ?_
      refine WL.yld (by decide) (Yld.loadB (k := 101) scal_33 rfl rfl (getElem?_map1 _ _ 0 (by omega))) ?_
      refine WL.yld (by decide) (Yld.xor_u32 rfl rfl) ?_
      refine WL.yld (by decide) (Yld.assign rfl) ?_
      refine WL.done (hK13 _ _ ?_)
      refine QK.blockN ?_
      refine QK.thenN (hK10 _ _ ?_)
      refine WC.region fun K14 hK14 => ?_
      refine WL.yld (by decide) (Yld.move rfl) ?_
      refine WL.yld (by decide) (Yld.add rfl rfl (by omega)) ?_
      refine WL.yld (by decide) (Yld.assign rfl) ?_
      refine WL.done (hK14 _ _ ?_)
      refine QK.thenN (hK6 (k + 1, _) _ _ ?_ ?_ (Sub.cons rfl (Sub.cons rfl (Sub.cons rfl (Sub.cons rfl (Sub.nil _))))) (Sub.cons rfl (Sub.nil _)))
      · exact ⟨by omega, by subst hr; first | exact (if_pos (by assumption)).symm | exact (if_neg (by assumption)).symm⟩
      · dsimp only; omega
    · replace hc12 := ne_of_beq_false hc12
      refine WC.skip ?_
      refine QK.blockN ?_
      refine QK.thenN (hK10 _ _ ?_)
      refine WC.region fun K15 hK15 => ?_
      refine WL.yld (by decide) (Yld.move rfl) ?_
      refine WL.yld (by decide) (Yld.add rfl rfl (by omega)) ?_
      refine WL.yld (by decide) (Yld.assign rfl) ?_
      refine WL.done (hK15 _ _ ?_)
      refine QK.thenN (hK6 (k + 1, _) _ _ ?_ ?_ (Sub.cons rfl (Sub.cons rfl (Sub.cons rfl (Sub.cons rfl (Sub.nil _))))) (Sub.cons rfl (Sub.nil _)))
      · exact ⟨by omega, by subst hr; first | exact (if_pos (by assumption)).symm | exact (if_neg (by assumption)).symm⟩
      · dsimp only; omega
  · replace hc9 := of_decide_eq_false hc9
    obtain rfl : k = 32 := by omega
    refine WC.exit (QK.thenE (QK.thenE (QK.blockX ?_)))
    refine QK.thenN (hK4 _ _ ?_)
    refine WC.seqRegion fun K16 hK16 => ?_
    refine WL.yld (by decide) (Yld.move rfl) ?_
    refine WL.yld (by decide) (Yld.assign rfl) ?_
    refine WL.done (hK16 _ _ ?_)
    refine WC.ret ?_
    exact Ret.fn [] (ResIs.one rfl rfl) rfl (by decide) ⟨by rw [hr]; rfl, rfl⟩

set_option maxRecDepth 10000 in
theorem crc_square (w : World) (ms : List (BitVec 32)) (hms : ms.length = 32) :
    Fn Try.prog 51 #[.agg (ms.map U32).toArray] w fun r es => r = .agg ((sqM ms).map U32).toArray ∧ es = [] := by
  refine Fn.intro (N := 18) Try.func51 rfl rfl (Nat.le_of_ble_eq_true rfl) ?_
  refine WC.seqRegion fun K1 hK1 => ?_
  refine WL.eff (by decide) (Eff.box 101 (us := ms.map U32) rfl rfl rfl) ?_
  rintro _ _ ⟨g101, rfl, rfl⟩
  refine WL.eff (by decide) (Eff.alloc 102 rfl zer_70) ?_
  rintro _ _ ⟨g102, rfl, rfl⟩
  refine WL.done (hK1 _ _ ?_)
  refine WC.seqRegion fun K4 hK4 => ?_
  refine WL.eff (by decide) (Eff.alloc 103 rfl zer_70) ?_
  rintro _ _ ⟨g103, rfl, rfl⟩
  refine WL.done (hK4 _ _ ?_)
  refine WC.seq fun K6 hK6 => ?_
  refine WC.seqRegion fun K7 hK7 => ?_
  refine WL.yld (by decide) (Yld.loadBM (k := 101) agg_70 rfl rfl (by first | rfl | (simp [*]; done))) ?_
  refine WL.yld (by decide) (Yld.move rfl) ?_
  refine WL.done (hK7 _ _ ?_)
  refine WC.block ?_
  refine WC.loop (σ := Nat × List (BitVec 32)) (fun ⟨k, os⟩ => [(1, .pointer (some ⟨g101, 0, none⟩)), (2, .pointer (some ⟨g102, 0, none⟩)), (3, .pointer (some ⟨g103, 0, none⟩)), (6, .agg (ms.map U32).toArray), (7, I64 (k : Nat))]) (fun ⟨k, os⟩ => [(101, .blk g101 70 (ms.map U32)), (102, .blk g102 70 ((List.replicate 32 0#32).map U32)), (103, .blk g103 70 (os.map U32))]) (fun ⟨k, os⟩ => k ≤ 32 ∧ os.length = 32 ∧ os.take k = (ms.map (img ms)).take k) (fun ⟨k, os⟩ => 32 - k) (0, _) ?_ (Sub.cons rfl (Sub.cons rfl (Sub.cons rfl (Sub.cons rfl (Sub.cons rfl (Sub.nil _)))))) (Sub.cons rfl (Sub.cons rfl (Sub.cons rfl (Sub.nil _)))) ?_
  · exact ⟨Nat.zero_le _, by simp, by simp⟩
  rintro ⟨k, os⟩ ⟨hk, ho, ht⟩ K8 hK8
  refine WC.seqRegion fun K9 hK9 => ?_
  refine WL.yld (by decide) (Yld.lss rfl rfl) ?_
  refine WL.done (hK9 _ _ ?_)
  refine WC.seq fun K10 hK10 => ?_
  refine WC.cond rfl (fun hc11 => ?_) (fun hc11 => ?_)
  · replace hc11 := of_decide_eq_true hc11
    refine WC.skip ?_
    refine QK.thenN (hK10 _ _ ?_)
    refine WC.seq fun K12 hK12 => ?_
    refine WC.block ?_
    refine WC.seqRegion fun K13 hK13 => ?_
    refine WL.yld (by decide) (Yld.move rfl) ?_
    refine WL.yld (by decide) (Yld.idxAgg und_70 siz_33 scal_33 rfl rfl (by omega) (getElem?_map1 _ _ 0 (by omega))) ?_
    refine WL.yld (by decide) (Yld.assign rfl) ?_
    refine WL.yld (by decide) (Yld.assign rfl) ?_
    refine WL.done (hK13 _ _ ?_)
    refine WC.region fun K14 hK14 => ?_
    refine WL.yld (by decide) (Yld.move rfl) ?_
    refine WL.yld (by decide) (Yld.loadBM (k := 101) agg_70 rfl rfl (by simp [hms])) ?_
    refine WL.yld (by decide) (Yld.move rfl) ?_
    refine WL.eff (by decide) (Eff.call 104 rfl Try.func52 nm_52 rfl rfl rfl (fun w hb hh => crc_times w _ _ hms)) ?_
    rintro _ _ ⟨_, ⟨rfl, rfl⟩, rfl⟩
    refine WL.yld (by decide) (Yld.idxArr1 und_70 siz_33 rfl rfl (by omega)) ?_
    refine WL.eff0 (Eff0.storeBM U32 103 siz_33 rfl rfl rfl (by omega)) ?_
    refine WL.done (hK14 _ _ ?_)
    refine QK.blockN ?_
    refine QK.thenN (hK12 _ _ ?_)
    refine WC.region fun K16 hK16 => ?_
    refine WL.yld (by decide) (Yld.add rfl rfl (by omega)) ?_
    refine WL.yld (by decide) (Yld.move rfl) ?_
    refine WL.done (hK16 _ _ ?_)
    refine QK.thenN (hK8 (k + 1, _) _ _ ?_ ?_ (Sub.cons rfl (Sub.cons rfl (Sub.cons rfl (Sub.cons rfl (Sub.cons rfl (Sub.nil _)))))) (Sub.cons rfl (Sub.cons rfl (Sub.cons rfl (Sub.nil _)))))
    · exact ⟨by omega, by simp [ho], take_set_map ms (img ms) os k (by omega) (by omega) ht⟩
    · dsimp only; omega
  · replace hc11 := of_decide_eq_false hc11
    obtain rfl : k = 32 := by omega
    obtain rfl : os = sqM ms := by
      rw [List.take_of_length_le (by omega), List.take_of_length_le (by simp [hms])] at ht; exact ht
    refine WC.exit (QK.thenE (QK.thenE (QK.blockX ?_)))
    refine QK.thenN (hK6 _ _ ?_)
    refine WC.seqRegion fun K17 hK17 => ?_
    refine WL.yld (by decide) (Yld.loadBM (k := 103) agg_70 rfl rfl (by simp [sqM, hms])) ?_
    refine WL.eff0 (Eff0.storeBAM 102 agg_70 rfl rfl rfl (by simp [sqM, hms]) (by first | rfl | exact all_one _)) ?_
    refine WL.done (hK17 _ _ ?_)
    refine WC.ret ?_
    exact Ret.fn [] (ResIs.cellM (k := 102) rfl agg_70 rfl rfl (by simp [sqM, hms])) rfl (by decide) ⟨rfl, rfl⟩

set_option maxRecDepth 10000 in
theorem crc_shift (w : World) :
    Fn Try.prog 50 #[] w fun r es => r = .agg (shiftM.map U32).toArray ∧ es = [] := by
  refine Fn.intro (N := 14) Try.func50 rfl rfl (Nat.le_of_ble_eq_true rfl) ?_
  refine WC.seqRegion fun K1 hK1 => ?_
  refine WL.eff (by decide) (Eff.alloc 101 rfl zer_70) ?_
  rintro _ _ ⟨g101, rfl, rfl⟩
  refine WL.done (hK1 _ _ ?_)
  refine WC.seqRegion fun K3 hK3 => ?_
  refine WL.yld (by decide) (Yld.build rfl (built_70_0 (2197175160#32))) ?_
  refine WL.eff (by decide) (Eff.alloc 102 rfl zer_70) ?_
  rintro _ _ ⟨g102, rfl, rfl⟩
  refine WL.eff0 (Eff0.storeBAM 102 agg_70 rfl rfl rfl (by first | exact ⟨rfl, rfl⟩ | (constructor <;> simp [*])) (by first | rfl | exact all_one _)) ?_
  refine WL.done (hK3 _ _ ?_)
  refine WC.seq fun K5 hK5 => ?_
  refine WC.seqRegion fun K6 hK6 => ?_
  refine WL.yld (by decide) (Yld.assign rfl) ?_
  refine WL.done (hK6 _ _ ?_)
  refine WC.block ?_
  refine WC.loop (σ := Nat × List (BitVec 32)) (fun ⟨k, os⟩ => [(0, .pointer (some ⟨g101, 0, none⟩)), (1, .pointer (some ⟨g102, 0, none⟩)), (2, I64 (k : Nat))]) (fun ⟨k, os⟩ => [(101, .blk g101 70 ((List.replicate 32 0#32).map U32)), (102, .blk g102 70 (os.map U32))]) (fun ⟨k, os⟩ => 1 ≤ k ∧ k ≤ 32 ∧ os.length = 32 ∧ os.take k = shiftM.take k) (fun ⟨k, os⟩ => 32 - k) (1, _) ?_ (Sub.cons rfl (Sub.cons rfl (Sub.cons rfl (Sub.nil _)))) (Sub.cons rfl (Sub.cons rfl (Sub.nil _))) ?_
  · exact ⟨by omega, by omega, by decide, by decide +kernel⟩
  rintro ⟨k, os⟩ ⟨hk1, hk, ho, ht⟩ K7 hK7
  refine WC.seq fun K8 hK8 => ?_
  refine WC.seqRegion fun K9 hK9 => ?_
  refine WL.yld (by decide) (Yld.move rfl) ?_
  refine WL.yld (by decide) (Yld.lss rfl rfl) ?_
  refine WL.done (hK9 _ _ ?_)
  refine WC.cond rfl (fun hc10 => ?_) (fun hc10 => ?_)
  · replace hc10 := of_decide_eq_true hc10
    refine WC.skip ?_
    refine QK.thenN (hK8 _ _ ?_)
    refine WC.seq fun K11 hK11 => ?_
    refine WC.block ?_
    refine WC.region fun K12 hK12 => ?_
    refine WL.yld (by decide) (Yld.move rfl) ?_
    refine WL.yld (by decide) (Yld.move rfl) ?_
    refine WL.yld (by decide) (Yld.sub rfl rfl (by omega)) ?_
    refine WL.yld (by decide) (Yld.shl_u32 (a := 1#32) rfl rfl (by omega)) ?_
    refine WL.new (v' := U32 (shiftM.getD k 0)) (by rw [shiftM_getD k (by omega)]) ?_
    refine WL.yld (by decide) (Yld.idxArr1 und_70 siz_33 rfl rfl (by omega)) ?_
    refine WL.eff0 (Eff0.storeBM U32 102 siz_33 rfl rfl rfl (by omega)) ?_
    refine WL.done (hK12 _ _ ?_)
    refine QK.blockN ?_
    refine QK.thenN (hK11 _ _ ?_)
    refine WC.region fun K13 hK13 => ?_
    refine WL.yld (by decide) (Yld.move rfl) ?_
    refine WL.yld (by decide) (Yld.add rfl rfl (by omega)) ?_
    refine WL.yld (by decide) (Yld.assign rfl) ?_
    refine WL.done (hK13 _ _ ?_)
    refine QK.thenN (hK7 (k + 1, _) _ _ ?_ ?_ (Sub.cons rfl (Sub.cons rfl (Sub.cons rfl (Sub.nil _)))) (Sub.cons rfl (Sub.cons rfl (Sub.nil _))))
    · exact ⟨by omega, by omega, by simp [ho], take_set_tgt shiftM os k 0 (by rw [shiftM_length]; omega) (by omega) ht⟩
    · dsimp only; omega
  · replace hc10 := of_decide_eq_false hc10
    obtain rfl : k = 32 := by omega
    obtain rfl : os = shiftM := take_all ho shiftM_length ht
    refine WC.exit (QK.thenE (QK.thenE (QK.blockX ?_)))
    refine QK.thenN (hK5 _ _ ?_)
    refine WC.seqRegion fun K14 hK14 => ?_
    refine WL.yld (by decide) (Yld.loadBM (k := 102) agg_70 rfl rfl (by first | assumption | exact cols_length _ | exact shiftM_length | (simp [sqM_length, shiftM_length, cols_length]; done))) ?_
    refine WL.eff0 (Eff0.storeBAM 101 agg_70 rfl rfl rfl ⟨(by first | assumption | exact cols_length _ | exact shiftM_length | (simp [sqM_length, shiftM_length, cols_length]; done)), by simp⟩ (by first | rfl | exact all_one _)) ?_
    refine WL.done (hK14 _ _ ?_)
    refine WC.ret ?_
    exact Ret.fn [] (ResIs.cellM (k := 101) rfl agg_70 rfl rfl (by first | assumption | exact cols_length _ | exact shiftM_length | (simp [sqM_length, shiftM_length, cols_length]; done))) rfl (by decide) ⟨rfl, rfl⟩

set_option maxRecDepth 10000 in
theorem crc_Combine (w : World) (a b : BitVec 32) (nn : Int) (hn : -9223372036854775808 ≤ nn ∧ nn ≤ 9223372036854775807) :
    Fn Try.prog 40 #[U32 a, U32 b, I64 nn] w fun r es => r = U32 (crcComb a b nn) ∧ es = [] := by
  refine Fn.intro (N := 29) Try.func40 rfl rfl (Nat.le_of_ble_eq_true rfl) ?_
  refine WC.seqRegion fun K1 hK1 => ?_
  refine WL.yld (by decide) (Yld.assign (v := U32 0#32) rfl) ?_
  refine WL.done (hK1 _ _ ?_)
  refine WC.seq fun K2 hK2 => ?_
  refine WC.seqRegion fun K3 hK3 => ?_
  refine WL.yld (by decide) (Yld.move rfl) ?_
  refine WL.yld (by decide) (Yld.lss rfl rfl) ?_
  refine WL.done (hK3 _ _ ?_)
  refine WC.cond rfl (fun hc4 => ?_) (fun hc4 => ?_)
  · replace hc4 := of_decide_eq_true hc4
    refine WC.seqRegion fun K5 hK5 => ?_
    refine WL.yld (by decide) (Yld.assign (v := U32 0#32) rfl) ?_
    refine WL.done (hK5 _ _ ?_)
    refine WC.ret (QK.thenR ?_)
    exact Ret.fn [] (ResIs.one rfl rfl) rfl (by decide) ⟨by rw [crcComb, if_pos (by omega)], rfl⟩
  · replace hc4 := of_decide_eq_false hc4
    refine WC.skip ?_
    refine QK.thenN (hK2 _ _ ?_)
    obtain ⟨nn, rfl⟩ : ∃ k : Nat, nn = (k : Int) := ⟨nn.toNat, (Int.toNat_of_nonneg (by omega)).symm⟩
    refine WC.seqRegion fun K6 hK6 => ?_
    refine WL.eff (by decide) (Eff.call 101 rfl Try.func50 nm_50 rfl rfl rfl (fun w hb hh => crc_shift w)) ?_
    rintro _ _ ⟨_, ⟨rfl, rfl⟩, rfl⟩
    refine WL.eff (by decide) (Eff.call 110 rfl Try.func51 nm_51 rfl rfl rfl (fun w hb hh => crc_square w _ (by first | assumption | exact cols_length _ | exact shiftM_length | (simp [sqM_length, shiftM_length, cols_length]; done)))) ?_
    rintro _ _ ⟨_, ⟨rfl, rfl⟩, rfl⟩
    refine WL.eff (by decide) (Eff.call 119 rfl Try.func51 nm_51 rfl rfl rfl (fun w hb hh => crc_square w _ (by first | assumption | exact cols_length _ | exact shiftM_length | (simp [sqM_length, shiftM_length, cols_length]; done)))) ?_
    rintro _ _ ⟨_, ⟨rfl, rfl⟩, rfl⟩
    refine WL.eff (by decide) (Eff.call 128 rfl Try.func51 nm_51 rfl rfl rfl (fun w hb hh => crc_square w _ (by first | assumption | exact cols_length _ | exact shiftM_length | (simp [sqM_length, shiftM_length, cols_length]; done)))) ?_
    rintro _ _ ⟨_, ⟨rfl, rfl⟩, rfl⟩
    refine WL.eff (by decide) (Eff.alloc 137 rfl zer_70) ?_
    rintro _ _ ⟨g137, rfl, rfl⟩
    refine WL.eff0 (Eff0.storeBAM 137 agg_70 rfl rfl rfl ⟨(by first | assumption | exact cols_length _ | exact shiftM_length | (simp [sqM_length, shiftM_length, cols_length]; done)), by simp⟩ (by first | rfl | exact all_one _)) ?_
    refine WL.newH (e' := .blk _ _ ((cols (zs 1)).map U32)) (by rw [sq3_shiftM]) ?_
    refine WL.done (hK6 _ _ ?_)
    refine WC.seq fun K12 hK12 => ?_
    refine WC.block ?_
    refine WC.loop (σ := Nat × BitVec 32 × Nat) (fun ⟨m, a1, q⟩ => [(7, .pointer (some ⟨g137, 0, none⟩)), (0, U32 a1), (1, U32 b), (2, I64 (m : Nat))]) (fun ⟨m, a1, q⟩ => [(137, .blk g137 70 ((cols (zs q)).map U32))]) (fun ⟨m, a1, q⟩ => m ≤ nn ∧ zs (q * m) a1 = zs nn a) (fun ⟨m, a1, q⟩ => m) (nn, _, 1) ?_ (Sub.cons rfl (Sub.cons rfl (Sub.cons rfl (Sub.cons rfl (Sub.nil _))))) (Sub.cons rfl (Sub.nil _)) ?_
    · exact ⟨by omega, by rw [Nat.one_mul]⟩
    rintro ⟨m, a1, q⟩ ⟨hm, hz⟩ K13 hK13
    refine WC.seq fun K14 hK14 => ?_
    refine WC.seqRegion fun K15 hK15 => ?_
    refine WL.yld (by decide) (Yld.move rfl) ?_
    refine WL.yld (by decide) (Yld.gtr rfl rfl) ?_
    refine WL.done (hK15 _ _ ?_)
    refine WC.cond rfl (fun hc16 => ?_) (fun hc16 => ?_)
    · replace hc16 := of_decide_eq_true hc16
      refine WC.skip ?_
      refine QK.thenN (hK14 _ _ ?_)
      refine WC.seq fun K17 hK17 => ?_
      refine WC.block ?_
      refine WC.seq fun K18 hK18 => ?_
      refine WC.seqRegion fun K19 hK19 => ?_
      refine WL.yld (by decide) (Yld.move rfl) ?_
      refine WL.yld (by decide) (Yld.mask_i64 1 rfl rfl (by decide) (by decide)) ?_
      refine WL.yld (by decide) (Yld.eql rfl rfl) ?_
      refine WL.done (hK19 _ _ ?_)
      refine WC.cond rfl (fun hc20 => ?_) (fun hc20 => ?_)
      · replace hc20 := eq_of_beq hc20
        refine WC.region fun K21 hK21 => ?_
        refine WL.yld (by decide) (Yld.loadBM (k := 137) agg_70 rfl rfl (by first | assumption | exact cols_length _ | exact shiftM_length | (simp [sqM_length, shiftM_length, cols_length]; done))) ?_
        refine WL.yld (by decide) (Yld.move rfl) ?_
        refine WL.eff (by decide) (Eff.call 138 rfl Try.func52 nm_52 rfl rfl rfl (fun w hb hh => crc_times w _ _ (by first | assumption | exact cols_length _ | exact shiftM_length | (simp [sqM_length, shiftM_length, cols_length]; done)))) ?_
        rintro _ _ ⟨_, ⟨rfl, rfl⟩, rfl⟩
        refine WL.yld (by decide) (Yld.assign rfl) ?_
        refine WL.done (hK21 _ _ ?_)
        refine QK.thenN (hK18 _ _ ?_)
        refine WC.region fun K23 hK23 => ?_
        refine WL.yld (by decide) (Yld.loadBM (k := 137) agg_70 rfl rfl (by first | assumption | exact cols_length _ | exact shiftM_length | (simp [sqM_length, shiftM_length, cols_length]; done))) ?_
        refine WL.eff (by decide) (Eff.call 147 rfl Try.func51 nm_51 rfl rfl rfl (fun w hb hh => crc_square w _ (by first | assumption | exact cols_length _ | exact shiftM_length | (simp [sqM_length, shiftM_length, cols_length]; done)))) ?_
        rintro _ _ ⟨_, ⟨rfl, rfl⟩, rfl⟩
        refine WL.eff0 (Eff0.storeBAM 137 agg_70 rfl rfl rfl ⟨(by first | assumption | exact cols_length _ | exact shiftM_length | (simp [sqM_length, shiftM_length, cols_length]; done)), (by first | assumption | exact cols_length _ | exact shiftM_length | (simp [sqM_length, shiftM_length, cols_length]; done))⟩ (by first | rfl | exact all_one _)) ?_
        refine WL.newH (e' := .blk _ _ ((cols (zs (2 * q))).map U32)) (by rw [sqM_zs]) ?_
        refine WL.done (hK23 _ _ ?_)
        refine QK.blockN ?_
        refine QK.thenN (hK17 _ _ ?_)
        refine WC.region fun K25 hK25 => ?_
        refine WL.yld (by decide) (Yld.move rfl) ?_
        refine WL.yld (by decide) (Yld.shr_i64 rfl rfl (by omega) (by omega)) ?_
        refine WL.new (v' := I64 ((m / 2 : Nat) : Int)) (by simp) ?_
        refine WL.yld (by decide) (Yld.assign rfl) ?_
        refine WL.done (hK25 _ _ ?_)
        refine QK.thenN (hK13 (m / 2, _, 2 * q) _ _ ?_ ?_ (Sub.cons rfl (Sub.cons rfl (Sub.cons rfl (Sub.cons rfl (Sub.nil _))))) (Sub.cons rfl (Sub.nil _)))
        · exact ⟨by omega, by first | exact half_odd hz (by omega) | exact half_even hz (by omega)⟩
        · dsimp only; omega
      · replace hc20 := ne_of_beq_false hc20
        refine WC.skip ?_
        refine QK.thenN (hK18 _ _ ?_)
        refine WC.region fun K26 hK26 => ?_
        refine WL.yld (by decide) (Yld.loadBM (k := 137) agg_70 rfl rfl (by first | assumption | exact cols_length _ | exact shiftM_length | (simp [sqM_length, shiftM_length, cols_length]; done))) ?_
        refine WL.eff (by decide) (Eff.call 156 rfl Try.func51 nm_51 rfl rfl rfl (fun w hb hh => crc_square w _ (by first | assumption | exact cols_length _ | exact shiftM_length | (simp [sqM_length, shiftM_length, cols_length]; done)))) ?_
        rintro _ _ ⟨_, ⟨rfl, rfl⟩, rfl⟩
        refine WL.eff0 (Eff0.storeBAM 137 agg_70 rfl rfl rfl ⟨(by first | assumption | exact cols_length _ | exact shiftM_length | (simp [sqM_length, shiftM_length, cols_length]; done)), (by first | assumption | exact cols_length _ | exact shiftM_length | (simp [sqM_length, shiftM_length, cols_length]; done))⟩ (by first | rfl | exact all_one _)) ?_
        refine WL.newH (e' := .blk _ _ ((cols (zs (2 * q))).map U32)) (by rw [sqM_zs]) ?_
        refine WL.done (hK26 _ _ ?_)
        refine QK.blockN ?_
        refine QK.thenN (hK17 _ _ ?_)
        refine WC.region fun K28 hK28 => ?_
        refine WL.yld (by decide) (Yld.move rfl) ?_
        refine WL.yld (by decide) (Yld.shr_i64 rfl rfl (by omega) (by omega)) ?_
        refine WL.new (v' := I64 ((m / 2 : Nat) : Int)) (by simp) ?_
        refine WL.yld (by decide) (Yld.assign rfl) ?_
        refine WL.done (hK28 _ _ ?_)
        refine QK.thenN (hK13 (m / 2, _, 2 * q) _ _ ?_ ?_ (Sub.cons rfl (Sub.cons rfl (Sub.cons rfl (Sub.cons rfl (Sub.nil _))))) (Sub.cons rfl (Sub.nil _)))
        · exact ⟨by omega, by first | exact half_odd hz (by omega) | exact half_even hz (by omega)⟩
        · dsimp only; omega
    · replace hc16 := of_decide_eq_false hc16
      obtain rfl : m = 0 := by omega
      refine WC.exit (QK.thenE (QK.thenE (QK.blockX ?_)))
      refine QK.thenN (hK12 _ _ ?_)
      refine WC.seqRegion fun K29 hK29 => ?_
      refine WL.yld (by decide) (Yld.move rfl) ?_
      refine WL.yld (by decide) (Yld.move rfl) ?_
      refine WL.yld (by decide) (Yld.xor_u32 rfl rfl) ?_
      refine WL.yld (by decide) (Yld.assign rfl) ?_
      refine WL.done (hK29 _ _ ?_)
      refine WC.ret ?_
      exact Ret.fn [] (ResIs.one rfl rfl) rfl (by decide) ⟨by rw [crcComb, if_neg (by omega), Int.toNat_natCast, ← hz]; rfl, rfl⟩

set_option maxRecDepth 10000 in
theorem ref_shift (w : World) (r0 : BitVec 32) :
    Fn Try.prog 49 #[U32 r0] w fun r es => r = U32 (crcIter 8 r0) ∧ es = [] := by
  refine Fn.intro (N := 17) Try.func49 rfl rfl (Nat.le_of_ble_eq_true rfl) ?_
  refine WC.seqRegion fun K1 hK1 => ?_
  refine WL.yld (by decide) (Yld.assign (v := U32 0#32) rfl) ?_
  refine WL.done (hK1 _ _ ?_)
  refine WC.seq fun K2 hK2 => ?_
  refine WC.seqRegion fun K3 hK3 => ?_
  refine WL.yld (by decide) (Yld.assign rfl) ?_
  refine WL.done (hK3 _ _ ?_)
  refine WC.block ?_
  refine WC.loop (σ := Nat × BitVec 32) (fun ⟨k, r⟩ => [(0, U32 r), (3, I64 (k : Nat))]) (fun ⟨k, r⟩ => []) (fun ⟨k, r⟩ => k ≤ 8 ∧ r = crcIter k r0) (fun ⟨k, r⟩ => 8 - k) (0, _) ?_ (Sub.cons rfl (Sub.cons rfl (Sub.nil _))) (Sub.nil _) ?_
  · exact ⟨by omega, rfl⟩
  rintro ⟨k, r⟩ ⟨hk, hr⟩ K4 hK4
  refine WC.seq fun K5 hK5 => ?_
  refine WC.seqRegion fun K6 hK6 => ?_
  refine WL.yld (by decide) (Yld.move rfl) ?_
  refine WL.yld (by decide) (Yld.lss rfl rfl) ?_
  refine WL.done (hK6 _ _ ?_)
  refine WC.cond rfl (fun hc7 => ?_) (fun hc7 => ?_)
  · replace hc7 := of_decide_eq_true hc7
    refine WC.skip ?_
    refine QK.thenN (hK5 _ _ ?_)
    refine WC.seq fun K8 hK8 => ?_
    refine WC.block ?_
    refine WC.seqRegion fun K9 hK9 => ?_
    refine WL.yld (by decide) (Yld.move rfl) ?_
    refine WL.yld (by decide) (Yld.and_u32 (b := 1#32) rfl rfl) ?_
    refine WL.yld (by decide) (Yld.eql_u32 (b := 1#32) rfl rfl) ?_
    refine WL.done (hK9 _ _ ?_)
    refine WC.cond rfl (fun hc10 => ?_) (fun hc10 => ?_)
    · replace hc10 := eq_of_beq hc10
      refine WC.region fun K11 hK11 => ?_
      refine WL.yld (by decide) (Yld.move rfl) ?_
      refine WL.yld (by decide) (Yld.shr_u32 rfl rfl (by omega)) ?_
      refine WL.yld (by decide) (Yld.xor_u32 (b := 2197175160#32) rfl rfl) ?_
      refine WL.yld (by decide) (Yld.assign rfl) ?_
      refine WL.done (hK11 _ _ ?_)
      refine QK.blockN ?_
      refine QK.thenN (hK8 _ _ ?_)
      refine WC.region fun K12 hK12 => ?_
      refine WL.yld (by decide) (Yld.move rfl) ?_
      refine WL.yld (by decide) (Yld.add rfl rfl (by omega)) ?_
      refine WL.yld (by decide) (Yld.assign rfl) ?_
      refine WL.done (hK12 _ _ ?_)
      refine QK.thenN (hK4 (k + 1, _) _ _ ?_ ?_ (Sub.cons rfl (Sub.cons rfl (Sub.nil _))) (Sub.nil _))
      · exact ⟨by omega, by subst hr; first | exact (if_pos (by assumption)).symm | exact (if_neg (by assumption)).symm⟩
      · dsimp only; omega
    · replace hc10 := ne_of_beq_false hc10
      refine WC.region fun K13 hK13 => ?_
      refine WL.yld (by decide) (Yld.move rfl) ?_
      refine WL.yld (by decide) (Yld.shr_u32 rfl rfl (by omega)) ?_
      refine WL.yld (by decide) (Yld.assign rfl) ?_
      refine WL.done (hK13 _ _ ?_)
      refine QK.blockN ?_
      refine QK.thenN (hK8 _ _ ?_)
      refine WC.region fun K14 hK14 => ?_
      refine WL.yld (by decide) (Yld.move rfl) ?_
      refine WL.yld (by decide) (Yld.add rfl rfl (by omega)) ?_
      refine WL.yld (by decide) (Yld.assign rfl) ?_
      refine WL.done (hK14 _ _ ?_)
      refine QK.thenN (hK4 (k + 1, _) _ _ ?_ ?_ (Sub.cons rfl (Sub.cons rfl (Sub.nil _))) (Sub.nil _))
      · exact ⟨by omega, by subst hr; first | exact (if_pos (by assumption)).symm | exact (if_neg (by assumption)).symm⟩
      · dsimp only; omega
  · replace hc7 := of_decide_eq_false hc7
    obtain rfl : k = 8 := by omega
    refine WC.exit (QK.thenE (QK.thenE (QK.blockX ?_)))
    refine QK.thenN (hK2 _ _ ?_)
    refine WC.seqRegion fun K15 hK15 => ?_
    refine WL.yld (by decide) (Yld.move rfl) ?_
    refine WL.yld (by decide) (Yld.assign rfl) ?_
    refine WL.done (hK15 _ _ ?_)
    refine WC.ret ?_
    exact Ret.fn [] (ResIs.one rfl rfl) rfl (by decide) ⟨by rw [hr], rfl⟩

set_option maxRecDepth 10000 in
theorem ref_Extend (w : World) (cc : BitVec 32) {A : Option Addr} {n c : Nat} {xs : List (BitVec 8)} (h : SlR w 1 A n c (xs.map U8)) :
    Fn Try.prog 38 #[U32 cc, .slice A n c] w fun r es => r = U32 (crcExt cc xs) ∧ es = [] := by
  have hl := h.len1
  have hcm := h.cm
  have hle := h.le
  unfold maxLen at hcm
  refine Fn.intro (N := 25) Try.func38 rfl rfl (Nat.le_of_ble_eq_true rfl) ?_
  refine WC.seqRegion fun K1 hK1 => ?_
  refine WL.yld (by decide) (Yld.assign (v := U32 0#32) rfl) ?_
  refine WL.done (hK1 _ _ ?_)
  refine WC.seqRegion fun K2 hK2 => ?_
  refine WL.yld (by decide) (Yld.move rfl) ?_
  refine WL.yld (by decide) (Yld.not_u32 rfl) ?_
  refine WL.yld (by decide) (Yld.assign rfl) ?_
  refine WL.done (hK2 _ _ ?_)
  refine WC.seq fun K3 hK3 => ?_
  refine WC.seqRegion fun K4 hK4 => ?_
  refine WL.yld (by decide) (Yld.assign rfl) ?_
  refine WL.done (hK4 _ _ ?_)
  refine WC.block ?_
  refine WC.loop (σ := Nat × BitVec 32) (fun ⟨k, r⟩ => [(1, .slice A n c), (6, I64 (k : Nat)), (5, U32 r)]) (fun ⟨k, r⟩ => []) (fun ⟨k, r⟩ => k ≤ n ∧ r = crcRaw (~~~cc) (xs.take k)) (fun ⟨k, r⟩ => n - k) (0, _) ?_ (Sub.cons rfl (Sub.cons rfl (Sub.cons rfl (Sub.nil _)))) (Sub.nil _) ?_
  · exact ⟨Nat.zero_le _, rfl⟩
  rintro ⟨k, r⟩ ⟨hk, hr⟩ K5 hK5
  subst hr
  refine WC.seq fun K6 hK6 => ?_
  refine WC.seqRegion fun K7 hK7 => ?_
  refine WL.yld (by decide) (Yld.move rfl) ?_
  refine WL.yld (by decide) (Yld.move rfl) ?_
  refine WL.yld (by decide) (Yld.len und_23 rfl) ?_
  refine WL.yld (by decide) (Yld.lss rfl rfl) ?_
  refine WL.done (hK7 _ _ ?_)
  refine WC.cond rfl (fun hc8 => ?_) (fun hc8 => ?_)
  · replace hc8 := of_decide_eq_true hc8
    refine WC.skip ?_
    refine QK.thenN (hK6 _ _ ?_)
    refine WC.seq fun K9 hK9 => ?_
    refine WC.block ?_
    refine WC.region fun K10 hK10 => ?_
    refine WL.yld (by decide) (Yld.move rfl) ?_
    refine WL.yld (by decide) (Yld.move rfl) ?_
    refine WL.yld (by decide) (Yld.move rfl) ?_
    refine WL.yld (by decide) (Yld.idxAddr1 sty_23 rfl rfl (RdH.old h) (by omega)) ?_
    refine WL.yld (by decide) (Yld.loadR scal_5 rfl (RdH.old h) (getElem?_map1 _ _ 0 (by omega))) ?_
    refine WL.yld (by decide) (Yld.conv_u8_u32 some_5 und_33 rfl) ?_
    refine WL.yld (by decide) (Yld.xor_u32 rfl rfl) ?_
    refine WL.eff (by decide) (Eff.call 101 rfl Try.func49 nm_49 rfl rfl rfl (fun w hb hh => ref_shift w _)) ?_
    rintro _ _ ⟨_, ⟨rfl, rfl⟩, rfl⟩
    refine WL.yld (by decide) (Yld.assign rfl) ?_
    refine WL.done (hK10 _ _ ?_)
    refine QK.blockN ?_
    refine QK.thenN (hK9 _ _ ?_)
    refine WC.region fun K12 hK12 => ?_
    refine WL.yld (by decide) (Yld.move rfl) ?_
    refine WL.yld (by decide) (Yld.add rfl rfl (by omega)) ?_
    refine WL.yld (by decide) (Yld.assign rfl) ?_
    refine WL.done (hK12 _ _ ?_)
    refine QK.thenN (hK5 (k + 1, _) _ _ ?_ ?_ (Sub.cons rfl (Sub.cons rfl (Sub.cons rfl (Sub.nil _)))) (Sub.nil _))
    · exact ⟨by omega, by rw [crcRaw_take _ _ _ (by omega)]; rfl⟩
    · dsimp only; omega
  · replace hc8 := of_decide_eq_false hc8
    obtain rfl : k = n := by omega
    refine WC.exit (QK.thenE (QK.thenE (QK.blockX ?_)))
    refine QK.thenN (hK3 _ _ ?_)
    refine WC.seqRegion fun K13 hK13 => ?_
    refine WL.yld (by decide) (Yld.move rfl) ?_
    refine WL.yld (by decide) (Yld.not_u32 rfl) ?_
    refine WL.yld (by decide) (Yld.assign rfl) ?_
    refine WL.done (hK13 _ _ ?_)
    refine WC.ret ?_
    exact Ret.fn [] (ResIs.one rfl rfl) rfl (by decide) ⟨by rw [List.take_of_length_le (by omega)]; rfl, rfl⟩

set_option maxRecDepth 10000 in
theorem ref_Sum (w : World) {A : Option Addr} {n c : Nat} {xs : List (BitVec 8)} (h : SlR w 1 A n c (xs.map U8)) :
    Fn Try.prog 36 #[.slice A n c] w fun r es => r = U32 (crcSum xs) ∧ es = [] := by
  have hl := h.len1
  have hcm := h.cm
  have hle := h.le
  unfold maxLen at hcm
  refine Fn.intro (N := 5) Try.func36 rfl rfl (Nat.le_of_ble_eq_true rfl) ?_
  refine WC.seqRegion fun K1 hK1 => ?_
  refine WL.yld (by decide) (Yld.assign (v := U32 0#32) rfl) ?_
  refine WL.done (hK1 _ _ ?_)
  refine WC.seqRegion fun K2 hK2 => ?_
  refine WL.yld (by decide) (Yld.move rfl) ?_
  refine WL.eff (by decide) (Eff.call 101 rfl Try.func38 nm_38 rfl rfl rfl (fun w hb hh => ref_Extend w (0#32) ((RdH.old h) w hb hh))) ?_
  rintro _ _ ⟨_, ⟨rfl, rfl⟩, rfl⟩
  refine WL.yld (by decide) (Yld.assign rfl) ?_
  refine WL.done (hK2 _ _ ?_)
  refine WC.ret ?_
  exact Ret.fn [] (ResIs.one rfl rfl) rfl (by decide) ⟨rfl, rfl⟩

set_option maxRecDepth 10000 in
theorem ref_zeros (w : World) (r0 : BitVec 32) (nn : Nat) (hn : nn ≤ 9223372036854775807) :
    Fn Try.prog 53 #[U32 r0, I64 (nn : Nat)] w fun r es => r = U32 (zs nn r0) ∧ es = [] := by
  refine Fn.intro (N := 42) Try.func53 rfl rfl (Nat.le_of_ble_eq_true rfl) ?_
  refine WC.seqRegion fun K1 hK1 => ?_
  refine WL.yld (by decide) (Yld.assign (v := U32 0#32) rfl) ?_
  refine WL.done (hK1 _ _ ?_)
  refine WC.seqRegion fun K2 hK2 => ?_
  refine WL.eff (by decide) (Eff.alloc 101 rfl zer_69) ?_
  rintro _ _ ⟨g101, rfl, rfl⟩
  refine WL.done (hK2 _ _ ?_)
  refine WC.seq fun K4 hK4 => ?_
  refine WC.seqRegion fun K5 hK5 => ?_
  refine WL.yld (by decide) (Yld.assign rfl) ?_
  refine WL.done (hK5 _ _ ?_)
  refine WC.block ?_
  refine WC.loop (σ := Nat × List (BitVec 32)) (fun ⟨k, os⟩ => [(5, .pointer (some ⟨g101, 0, none⟩)), (0, U32 r0), (1, I64 (nn : Nat)), (6, I64 (k : Nat))]) (fun ⟨k, os⟩ => [(101, .blk g101 69 (os.map U32))]) (fun ⟨k, os⟩ => k ≤ 32 ∧ os.length = 32 ∧ os.take k = (cols (zs 1)).take k) (fun ⟨k, os⟩ => 32 - k) (0, _) ?_ (Sub.cons rfl (Sub.cons rfl (Sub.cons rfl (Sub.cons rfl (Sub.nil _))))) (Sub.cons rfl (Sub.nil _)) ?_
  · exact ⟨by omega, by decide, rfl⟩
  rintro ⟨k, os⟩ ⟨hk, ho, ht⟩ K6 hK6
  refine WC.seq fun K7 hK7 => ?_
  refine WC.seqRegion fun K8 hK8 => ?_
  refine WL.yld (by decide) (Yld.move rfl) ?_
  refine WL.yld (by decide) (Yld.lss rfl rfl) ?_
  refine WL.done (hK8 _ _ ?_)
  refine WC.cond rfl (fun hc9 => ?_) (fun hc9 => ?_)
  · replace hc9 := of_decide_eq_true hc9
    refine WC.skip ?_
    refine QK.thenN (hK7 _ _ ?_)
    refine WC.seq fun K10 hK10 => ?_
    refine WC.block ?_
    refine WC.region fun K11 hK11 => ?_
    refine WL.yld (by decide) (Yld.move rfl) ?_
    refine WL.yld (by decide) (Yld.move rfl) ?_
    refine WL.yld (by decide) (Yld.conv_i64_uint some_3 und_34 rfl (by omega)) ?_
    refine WL.yld (by decide) (Yld.shl_u32 (a := 1#32) rfl rfl (by omega)) ?_
    refine WL.eff (by decide) (Eff.call 102 rfl Try.func49 nm_49 rfl rfl rfl (fun w hb hh => ref_shift w _)) ?_
    rintro _ _ ⟨_, ⟨rfl, rfl⟩, rfl⟩
    refine WL.new (v' := U32 ((cols (zs 1)).getD k 0)) (by rw [cols_getD _ _ (by omega)]; rfl) ?_
    refine WL.yld (by decide) (Yld.idxArr1 und_69 siz_33 rfl rfl (by omega)) ?_
    refine WL.eff0 (Eff0.storeBM U32 101 siz_33 rfl rfl rfl (by omega)) ?_
    refine WL.done (hK11 _ _ ?_)
    refine QK.blockN ?_
    refine QK.thenN (hK10 _ _ ?_)
    refine WC.region fun K13 hK13 => ?_
    refine WL.yld (by decide) (Yld.move rfl) ?_
    refine WL.yld (by decide) (Yld.add rfl rfl (by omega)) ?_
    refine WL.yld (by decide) (Yld.assign rfl) ?_
    refine WL.done (hK13 _ _ ?_)
    refine QK.thenN (hK6 (k + 1, _) _ _ ?_ ?_ (Sub.cons rfl (Sub.cons rfl (Sub.cons rfl (Sub.cons rfl (Sub.nil _))))) (Sub.cons rfl (Sub.nil _)))
    · exact ⟨by omega, by simp [ho], take_set_tgt (cols (zs 1)) os k 0 (by rw [cols_length]; omega) (by omega) ht⟩
    · dsimp only; omega
  · replace hc9 := of_decide_eq_false hc9
    obtain rfl : k = 32 := by omega
    obtain rfl : os = cols (zs 1) := take_all ho (cols_length _) ht
    refine WC.exit (QK.thenE (QK.thenE (QK.blockX ?_)))
    refine QK.thenN (hK4 _ _ ?_)
    refine WC.seq fun K14 hK14 => ?_
    refine WC.block ?_
    refine WC.loop (σ := Nat × BitVec 32 × Nat) (fun ⟨m, r1, q⟩ => [(5, .pointer (some ⟨g101, 0, none⟩)), (0, U32 r1), (1, I64 (m : Nat))]) (fun ⟨m, r1, q⟩ => [(101, .blk g101 69 ((cols (zs q)).map U32))]) (fun ⟨m, r1, q⟩ => m ≤ nn ∧ zs (q * m) r1 = zs nn r0) (fun ⟨m, r1, q⟩ => m) (nn, _, 1) ?_ (Sub.cons rfl (Sub.cons rfl (Sub.cons rfl (Sub.nil _)))) (Sub.cons rfl (Sub.nil _)) ?_
    · exact ⟨by omega, by rw [Nat.one_mul]⟩
    rintro ⟨m, r1, q⟩ ⟨hm, hz⟩ K15 hK15
    refine WC.seq fun K16 hK16 => ?_
    refine WC.seqRegion fun K17 hK17 => ?_
    refine WL.yld (by decide) (Yld.move rfl) ?_
    refine WL.yld (by decide) (Yld.gtr rfl rfl) ?_
    refine WL.done (hK17 _ _ ?_)
    refine WC.cond rfl (fun hc18 => ?_) (fun hc18 => ?_)
    · replace hc18 := of_decide_eq_true hc18
      refine WC.skip ?_
      refine QK.thenN (hK16 _ _ ?_)
      refine WC.block ?_
      refine WC.seq fun K19 hK19 => ?_
      refine WC.seqRegion fun K20 hK20 => ?_
      refine WL.yld (by decide) (Yld.move rfl) ?_
      refine WL.yld (by decide) (Yld.rem rfl rfl (by omega)) ?_
      refine WL.yld (by decide) (Yld.eql rfl rfl) ?_
      refine WL.done (hK20 _ _ ?_)
      refine WC.cond rfl (fun hc21 => ?_) (fun hc21 => ?_)
      · replace hc21 := eq_of_beq hc21
        refine WC.region fun K22 hK22 => ?_
        refine WL.yld (by decide) (Yld.loadBM (k := 101) agg_69 rfl rfl (by first | assumption | exact cols_length _ | exact shiftM_length | (simp [sqM_length, shiftM_length, cols_length]; done))) ?_
        refine WL.yld (by decide) (Yld.move rfl) ?_
        refine WL.eff (by decide) (Eff.call 111 rfl Try.func55 nm_55 rfl rfl rfl (fun w hb hh => crc_image w _ _ (by first | assumption | exact cols_length _ | exact shiftM_length | (simp [sqM_length, shiftM_length, cols_length]; done)))) ?_
        rintro _ _ ⟨_, ⟨rfl, rfl⟩, rfl⟩
        refine WL.yld (by decide) (Yld.assign rfl) ?_
        refine WL.done (hK22 _ _ ?_)
        refine QK.thenN (hK19 _ _ ?_)
        refine WC.seqRegion fun K24 hK24 => ?_
        refine WL.eff (by decide) (Eff.alloc 120 rfl zer_69) ?_
        rintro _ _ ⟨g120, rfl, rfl⟩
        refine WL.done (hK24 _ _ ?_)
        refine WC.seq fun K26 hK26 => ?_
        refine WC.seqRegion fun K27 hK27 => ?_
        refine WL.yld (by decide) (Yld.assign rfl) ?_
        refine WL.done (hK27 _ _ ?_)
        refine WC.block ?_
        refine WC.loop (σ := Nat × List (BitVec 32)) (fun ⟨k, os⟩ => [(5, .pointer (some ⟨g101, 0, none⟩)), (0, U32 (img (cols (zs q)) r1)), (1, I64 (m : Nat)), (7, .pointer (some ⟨g120, 0, none⟩)), (8, I64 (k : Nat))]) (fun ⟨k, os⟩ => [(101, .blk g101 69 ((cols (zs q)).map U32)), (120, .blk g120 69 (os.map U32))]) (fun ⟨k, os⟩ => k ≤ 32 ∧ os.length = 32 ∧ os.take k = ((cols (zs q)).map (img (cols (zs q)))).take k) (fun ⟨k, os⟩ => 32 - k) (0, _) ?_ (Sub.cons rfl (Sub.cons rfl (Sub.cons rfl (Sub.cons rfl (Sub.cons rfl (Sub.nil _)))))) (Sub.cons rfl (Sub.cons rfl (Sub.nil _))) ?_
        · exact ⟨by omega, by simp, rfl⟩
        rintro ⟨k, os⟩ ⟨hk, ho, ht⟩ K28 hK28
        refine WC.seq fun K29 hK29 => ?_
        refine WC.seqRegion fun K30 hK30 => ?_
        refine WL.yld (by decide) (Yld.move rfl) ?_
        refine WL.yld (by decide) (Yld.lss rfl rfl) ?_
        refine WL.done (hK30 _ _ ?_)
        refine WC.cond rfl (fun hc31 => ?_) (fun hc31 => ?_)
        · replace hc31 := of_decide_eq_true hc31
          refine WC.skip ?_
          refine QK.thenN (hK29 _ _ ?_)
          refine WC.seq fun K32 hK32 => ?_
          refine WC.block ?_
          refine WC.regionD (n := 8) [(101, _)] rfl mixed (Sub.cons rfl (Sub.nil _)) fun K34 hK34 => ?_
          refine WD.take 0 rfl (by kernel_rfl) (by kernel_rfl) (by kernel_rfl) (by decide) (Yld.move rfl) ?_
          refine WD.take 1 rfl (by kernel_rfl) (by kernel_rfl) (by kernel_rfl) (by decide) (Yld.loadBM (k := 101) agg_69 rfl rfl (by first | assumption | exact cols_length _ | exact shiftM_length | (simp [sqM_length, shiftM_length, cols_length]; done))) ?_
          refine WD.take 2 rfl (by kernel_rfl) (by kernel_rfl) (by kernel_rfl) (by decide) (Yld.move rfl) ?_
          refine WD.take 3 rfl (by kernel_rfl) (by kernel_rfl) (by kernel_rfl) (by decide) (Yld.idxArr1 und_69 siz_33 rfl rfl (by omega)) ?_
          refine WD.take 4 rfl (by kernel_rfl) (by kernel_rfl) (by kernel_rfl) (by decide) (Yld.loadB (k := 101) scal_33 rfl rfl (getElem?_map1 _ _ 0 (by rw [cols_length]; omega))) ?_
          refine WD.one 5 (by kernel_rfl) ?_
          refine WS.eff rfl (by decide) (Eff.call 121 rfl Try.func55 nm_55 rfl rfl rfl (fun w hb hh => crc_image w _ _ (by first | assumption | exact cols_length _ | exact shiftM_length | (simp [sqM_length, shiftM_length, cols_length]; done)))) ?_
          rintro _ _ ⟨_, ⟨rfl, rfl⟩, rfl⟩
          refine ⟨(Sub.cons rfl (Sub.nil _)), ?_⟩
          refine WD.one 6 (by kernel_rfl) ?_
          refine WS.yld rfl (by decide) (Yld.idxArr1 und_69 siz_33 rfl rfl (by omega)) ?_
          refine WD.one 7 (by kernel_rfl) ?_
          refine WS.eff0 rfl (Eff0.storeBM U32 120 siz_33 rfl rfl rfl (by omega)) (Sub.cons rfl (Sub.nil _)) ?_
          refine WD.done (by kernel_rfl) (hK34 _ _ ?_)
          refine QK.blockN ?_
          refine QK.thenN (hK32 _ _ ?_)
          refine WC.region fun K36 hK36 => ?_
          refine WL.yld (by decide) (Yld.move rfl) ?_
          refine WL.yld (by decide) (Yld.add rfl rfl (by omega)) ?_
          refine WL.yld (by decide) (Yld.assign rfl) ?_
          refine WL.done (hK36 _ _ ?_)
          refine QK.thenN (hK28 (k + 1, _) _ _ ?_ ?_ (Sub.cons rfl (Sub.cons rfl (Sub.cons rfl (Sub.cons rfl (Sub.cons rfl (Sub.nil _)))))) (Sub.cons rfl (Sub.cons rfl (Sub.nil _))))
          · exact ⟨by omega, by simp [ho], take_set_map (cols (zs q)) (img (cols (zs q))) os k (by rw [cols_length]; omega) (by omega) ht⟩
          · dsimp only; omega
        · replace hc31 := of_decide_eq_false hc31
          obtain rfl : k = 32 := by omega
          obtain rfl : os = sqM (cols (zs q)) := take_all ho (by rw [sqM_length, cols_length]) ht
          refine WC.exit (QK.thenE (QK.thenE (QK.blockX ?_)))
          refine QK.thenN (hK26 _ _ ?_)
          refine WC.region fun K37 hK37 => ?_
          refine WL.yld (by decide) (Yld.loadBM (k := 120) agg_69 rfl rfl (by first | assumption | exact cols_length _ | exact shiftM_length | (simp [sqM_length, shiftM_length, cols_length]; done))) ?_
          refine WL.yld (by decide) (Yld.move rfl) ?_
          refine WL.yld (by decide) (Yld.quo rfl rfl (by omega)) ?_
          refine WL.eff0 (Eff0.storeBAM 101 agg_69 rfl rfl rfl ⟨(by first | assumption | exact cols_length _ | exact shiftM_length | (simp [sqM_length, shiftM_length, cols_length]; done)), (by first | assumption | exact cols_length _ | exact shiftM_length | (simp [sqM_length, shiftM_length, cols_length]; done))⟩ (by first | rfl | exact all_one _)) ?_
          refine WL.newH (e' := .blk _ _ ((cols (zs (2 * q))).map U32)) (by rw [sqM_zs]) ?_
          refine WL.yld (by decide) (Yld.assign rfl) ?_
          refine WL.done (hK37 _ _ ?_)
          refine QK.blockN ?_
          refine QK.thenN (hK15 (m / 2, _, 2 * q) _ _ ?_ ?_ (Sub.cons rfl (Sub.cons rfl (Sub.cons rfl (Sub.nil _)))) (Sub.cons rfl (Sub.nil _)))
          · exact ⟨by omega, by first | exact half_odd hz (by omega) | exact half_even hz (by omega)⟩
          · dsimp only; omega
      · replace hc21 := ne_of_beq_false hc21
        refine WC.skip ?_
        refine QK.thenN (hK19 _ _ ?_)
        refine WC.seqRegion fun K38 hK38 => ?_
        refine WL.eff (by decide) (Eff.alloc 130 rfl zer_69) ?_
        rintro _ _ ⟨g130, rfl, rfl⟩
        refine WL.done (hK38 _ _ ?_)
        refine WC.seq fun K40 hK40 => ?_
        refine WC.seqRegion fun K41 hK41 => ?_
        refine WL.yld (by decide) (Yld.assign rfl) ?_
        refine WL.done (hK41 _ _ ?_)
        refine WC.block ?_
        refine WC.loop (σ := Nat × List (BitVec 32)) (fun ⟨k, os⟩ => [(5, .pointer (some ⟨g101, 0, none⟩)), (0, U32 r1), (1, I64 (m : Nat)), (7, .pointer (some ⟨g130, 0, none⟩)), (8, I64 (k : Nat))]) (fun ⟨k, os⟩ => [(101, .blk g101 69 ((cols (zs q)).map U32)), (130, .blk g130 69 (os.map U32))]) (fun ⟨k, os⟩ => k ≤ 32 ∧ os.length = 32 ∧ os.take k = ((cols (zs q)).map (img (cols (zs q)))).take k) (fun ⟨k, os⟩ => 32 - k) (0, _) ?_ (Sub.cons rfl (Sub.cons rfl (Sub.cons rfl (Sub.cons rfl (Sub.cons rfl (Sub.nil _)))))) (Sub.cons rfl (Sub.cons rfl (Sub.nil _))) ?_
        · exact ⟨by omega, by simp, rfl⟩
        rintro ⟨k, os⟩ ⟨hk, ho, ht⟩ K42 hK42
        refine WC.seq fun K43 hK43 => ?_
        refine WC.seqRegion fun K44 hK44 => ?_
        refine WL.yld (by decide) (Yld.move rfl) ?_
        refine WL.yld (by decide) (Yld.lss rfl rfl) ?_
        refine WL.done (hK44 _ _ ?_)
        refine WC.cond rfl (fun hc45 => ?_) (fun hc45 => ?_)
        · replace hc45 := of_decide_eq_true hc45
          refine WC.skip ?_
          refine QK.thenN (hK43 _ _ ?_)
          refine WC.seq fun K46 hK46 => ?_
          refine WC.block ?_
          refine WC.regionD (n := 8) [(101, _)] rfl mixed (Sub.cons rfl (Sub.nil _)) fun K48 hK48 => ?_
          refine WD.take 0 rfl (by kernel_rfl) (by kernel_rfl) (by kernel_rfl) (by decide) (Yld.move rfl) ?_
          refine WD.take 1 rfl (by kernel_rfl) (by kernel_rfl) (by kernel_rfl) (by decide) (Yld.loadBM (k := 101) agg_69 rfl rfl (by first | assumption | exact cols_length _ | exact shiftM_length | (simp [sqM_length, shiftM_length, cols_length]; done))) ?_
          refine WD.take 2 rfl (by kernel_rfl) (by kernel_rfl) (by kernel_rfl) (by decide) (Yld.move rfl) ?_
          refine WD.take 3 rfl (by kernel_rfl) (by kernel_rfl) (by kernel_rfl) (by decide) (Yld.idxArr1 und_69 siz_33 rfl rfl (by omega)) ?_
          refine WD.take 4 rfl (by kernel_rfl) (by kernel_rfl) (by kernel_rfl) (by decide) (Yld.loadB (k := 101) scal_33 rfl rfl (getElem?_map1 _ _ 0 (by rw [cols_length]; omega))) ?_
          refine WD.one 5 (by kernel_rfl) ?_
          refine WS.eff rfl (by decide) (Eff.call 131 rfl Try.func55 nm_55 rfl rfl rfl (fun w hb hh => crc_image w _ _ (by first | assumption | exact cols_length _ | exact shiftM_length | (simp [sqM_length, shiftM_length, cols_length]; done)))) ?_
          rintro _ _ ⟨_, ⟨rfl, rfl⟩, rfl⟩
          refine ⟨(Sub.cons rfl (Sub.nil _)), ?_⟩
          refine WD.one 6 (by kernel_rfl) ?_
          refine WS.yld rfl (by decide) (Yld.idxArr1 und_69 siz_33 rfl rfl (by omega)) ?_
          refine WD.one 7 (by kernel_rfl) ?_
          refine WS.eff0 rfl (Eff0.storeBM U32 130 siz_33 rfl rfl rfl (by omega)) (Sub.cons rfl (Sub.nil _)) ?_
          refine WD.done (by kernel_rfl) (hK48 _ _ ?_)
          refine QK.blockN ?_
          refine QK.thenN (hK46 _ _ ?_)
          refine WC.region fun K50 hK50 => ?_
          refine WL.yld (by decide) (Yld.move rfl) ?_
          refine WL.yld (by decide) (Yld.add rfl rfl (by omega)) ?_
          refine WL.yld (by decide) (Yld.assign rfl) ?_
          refine WL.done (hK50 _ _ ?_)
          refine QK.thenN (hK42 (k + 1, _) _ _ ?_ ?_ (Sub.cons rfl (Sub.cons rfl (Sub.cons rfl (Sub.cons rfl (Sub.cons rfl (Sub.nil _)))))) (Sub.cons rfl (Sub.cons rfl (Sub.nil _))))
          · exact ⟨by omega, by simp [ho], take_set_map (cols (zs q)) (img (cols (zs q))) os k (by rw [cols_length]; omega) (by omega) ht⟩
          · dsimp only; omega
        · replace hc45 := of_decide_eq_false hc45
          obtain rfl : k = 32 := by omega
          obtain rfl : os = sqM (cols (zs q)) := take_all ho (by rw [sqM_length, cols_length]) ht
          refine WC.exit (QK.thenE (QK.thenE (QK.blockX ?_)))
          refine QK.thenN (hK40 _ _ ?_)
          refine WC.region fun K51 hK51 => ?_
          refine WL.yld (by decide) (Yld.loadBM (k := 130) agg_69 rfl rfl (by first | assumption | exact cols_length _ | exact shiftM_length | (simp [sqM_length, shiftM_length, cols_length]; done))) ?_
          refine WL.yld (by decide) (Yld.move rfl) ?_
          refine WL.yld (by decide) (Yld.quo rfl rfl (by omega)) ?_
          refine WL.eff0 (Eff0.storeBAM 101 agg_69 rfl rfl rfl ⟨(by first | assumption | exact cols_length _ | exact shiftM_length | (simp [sqM_length, shiftM_length, cols_length]; done)), (by first | assumption | exact cols_length _ | exact shiftM_length | (simp [sqM_length, shiftM_length, cols_length]; done))⟩ (by first | rfl | exact all_one _)) ?_
          refine WL.newH (e' := .blk _ _ ((cols (zs (2 * q))).map U32)) (by rw [sqM_zs]) ?_
          refine WL.yld (by decide) (Yld.assign rfl) ?_
          refine WL.done (hK51 _ _ ?_)
          refine QK.blockN ?_
          refine QK.thenN (hK15 (m / 2, _, 2 * q) _ _ ?_ ?_ (Sub.cons rfl (Sub.cons rfl (Sub.cons rfl (Sub.nil _)))) (Sub.cons rfl (Sub.nil _)))
          · exact ⟨by omega, by first | exact half_odd hz (by omega) | exact half_even hz (by omega)⟩
          · dsimp only; omega
    · replace hc18 := of_decide_eq_false hc18
      obtain rfl : m = 0 := by omega
      refine WC.exit (QK.thenE (QK.thenE (QK.blockX ?_)))
      refine QK.thenN (hK14 _ _ ?_)
      refine WC.seqRegion fun K52 hK52 => ?_
      refine WL.yld (by decide) (Yld.move rfl) ?_
      refine WL.yld (by decide) (Yld.assign rfl) ?_
      refine WL.done (hK52 _ _ ?_)
      refine WC.ret ?_
      exact Ret.fn [] (ResIs.one rfl rfl) rfl (by decide) ⟨by rw [← hz]; rfl, rfl⟩

set_option maxRecDepth 10000 in
theorem ref_Combine (w : World) (a b : BitVec 32) (nn : Int) (hn : -9223372036854775808 ≤ nn ∧ nn ≤ 9223372036854775807) :
    Fn Try.prog 41 #[U32 a, U32 b, I64 nn] w fun r es => r = U32 (crcComb a b nn) ∧ es = [] := by
  refine Fn.intro (N := 18) Try.func41 rfl rfl (Nat.le_of_ble_eq_true rfl) ?_
  refine WC.seqRegion fun K1 hK1 => ?_
  refine WL.yld (by decide) (Yld.assign (v := U32 0#32) rfl) ?_
  refine WL.done (hK1 _ _ ?_)
  refine WC.seq fun K2 hK2 => ?_
  refine WC.seqRegion fun K3 hK3 => ?_
  refine WL.yld (by decide) (Yld.move rfl) ?_
  refine WL.yld (by decide) (Yld.lss rfl rfl) ?_
  refine WL.done (hK3 _ _ ?_)
  refine WC.cond rfl (fun hc4 => ?_) (fun hc4 => ?_)
  · replace hc4 := of_decide_eq_true hc4
    refine WC.seqRegion fun K5 hK5 => ?_
    refine WL.yld (by decide) (Yld.assign (v := U32 0#32) rfl) ?_
    refine WL.done (hK5 _ _ ?_)
    refine WC.ret (QK.thenR ?_)
    exact Ret.fn [] (ResIs.one rfl rfl) rfl (by decide) ⟨by rw [crcComb, if_pos (by omega)], rfl⟩
  · replace hc4 := of_decide_eq_false hc4
    refine WC.skip ?_
    refine QK.thenN (hK2 _ _ ?_)
    obtain ⟨nn, rfl⟩ : ∃ k : Nat, nn = (k : Int) := ⟨nn.toNat, (Int.toNat_of_nonneg (by omega)).symm⟩
    refine WC.seqRegion fun K6 hK6 => ?_
    refine WL.yld (by decide) (Yld.move rfl) ?_
    refine WL.yld (by decide) (Yld.not_u32 rfl) ?_
    refine WL.yld (by decide) (Yld.move rfl) ?_
    refine WL.eff (by decide) (Eff.call 101 rfl Try.func53 nm_53 rfl rfl rfl (fun w hb hh => ref_zeros w _ _ (by omega))) ?_
    rintro _ _ ⟨_, ⟨rfl, rfl⟩, rfl⟩
    refine WL.yld (by decide) (Yld.move rfl) ?_
    refine WL.eff (by decide) (Eff.call 110 rfl Try.func53 nm_53 rfl rfl rfl (fun w hb hh => ref_zeros w (4294967295#32) _ (by omega))) ?_
    rintro _ _ ⟨_, ⟨rfl, rfl⟩, rfl⟩
    refine WL.yld (by decide) (Yld.xor_u32 rfl rfl) ?_
    refine WL.yld (by decide) (Yld.move rfl) ?_
    refine WL.yld (by decide) (Yld.xor_u32 rfl rfl) ?_
    refine WL.yld (by decide) (Yld.assign rfl) ?_
    refine WL.done (hK6 _ _ ?_)
    refine WC.ret ?_
    exact Ret.fn [] (ResIs.one rfl rfl) rfl (by decide) ⟨by rw [crcComb, if_neg (by omega)]; exact congrArg U32 (ref_comb a b _), rfl⟩

end Go.Proofs.Ytibopglhgbbmpaa
