/-
  The statements on superblocks: every input, the law returns true.
  Printed by a program of ours (gen.py, spec_law07.py) from the function's operations. Conditions: as each theorem says.
-/
import Derived.Test.YtibopglhgbbmpaaK11
import Derived.Test.YtibopglhgbbmpaaM5
import Derived.Test.YtibopglhgbbmpaaF3
namespace Go.Proofs.Ytibopglhgbbmpaa
open Go Go.RowKit
set_option linter.unusedVariables false

theorem und_26 : Try.prog.underlying 26 = some (.slice 23) := by kernel_rfl
theorem und_39 : Try.prog.underlying 39 = some (.slice 37) := by kernel_rfl
theorem und_4 : Try.prog.underlying 4 = some .bool := by kernel_rfl
theorem fill_39_2 : ∀ a0 a1 a2 a3 a4 a5 : Int, Instr.fill (fun i => some (i * 3, 3)) ((Array.range (2 * 3)).map ((Value.agg #[(I64 0), (I64 0), (I64 0)]).cells[· % (Value.agg #[(I64 0), (I64 0), (I64 0)]).cells.size]!)) [(0, Value.agg #[Value.int .i64 a0, Value.int .i64 a1, Value.int .i64 a2]), (1, Value.agg #[Value.int .i64 a3, Value.int .i64 a4, Value.int .i64 a5])] = some ([Value.int .i64 a0, Value.int .i64 a1, Value.int .i64 a2, Value.int .i64 a3, Value.int .i64 a4, Value.int .i64 a5] : List Value).toArray := fun a0 a1 a2 a3 a4 a5 => by kernel_rfl
theorem nm_26 : (Try.f26.name == "runtime.NumGoroutine") = false := by kernel_rfl
theorem nm_28 : (Try.f28.name == "runtime.NumGoroutine") = false := by kernel_rfl
theorem nm_30 : (Try.f30.name == "runtime.NumGoroutine") = false := by kernel_rfl
theorem nm_33 : (Try.f33.name == "runtime.NumGoroutine") = false := by kernel_rfl
theorem nm_43 : (Try.f43.name == "runtime.NumGoroutine") = false := by kernel_rfl
theorem nm_44 : (Try.f44.name == "runtime.NumGoroutine") = false := by kernel_rfl
theorem scal_23 : scal Try.prog 23 = true := by kernel_rfl
theorem sty_26 : STy Try.prog 26 23 (.slice none 0 0) 1 24 := STy.of und_26 (by kernel_rfl) rfl
theorem sty_39 : STy Try.prog 39 37 (.agg #[(I64 0), (I64 0), (I64 0)]) 3 24 := STy.of und_39 (by kernel_rfl) rfl

set_option maxRecDepth 10000 in
theorem law_SuperblockNext (w : World) (b0_0 : Int) (v0_0 : -9223372036854775808 ≤ b0_0 ∧ b0_0 ≤ 9223372036854775807) (b0_1 : Int) (v0_1 : -9223372036854775808 ≤ b0_1 ∧ b0_1 ≤ 9223372036854775807) (b0_2 : Int) (v0_2 : -9223372036854775808 ≤ b0_2 ∧ b0_2 ≤ 9223372036854775807) (x1 : BitVec 8) :
    Fn Try.prog 8 #[.agg #[I64 b0_0, I64 b0_1, I64 b0_2], U8 x1] w fun r es => r = .bool true := by
  refine Fn.intro (N := 56) Try.func8 rfl rfl (Nat.le_of_ble_eq_true rfl) ?_
  refine WC.seqRegion fun K1 hK1 => ?_
  refine WL.eff (by decide) (Eff.box 101 (us := [I64 b0_0, I64 b0_1, I64 b0_2]) rfl rfl rfl) ?_
  rintro _ _ ⟨g101, rfl, rfl⟩
  refine WL.yld (by decide) (Yld.assign rfl) ?_
  refine WL.done (hK1 _ _ ?_)
  refine WC.seqRegion fun K3 hK3 => ?_
  refine WL.yld (by decide) (Yld.loadBM (k := 101) agg_37 rfl rfl (by first | rfl | (simp [*]; done))) ?_
  refine WL.eff (by decide) (Eff.call 102 rfl Try.func26 nm_26 rfl rfl rfl (fun w hb hh => law07_near w _ _ _ (by omega) (by omega) (by omega))) ?_
  rintro _ _ ⟨_, ⟨rfl, rfl⟩, rfl⟩
  refine WL.eff (by decide) (Eff.alloc 111 rfl zer_37) ?_
  rintro _ _ ⟨g111, rfl, rfl⟩
  refine WL.eff0 (Eff0.storeBAM 111 agg_37 rfl rfl rfl (by first | exact ⟨rfl, rfl⟩ | (constructor <;> simp [*])) (by first | rfl | exact all_one _)) ?_
  refine WL.done (hK3 _ _ ?_)
  refine WC.seq fun K6 hK6 => ?_
  refine WC.seqRegion fun K7 hK7 => ?_
  refine WL.yld (by decide) (Yld.assign rfl) ?_
  refine WL.done (hK7 _ _ ?_)
  refine WC.block ?_
  refine WC.loop (σ := Nat × Int × Int × Int) (fun ⟨i, a, b, c⟩ => [(1, U8 x1), (5, .pointer (some ⟨g111, 0, none⟩)), (6, I64 (i : Nat))]) (fun ⟨i, a, b, c⟩ => [(111, .blk g111 37 [I64 a, I64 b, I64 c])]) (fun ⟨i, a, b, c⟩ => i ≤ x1.toNat ∧ sv a b c = true) (fun ⟨i, a, b, c⟩ => x1.toNat - i) (0, _, _, _) ?_ (Sub.cons rfl (Sub.cons rfl (Sub.cons rfl (Sub.nil _)))) (Sub.cons rfl (Sub.nil _)) ?_
  · exact ⟨by omega, sv_near⟩
  rintro ⟨i, a, b, c⟩ ⟨hi, hv⟩ K8 hK8
  obtain ⟨hv1, hv2, hv3, hv4, hv5, hv6⟩ := sv_iff.1 hv
  have hx8 := x1.isLt
  simp only [Nat.reducePow] at hx8
  refine WC.seq fun K9 hK9 => ?_
  refine WC.seqRegion fun K10 hK10 => ?_
  refine WL.yld (by decide) (Yld.move rfl) ?_
  refine WL.yld (by decide) (Yld.move rfl) ?_
  refine WL.yld (by decide) (Yld.conv_u8_i64 some_5 und_3 rfl) ?_
  refine WL.yld (by decide) (Yld.lss rfl rfl) ?_
  refine WL.done (hK10 _ _ ?_)
  refine WC.cond rfl (fun hc11 => ?_) (fun hc11 => ?_)
  · replace hc11 := of_decide_eq_true hc11
    refine WC.skip ?_
    refine QK.thenN (hK9 _ _ ?_)
    refine WC.seq fun K12 hK12 => ?_
    refine WC.block ?_
    refine WC.seqRegion fun K13 hK13 => ?_
    refine WL.yld (by decide) (Yld.loadBM (k := 111) agg_37 rfl rfl (by first | rfl | (simp [*]; done))) ?_
    refine WL.eff (by decide) (Eff.call 112 rfl Try.func29 nm_29 rfl rfl rfl (fun w hb hh => sb_Next w _ _ _ (by omega) (by omega) (by omega))) ?_
    rintro _ _ ⟨_, ⟨rfl, rfl⟩, rfl⟩
    refine WL.yld (by decide) (Yld.move rfl) ?_
    refine WL.yld (by decide) (Yld.extract rfl rfl) ?_
    refine WL.yld (by decide) (Yld.extract rfl rfl) ?_
    refine WL.eff (by decide) (Eff.alloc 121 rfl zer_37) ?_
    rintro _ _ ⟨g121, rfl, rfl⟩
    refine WL.eff0 (Eff0.storeBAM 121 agg_37 rfl rfl rfl (by first | exact ⟨rfl, rfl⟩ | (constructor <;> simp [*])) (by first | rfl | exact all_one _)) ?_
    refine WL.yld (by decide) (Yld.assign rfl) ?_
    refine WL.done (hK13 _ _ ?_)
    refine WC.seq fun K16 hK16 => ?_
    refine WC.seqRegion fun K17 hK17 => ?_
    refine WL.yld (by decide) (Yld.fieldAddr Try.underlying37 rfl nz_2 rfl rfl) ?_
    refine WL.yld (by decide) (Yld.loadB (k := 111) scal_2 rfl rfl rfl) ?_
    refine WL.yld (by decide) (Yld.eql rfl rfl) ?_
    refine WL.done (hK17 _ _ ?_)
    refine WC.cond rfl (fun hc18 => ?_) (fun hc18 => ?_)
    · replace hc18 := eq_of_beq hc18
      have hcm : c = 4294967295 := hc18
      refine WC.seqRegion fun K19 hK19 => ?_
      refine WL.yld (by decide) (Yld.move rfl) ?_
      refine WL.yld (by decide) (Yld.eql rfl rfl) ?_
      refine WL.new (v' := .bool true) (congrArg Value.bool (by rw [snE_2 hv hcm]; rfl)) ?_
      refine WL.yld (by decide) (Yld.move rfl) ?_
      refine WL.effG (by decide) rfl (Eff.call 122 rfl Try.func33 nm_33 rfl rfl rfl (fun w hb hh => law07_awake w)) ?_
      rintro _ _ ⟨_, ⟨rfl, rfl⟩, rfl⟩
      refine WL.yld (by decide) (Yld.pickT rfl rfl) ?_
      refine WL.yld (by decide) (Yld.assign rfl) ?_
      refine WL.done (hK19 _ _ ?_)
      refine WC.ret (QK.thenR (QK.blockR (QK.thenR (QK.thenR (QK.blockR (QK.thenR ?_))))))
      exact Ret.fn [] (ResIs.one rfl rfl) rfl (by decide) rfl
    · replace hc18 := ne_of_beq_false hc18
      have hcm : c ≠ 4294967295 := hc18
      obtain ⟨e1, e2, e3, e4⟩ := sn_good (snE_0 hv hcm)
      refine WC.skip ?_
      refine QK.thenN (hK16 _ _ ?_)
      refine WC.seq fun K21 hK21 => ?_
      refine WC.seqRegion fun K22 hK22 => ?_
      refine WL.yld (by decide) (Yld.move rfl) ?_
      refine WL.yld (by decide) (Yld.neq rfl rfl) ?_
      refine WL.new (v' := .bool false) (congrArg Value.bool (by rw [e1]; rfl)) ?_
      refine WL.yld (by decide) (Yld.move rfl) ?_
      refine WL.yldG (by decide) rfl (Yld.fieldAddr Try.underlying37 rfl nz_3 rfl rfl) ?_
      refine WL.yldG (by decide) rfl (Yld.loadB (k := 121) scal_3 rfl rfl rfl) ?_
      refine WL.yldG (by decide) rfl (Yld.fieldAddr Try.underlying37 rfl nz_3 rfl rfl) ?_
      refine WL.yldG (by decide) rfl (Yld.loadB (k := 111) scal_3 rfl rfl rfl) ?_
      refine WL.yldG (by decide) rfl (Yld.neq rfl rfl) ?_
      refine WL.new (v' := .bool false) (congrArg Value.bool (by rw [e2]; simp)) ?_
      refine WL.yld (by decide) (Yld.pickF rfl rfl) ?_
      refine WL.yld (by decide) (Yld.move rfl) ?_
      refine WL.yldG (by decide) rfl (Yld.fieldAddr Try.underlying37 rfl nz_3 rfl rfl) ?_
      refine WL.yldG (by decide) rfl (Yld.loadB (k := 121) scal_3 rfl rfl rfl) ?_
      refine WL.yldG (by decide) rfl (Yld.fieldAddr Try.underlying37 rfl nz_3 rfl rfl) ?_
      refine WL.yldG (by decide) rfl (Yld.loadB (k := 111) scal_3 rfl rfl rfl) ?_
      refine WL.yldG (by decide) rfl (Yld.neq rfl rfl) ?_
      refine WL.new (v' := .bool false) (congrArg Value.bool (by rw [e3]; simp)) ?_
      refine WL.yld (by decide) (Yld.pickF rfl rfl) ?_
      refine WL.yld (by decide) (Yld.move rfl) ?_
      refine WL.yldG (by decide) rfl (Yld.fieldAddr Try.underlying37 rfl nz_2 rfl rfl) ?_
      refine WL.yldG (by decide) rfl (Yld.loadB (k := 121) scal_2 rfl rfl rfl) ?_
      refine WL.yldG (by decide) rfl (Yld.fieldAddr Try.underlying37 rfl nz_2 rfl rfl) ?_
      refine WL.yldG (by decide) rfl (Yld.loadB (k := 111) scal_2 rfl rfl rfl) ?_
      refine WL.yldG (by decide) rfl (Yld.add rfl rfl (by omega)) ?_
      refine WL.yldG (by decide) rfl (Yld.neq rfl rfl) ?_
      refine WL.new (v' := .bool false) (congrArg Value.bool (by rw [e4]; simp)) ?_
      refine WL.yld (by decide) (Yld.pickF rfl rfl) ?_
      refine WL.done (hK22 _ _ ?_)
      refine WC.condF rfl ?_
      refine WC.skip ?_
      refine QK.thenN (hK21 _ _ ?_)
      refine WC.region fun K23 hK23 => ?_
      refine WL.yld (by decide) (Yld.loadBM (k := 121) agg_37 rfl rfl (by first | rfl | (simp [*]; done))) ?_
      refine WL.eff0 (Eff0.storeBAM 111 agg_37 rfl rfl rfl (by first | exact ⟨rfl, rfl⟩ | (constructor <;> simp [*])) (by first | rfl | exact all_one _)) ?_
      refine WL.done (hK23 _ _ ?_)
      refine QK.blockN ?_
      refine QK.thenN (hK12 _ _ ?_)
      refine WC.region fun K24 hK24 => ?_
      refine WL.yld (by decide) (Yld.move rfl) ?_
      refine WL.yld (by decide) (Yld.add rfl rfl (by omega)) ?_
      refine WL.yld (by decide) (Yld.assign rfl) ?_
      refine WL.done (hK24 _ _ ?_)
      refine QK.thenN (hK8 (i + 1, _, _, _) _ _ ?_ ?_ (Sub.cons rfl (Sub.cons rfl (Sub.cons rfl (Sub.nil _)))) (Sub.cons rfl (Sub.nil _)))
      · exact ⟨by omega, by rw [e2, e3, e4]; exact sv_iff.2 (by omega)⟩
      · dsimp only; omega
  · replace hc11 := of_decide_eq_false hc11
    refine WC.exit (QK.thenE (QK.thenE (QK.blockX ?_)))
    refine QK.thenN (hK6 _ _ ?_)
    refine WC.seqRegion fun K25 hK25 => ?_
    refine WL.eff (by decide) (Eff.call 131 rfl Try.func33 nm_33 rfl rfl rfl (fun w hb hh => law07_awake w)) ?_
    rintro _ _ ⟨_, ⟨rfl, rfl⟩, rfl⟩
    refine WL.yld (by decide) (Yld.assign rfl) ?_
    refine WL.done (hK25 _ _ ?_)
    refine WC.ret ?_
    exact Ret.fn [] (ResIs.one rfl rfl) rfl (by decide) rfl

set_option maxRecDepth 10000 in
theorem law_SuperblockBursts (w : World) (b0_0 : Int) (v0_0 : -9223372036854775808 ≤ b0_0 ∧ b0_0 ≤ 9223372036854775807) (b0_1 : Int) (v0_1 : -9223372036854775808 ≤ b0_1 ∧ b0_1 ≤ 9223372036854775807) (b0_2 : Int) (v0_2 : -9223372036854775808 ≤ b0_2 ∧ b0_2 ≤ 9223372036854775807) (a1 : Int) (w1 : -9223372036854775808 ≤ a1 ∧ a1 ≤ 9223372036854775807) (x2 : BitVec 32) :
    Fn Try.prog 18 #[.agg #[I64 b0_0, I64 b0_1, I64 b0_2], I64 a1, U32 x2] w fun r es => r = .bool true := by
  refine Fn.intro (N := 81) Try.func18 rfl rfl (Nat.le_of_ble_eq_true rfl) ?_
  refine WC.seqRegion fun K1 hK1 => ?_
  refine WL.eff (by decide) (Eff.box 101 (us := [I64 b0_0, I64 b0_1, I64 b0_2]) rfl rfl rfl) ?_
  rintro _ _ ⟨g101, rfl, rfl⟩
  refine WL.yld (by decide) (Yld.assign rfl) ?_
  refine WL.done (hK1 _ _ ?_)
  have hv : sv (b0_0 % 4) (1 + b0_1 % 8) (b0_2 % 4294967296) = true := sv_near
  have hsb : sbytes (b0_0 % 4) (1 + b0_1 % 8) (b0_2 % 4294967296) = senc (b0_0 % 4) (1 + b0_1 % 8) (b0_2 % 4294967296) := if_pos hv
  have hse : serr (b0_0 % 4) (1 + b0_1 % 8) (b0_2 % 4294967296) = 0 := if_pos hv
  refine WC.seqRegion fun K3 hK3 => ?_
  refine WL.yld (by decide) (Yld.loadBM (k := 101) agg_37 rfl rfl (by first | rfl | (simp [*]; done))) ?_
  refine WL.eff (by decide) (Eff.call 102 rfl Try.func26 nm_26 rfl rfl rfl (fun w hb hh => law07_near w _ _ _ (by omega) (by omega) (by omega))) ?_
  rintro _ _ ⟨_, ⟨rfl, rfl⟩, rfl⟩
  refine WL.eff (by decide) (Eff.call 111 rfl Try.func27 nm_27 rfl rfl rfl (fun w hb hh => sb_Encode w _ _ _ (by omega) (by omega) (by omega))) ?_
  rintro _ _ ⟨_, ⟨A5, c5, rfl, rfl⟩, rfl⟩
  refine WL.newH (e' := .own 5 1 A5 16 c5 ((senc (b0_0 % 4) (1 + b0_1 % 8) (b0_2 % 4294967296)).map U8)) (by rw [hsb, senc_length]) ?_
  refine WL.yld (by decide) (Yld.move rfl) ?_
  refine WL.yld (by decide) (Yld.extract rfl rfl) ?_
  refine WL.new (v' := .slice A5 16 c5) (by show Value.slice A5 (sbytes (b0_0 % 4) (1 + b0_1 % 8) (b0_2 % 4294967296)).length c5 = _; rw [hsb, senc_length]) ?_
  refine WL.yld (by decide) (Yld.extract rfl rfl) ?_
  refine WL.new (v' := I64 0) (congrArg I64 hse) ?_
  refine WL.yld (by decide) (Yld.assign rfl) ?_
  refine WL.yld (by decide) (Yld.assign rfl) ?_
  refine WL.done (hK3 _ _ ?_)
  refine WC.seq fun K6 hK6 => ?_
  refine WC.seqRegion fun K7 hK7 => ?_
  refine WL.yld (by decide) (Yld.move rfl) ?_
  refine WL.yld (by decide) (Yld.neq rfl rfl) ?_
  refine WL.new (v' := .bool false) rfl ?_
  refine WL.yld (by decide) (Yld.move rfl) ?_
  refine WL.yldG (by decide) rfl (Yld.move rfl) ?_
  refine WL.yldG (by decide) rfl (Yld.len und_23 rfl) ?_
  refine WL.yldG (by decide) rfl (Yld.neq rfl rfl) ?_
  refine WL.new (v' := .bool false) rfl ?_
  refine WL.yld (by decide) (Yld.pickF rfl rfl) ?_
  refine WL.done (hK7 _ _ ?_)
  refine WC.condF rfl ?_
  refine WC.skip ?_
  refine QK.thenN (hK6 _ _ ?_)
  obtain ⟨bit, hbit, hbn⟩ := idx_mod a1 128 (by omega)
  have htm := tmod_bd a1 128 (by omega)
  refine WC.seqRegion fun K8 hK8 => ?_
  refine WL.yld (by decide) (Yld.move rfl) ?_
  refine WL.yld (by decide) (Yld.remT rfl rfl (by omega)) ?_
  refine WL.yld (by decide) (Yld.add rfl rfl (by omega)) ?_
  refine WL.yld (by decide) (Yld.rem rfl rfl (by omega)) ?_
  refine WL.new (v' := I64 (bit : Nat)) (congrArg I64 hbit) ?_
  refine WL.yld (by decide) (Yld.assign rfl) ?_
  refine WL.done (hK8 _ _ ?_)
  refine WC.seqRegion fun K9 hK9 => ?_
  refine WL.eff (by decide) (Eff.buildSliceM U8 120 [] sty_23 rfl rfl rfl rfl rfl (by decide)) ?_
  rintro _ _ ⟨g120, rfl, rfl⟩
  refine WL.yld (by decide) (Yld.move rfl) ?_
  refine WL.eff (by decide) (Eff.appendM (f := U8) 120 sty_23 rfl rfl rfl (RdH.own (k := 111) rfl) (by omega)) ?_
  rintro _ _ ⟨A11, c11, rfl, rfl⟩
  refine WL.yld (by decide) (Yld.assign rfl) ?_
  refine WL.done (hK9 _ _ ?_)
  refine WC.seq fun K12 hK12 => ?_
  refine WC.seqRegion fun K13 hK13 => ?_
  refine WL.yld (by decide) (Yld.assign rfl) ?_
  refine WL.done (hK13 _ _ ?_)
  refine WC.block ?_
  refine WC.loop (σ := Nat × List (BitVec 8)) (fun ⟨i, os⟩ => [(2, U32 x2), (7, .slice A5 16 c5), (9, I64 (bit : Nat)), (10, .slice A11 (0 + 16) c11), (11, I64 (i : Nat))]) (fun ⟨i, os⟩ => [(111, .own 5 1 A5 16 c5 ((senc (b0_0 % 4) (1 + b0_1 % 8) (b0_2 % 4294967296)).map U8)), (120, .own 5 1 A11 (0 + 16) c11 (os.map U8))]) (fun ⟨i, os⟩ => i ≤ 32 ∧ bit + i ≤ 128 ∧ os = burstTo (senc (b0_0 % 4) (1 + b0_1 % 8) (b0_2 % 4294967296)) bit x2 i) (fun ⟨i, os⟩ => 32 - i) (0, _) ?_ (Sub.cons rfl (Sub.cons rfl (Sub.cons rfl (Sub.cons rfl (Sub.cons rfl (Sub.nil _)))))) (Sub.cons rfl (Sub.cons rfl (Sub.nil _))) ?_
  · exact ⟨by omega, by omega, rfl⟩
  rintro ⟨i, os⟩ ⟨hi, hki, ho⟩ K14 hK14
  have hol : os.length = 16 := by rw [ho, burstTo_length, senc_length]
  refine WC.seq fun K15 hK15 => ?_
  refine WC.seqRegion fun K16 hK16 => ?_
  refine WL.yld (by decide) (Yld.move rfl) ?_
  refine WL.yld (by decide) (Yld.lss rfl rfl) ?_
  refine WL.yld (by decide) (Yld.move rfl) ?_
  refine WL.bool (fun hb17 => ?_) (fun hb17 => ?_)
  · replace hb17 := of_decide_eq_true hb17
    refine WL.yldG (by decide) rfl (Yld.move rfl) ?_
    refine WL.yldG (by decide) rfl (Yld.move rfl) ?_
    refine WL.yldG (by decide) rfl (Yld.add rfl rfl (by omega)) ?_
    refine WL.yldG (by decide) rfl (Yld.lss rfl rfl) ?_
    refine WL.yld (by decide) (Yld.pickT rfl rfl) ?_
    refine WL.done (hK16 _ _ ?_)
    refine WC.cond rfl (fun hc18 => ?_) (fun hc18 => ?_)
    · replace hc18 := of_decide_eq_true hc18
      refine WC.skip ?_
      refine QK.thenN (hK15 _ _ ?_)
      refine WC.seq fun K19 hK19 => ?_
      refine WC.block ?_
      refine WC.region fun K20 hK20 => ?_
      refine WL.yld (by decide) (Yld.move rfl) ?_
      refine WL.yld (by decide) (Yld.move rfl) ?_
      refine WL.yld (by decide) (Yld.move rfl) ?_
      refine WL.yld (by decide) (Yld.add rfl rfl (by omega)) ?_
      refine WL.yld (by decide) (Yld.quo rfl rfl (by omega)) ?_
      refine WL.new (v' := I64 (((bit + i) / 8 : Nat) : Int)) (congrArg I64 (by omega)) ?_
      refine WL.yld (by decide) (Yld.idxAddr1 sty_23 rfl rfl (RdH.own (k := 120) rfl) (by omega)) ?_
      refine WL.yld (by decide) (Yld.loadR scal_5 rfl (RdH.own (k := 120) rfl) (getElem?_map1 _ _ 0 (by omega))) ?_
      refine WL.yld (by decide) (Yld.move rfl) ?_
      refine WL.yld (by decide) (Yld.move rfl) ?_
      refine WL.yld (by decide) (Yld.conv_i64_uint some_3 und_34 rfl (by omega)) ?_
      refine WL.yld (by decide) (Yld.shr_u32 rfl rfl (by omega)) ?_
      refine WL.yld (by decide) (Yld.and_u32 (b := 1#32) rfl rfl) ?_
      refine WL.yld (by decide) (Yld.move rfl) ?_
      refine WL.yld (by decide) (Yld.move rfl) ?_
      refine WL.yld (by decide) (Yld.add rfl rfl (by omega)) ?_
      refine WL.yld (by decide) (Yld.rem rfl rfl (by omega)) ?_
      refine WL.new (v' := I64 (((bit + i) % 8 : Nat) : Int)) (congrArg I64 (by omega)) ?_
      refine WL.yld (by decide) (Yld.conv_i64_uint some_3 und_34 rfl (by omega)) ?_
      refine WL.yld (by decide) (Yld.shl_u32 rfl rfl (by omega)) ?_
      refine WL.yld (by decide) (Yld.conv_u32_u8 some_33 und_5 rfl) ?_
      refine WL.yld (by decide) (Yld.xor_u8 rfl rfl) ?_
      refine WL.yld (by decide) (Yld.idxAddr1 sty_23 rfl rfl (RdH.own (k := 120) rfl) (by omega)) ?_
      refine WL.eff0 (Eff0.storeOM U8 120 siz_5 rfl rfl rfl (by omega)) ?_
      refine WL.done (hK20 _ _ ?_)
      refine QK.blockN ?_
      refine QK.thenN (hK19 _ _ ?_)
      refine WC.region fun K21 hK21 => ?_
      refine WL.yld (by decide) (Yld.move rfl) ?_
      refine WL.yld (by decide) (Yld.add rfl rfl (by omega)) ?_
      refine WL.yld (by decide) (Yld.assign rfl) ?_
      refine WL.done (hK21 _ _ ?_)
      refine QK.thenN (hK14 (i + 1, _) _ _ ?_ ?_ (Sub.cons rfl (Sub.cons rfl (Sub.cons rfl (Sub.cons rfl (Sub.cons rfl (Sub.nil _)))))) (Sub.cons rfl (Sub.cons rfl (Sub.nil _))))
      · exact ⟨by omega, by omega, by subst ho; rfl⟩
      · dsimp only; omega
    · replace hc18 := of_decide_eq_false hc18
      refine WC.exit (QK.thenE (QK.thenE (QK.blockX ?_)))
      refine QK.thenN (hK12 _ _ ?_)
      refine WC.seqRegion fun K22 hK22 => ?_
      refine WL.yld (by decide) (Yld.move rfl) ?_
      refine WL.eff (by decide) (Eff.call 121 rfl Try.func43 nm_43 rfl rfl rfl (fun w hb hh => sb_Decode w ((RdH.own (k := 120) rfl) w hb hh))) ?_
      rintro _ _ ⟨_, ⟨rfl, rfl⟩, rfl⟩
      refine WL.yld (by decide) (Yld.move rfl) ?_
      refine WL.yld (by decide) (Yld.extract rfl rfl) ?_
      refine WL.yld (by decide) (Yld.extract rfl rfl) ?_
      refine WL.eff (by decide) (Eff.alloc 130 rfl zer_37) ?_
      rintro _ _ ⟨g130, rfl, rfl⟩
      refine WL.eff0 (Eff0.storeBAM 130 agg_37 rfl rfl rfl (by first | exact ⟨rfl, rfl⟩ | (constructor <;> simp [*])) (by first | rfl | exact all_one _)) ?_
      refine WL.yld (by decide) (Yld.assign rfl) ?_
      refine WL.done (hK22 _ _ ?_)
      refine WC.seqRegion fun K25 hK25 => ?_
      refine WL.yld (by decide) (Yld.move rfl) ?_
      refine WL.yld (by decide) (Yld.b2s und_23 und_5 und_9 rfl (RdH.own (k := 111) rfl)) ?_
      refine WL.yld (by decide) (Yld.move rfl) ?_
      refine WL.yld (by decide) (Yld.b2s und_23 und_5 und_9 rfl (RdH.own (k := 120) rfl)) ?_
      refine WL.yld (by decide) (Yld.eqlStr rfl rfl) ?_
      refine WL.yld (by decide) (Yld.move rfl) ?_
      refine WL.yld (by decide) (Yld.eql rfl rfl) ?_
      refine WL.yld (by decide) (Yld.eqlB und_4 rfl rfl) ?_
      refine WL.new (v' := .bool true) (by subst ho; exact congrArg Value.bool (sb_burst hv _ _ _ (by omega))) ?_
      refine WL.yld (by decide) (Yld.move rfl) ?_
      refine WL.effG (by decide) rfl (Eff.call 131 rfl Try.func33 nm_33 rfl rfl rfl (fun w hb hh => law07_awake w)) ?_
      rintro _ _ ⟨_, ⟨rfl, rfl⟩, rfl⟩
      refine WL.yld (by decide) (Yld.pickT rfl rfl) ?_
      refine WL.yld (by decide) (Yld.assign rfl) ?_
      refine WL.done (hK25 _ _ ?_)
      refine WC.ret ?_
      exact Ret.fn [] (ResIs.one rfl rfl) rfl (by decide) rfl
  · replace hb17 := of_decide_eq_false hb17
    refine WL.skip (by decide) rfl rfl ?_
    refine WL.skip (by decide) rfl rfl ?_
    refine WL.skip (by decide) rfl rfl ?_
    refine WL.skip (by decide) rfl rfl ?_
    refine WL.yld (by decide) (Yld.pickF rfl rfl) ?_
    refine WL.done (hK16 _ _ ?_)
    refine WC.condF rfl ?_
    refine WC.exit (QK.thenE (QK.thenE (QK.blockX ?_)))
    refine QK.thenN (hK12 _ _ ?_)
    refine WC.seqRegion fun K27 hK27 => ?_
    refine WL.yld (by decide) (Yld.move rfl) ?_
    refine WL.eff (by decide) (Eff.call 140 rfl Try.func43 nm_43 rfl rfl rfl (fun w hb hh => sb_Decode w ((RdH.own (k := 120) rfl) w hb hh))) ?_
    rintro _ _ ⟨_, ⟨rfl, rfl⟩, rfl⟩
    refine WL.yld (by decide) (Yld.move rfl) ?_
    refine WL.yld (by decide) (Yld.extract rfl rfl) ?_
    refine WL.yld (by decide) (Yld.extract rfl rfl) ?_
    refine WL.eff (by decide) (Eff.alloc 149 rfl zer_37) ?_
    rintro _ _ ⟨g149, rfl, rfl⟩
    refine WL.eff0 (Eff0.storeBAM 149 agg_37 rfl rfl rfl (by first | exact ⟨rfl, rfl⟩ | (constructor <;> simp [*])) (by first | rfl | exact all_one _)) ?_
    refine WL.yld (by decide) (Yld.assign rfl) ?_
    refine WL.done (hK27 _ _ ?_)
    refine WC.seqRegion fun K30 hK30 => ?_
    refine WL.yld (by decide) (Yld.move rfl) ?_
    refine WL.yld (by decide) (Yld.b2s und_23 und_5 und_9 rfl (RdH.own (k := 111) rfl)) ?_
    refine WL.yld (by decide) (Yld.move rfl) ?_
    refine WL.yld (by decide) (Yld.b2s und_23 und_5 und_9 rfl (RdH.own (k := 120) rfl)) ?_
    refine WL.yld (by decide) (Yld.eqlStr rfl rfl) ?_
    refine WL.yld (by decide) (Yld.move rfl) ?_
    refine WL.yld (by decide) (Yld.eql rfl rfl) ?_
    refine WL.yld (by decide) (Yld.eqlB und_4 rfl rfl) ?_
    refine WL.new (v' := .bool true) (by subst ho; exact congrArg Value.bool (sb_burst hv _ _ _ (by omega))) ?_
    refine WL.yld (by decide) (Yld.move rfl) ?_
    refine WL.effG (by decide) rfl (Eff.call 150 rfl Try.func33 nm_33 rfl rfl rfl (fun w hb hh => law07_awake w)) ?_
    rintro _ _ ⟨_, ⟨rfl, rfl⟩, rfl⟩
    refine WL.yld (by decide) (Yld.pickT rfl rfl) ?_
    refine WL.yld (by decide) (Yld.assign rfl) ?_
    refine WL.done (hK30 _ _ ?_)
    refine WC.ret ?_
    exact Ret.fn [] (ResIs.one rfl rfl) rfl (by decide) rfl

set_option maxRecDepth 10000 in
theorem law_SuperblockEncodes (w : World) (b0_0 : Int) (v0_0 : -9223372036854775808 ≤ b0_0 ∧ b0_0 ≤ 9223372036854775807) (b0_1 : Int) (v0_1 : -9223372036854775808 ≤ b0_1 ∧ b0_1 ≤ 9223372036854775807) (b0_2 : Int) (v0_2 : -9223372036854775808 ≤ b0_2 ∧ b0_2 ≤ 9223372036854775807) :
    Fn Try.prog 7 #[.agg #[I64 b0_0, I64 b0_1, I64 b0_2]] w fun r es => r = .bool true := by
  refine Fn.intro (N := 71) Try.func7 rfl rfl (Nat.le_of_ble_eq_true rfl) ?_
  refine WC.seqRegion fun K1 hK1 => ?_
  refine WL.eff (by decide) (Eff.box 101 (us := [I64 b0_0, I64 b0_1, I64 b0_2]) rfl rfl rfl) ?_
  rintro _ _ ⟨g101, rfl, rfl⟩
  refine WL.yld (by decide) (Yld.assign rfl) ?_
  refine WL.done (hK1 _ _ ?_)
  refine WC.seq fun K3 hK3 => ?_
  refine WC.seqRegionD (n := 6) [(101, _)] rfl mixed (Sub.cons rfl (Sub.nil _)) fun K5 hK5 => ?_
  refine WD.take 0 rfl (by kernel_rfl) (by kernel_rfl) (by kernel_rfl) (by decide) (Yld.loadBM (k := 101) agg_37 rfl rfl (by first | rfl | (simp [*]; done))) ?_
  refine WD.take 1 rfl (by kernel_rfl) (by kernel_rfl) (by kernel_rfl) (by decide) (Yld.loadBM (k := 101) agg_37 rfl rfl (by first | rfl | (simp [*]; done))) ?_
  refine WD.take 5 rfl (by kernel_rfl) (by kernel_rfl) (by kernel_rfl) (by decide) (Yld.move rfl) ?_
  refine WD.one 2 (by kernel_rfl) ?_
  refine WS.eff rfl (by decide) (Eff.call 102 rfl Try.func26 nm_26 rfl rfl rfl (fun w hb hh => law07_near w _ _ _ (by omega) (by omega) (by omega))) ?_
  rintro _ _ ⟨_, ⟨rfl, rfl⟩, rfl⟩
  refine ⟨(Sub.cons rfl (Sub.nil _)), ?_⟩
  refine WD.one 3 (by kernel_rfl) ?_
  refine WS.eff rfl (by decide) (Eff.buildSliceA 111 sty_39 rfl rfl (by decide) (fill_39_2 _ _ _ _ _ _) rfl) ?_
  rintro _ _ ⟨g111, rfl, rfl⟩
  refine ⟨(Sub.cons rfl (Sub.nil _)), ?_⟩
  refine WD.take 4 rfl (by kernel_rfl) (by kernel_rfl) (by kernel_rfl) (by decide) (Yld.len und_39 rfl) ?_
  refine WD.done (by kernel_rfl) (hK5 _ _ ?_)
  refine WC.block ?_
  refine WC.loop (σ := Nat) (fun k => [(16, .slice (some ⟨g111, 0, none⟩) 2 2), (17, I64 ((2 : Nat) : Int)), (18, I64 (k : Nat))]) (fun k => [(111, .own 37 3 (some ⟨g111, 0, none⟩) 2 2 [I64 b0_0, I64 b0_1, I64 b0_2, I64 (b0_0 % 4), I64 (1 + b0_1 % 8), I64 (b0_2 % 4294967296)])]) (fun k => k ≤ 2) (fun k => 2 - k) 0 ?_ (Sub.cons rfl (Sub.cons rfl (Sub.cons rfl (Sub.nil _)))) (Sub.cons rfl (Sub.nil _)) ?_
  · exact Nat.zero_le _
  rintro k hk K8 hK8
  rcases (by omega : k = 0 ∨ k = 1 ∨ k = 2) with rfl | rfl | rfl
  · skip
    refine WC.seqRegion fun K9 hK9 => ?_
    refine WL.yld (by decide) (Yld.lss rfl rfl) ?_
    refine WL.done (hK9 _ _ ?_)
    refine WC.seq fun K10 hK10 => ?_
    refine WC.cond rfl (fun hc11 => ?_) (fun hc11 => ?_)
    · replace hc11 := of_decide_eq_true hc11
      refine WC.skip ?_
      refine QK.thenN (hK10 _ _ ?_)
      refine WC.seq fun K12 hK12 => ?_
      refine WC.block ?_
      refine WC.seqRegion fun K13 hK13 => ?_
      refine WL.yld (by decide) (Yld.idxAddr sty_39 rfl rfl (RdH.own (k := 111) rfl) (by decide) (by omega)) ?_
      refine WL.yld (by decide) (Yld.loadRD (us := [I64 b0_0, I64 b0_1, I64 b0_2]) agg_37 rfl (RdH.own (k := 111) rfl) rfl rfl) ?_
      refine WL.eff (by decide) (Eff.alloc 112 rfl zer_37) ?_
      rintro _ _ ⟨g112, rfl, rfl⟩
      refine WL.eff0 (Eff0.storeBAM 112 agg_37 rfl rfl rfl (by first | exact ⟨rfl, rfl⟩ | (constructor <;> simp [*])) (by first | rfl | exact all_one _)) ?_
      refine WL.done (hK13 _ _ ?_)
      refine WC.seqRegion fun K15 hK15 => ?_
      refine WL.yld (by decide) (Yld.loadBM (k := 112) agg_37 rfl rfl (by first | rfl | (simp [*]; done))) ?_
      refine WL.eff (by decide) (Eff.call 113 rfl Try.func27 nm_27 rfl rfl rfl (fun w hb hh => sb_Encode w _ _ _ (by omega) (by omega) (by omega))) ?_
      rintro _ _ ⟨_, ⟨A16, c16, rfl, rfl⟩, rfl⟩
      refine WL.yld (by decide) (Yld.move rfl) ?_
      refine WL.yld (by decide) (Yld.extract rfl rfl) ?_
      refine WL.yld (by decide) (Yld.extract rfl rfl) ?_
      refine WL.yld (by decide) (Yld.assign rfl) ?_
      refine WL.yld (by decide) (Yld.assign rfl) ?_
      refine WL.done (hK15 _ _ ?_)
      refine WC.seqRegion fun K17 hK17 => ?_
      refine WL.yld (by decide) (Yld.loadBM (k := 112) agg_37 rfl rfl (by first | rfl | (simp [*]; done))) ?_
      refine WL.eff (by decide) (Eff.call 122 rfl Try.func28 nm_28 rfl rfl rfl (fun w hb hh => r07_Encode w _ _ _ (by omega) (by omega) (by omega))) ?_
      rintro _ _ ⟨_, ⟨A18, c18, rfl, rfl⟩, rfl⟩
      refine WL.yld (by decide) (Yld.move rfl) ?_
      refine WL.yld (by decide) (Yld.extract rfl rfl) ?_
      refine WL.yld (by decide) (Yld.extract rfl rfl) ?_
      refine WL.yld (by decide) (Yld.assign rfl) ?_
      refine WL.yld (by decide) (Yld.assign rfl) ?_
      refine WL.done (hK17 _ _ ?_)
      refine WC.seqRegion fun K19 hK19 => ?_
      refine WL.yld (by decide) (Yld.loadBM (k := 112) agg_37 rfl rfl (by first | rfl | (simp [*]; done))) ?_
      refine WL.eff (by decide) (Eff.call 131 rfl Try.func29 nm_29 rfl rfl rfl (fun w hb hh => sb_Next w _ _ _ (by omega) (by omega) (by omega))) ?_
      rintro _ _ ⟨_, ⟨rfl, rfl⟩, rfl⟩
      refine WL.yld (by decide) (Yld.move rfl) ?_
      refine WL.yld (by decide) (Yld.extract rfl rfl) ?_
      refine WL.yld (by decide) (Yld.extract rfl rfl) ?_
      refine WL.eff (by decide) (Eff.alloc 140 rfl zer_37) ?_
      rintro _ _ ⟨g140, rfl, rfl⟩
      refine WL.eff0 (Eff0.storeBAM 140 agg_37 rfl rfl rfl (by first | exact ⟨rfl, rfl⟩ | (constructor <;> simp [*])) (by first | rfl | exact all_one _)) ?_
      refine WL.yld (by decide) (Yld.assign rfl) ?_
      refine WL.done (hK19 _ _ ?_)
      refine WC.seqRegion fun K22 hK22 => ?_
      refine WL.yld (by decide) (Yld.loadBM (k := 112) agg_37 rfl rfl (by first | rfl | (simp [*]; done))) ?_
      refine WL.eff (by decide) (Eff.call 141 rfl Try.func30 nm_30 rfl rfl rfl (fun w hb hh => r07_Next w _ _ _ (by omega) (by omega) (by omega))) ?_
      rintro _ _ ⟨_, ⟨rfl, rfl⟩, rfl⟩
      refine WL.yld (by decide) (Yld.move rfl) ?_
      refine WL.yld (by decide) (Yld.extract rfl rfl) ?_
      refine WL.yld (by decide) (Yld.extract rfl rfl) ?_
      refine WL.eff (by decide) (Eff.alloc 150 rfl zer_37) ?_
      rintro _ _ ⟨g150, rfl, rfl⟩
      refine WL.eff0 (Eff0.storeBAM 150 agg_37 rfl rfl rfl (by first | exact ⟨rfl, rfl⟩ | (constructor <;> simp [*])) (by first | rfl | exact all_one _)) ?_
      refine WL.yld (by decide) (Yld.assign rfl) ?_
      refine WL.done (hK22 _ _ ?_)
      refine WC.seqRegionD (n := 27) [(111, _), (112, _), (113, _), (122, _), (140, _), (150, _)] rfl mixed (Sub.cons rfl (Sub.cons rfl (Sub.cons rfl (Sub.cons rfl (Sub.cons rfl (Sub.cons rfl (Sub.nil _))))))) fun K26 hK26 => ?_
      refine WD.take 0 rfl (by kernel_rfl) (by kernel_rfl) (by kernel_rfl) (by decide) (Yld.loadBM (k := 112) agg_37 rfl rfl (by first | rfl | (simp [*]; done))) ?_
      refine WD.take 2 rfl (by kernel_rfl) (by kernel_rfl) (by kernel_rfl) (by decide) (Yld.loadBM (k := 112) agg_37 rfl rfl (by first | rfl | (simp [*]; done))) ?_
      refine WD.one 1 (by kernel_rfl) ?_
      refine WS.eff rfl (by decide) (Eff.call 151 rfl Try.func31 nm_31 rfl rfl rfl (fun w hb hh => sb_Valid w _ _ _)) ?_
      rintro _ _ ⟨_, ⟨rfl, rfl⟩, rfl⟩
      refine ⟨(Sub.cons rfl (Sub.cons rfl (Sub.cons rfl (Sub.cons rfl (Sub.cons rfl (Sub.cons rfl (Sub.nil _))))))), ?_⟩
      refine WD.one 3 (by kernel_rfl) ?_
      refine WS.eff rfl (by decide) (Eff.call 160 rfl Try.func32 nm_32 rfl rfl rfl (fun w hb hh => r07_Valid w _ _ _)) ?_
      rintro _ _ ⟨_, ⟨rfl, rfl⟩, rfl⟩
      refine ⟨(Sub.cons rfl (Sub.cons rfl (Sub.cons rfl (Sub.cons rfl (Sub.cons rfl (Sub.cons rfl (Sub.nil _))))))), ?_⟩
      refine WD.take 4 rfl (by kernel_rfl) (by kernel_rfl) (by kernel_rfl) (by decide) (Yld.neqB und_4 rfl rfl) ?_
      refine WD.new (v' := .bool false) (congrArg Value.bool (by simp)) ?_
      refine WD.take 5 rfl (by kernel_rfl) (by kernel_rfl) (by kernel_rfl) (by decide) (Yld.move rfl) ?_
      refine WD.takeG 6 rfl (by kernel_rfl) (by kernel_rfl) (by kernel_rfl) (by decide) rfl (Yld.move rfl) ?_
      refine WD.takeG 7 rfl (by kernel_rfl) (by kernel_rfl) (by kernel_rfl) (by decide) rfl (Yld.move rfl) ?_
      refine WD.takeG 8 rfl (by kernel_rfl) (by kernel_rfl) (by kernel_rfl) (by decide) rfl (Yld.neq rfl rfl) ?_
      refine WD.new (v' := .bool false) (congrArg Value.bool (by simp)) ?_
      refine WD.take 9 rfl (by kernel_rfl) (by kernel_rfl) (by kernel_rfl) (by decide) (Yld.pickF rfl rfl) ?_
      refine WD.take 10 rfl (by kernel_rfl) (by kernel_rfl) (by kernel_rfl) (by decide) (Yld.move rfl) ?_
      refine WD.takeG 11 rfl (by kernel_rfl) (by kernel_rfl) (by kernel_rfl) (by decide) rfl (Yld.move rfl) ?_
      refine WD.takeG 12 rfl (by kernel_rfl) (by kernel_rfl) (by kernel_rfl) (by decide) rfl (Yld.move rfl) ?_
      refine WD.takeG 13 rfl (by kernel_rfl) (by kernel_rfl) (by kernel_rfl) (by decide) rfl (Yld.neq rfl rfl) ?_
      refine WD.new (v' := .bool false) (congrArg Value.bool (by simp)) ?_
      refine WD.take 14 rfl (by kernel_rfl) (by kernel_rfl) (by kernel_rfl) (by decide) (Yld.pickF rfl rfl) ?_
      refine WD.take 15 rfl (by kernel_rfl) (by kernel_rfl) (by kernel_rfl) (by decide) (Yld.move rfl) ?_
      refine WD.takeG 16 rfl (by kernel_rfl) (by kernel_rfl) (by kernel_rfl) (by decide) rfl (Yld.move rfl) ?_
      refine WD.takeG 17 rfl (by kernel_rfl) (by kernel_rfl) (by kernel_rfl) (by decide) rfl (Yld.b2s und_23 und_5 und_9 rfl (RdH.own (k := 113) rfl)) ?_
      refine WD.takeG 18 rfl (by kernel_rfl) (by kernel_rfl) (by kernel_rfl) (by decide) rfl (Yld.move rfl) ?_
      refine WD.takeG 19 rfl (by kernel_rfl) (by kernel_rfl) (by kernel_rfl) (by decide) rfl (Yld.b2s und_23 und_5 und_9 rfl (RdH.own (k := 122) rfl)) ?_
      refine WD.takeG 20 rfl (by kernel_rfl) (by kernel_rfl) (by kernel_rfl) (by decide) rfl (Yld.neqStr rfl rfl) ?_
      refine WD.new (v' := .bool false) (congrArg Value.bool (by simp)) ?_
      refine WD.take 21 rfl (by kernel_rfl) (by kernel_rfl) (by kernel_rfl) (by decide) (Yld.pickF rfl rfl) ?_
      refine WD.take 22 rfl (by kernel_rfl) (by kernel_rfl) (by kernel_rfl) (by decide) (Yld.move rfl) ?_
      refine WD.takeG 23 rfl (by kernel_rfl) (by kernel_rfl) (by kernel_rfl) (by decide) rfl (Yld.loadBM (k := 140) agg_37 rfl rfl (by first | rfl | (simp [*]; done))) ?_
      refine WD.takeG 24 rfl (by kernel_rfl) (by kernel_rfl) (by kernel_rfl) (by decide) rfl (Yld.loadBM (k := 150) agg_37 rfl rfl (by first | rfl | (simp [*]; done))) ?_
      refine WD.takeG 25 rfl (by kernel_rfl) (by kernel_rfl) (by kernel_rfl) (by decide) rfl (Yld.neqA (zeqs_37 _ _ _ _ _ _) rfl rfl) ?_
      refine WD.new (v' := .bool false) (congrArg Value.bool (by simp)) ?_
      refine WD.take 26 rfl (by kernel_rfl) (by kernel_rfl) (by kernel_rfl) (by decide) (Yld.pickF rfl rfl) ?_
      refine WD.done (by kernel_rfl) (hK26 _ _ ?_)
      refine WC.condF rfl ?_
      refine WC.skip ?_
      refine QK.blockN ?_
      refine QK.thenN (hK12 _ _ ?_)
      refine WC.region fun K29 hK29 => ?_
      refine WL.yld (by decide) (Yld.add rfl rfl (by omega)) ?_
      refine WL.yld (by decide) (Yld.move rfl) ?_
      refine WL.done (hK29 _ _ ?_)
      refine QK.thenN (hK8 (0 + 1) _ _ ?_ ?_ (Sub.cons rfl (Sub.cons rfl (Sub.cons rfl (Sub.nil _)))) (Sub.cons rfl (Sub.nil _)))
      · show _ ≤ 2; omega
      · show 2 - _ < 2 - _; omega
    · replace hc11 := of_decide_eq_false hc11
      exfalso; omega
  · skip
    refine WC.seqRegion fun K30 hK30 => ?_
    refine WL.yld (by decide) (Yld.lss rfl rfl) ?_
    refine WL.done (hK30 _ _ ?_)
    refine WC.seq fun K31 hK31 => ?_
    refine WC.cond rfl (fun hc32 => ?_) (fun hc32 => ?_)
    · replace hc32 := of_decide_eq_true hc32
      refine WC.skip ?_
      refine QK.thenN (hK31 _ _ ?_)
      refine WC.seq fun K33 hK33 => ?_
      refine WC.block ?_
      refine WC.seqRegion fun K34 hK34 => ?_
      refine WL.yld (by decide) (Yld.idxAddr sty_39 rfl rfl (RdH.own (k := 111) rfl) (by decide) (by omega)) ?_
      refine WL.yld (by decide) (Yld.loadRD (us := [I64 (b0_0 % 4), I64 (1 + b0_1 % 8), I64 (b0_2 % 4294967296)]) agg_37 rfl (RdH.own (k := 111) rfl) rfl rfl) ?_
      refine WL.eff (by decide) (Eff.alloc 169 rfl zer_37) ?_
      rintro _ _ ⟨g169, rfl, rfl⟩
      refine WL.eff0 (Eff0.storeBAM 169 agg_37 rfl rfl rfl (by first | exact ⟨rfl, rfl⟩ | (constructor <;> simp [*])) (by first | rfl | exact all_one _)) ?_
      refine WL.done (hK34 _ _ ?_)
      refine WC.seqRegion fun K36 hK36 => ?_
      refine WL.yld (by decide) (Yld.loadBM (k := 169) agg_37 rfl rfl (by first | rfl | (simp [*]; done))) ?_
      refine WL.eff (by decide) (Eff.call 170 rfl Try.func27 nm_27 rfl rfl rfl (fun w hb hh => sb_Encode w _ _ _ (by omega) (by omega) (by omega))) ?_
      rintro _ _ ⟨_, ⟨A37, c37, rfl, rfl⟩, rfl⟩
      refine WL.yld (by decide) (Yld.move rfl) ?_
      refine WL.yld (by decide) (Yld.extract rfl rfl) ?_
      refine WL.yld (by decide) (Yld.extract rfl rfl) ?_
      refine WL.yld (by decide) (Yld.assign rfl) ?_
      refine WL.yld (by decide) (Yld.assign rfl) ?_
      refine WL.done (hK36 _ _ ?_)
      refine WC.seqRegion fun K38 hK38 => ?_
      refine WL.yld (by decide) (Yld.loadBM (k := 169) agg_37 rfl rfl (by first | rfl | (simp [*]; done))) ?_
      refine WL.eff (by decide) (Eff.call 179 rfl Try.func28 nm_28 rfl rfl rfl (fun w hb hh => r07_Encode w _ _ _ (by omega) (by omega) (by omega))) ?_
      rintro _ _ ⟨_, ⟨A39, c39, rfl, rfl⟩, rfl⟩
      refine WL.yld (by decide) (Yld.move rfl) ?_
      refine WL.yld (by decide) (Yld.extract rfl rfl) ?_
      refine WL.yld (by decide) (Yld.extract rfl rfl) ?_
      refine WL.yld (by decide) (Yld.assign rfl) ?_
      refine WL.yld (by decide) (Yld.assign rfl) ?_
      refine WL.done (hK38 _ _ ?_)
      refine WC.seqRegion fun K40 hK40 => ?_
      refine WL.yld (by decide) (Yld.loadBM (k := 169) agg_37 rfl rfl (by first | rfl | (simp [*]; done))) ?_
      refine WL.eff (by decide) (Eff.call 188 rfl Try.func29 nm_29 rfl rfl rfl (fun w hb hh => sb_Next w _ _ _ (by omega) (by omega) (by omega))) ?_
      rintro _ _ ⟨_, ⟨rfl, rfl⟩, rfl⟩
      refine WL.yld (by decide) (Yld.move rfl) ?_
      refine WL.yld (by decide) (Yld.extract rfl rfl) ?_
      refine WL.yld (by decide) (Yld.extract rfl rfl) ?_
      refine WL.eff (by decide) (Eff.alloc 197 rfl zer_37) ?_
      rintro _ _ ⟨g197, rfl, rfl⟩
      refine WL.eff0 (Eff0.storeBAM 197 agg_37 rfl rfl rfl (by first | exact ⟨rfl, rfl⟩ | (constructor <;> simp [*])) (by first | rfl | exact all_one _)) ?_
      refine WL.yld (by decide) (Yld.assign rfl) ?_
      refine WL.done (hK40 _ _ ?_)
      refine WC.seqRegion fun K43 hK43 => ?_
      refine WL.yld (by decide) (Yld.loadBM (k := 169) agg_37 rfl rfl (by first | rfl | (simp [*]; done))) ?_
      refine WL.eff (by decide) (Eff.call 198 rfl Try.func30 nm_30 rfl rfl rfl (fun w hb hh => r07_Next w _ _ _ (by omega) (by omega) (by omega))) ?_
      rintro _ _ ⟨_, ⟨rfl, rfl⟩, rfl⟩
      refine WL.yld (by decide) (Yld.move rfl) ?_
      refine WL.yld (by decide) (Yld.extract rfl rfl) ?_
      refine WL.yld (by decide) (Yld.extract rfl rfl) ?_
      refine WL.eff (by decide) (Eff.alloc 207 rfl zer_37) ?_
      rintro _ _ ⟨g207, rfl, rfl⟩
      refine WL.eff0 (Eff0.storeBAM 207 agg_37 rfl rfl rfl (by first | exact ⟨rfl, rfl⟩ | (constructor <;> simp [*])) (by first | rfl | exact all_one _)) ?_
      refine WL.yld (by decide) (Yld.assign rfl) ?_
      refine WL.done (hK43 _ _ ?_)
      refine WC.seqRegionD (n := 27) [(111, _), (169, _), (170, _), (179, _), (197, _), (207, _)] rfl mixed (Sub.cons rfl (Sub.cons rfl (Sub.cons rfl (Sub.cons rfl (Sub.cons rfl (Sub.cons rfl (Sub.nil _))))))) fun K47 hK47 => ?_
      refine WD.take 0 rfl (by kernel_rfl) (by kernel_rfl) (by kernel_rfl) (by decide) (Yld.loadBM (k := 169) agg_37 rfl rfl (by first | rfl | (simp [*]; done))) ?_
      refine WD.take 2 rfl (by kernel_rfl) (by kernel_rfl) (by kernel_rfl) (by decide) (Yld.loadBM (k := 169) agg_37 rfl rfl (by first | rfl | (simp [*]; done))) ?_
      refine WD.one 1 (by kernel_rfl) ?_
      refine WS.eff rfl (by decide) (Eff.call 208 rfl Try.func31 nm_31 rfl rfl rfl (fun w hb hh => sb_Valid w _ _ _)) ?_
      rintro _ _ ⟨_, ⟨rfl, rfl⟩, rfl⟩
      refine ⟨(Sub.cons rfl (Sub.cons rfl (Sub.cons rfl (Sub.cons rfl (Sub.cons rfl (Sub.cons rfl (Sub.nil _))))))), ?_⟩
      refine WD.one 3 (by kernel_rfl) ?_
      refine WS.eff rfl (by decide) (Eff.call 217 rfl Try.func32 nm_32 rfl rfl rfl (fun w hb hh => r07_Valid w _ _ _)) ?_
      rintro _ _ ⟨_, ⟨rfl, rfl⟩, rfl⟩
      refine ⟨(Sub.cons rfl (Sub.cons rfl (Sub.cons rfl (Sub.cons rfl (Sub.cons rfl (Sub.cons rfl (Sub.nil _))))))), ?_⟩
      refine WD.take 4 rfl (by kernel_rfl) (by kernel_rfl) (by kernel_rfl) (by decide) (Yld.neqB und_4 rfl rfl) ?_
      refine WD.new (v' := .bool false) (congrArg Value.bool (by simp)) ?_
      refine WD.take 5 rfl (by kernel_rfl) (by kernel_rfl) (by kernel_rfl) (by decide) (Yld.move rfl) ?_
      refine WD.takeG 6 rfl (by kernel_rfl) (by kernel_rfl) (by kernel_rfl) (by decide) rfl (Yld.move rfl) ?_
      refine WD.takeG 7 rfl (by kernel_rfl) (by kernel_rfl) (by kernel_rfl) (by decide) rfl (Yld.move rfl) ?_
      refine WD.takeG 8 rfl (by kernel_rfl) (by kernel_rfl) (by kernel_rfl) (by decide) rfl (Yld.neq rfl rfl) ?_
      refine WD.new (v' := .bool false) (congrArg Value.bool (by simp)) ?_
      refine WD.take 9 rfl (by kernel_rfl) (by kernel_rfl) (by kernel_rfl) (by decide) (Yld.pickF rfl rfl) ?_
      refine WD.take 10 rfl (by kernel_rfl) (by kernel_rfl) (by kernel_rfl) (by decide) (Yld.move rfl) ?_
      refine WD.takeG 11 rfl (by kernel_rfl) (by kernel_rfl) (by kernel_rfl) (by decide) rfl (Yld.move rfl) ?_
      refine WD.takeG 12 rfl (by kernel_rfl) (by kernel_rfl) (by kernel_rfl) (by decide) rfl (Yld.move rfl) ?_
      refine WD.takeG 13 rfl (by kernel_rfl) (by kernel_rfl) (by kernel_rfl) (by decide) rfl (Yld.neq rfl rfl) ?_
      refine WD.new (v' := .bool false) (congrArg Value.bool (by simp)) ?_
      refine WD.take 14 rfl (by kernel_rfl) (by kernel_rfl) (by kernel_rfl) (by decide) (Yld.pickF rfl rfl) ?_
      refine WD.take 15 rfl (by kernel_rfl) (by kernel_rfl) (by kernel_rfl) (by decide) (Yld.move rfl) ?_
      refine WD.takeG 16 rfl (by kernel_rfl) (by kernel_rfl) (by kernel_rfl) (by decide) rfl (Yld.move rfl) ?_
      refine WD.takeG 17 rfl (by kernel_rfl) (by kernel_rfl) (by kernel_rfl) (by decide) rfl (Yld.b2s und_23 und_5 und_9 rfl (RdH.own (k := 170) rfl)) ?_
      refine WD.takeG 18 rfl (by kernel_rfl) (by kernel_rfl) (by kernel_rfl) (by decide) rfl (Yld.move rfl) ?_
      refine WD.takeG 19 rfl (by kernel_rfl) (by kernel_rfl) (by kernel_rfl) (by decide) rfl (Yld.b2s und_23 und_5 und_9 rfl (RdH.own (k := 179) rfl)) ?_
      refine WD.takeG 20 rfl (by kernel_rfl) (by kernel_rfl) (by kernel_rfl) (by decide) rfl (Yld.neqStr rfl rfl) ?_
      refine WD.new (v' := .bool false) (congrArg Value.bool (by simp)) ?_
      refine WD.take 21 rfl (by kernel_rfl) (by kernel_rfl) (by kernel_rfl) (by decide) (Yld.pickF rfl rfl) ?_
      refine WD.take 22 rfl (by kernel_rfl) (by kernel_rfl) (by kernel_rfl) (by decide) (Yld.move rfl) ?_
      refine WD.takeG 23 rfl (by kernel_rfl) (by kernel_rfl) (by kernel_rfl) (by decide) rfl (Yld.loadBM (k := 197) agg_37 rfl rfl (by first | rfl | (simp [*]; done))) ?_
      refine WD.takeG 24 rfl (by kernel_rfl) (by kernel_rfl) (by kernel_rfl) (by decide) rfl (Yld.loadBM (k := 207) agg_37 rfl rfl (by first | rfl | (simp [*]; done))) ?_
      refine WD.takeG 25 rfl (by kernel_rfl) (by kernel_rfl) (by kernel_rfl) (by decide) rfl (Yld.neqA (zeqs_37 _ _ _ _ _ _) rfl rfl) ?_
      refine WD.new (v' := .bool false) (congrArg Value.bool (by simp)) ?_
      refine WD.take 26 rfl (by kernel_rfl) (by kernel_rfl) (by kernel_rfl) (by decide) (Yld.pickF rfl rfl) ?_
      refine WD.done (by kernel_rfl) (hK47 _ _ ?_)
      refine WC.condF rfl ?_
      refine WC.skip ?_
      refine QK.blockN ?_
      refine QK.thenN (hK33 _ _ ?_)
      refine WC.region fun K50 hK50 => ?_
      refine WL.yld (by decide) (Yld.add rfl rfl (by omega)) ?_
      refine WL.yld (by decide) (Yld.move rfl) ?_
      refine WL.done (hK50 _ _ ?_)
      refine QK.thenN (hK8 (1 + 1) _ _ ?_ ?_ (Sub.cons rfl (Sub.cons rfl (Sub.cons rfl (Sub.nil _)))) (Sub.cons rfl (Sub.nil _)))
      · show _ ≤ 2; omega
      · show 2 - _ < 2 - _; omega
    · replace hc32 := of_decide_eq_false hc32
      exfalso; omega
  · skip
    refine WC.seqRegion fun K51 hK51 => ?_
    refine WL.yld (by decide) (Yld.lss rfl rfl) ?_
    refine WL.done (hK51 _ _ ?_)
    refine WC.seq fun K52 hK52 => ?_
    refine WC.cond rfl (fun hc53 => ?_) (fun hc53 => ?_)
    · replace hc53 := of_decide_eq_true hc53
      exfalso; omega
    · replace hc53 := of_decide_eq_false hc53
      refine WC.exit (QK.thenE (QK.thenE (QK.blockX ?_)))
      refine QK.thenN (hK3 _ _ ?_)
      refine WC.seqRegion fun K54 hK54 => ?_
      refine WL.eff (by decide) (Eff.call 226 rfl Try.func33 nm_33 rfl rfl rfl (fun w hb hh => law07_awake w)) ?_
      rintro _ _ ⟨_, ⟨rfl, rfl⟩, rfl⟩
      refine WL.yld (by decide) (Yld.assign rfl) ?_
      refine WL.done (hK54 _ _ ?_)
      refine WC.ret ?_
      exact Ret.fn [] (ResIs.one rfl rfl) rfl (by decide) rfl

set_option maxRecDepth 10000 in
theorem law_SuperblockDecodes (w : World) {A0 : Option Addr} {n0 c0 : Nat} {xs0 : List (BitVec 8)} (s0 : SlR w 1 A0 n0 c0 (xs0.map U8)) (b1_0 : Int) (v1_0 : -9223372036854775808 ≤ b1_0 ∧ b1_0 ≤ 9223372036854775807) (b1_1 : Int) (v1_1 : -9223372036854775808 ≤ b1_1 ∧ b1_1 ≤ 9223372036854775807) (b1_2 : Int) (v1_2 : -9223372036854775808 ≤ b1_2 ∧ b1_2 ≤ 9223372036854775807) (a2 : Int) (w2 : -9223372036854775808 ≤ a2 ∧ a2 ≤ 9223372036854775807) (x3 : BitVec 8) (a4 : Bool) :
    Fn Try.prog 16 #[.slice A0 n0 c0, .agg #[I64 b1_0, I64 b1_1, I64 b1_2], I64 a2, U8 x3, .bool a4] w fun r es => r = .bool true := by
  have hl0 := s0.len1
  have hcm0 := s0.cm
  have hle0 := s0.le
  unfold maxLen at hcm0
  refine Fn.intro (N := 83) Try.func16 rfl rfl (Nat.le_of_ble_eq_true rfl) ?_
  refine WC.seqRegion fun K1 hK1 => ?_
  refine WL.eff (by decide) (Eff.box 101 (us := [I64 b1_0, I64 b1_1, I64 b1_2]) rfl rfl rfl) ?_
  rintro _ _ ⟨g101, rfl, rfl⟩
  refine WL.yld (by decide) (Yld.assign rfl) ?_
  refine WL.done (hK1 _ _ ?_)
  refine WC.seqCut (σ := Nat) (fun m => [(0, .slice A0 m c0), (2, I64 a2), (3, U8 x3), (4, .bool a4), (6, .pointer (some ⟨g101, 0, none⟩))]) (fun m => [(101, .blk g101 37 [I64 b1_0, I64 b1_1, I64 b1_2])]) (fun m => m ≤ n0 ∧ m ≤ 200) (fun K4 hK4 => ?_) ?_
  · skip
    refine WC.seqRegion fun K5 hK5 => ?_
    refine WL.yld (by decide) (Yld.move rfl) ?_
    refine WL.yld (by decide) (Yld.len und_23 rfl) ?_
    refine WL.yld (by decide) (Yld.gtr rfl rfl) ?_
    refine WL.done (hK5 _ _ ?_)
    refine WC.cond rfl (fun hc6 => ?_) (fun hc6 => ?_)
    · replace hc6 := of_decide_eq_true hc6
      refine WC.region fun K7 hK7 => ?_
      refine WL.yld (by decide) (Yld.move rfl) ?_
      refine WL.yld (by decide) (Yld.sliceH sty_23 rfl rfl (by omega)) ?_
      refine WL.yld (by decide) (Yld.assign rfl) ?_
      refine WL.done (hK7 _ _ ?_)
      refine QK.thenN (hK4 _ _ _ ?_ (Sub.cons rfl (Sub.cons rfl (Sub.cons rfl (Sub.cons rfl (Sub.cons rfl (Sub.nil _)))))) (Sub.cons rfl (Sub.nil _)))
      exact ⟨by omega, by omega⟩
    · replace hc6 := of_decide_eq_false hc6
      refine WC.skip ?_
      refine QK.thenN (hK4 _ _ _ ?_ (Sub.cons rfl (Sub.cons rfl (Sub.cons rfl (Sub.cons rfl (Sub.cons rfl (Sub.nil _)))))) (Sub.cons rfl (Sub.nil _)))
      exact ⟨by omega, by omega⟩
  · rintro m ⟨hm1, hm⟩
    have hv : sv (b1_0 % 4) (1 + b1_1 % 8) (b1_2 % 4294967296) = true := sv_near
    have hsb : sbytes (b1_0 % 4) (1 + b1_1 % 8) (b1_2 % 4294967296) = senc (b1_0 % 4) (1 + b1_1 % 8) (b1_2 % 4294967296) := if_pos hv
    have hse : serr (b1_0 % 4) (1 + b1_1 % 8) (b1_2 % 4294967296) = 0 := if_pos hv
    refine WC.seqRegion fun K8 hK8 => ?_
    refine WL.yld (by decide) (Yld.loadBM (k := 101) agg_37 rfl rfl (by first | rfl | (simp [*]; done))) ?_
    refine WL.eff (by decide) (Eff.call 102 rfl Try.func26 nm_26 rfl rfl rfl (fun w hb hh => law07_near w _ _ _ (by omega) (by omega) (by omega))) ?_
    rintro _ _ ⟨_, ⟨rfl, rfl⟩, rfl⟩
    refine WL.eff (by decide) (Eff.call 111 rfl Try.func28 nm_28 rfl rfl rfl (fun w hb hh => r07_Encode w _ _ _ (by omega) (by omega) (by omega))) ?_
    rintro _ _ ⟨_, ⟨A10, c10, rfl, rfl⟩, rfl⟩
    refine WL.newH (e' := .own 5 1 A10 16 c10 ((senc (b1_0 % 4) (1 + b1_1 % 8) (b1_2 % 4294967296)).map U8)) (by rw [hsb, senc_length]) ?_
    refine WL.yld (by decide) (Yld.move rfl) ?_
    refine WL.yld (by decide) (Yld.extract rfl rfl) ?_
    refine WL.new (v' := .slice A10 16 c10) (by show Value.slice A10 (sbytes (b1_0 % 4) (1 + b1_1 % 8) (b1_2 % 4294967296)).length c10 = _; rw [hsb, senc_length]) ?_
    refine WL.yld (by decide) (Yld.extract rfl rfl) ?_
    refine WL.yld (by decide) (Yld.assign rfl) ?_
    refine WL.yld (by decide) (Yld.assign rfl) ?_
    refine WL.done (hK8 _ _ ?_)
    obtain ⟨i, hi, hin⟩ := idx_mod a2 16 (by omega)
    have htm := tmod_bd a2 16 (by omega)
    refine WC.seqRegion fun K11 hK11 => ?_
    refine WL.yld (by decide) (Yld.move rfl) ?_
    refine WL.yld (by decide) (Yld.move rfl) ?_
    refine WL.yld (by decide) (Yld.remT rfl rfl (by omega)) ?_
    refine WL.yld (by decide) (Yld.add rfl rfl (by omega)) ?_
    refine WL.yld (by decide) (Yld.rem rfl rfl (by omega)) ?_
    refine WL.new (v' := I64 (i : Nat)) (congrArg I64 hi) ?_
    refine WL.yld (by decide) (Yld.move rfl) ?_
    refine WL.yld (by decide) (Yld.idxAddr1 sty_23 rfl rfl (RdH.own (k := 111) rfl) (by omega)) ?_
    refine WL.eff0 (Eff0.storeOM U8 111 siz_5 rfl rfl rfl (by rw [senc_length]; omega)) ?_
    refine WL.done (hK11 _ _ ?_)
    refine WC.seqCut (σ := List (BitVec 8)) (fun bs => [(0, .slice A0 m c0), (2, I64 a2), (11, .slice A10 16 c10)]) (fun bs => [(111, .own 5 1 A10 16 c10 (bs.map U8))]) (fun bs => bs.length = 16) (fun K13 hK13 => ?_) ?_
    · skip
      refine WC.seqRegion fun K14 hK14 => ?_
      refine WL.yld (by decide) (Yld.move rfl) ?_
      refine WL.done (hK14 _ _ ?_)
      refine WC.cond rfl (fun hc15 => ?_) (fun hc15 => ?_)
      · skip
        refine WC.fact (RdH.own (k := 111) rfl) fun hle6 hcm6 _ => ?_
        refine WC.regionD (n := 6) [(101, _)] rfl mixed (Sub.cons rfl (Sub.nil _)) fun K17 hK17 => ?_
        refine WD.take 0 rfl (by kernel_rfl) (by kernel_rfl) (by kernel_rfl) (by decide) (Yld.move rfl) ?_
        refine WD.take 1 rfl (by kernel_rfl) (by kernel_rfl) (by kernel_rfl) (by decide) (Yld.sliceL sty_23 rfl rfl (by omega)) ?_
        refine WD.take 2 rfl (by kernel_rfl) (by kernel_rfl) (by kernel_rfl) (by decide) (Yld.move rfl) ?_
        refine WD.take 3 rfl (by kernel_rfl) (by kernel_rfl) (by kernel_rfl) (by decide) (Yld.sliceH sty_23 rfl rfl (by omega)) ?_
        refine WD.one 4 (by kernel_rfl) ?_
        refine WS.eff rfl (by decide) (Eff.call 120 rfl Try.func42 nm_42 rfl rfl rfl (fun w hb hh => r06_Check w ((RdH.take1 (RdH.own (k := 111) rfl) (by omega)) w hb hh))) ?_
        rintro _ _ ⟨_, ⟨A18, c18, rfl, rfl⟩, rfl⟩
        refine ⟨(Sub.cons rfl (Sub.nil _)), ?_⟩
        refine WD.one 5 (by kernel_rfl) ?_
        refine WS.eff rfl (by decide) (Eff.copyM 111 U8 (lo := 12) sty_23 rfl rfl rfl (RdH.own (k := 120) rfl) (by first | omega | (constructor <;> omega))) ?_
        rintro _ _ ⟨rfl, rfl⟩
        refine ⟨(Sub.cons rfl (Sub.nil _)), ?_⟩
        refine WD.done (by kernel_rfl) (hK17 _ _ ?_)
        refine QK.thenN (hK13 _ _ _ ?_ (Sub.cons rfl (Sub.cons rfl (Sub.cons rfl (Sub.nil _)))) (Sub.cons rfl (Sub.nil _)))
        first | (simp [senc_length]; done) | simp [senc_length, le4]
      · skip
        refine WC.skip ?_
        refine QK.thenN (hK13 _ _ _ ?_ (Sub.cons rfl (Sub.cons rfl (Sub.cons rfl (Sub.nil _)))) (Sub.cons rfl (Sub.nil _)))
        first | (simp [senc_length]; done) | simp [senc_length, le4]
    · rintro bs hbs
      refine WC.seq fun K19 hK19 => ?_
      obtain ⟨j, hj, hjn⟩ := idx_mod a2 17 (by omega)
      have htm2 := tmod_bd a2 17 (by omega)
      refine WC.fact (RdH.own (k := 111) rfl) fun hle7 hcm7 _ => ?_
      refine WC.seqRegionD (n := 16) [(111, _)] rfl mixed (Sub.cons rfl (Sub.nil _)) fun K21 hK21 => ?_
      refine WD.take 0 rfl (by kernel_rfl) (by kernel_rfl) (by kernel_rfl) (by decide) (Yld.move rfl) ?_
      refine WD.take 1 rfl (by kernel_rfl) (by kernel_rfl) (by kernel_rfl) (by decide) (Yld.move rfl) ?_
      refine WD.take 3 rfl (by kernel_rfl) (by kernel_rfl) (by kernel_rfl) (by decide) (Yld.move rfl) ?_
      refine WD.take 5 rfl (by kernel_rfl) (by kernel_rfl) (by kernel_rfl) (by decide) (Yld.move rfl) ?_
      refine WD.take 7 rfl (by kernel_rfl) (by kernel_rfl) (by kernel_rfl) (by decide) (Yld.move rfl) ?_
      refine WD.take 8 rfl (by kernel_rfl) (by kernel_rfl) (by kernel_rfl) (by decide) (Yld.move rfl) ?_
      refine WD.take 9 rfl (by kernel_rfl) (by kernel_rfl) (by kernel_rfl) (by decide) (Yld.remT rfl rfl (by omega)) ?_
      refine WD.take 10 rfl (by kernel_rfl) (by kernel_rfl) (by kernel_rfl) (by decide) (Yld.add rfl rfl (by omega)) ?_
      refine WD.take 11 rfl (by kernel_rfl) (by kernel_rfl) (by kernel_rfl) (by decide) (Yld.rem rfl rfl (by omega)) ?_
      refine WD.new (v' := I64 (j : Nat)) (congrArg I64 hj) ?_
      refine WD.take 12 rfl (by kernel_rfl) (by kernel_rfl) (by kernel_rfl) (by decide) (Yld.sliceH sty_23 rfl rfl (by omega)) ?_
      refine WD.take 15 rfl (by kernel_rfl) (by kernel_rfl) (by kernel_rfl) (by decide) (Yld.move rfl) ?_
      refine WD.one 2 (by kernel_rfl) ?_
      refine WS.eff rfl (by decide) (Eff.buildSliceM U8 129 [] sty_23 rfl rfl rfl rfl rfl (by decide)) ?_
      rintro _ _ ⟨g129, rfl, rfl⟩
      refine ⟨(Sub.cons rfl (Sub.nil _)), ?_⟩
      refine WD.one 4 (by kernel_rfl) ?_
      refine WS.eff rfl (by decide) (Eff.appendM (f := U8) 129 sty_23 rfl rfl rfl (RdH.own (k := 111) rfl) (by omega)) ?_
      rintro _ _ ⟨A23, c23, rfl, rfl⟩
      refine ⟨(Sub.cons rfl (Sub.nil _)), ?_⟩
      refine WD.one 6 (by kernel_rfl) ?_
      refine WS.eff rfl (by decide) (Eff.appendM (f := U8) 129 sty_23 rfl rfl rfl (RdH.take1 (RdH.old s0) (by omega : m ≤ n0)) (by omega)) ?_
      rintro _ _ ⟨A24, c24, rfl, rfl⟩
      refine ⟨(Sub.cons rfl (Sub.nil _)), ?_⟩
      refine WD.one 13 (by kernel_rfl) ?_
      refine WS.eff rfl (by decide) (Eff.buildSliceM SV 130 [(_, _, _), (_, _, _), (_, _, _), (_, _, _)] sty_26 rfl rfl rfl rfl rfl (by decide)) ?_
      rintro _ _ ⟨g130, rfl, rfl⟩
      refine ⟨(Sub.cons rfl (Sub.nil _)), ?_⟩
      refine WD.take 14 rfl (by kernel_rfl) (by kernel_rfl) (by kernel_rfl) (by decide) (Yld.len und_26 rfl) ?_
      refine WD.done (by kernel_rfl) (hK21 _ _ ?_)
      refine WC.block ?_
      refine WC.loop (σ := Nat) (fun k => [(57, .slice (some ⟨g130, 0, none⟩) 4 4), (58, I64 ((4 : Nat) : Int)), (59, I64 (k : Nat))]) (fun k => [(111, .own 5 1 A10 16 c10 (bs.map U8)), (129, .own 5 1 A24 (0 + 16 + m) c24 (([] ++ bs ++ xs0.take m).map U8)), (130, .own 23 1 (some ⟨g130, 0, none⟩) 4 4 ([(A0, m, c0), (A10, 16, c10), (A24, (0 + 16 + m), c24), (A10, j, c10)].map SV))]) (fun k => k ≤ 4) (fun k => 4 - k) 0 ?_ (Sub.cons rfl (Sub.cons rfl (Sub.cons rfl (Sub.nil _)))) (Sub.cons rfl (Sub.cons rfl (Sub.cons rfl (Sub.nil _)))) ?_
      · exact Nat.zero_le _
      rintro k hk K26 hK26
      rcases (by omega : k = 0 ∨ k = 1 ∨ k = 2 ∨ k = 3 ∨ k = 4) with rfl | rfl | rfl | rfl | rfl
      · skip
        refine WC.seqRegion fun K27 hK27 => ?_
        refine WL.yld (by decide) (Yld.lss rfl rfl) ?_
        refine WL.done (hK27 _ _ ?_)
        refine WC.seq fun K28 hK28 => ?_
        refine WC.cond rfl (fun hc29 => ?_) (fun hc29 => ?_)
        · replace hc29 := of_decide_eq_true hc29
          refine WC.skip ?_
          refine QK.thenN (hK28 _ _ ?_)
          refine WC.seq fun K30 hK30 => ?_
          refine WC.block ?_
          refine WC.seqRegion fun K31 hK31 => ?_
          refine WL.yld (by decide) (Yld.idxAddr1 sty_26 rfl rfl (RdH.own (k := 130) rfl) (by omega)) ?_
          refine WL.yld (by decide) (Yld.loadR scal_23 rfl (RdH.own (k := 130) rfl) (getElem?_map1 _ _ (none, 0, 0) (by simp))) ?_
          refine WL.new (v' := .slice A0 m c0) rfl ?_
          refine WL.yld (by decide) (Yld.assign rfl) ?_
          refine WL.done (hK31 _ _ ?_)
          refine WC.seqRegion fun K32 hK32 => ?_
          refine WL.yld (by decide) (Yld.move rfl) ?_
          refine WL.eff (by decide) (Eff.call 131 rfl Try.func43 nm_43 rfl rfl rfl (fun w hb hh => sb_Decode w ((RdH.take1 (RdH.old s0) (by omega : m ≤ n0)) w hb hh))) ?_
          rintro _ _ ⟨_, ⟨rfl, rfl⟩, rfl⟩
          refine WL.yld (by decide) (Yld.move rfl) ?_
          refine WL.yld (by decide) (Yld.extract rfl rfl) ?_
          refine WL.yld (by decide) (Yld.extract rfl rfl) ?_
          refine WL.eff (by decide) (Eff.alloc 140 rfl zer_37) ?_
          rintro _ _ ⟨g140, rfl, rfl⟩
          refine WL.eff0 (Eff0.storeBAM 140 agg_37 rfl rfl rfl (by first | exact ⟨rfl, rfl⟩ | (constructor <;> simp [*])) (by first | rfl | exact all_one _)) ?_
          refine WL.yld (by decide) (Yld.assign rfl) ?_
          refine WL.done (hK32 _ _ ?_)
          refine WC.seqRegion fun K35 hK35 => ?_
          refine WL.yld (by decide) (Yld.move rfl) ?_
          refine WL.eff (by decide) (Eff.call 141 rfl Try.func44 nm_44 rfl rfl rfl (fun w hb hh => r07_Decode w ((RdH.take1 (RdH.old s0) (by omega : m ≤ n0)) w hb hh))) ?_
          rintro _ _ ⟨_, ⟨rfl, rfl⟩, rfl⟩
          refine WL.yld (by decide) (Yld.move rfl) ?_
          refine WL.yld (by decide) (Yld.extract rfl rfl) ?_
          refine WL.yld (by decide) (Yld.extract rfl rfl) ?_
          refine WL.eff (by decide) (Eff.alloc 150 rfl zer_37) ?_
          rintro _ _ ⟨g150, rfl, rfl⟩
          refine WL.eff0 (Eff0.storeBAM 150 agg_37 rfl rfl rfl (by first | exact ⟨rfl, rfl⟩ | (constructor <;> simp [*])) (by first | rfl | exact all_one _)) ?_
          refine WL.yld (by decide) (Yld.assign rfl) ?_
          refine WL.done (hK35 _ _ ?_)
          refine WC.seqRegion fun K38 hK38 => ?_
          refine WL.yld (by decide) (Yld.move rfl) ?_
          refine WL.yld (by decide) (Yld.move rfl) ?_
          refine WL.yld (by decide) (Yld.neq rfl rfl) ?_
          refine WL.new (v' := .bool false) (congrArg Value.bool (by simp)) ?_
          refine WL.yld (by decide) (Yld.move rfl) ?_
          refine WL.yldG (by decide) rfl (Yld.loadBM (k := 140) agg_37 rfl rfl (by first | rfl | (simp [*]; done))) ?_
          refine WL.yldG (by decide) rfl (Yld.loadBM (k := 150) agg_37 rfl rfl (by first | rfl | (simp [*]; done))) ?_
          refine WL.yldG (by decide) rfl (Yld.neqA (zeqs_37 _ _ _ _ _ _) rfl rfl) ?_
          refine WL.new (v' := .bool false) (congrArg Value.bool (by simp)) ?_
          refine WL.yld (by decide) (Yld.pickF rfl rfl) ?_
          refine WL.done (hK38 _ _ ?_)
          refine WC.condF rfl ?_
          refine WC.skip ?_
          refine QK.blockN ?_
          refine QK.thenN (hK30 _ _ ?_)
          refine WC.region fun K39 hK39 => ?_
          refine WL.yld (by decide) (Yld.add rfl rfl (by omega)) ?_
          refine WL.yld (by decide) (Yld.move rfl) ?_
          refine WL.done (hK39 _ _ ?_)
          refine QK.thenN (hK26 (0 + 1) _ _ ?_ ?_ (Sub.cons rfl (Sub.cons rfl (Sub.cons rfl (Sub.nil _)))) (Sub.cons rfl (Sub.cons rfl (Sub.cons rfl (Sub.nil _)))))
          · show _ ≤ 4; omega
          · show 4 - _ < 4 - _; omega
        · replace hc29 := of_decide_eq_false hc29
          exfalso; omega
      · skip
        refine WC.seqRegion fun K40 hK40 => ?_
        refine WL.yld (by decide) (Yld.lss rfl rfl) ?_
        refine WL.done (hK40 _ _ ?_)
        refine WC.seq fun K41 hK41 => ?_
        refine WC.cond rfl (fun hc42 => ?_) (fun hc42 => ?_)
        · replace hc42 := of_decide_eq_true hc42
          refine WC.skip ?_
          refine QK.thenN (hK41 _ _ ?_)
          refine WC.seq fun K43 hK43 => ?_
          refine WC.block ?_
          refine WC.seqRegion fun K44 hK44 => ?_
          refine WL.yld (by decide) (Yld.idxAddr1 sty_26 rfl rfl (RdH.own (k := 130) rfl) (by omega)) ?_
          refine WL.yld (by decide) (Yld.loadR scal_23 rfl (RdH.own (k := 130) rfl) (getElem?_map1 _ _ (none, 0, 0) (by simp))) ?_
          refine WL.new (v' := .slice A10 16 c10) rfl ?_
          refine WL.yld (by decide) (Yld.assign rfl) ?_
          refine WL.done (hK44 _ _ ?_)
          refine WC.seqRegion fun K45 hK45 => ?_
          refine WL.yld (by decide) (Yld.move rfl) ?_
          refine WL.eff (by decide) (Eff.call 151 rfl Try.func43 nm_43 rfl rfl rfl (fun w hb hh => sb_Decode w ((RdH.own (k := 111) rfl) w hb hh))) ?_
          rintro _ _ ⟨_, ⟨rfl, rfl⟩, rfl⟩
          refine WL.yld (by decide) (Yld.move rfl) ?_
          refine WL.yld (by decide) (Yld.extract rfl rfl) ?_
          refine WL.yld (by decide) (Yld.extract rfl rfl) ?_
          refine WL.eff (by decide) (Eff.alloc 160 rfl zer_37) ?_
          rintro _ _ ⟨g160, rfl, rfl⟩
          refine WL.eff0 (Eff0.storeBAM 160 agg_37 rfl rfl rfl (by first | exact ⟨rfl, rfl⟩ | (constructor <;> simp [*])) (by first | rfl | exact all_one _)) ?_
          refine WL.yld (by decide) (Yld.assign rfl) ?_
          refine WL.done (hK45 _ _ ?_)
          refine WC.seqRegion fun K48 hK48 => ?_
          refine WL.yld (by decide) (Yld.move rfl) ?_
          refine WL.eff (by decide) (Eff.call 161 rfl Try.func44 nm_44 rfl rfl rfl (fun w hb hh => r07_Decode w ((RdH.own (k := 111) rfl) w hb hh))) ?_
          rintro _ _ ⟨_, ⟨rfl, rfl⟩, rfl⟩
          refine WL.yld (by decide) (Yld.move rfl) ?_
          refine WL.yld (by decide) (Yld.extract rfl rfl) ?_
          refine WL.yld (by decide) (Yld.extract rfl rfl) ?_
          refine WL.eff (by decide) (Eff.alloc 170 rfl zer_37) ?_
          rintro _ _ ⟨g170, rfl, rfl⟩
          refine WL.eff0 (Eff0.storeBAM 170 agg_37 rfl rfl rfl (by first | exact ⟨rfl, rfl⟩ | (constructor <;> simp [*])) (by first | rfl | exact all_one _)) ?_
          refine WL.yld (by decide) (Yld.assign rfl) ?_
          refine WL.done (hK48 _ _ ?_)
          refine WC.seqRegion fun K51 hK51 => ?_
          refine WL.yld (by decide) (Yld.move rfl) ?_
          refine WL.yld (by decide) (Yld.move rfl) ?_
          refine WL.yld (by decide) (Yld.neq rfl rfl) ?_
          refine WL.new (v' := .bool false) (congrArg Value.bool (by simp)) ?_
          refine WL.yld (by decide) (Yld.move rfl) ?_
          refine WL.yldG (by decide) rfl (Yld.loadBM (k := 160) agg_37 rfl rfl (by first | rfl | (simp [*]; done))) ?_
          refine WL.yldG (by decide) rfl (Yld.loadBM (k := 170) agg_37 rfl rfl (by first | rfl | (simp [*]; done))) ?_
          refine WL.yldG (by decide) rfl (Yld.neqA (zeqs_37 _ _ _ _ _ _) rfl rfl) ?_
          refine WL.new (v' := .bool false) (congrArg Value.bool (by simp)) ?_
          refine WL.yld (by decide) (Yld.pickF rfl rfl) ?_
          refine WL.done (hK51 _ _ ?_)
          refine WC.condF rfl ?_
          refine WC.skip ?_
          refine QK.blockN ?_
          refine QK.thenN (hK43 _ _ ?_)
          refine WC.region fun K52 hK52 => ?_
          refine WL.yld (by decide) (Yld.add rfl rfl (by omega)) ?_
          refine WL.yld (by decide) (Yld.move rfl) ?_
          refine WL.done (hK52 _ _ ?_)
          refine QK.thenN (hK26 (1 + 1) _ _ ?_ ?_ (Sub.cons rfl (Sub.cons rfl (Sub.cons rfl (Sub.nil _)))) (Sub.cons rfl (Sub.cons rfl (Sub.cons rfl (Sub.nil _)))))
          · show _ ≤ 4; omega
          · show 4 - _ < 4 - _; omega
        · replace hc42 := of_decide_eq_false hc42
          exfalso; omega
      · skip
        refine WC.seqRegion fun K53 hK53 => ?_
        refine WL.yld (by decide) (Yld.lss rfl rfl) ?_
        refine WL.done (hK53 _ _ ?_)
        refine WC.seq fun K54 hK54 => ?_
        refine WC.cond rfl (fun hc55 => ?_) (fun hc55 => ?_)
        · replace hc55 := of_decide_eq_true hc55
          refine WC.skip ?_
          refine QK.thenN (hK54 _ _ ?_)
          refine WC.seq fun K56 hK56 => ?_
          refine WC.block ?_
          refine WC.seqRegion fun K57 hK57 => ?_
          refine WL.yld (by decide) (Yld.idxAddr1 sty_26 rfl rfl (RdH.own (k := 130) rfl) (by omega)) ?_
          refine WL.yld (by decide) (Yld.loadR scal_23 rfl (RdH.own (k := 130) rfl) (getElem?_map1 _ _ (none, 0, 0) (by simp))) ?_
          refine WL.new (v' := .slice A24 (0 + 16 + m) c24) rfl ?_
          refine WL.yld (by decide) (Yld.assign rfl) ?_
          refine WL.done (hK57 _ _ ?_)
          refine WC.seqRegion fun K58 hK58 => ?_
          refine WL.yld (by decide) (Yld.move rfl) ?_
          refine WL.eff (by decide) (Eff.call 171 rfl Try.func43 nm_43 rfl rfl rfl (fun w hb hh => sb_Decode w ((RdH.own (k := 129) rfl) w hb hh))) ?_
          rintro _ _ ⟨_, ⟨rfl, rfl⟩, rfl⟩
          refine WL.yld (by decide) (Yld.move rfl) ?_
          refine WL.yld (by decide) (Yld.extract rfl rfl) ?_
          refine WL.yld (by decide) (Yld.extract rfl rfl) ?_
          refine WL.eff (by decide) (Eff.alloc 180 rfl zer_37) ?_
          rintro _ _ ⟨g180, rfl, rfl⟩
          refine WL.eff0 (Eff0.storeBAM 180 agg_37 rfl rfl rfl (by first | exact ⟨rfl, rfl⟩ | (constructor <;> simp [*])) (by first | rfl | exact all_one _)) ?_
          refine WL.yld (by decide) (Yld.assign rfl) ?_
          refine WL.done (hK58 _ _ ?_)
          refine WC.seqRegion fun K61 hK61 => ?_
          refine WL.yld (by decide) (Yld.move rfl) ?_
          refine WL.eff (by decide) (Eff.call 181 rfl Try.func44 nm_44 rfl rfl rfl (fun w hb hh => r07_Decode w ((RdH.own (k := 129) rfl) w hb hh))) ?_
          rintro _ _ ⟨_, ⟨rfl, rfl⟩, rfl⟩
          refine WL.yld (by decide) (Yld.move rfl) ?_
          refine WL.yld (by decide) (Yld.extract rfl rfl) ?_
          refine WL.yld (by decide) (Yld.extract rfl rfl) ?_
          refine WL.eff (by decide) (Eff.alloc 190 rfl zer_37) ?_
          rintro _ _ ⟨g190, rfl, rfl⟩
          refine WL.eff0 (Eff0.storeBAM 190 agg_37 rfl rfl rfl (by first | exact ⟨rfl, rfl⟩ | (constructor <;> simp [*])) (by first | rfl | exact all_one _)) ?_
          refine WL.yld (by decide) (Yld.assign rfl) ?_
          refine WL.done (hK61 _ _ ?_)
          refine WC.seqRegion fun K64 hK64 => ?_
          refine WL.yld (by decide) (Yld.move rfl) ?_
          refine WL.yld (by decide) (Yld.move rfl) ?_
          refine WL.yld (by decide) (Yld.neq rfl rfl) ?_
          refine WL.new (v' := .bool false) (congrArg Value.bool (by simp)) ?_
          refine WL.yld (by decide) (Yld.move rfl) ?_
          refine WL.yldG (by decide) rfl (Yld.loadBM (k := 180) agg_37 rfl rfl (by first | rfl | (simp [*]; done))) ?_
          refine WL.yldG (by decide) rfl (Yld.loadBM (k := 190) agg_37 rfl rfl (by first | rfl | (simp [*]; done))) ?_
          refine WL.yldG (by decide) rfl (Yld.neqA (zeqs_37 _ _ _ _ _ _) rfl rfl) ?_
          refine WL.new (v' := .bool false) (congrArg Value.bool (by simp)) ?_
          refine WL.yld (by decide) (Yld.pickF rfl rfl) ?_
          refine WL.done (hK64 _ _ ?_)
          refine WC.condF rfl ?_
          refine WC.skip ?_
          refine QK.blockN ?_
          refine QK.thenN (hK56 _ _ ?_)
          refine WC.region fun K65 hK65 => ?_
          refine WL.yld (by decide) (Yld.add rfl rfl (by omega)) ?_
          refine WL.yld (by decide) (Yld.move rfl) ?_
          refine WL.done (hK65 _ _ ?_)
          refine QK.thenN (hK26 (2 + 1) _ _ ?_ ?_ (Sub.cons rfl (Sub.cons rfl (Sub.cons rfl (Sub.nil _)))) (Sub.cons rfl (Sub.cons rfl (Sub.cons rfl (Sub.nil _)))))
          · show _ ≤ 4; omega
          · show 4 - _ < 4 - _; omega
        · replace hc55 := of_decide_eq_false hc55
          exfalso; omega
      · skip
        refine WC.seqRegion fun K66 hK66 => ?_
        refine WL.yld (by decide) (Yld.lss rfl rfl) ?_
        refine WL.done (hK66 _ _ ?_)
        refine WC.seq fun K67 hK67 => ?_
        refine WC.cond rfl (fun hc68 => ?_) (fun hc68 => ?_)
        · replace hc68 := of_decide_eq_true hc68
          refine WC.skip ?_
          refine QK.thenN (hK67 _ _ ?_)
          refine WC.seq fun K69 hK69 => ?_
          refine WC.block ?_
          refine WC.seqRegion fun K70 hK70 => ?_
          refine WL.yld (by decide) (Yld.idxAddr1 sty_26 rfl rfl (RdH.own (k := 130) rfl) (by omega)) ?_
          refine WL.yld (by decide) (Yld.loadR scal_23 rfl (RdH.own (k := 130) rfl) (getElem?_map1 _ _ (none, 0, 0) (by simp))) ?_
          refine WL.new (v' := .slice A10 j c10) rfl ?_
          refine WL.yld (by decide) (Yld.assign rfl) ?_
          refine WL.done (hK70 _ _ ?_)
          refine WC.seqRegion fun K71 hK71 => ?_
          refine WL.yld (by decide) (Yld.move rfl) ?_
          refine WL.eff (by decide) (Eff.call 191 rfl Try.func43 nm_43 rfl rfl rfl (fun w hb hh => sb_Decode w ((RdH.take1 (RdH.own (k := 111) rfl) (by omega : j ≤ 16)) w hb hh))) ?_
          rintro _ _ ⟨_, ⟨rfl, rfl⟩, rfl⟩
          refine WL.yld (by decide) (Yld.move rfl) ?_
          refine WL.yld (by decide) (Yld.extract rfl rfl) ?_
          refine WL.yld (by decide) (Yld.extract rfl rfl) ?_
          refine WL.eff (by decide) (Eff.alloc 200 rfl zer_37) ?_
          rintro _ _ ⟨g200, rfl, rfl⟩
          refine WL.eff0 (Eff0.storeBAM 200 agg_37 rfl rfl rfl (by first | exact ⟨rfl, rfl⟩ | (constructor <;> simp [*])) (by first | rfl | exact all_one _)) ?_
          refine WL.yld (by decide) (Yld.assign rfl) ?_
          refine WL.done (hK71 _ _ ?_)
          refine WC.seqRegion fun K74 hK74 => ?_
          refine WL.yld (by decide) (Yld.move rfl) ?_
          refine WL.eff (by decide) (Eff.call 201 rfl Try.func44 nm_44 rfl rfl rfl (fun w hb hh => r07_Decode w ((RdH.take1 (RdH.own (k := 111) rfl) (by omega : j ≤ 16)) w hb hh))) ?_
          rintro _ _ ⟨_, ⟨rfl, rfl⟩, rfl⟩
          refine WL.yld (by decide) (Yld.move rfl) ?_
          refine WL.yld (by decide) (Yld.extract rfl rfl) ?_
          refine WL.yld (by decide) (Yld.extract rfl rfl) ?_
          refine WL.eff (by decide) (Eff.alloc 210 rfl zer_37) ?_
          rintro _ _ ⟨g210, rfl, rfl⟩
          refine WL.eff0 (Eff0.storeBAM 210 agg_37 rfl rfl rfl (by first | exact ⟨rfl, rfl⟩ | (constructor <;> simp [*])) (by first | rfl | exact all_one _)) ?_
          refine WL.yld (by decide) (Yld.assign rfl) ?_
          refine WL.done (hK74 _ _ ?_)
          refine WC.seqRegion fun K77 hK77 => ?_
          refine WL.yld (by decide) (Yld.move rfl) ?_
          refine WL.yld (by decide) (Yld.move rfl) ?_
          refine WL.yld (by decide) (Yld.neq rfl rfl) ?_
          refine WL.new (v' := .bool false) (congrArg Value.bool (by simp)) ?_
          refine WL.yld (by decide) (Yld.move rfl) ?_
          refine WL.yldG (by decide) rfl (Yld.loadBM (k := 200) agg_37 rfl rfl (by first | rfl | (simp [*]; done))) ?_
          refine WL.yldG (by decide) rfl (Yld.loadBM (k := 210) agg_37 rfl rfl (by first | rfl | (simp [*]; done))) ?_
          refine WL.yldG (by decide) rfl (Yld.neqA (zeqs_37 _ _ _ _ _ _) rfl rfl) ?_
          refine WL.new (v' := .bool false) (congrArg Value.bool (by simp)) ?_
          refine WL.yld (by decide) (Yld.pickF rfl rfl) ?_
          refine WL.done (hK77 _ _ ?_)
          refine WC.condF rfl ?_
          refine WC.skip ?_
          refine QK.blockN ?_
          refine QK.thenN (hK69 _ _ ?_)
          refine WC.region fun K78 hK78 => ?_
          refine WL.yld (by decide) (Yld.add rfl rfl (by omega)) ?_
          refine WL.yld (by decide) (Yld.move rfl) ?_
          refine WL.done (hK78 _ _ ?_)
          refine QK.thenN (hK26 (3 + 1) _ _ ?_ ?_ (Sub.cons rfl (Sub.cons rfl (Sub.cons rfl (Sub.nil _)))) (Sub.cons rfl (Sub.cons rfl (Sub.cons rfl (Sub.nil _)))))
          · show _ ≤ 4; omega
          · show 4 - _ < 4 - _; omega
        · replace hc68 := of_decide_eq_false hc68
          exfalso; omega
      · skip
        refine WC.seqRegion fun K79 hK79 => ?_
        refine WL.yld (by decide) (Yld.lss rfl rfl) ?_
        refine WL.done (hK79 _ _ ?_)
        refine WC.seq fun K80 hK80 => ?_
        refine WC.cond rfl (fun hc81 => ?_) (fun hc81 => ?_)
        · replace hc81 := of_decide_eq_true hc81
          exfalso; omega
        · replace hc81 := of_decide_eq_false hc81
          refine WC.exit (QK.thenE (QK.thenE (QK.blockX ?_)))
          refine QK.thenN (hK19 _ _ ?_)
          refine WC.seqRegion fun K82 hK82 => ?_
          refine WL.eff (by decide) (Eff.call 211 rfl Try.func33 nm_33 rfl rfl rfl (fun w hb hh => law07_awake w)) ?_
          rintro _ _ ⟨_, ⟨rfl, rfl⟩, rfl⟩
          refine WL.yld (by decide) (Yld.assign rfl) ?_
          refine WL.done (hK82 _ _ ?_)
          refine WC.ret ?_
          exact Ret.fn [] (ResIs.one rfl rfl) rfl (by decide) rfl

set_option maxRecDepth 10000 in
theorem law_SuperblockBack (w : World) (b0_0 : Int) (v0_0 : -9223372036854775808 ≤ b0_0 ∧ b0_0 ≤ 9223372036854775807) (b0_1 : Int) (v0_1 : -9223372036854775808 ≤ b0_1 ∧ b0_1 ≤ 9223372036854775807) (b0_2 : Int) (v0_2 : -9223372036854775808 ≤ b0_2 ∧ b0_2 ≤ 9223372036854775807) {A1 : Option Addr} {n1 c1 : Nat} {xs1 : List (BitVec 8)} (s1 : SlR w 1 A1 n1 c1 (xs1.map U8)) (hr1 : c1 * 1 ≤ 140737488351232) :
    Fn Try.prog 17 #[.agg #[I64 b0_0, I64 b0_1, I64 b0_2], .slice A1 n1 c1] w fun r es => r = .bool true := by
  have hl1 := s1.len1
  have hcm1 := s1.cm
  have hle1 := s1.le
  unfold maxLen at hcm1
  refine Fn.intro (N := 60) Try.func17 rfl rfl (Nat.le_of_ble_eq_true rfl) ?_
  refine WC.seqRegion fun K1 hK1 => ?_
  refine WL.eff (by decide) (Eff.box 101 (us := [I64 b0_0, I64 b0_1, I64 b0_2]) rfl rfl rfl) ?_
  rintro _ _ ⟨g101, rfl, rfl⟩
  refine WL.yld (by decide) (Yld.assign rfl) ?_
  refine WL.done (hK1 _ _ ?_)
  refine WC.seq fun K3 hK3 => ?_
  refine WC.seqRegionD (n := 6) [(101, _)] rfl mixed (Sub.cons rfl (Sub.nil _)) fun K5 hK5 => ?_
  refine WD.take 0 rfl (by kernel_rfl) (by kernel_rfl) (by kernel_rfl) (by decide) (Yld.loadBM (k := 101) agg_37 rfl rfl (by first | rfl | (simp [*]; done))) ?_
  refine WD.take 1 rfl (by kernel_rfl) (by kernel_rfl) (by kernel_rfl) (by decide) (Yld.loadBM (k := 101) agg_37 rfl rfl (by first | rfl | (simp [*]; done))) ?_
  refine WD.take 5 rfl (by kernel_rfl) (by kernel_rfl) (by kernel_rfl) (by decide) (Yld.move rfl) ?_
  refine WD.one 2 (by kernel_rfl) ?_
  refine WS.eff rfl (by decide) (Eff.call 102 rfl Try.func26 nm_26 rfl rfl rfl (fun w hb hh => law07_near w _ _ _ (by omega) (by omega) (by omega))) ?_
  rintro _ _ ⟨_, ⟨rfl, rfl⟩, rfl⟩
  refine ⟨(Sub.cons rfl (Sub.nil _)), ?_⟩
  refine WD.one 3 (by kernel_rfl) ?_
  refine WS.eff rfl (by decide) (Eff.buildSliceA 111 sty_39 rfl rfl (by decide) (fill_39_2 _ _ _ _ _ _) rfl) ?_
  rintro _ _ ⟨g111, rfl, rfl⟩
  refine ⟨(Sub.cons rfl (Sub.nil _)), ?_⟩
  refine WD.take 4 rfl (by kernel_rfl) (by kernel_rfl) (by kernel_rfl) (by decide) (Yld.len und_39 rfl) ?_
  refine WD.done (by kernel_rfl) (hK5 _ _ ?_)
  refine WC.block ?_
  refine WC.loop (σ := Nat) (fun k => [(1, .slice A1 n1 c1), (2, .pointer (some ⟨g101, 0, none⟩)), (14, .slice (some ⟨g111, 0, none⟩) 2 2), (15, I64 ((2 : Nat) : Int)), (16, I64 (k : Nat))]) (fun k => [(101, .blk g101 37 [I64 b0_0, I64 b0_1, I64 b0_2]), (111, .own 37 3 (some ⟨g111, 0, none⟩) 2 2 [I64 b0_0, I64 b0_1, I64 b0_2, I64 (b0_0 % 4), I64 (1 + b0_1 % 8), I64 (b0_2 % 4294967296)])]) (fun k => k ≤ 2) (fun k => 2 - k) 0 ?_ (Sub.cons rfl (Sub.cons rfl (Sub.cons rfl (Sub.cons rfl (Sub.cons rfl (Sub.nil _)))))) (Sub.cons rfl (Sub.cons rfl (Sub.nil _))) ?_
  · exact Nat.zero_le _
  rintro k hk K8 hK8
  rcases (by omega : k = 0 ∨ k = 1 ∨ k = 2) with rfl | rfl | rfl
  · skip
    refine WC.seqRegion fun K9 hK9 => ?_
    refine WL.yld (by decide) (Yld.lss rfl rfl) ?_
    refine WL.done (hK9 _ _ ?_)
    refine WC.seq fun K10 hK10 => ?_
    refine WC.cond rfl (fun hc11 => ?_) (fun hc11 => ?_)
    · replace hc11 := of_decide_eq_true hc11
      refine WC.skip ?_
      refine QK.thenN (hK10 _ _ ?_)
      refine WC.seq fun K12 hK12 => ?_
      refine WC.block ?_
      refine WC.seqRegion fun K13 hK13 => ?_
      refine WL.yld (by decide) (Yld.idxAddr sty_39 rfl rfl (RdH.own (k := 111) rfl) (by decide) (by omega)) ?_
      refine WL.yld (by decide) (Yld.loadRD (us := [I64 b0_0, I64 b0_1, I64 b0_2]) agg_37 rfl (RdH.own (k := 111) rfl) rfl rfl) ?_
      refine WL.eff (by decide) (Eff.alloc 112 rfl zer_37) ?_
      rintro _ _ ⟨g112, rfl, rfl⟩
      refine WL.eff0 (Eff0.storeBAM 112 agg_37 rfl rfl rfl (by first | exact ⟨rfl, rfl⟩ | (constructor <;> simp [*])) (by first | rfl | exact all_one _)) ?_
      refine WL.done (hK13 _ _ ?_)
      refine WC.seqRegion fun K15 hK15 => ?_
      refine WL.yld (by decide) (Yld.loadBM (k := 112) agg_37 rfl rfl (by first | rfl | (simp [*]; done))) ?_
      refine WL.eff (by decide) (Eff.call 113 rfl Try.func27 nm_27 rfl rfl rfl (fun w hb hh => sb_Encode w _ _ _ (by omega) (by omega) (by omega))) ?_
      rintro _ _ ⟨_, ⟨A16, c16, rfl, rfl⟩, rfl⟩
      refine WL.yld (by decide) (Yld.move rfl) ?_
      refine WL.yld (by decide) (Yld.extract rfl rfl) ?_
      refine WL.yld (by decide) (Yld.extract rfl rfl) ?_
      refine WL.yld (by decide) (Yld.assign rfl) ?_
      refine WL.yld (by decide) (Yld.assign rfl) ?_
      refine WL.done (hK15 _ _ ?_)
      refine WC.seq fun K17 hK17 => ?_
      refine WC.seqRegion fun K18 hK18 => ?_
      refine WL.yld (by decide) (Yld.move rfl) ?_
      refine WL.yld (by decide) (Yld.eql rfl rfl) ?_
      refine WL.yld (by decide) (Yld.loadBM (k := 112) agg_37 rfl rfl (by first | rfl | (simp [*]; done))) ?_
      refine WL.eff (by decide) (Eff.call 122 rfl Try.func31 nm_31 rfl rfl rfl (fun w hb hh => sb_Valid w _ _ _)) ?_
      rintro _ _ ⟨_, ⟨rfl, rfl⟩, rfl⟩
      refine WL.yld (by decide) (Yld.neqB und_4 rfl rfl) ?_
      refine WL.new (v' := .bool false) (congrArg Value.bool (serr_sv _ _ _)) ?_
      refine WL.done (hK18 _ _ ?_)
      refine WC.condF rfl ?_
      refine WC.skip ?_
      refine QK.thenN (hK17 _ _ ?_)
      refine WC.seq fun K20 hK20 => ?_
      refine WC.seqRegion fun K21 hK21 => ?_
      refine WL.yld (by decide) (Yld.move rfl) ?_
      refine WL.yld (by decide) (Yld.neq rfl rfl) ?_
      refine WL.done (hK21 _ _ ?_)
      refine WC.cond rfl (fun hc22 => ?_) (fun hc22 => ?_)
      · replace hc22 := bne_iff_ne.1 hc22
        refine WC.exit (QK.thenE (QK.blockX ?_))
        refine QK.thenN (hK12 _ _ ?_)
        refine WC.region fun K23 hK23 => ?_
        refine WL.yld (by decide) (Yld.add rfl rfl (by omega)) ?_
        refine WL.yld (by decide) (Yld.move rfl) ?_
        refine WL.done (hK23 _ _ ?_)
        refine QK.thenN (hK8 (0 + 1) _ _ ?_ ?_ (Sub.cons rfl (Sub.cons rfl (Sub.cons rfl (Sub.cons rfl (Sub.cons rfl (Sub.nil _)))))) (Sub.cons rfl (Sub.cons rfl (Sub.nil _))))
        · show _ ≤ 2; omega
        · show 2 - _ < 2 - _; omega
      · replace hc22 := bne_eq_false_iff_eq.1 hc22
        have hv := serr_0 hc22
        have hsb : sbytes b0_0 b0_1 b0_2 = senc b0_0 b0_1 b0_2 := if_pos hv
        have hsl : (sbytes b0_0 b0_1 b0_2).length = 16 := by rw [hsb, senc_length]
        have hgd := sd_senc hv xs1
        rw [← hsb] at hgd
        refine WC.skip ?_
        refine QK.thenN (hK20 _ _ ?_)
        refine WC.seqRegion fun K24 hK24 => ?_
        refine WL.eff (by decide) (Eff.buildSliceM U8 131 [] sty_23 rfl rfl rfl rfl rfl (by decide)) ?_
        rintro _ _ ⟨g131, rfl, rfl⟩
        refine WL.yld (by decide) (Yld.move rfl) ?_
        refine WL.eff (by decide) (Eff.appendM (f := U8) 131 sty_23 rfl rfl rfl (RdH.own (k := 113) rfl) (by omega)) ?_
        rintro _ _ ⟨A26, c26, rfl, rfl⟩
        refine WL.yld (by decide) (Yld.move rfl) ?_
        refine WL.eff (by decide) (Eff.appendM (f := U8) 131 sty_23 rfl rfl rfl (RdH.old s1) (by omega)) ?_
        rintro _ _ ⟨A27, c27, rfl, rfl⟩
        refine WL.eff (by decide) (Eff.call 132 rfl Try.func43 nm_43 rfl rfl rfl (fun w hb hh => sb_Decode w ((RdH.own (k := 131) rfl) w hb hh))) ?_
        rintro _ _ ⟨_, ⟨rfl, rfl⟩, rfl⟩
        refine WL.yld (by decide) (Yld.move rfl) ?_
        refine WL.yld (by decide) (Yld.extract rfl rfl) ?_
        refine WL.yld (by decide) (Yld.extract rfl rfl) ?_
        refine WL.eff (by decide) (Eff.alloc 141 rfl zer_37) ?_
        rintro _ _ ⟨g141, rfl, rfl⟩
        refine WL.eff0 (Eff0.storeBAM 141 agg_37 rfl rfl rfl (by first | exact ⟨rfl, rfl⟩ | (constructor <;> simp [*])) (by first | rfl | exact all_one _)) ?_
        refine WL.yld (by decide) (Yld.assign rfl) ?_
        refine WL.done (hK24 _ _ ?_)
        refine WC.seqRegion fun K30 hK30 => ?_
        refine WL.yld (by decide) (Yld.move rfl) ?_
        refine WL.yld (by decide) (Yld.len und_23 rfl) ?_
        refine WL.yld (by decide) (Yld.neq rfl rfl) ?_
        refine WL.new (v' := .bool false) (congrArg Value.bool (by rw [hsl]; rfl)) ?_
        refine WL.yld (by decide) (Yld.move rfl) ?_
        refine WL.yldG (by decide) rfl (Yld.move rfl) ?_
        refine WL.yldG (by decide) rfl (Yld.neq rfl rfl) ?_
        refine WL.new (v' := .bool false) (congrArg Value.bool (by rw [List.nil_append, hgd.1]; rfl)) ?_
        refine WL.yld (by decide) (Yld.pickF rfl rfl) ?_
        refine WL.yld (by decide) (Yld.move rfl) ?_
        refine WL.yldG (by decide) rfl (Yld.loadBM (k := 141) agg_37 rfl rfl (by first | rfl | (simp [*]; done))) ?_
        refine WL.yldG (by decide) rfl (Yld.loadBM (k := 112) agg_37 rfl rfl (by first | rfl | (simp [*]; done))) ?_
        refine WL.yldG (by decide) rfl (Yld.neqA (zeqs_37 _ _ _ _ _ _) rfl rfl) ?_
        refine WL.new (v' := .bool false) (congrArg Value.bool (by rw [List.nil_append, hgd.2.1, hgd.2.2.1, hgd.2.2.2]; simp)) ?_
        refine WL.yld (by decide) (Yld.pickF rfl rfl) ?_
        refine WL.done (hK30 _ _ ?_)
        refine WC.condF rfl ?_
        refine WC.skip ?_
        refine QK.blockN ?_
        refine QK.thenN (hK12 _ _ ?_)
        refine WC.region fun K31 hK31 => ?_
        refine WL.yld (by decide) (Yld.add rfl rfl (by omega)) ?_
        refine WL.yld (by decide) (Yld.move rfl) ?_
        refine WL.done (hK31 _ _ ?_)
        refine QK.thenN (hK8 (0 + 1) _ _ ?_ ?_ (Sub.cons rfl (Sub.cons rfl (Sub.cons rfl (Sub.cons rfl (Sub.cons rfl (Sub.nil _)))))) (Sub.cons rfl (Sub.cons rfl (Sub.nil _))))
        · show _ ≤ 2; omega
        · show 2 - _ < 2 - _; omega
    · replace hc11 := of_decide_eq_false hc11
      exfalso; omega
  · skip
    refine WC.seqRegion fun K32 hK32 => ?_
    refine WL.yld (by decide) (Yld.lss rfl rfl) ?_
    refine WL.done (hK32 _ _ ?_)
    refine WC.seq fun K33 hK33 => ?_
    refine WC.cond rfl (fun hc34 => ?_) (fun hc34 => ?_)
    · replace hc34 := of_decide_eq_true hc34
      refine WC.skip ?_
      refine QK.thenN (hK33 _ _ ?_)
      refine WC.seq fun K35 hK35 => ?_
      refine WC.block ?_
      refine WC.seqRegion fun K36 hK36 => ?_
      refine WL.yld (by decide) (Yld.idxAddr sty_39 rfl rfl (RdH.own (k := 111) rfl) (by decide) (by omega)) ?_
      refine WL.yld (by decide) (Yld.loadRD (us := [I64 (b0_0 % 4), I64 (1 + b0_1 % 8), I64 (b0_2 % 4294967296)]) agg_37 rfl (RdH.own (k := 111) rfl) rfl rfl) ?_
      refine WL.eff (by decide) (Eff.alloc 142 rfl zer_37) ?_
      rintro _ _ ⟨g142, rfl, rfl⟩
      refine WL.eff0 (Eff0.storeBAM 142 agg_37 rfl rfl rfl (by first | exact ⟨rfl, rfl⟩ | (constructor <;> simp [*])) (by first | rfl | exact all_one _)) ?_
      refine WL.done (hK36 _ _ ?_)
      refine WC.seqRegion fun K38 hK38 => ?_
      refine WL.yld (by decide) (Yld.loadBM (k := 142) agg_37 rfl rfl (by first | rfl | (simp [*]; done))) ?_
      refine WL.eff (by decide) (Eff.call 143 rfl Try.func27 nm_27 rfl rfl rfl (fun w hb hh => sb_Encode w _ _ _ (by omega) (by omega) (by omega))) ?_
      rintro _ _ ⟨_, ⟨A39, c39, rfl, rfl⟩, rfl⟩
      refine WL.yld (by decide) (Yld.move rfl) ?_
      refine WL.yld (by decide) (Yld.extract rfl rfl) ?_
      refine WL.yld (by decide) (Yld.extract rfl rfl) ?_
      refine WL.yld (by decide) (Yld.assign rfl) ?_
      refine WL.yld (by decide) (Yld.assign rfl) ?_
      refine WL.done (hK38 _ _ ?_)
      refine WC.seq fun K40 hK40 => ?_
      refine WC.seqRegion fun K41 hK41 => ?_
      refine WL.yld (by decide) (Yld.move rfl) ?_
      refine WL.yld (by decide) (Yld.eql rfl rfl) ?_
      refine WL.yld (by decide) (Yld.loadBM (k := 142) agg_37 rfl rfl (by first | rfl | (simp [*]; done))) ?_
      refine WL.eff (by decide) (Eff.call 152 rfl Try.func31 nm_31 rfl rfl rfl (fun w hb hh => sb_Valid w _ _ _)) ?_
      rintro _ _ ⟨_, ⟨rfl, rfl⟩, rfl⟩
      refine WL.yld (by decide) (Yld.neqB und_4 rfl rfl) ?_
      refine WL.new (v' := .bool false) (congrArg Value.bool (serr_sv _ _ _)) ?_
      refine WL.done (hK41 _ _ ?_)
      refine WC.condF rfl ?_
      refine WC.skip ?_
      refine QK.thenN (hK40 _ _ ?_)
      refine WC.seq fun K43 hK43 => ?_
      refine WC.seqRegion fun K44 hK44 => ?_
      refine WL.yld (by decide) (Yld.move rfl) ?_
      refine WL.yld (by decide) (Yld.neq rfl rfl) ?_
      refine WL.done (hK44 _ _ ?_)
      refine WC.cond rfl (fun hc45 => ?_) (fun hc45 => ?_)
      · replace hc45 := bne_iff_ne.1 hc45
        refine WC.exit (QK.thenE (QK.blockX ?_))
        refine QK.thenN (hK35 _ _ ?_)
        refine WC.region fun K46 hK46 => ?_
        refine WL.yld (by decide) (Yld.add rfl rfl (by omega)) ?_
        refine WL.yld (by decide) (Yld.move rfl) ?_
        refine WL.done (hK46 _ _ ?_)
        refine QK.thenN (hK8 (1 + 1) _ _ ?_ ?_ (Sub.cons rfl (Sub.cons rfl (Sub.cons rfl (Sub.cons rfl (Sub.cons rfl (Sub.nil _)))))) (Sub.cons rfl (Sub.cons rfl (Sub.nil _))))
        · show _ ≤ 2; omega
        · show 2 - _ < 2 - _; omega
      · replace hc45 := bne_eq_false_iff_eq.1 hc45
        have hv := serr_0 hc45
        have hsb : sbytes (b0_0 % 4) (1 + b0_1 % 8) (b0_2 % 4294967296) = senc (b0_0 % 4) (1 + b0_1 % 8) (b0_2 % 4294967296) := if_pos hv
        have hsl : (sbytes (b0_0 % 4) (1 + b0_1 % 8) (b0_2 % 4294967296)).length = 16 := by rw [hsb, senc_length]
        have hgd := sd_senc hv xs1
        rw [← hsb] at hgd
        refine WC.skip ?_
        refine QK.thenN (hK43 _ _ ?_)
        refine WC.seqRegion fun K47 hK47 => ?_
        refine WL.eff (by decide) (Eff.buildSliceM U8 161 [] sty_23 rfl rfl rfl rfl rfl (by decide)) ?_
        rintro _ _ ⟨g161, rfl, rfl⟩
        refine WL.yld (by decide) (Yld.move rfl) ?_
        refine WL.eff (by decide) (Eff.appendM (f := U8) 161 sty_23 rfl rfl rfl (RdH.own (k := 143) rfl) (by omega)) ?_
        rintro _ _ ⟨A49, c49, rfl, rfl⟩
        refine WL.yld (by decide) (Yld.move rfl) ?_
        refine WL.eff (by decide) (Eff.appendM (f := U8) 161 sty_23 rfl rfl rfl (RdH.old s1) (by omega)) ?_
        rintro _ _ ⟨A50, c50, rfl, rfl⟩
        refine WL.eff (by decide) (Eff.call 162 rfl Try.func43 nm_43 rfl rfl rfl (fun w hb hh => sb_Decode w ((RdH.own (k := 161) rfl) w hb hh))) ?_
        rintro _ _ ⟨_, ⟨rfl, rfl⟩, rfl⟩
        refine WL.yld (by decide) (Yld.move rfl) ?_
        refine WL.yld (by decide) (Yld.extract rfl rfl) ?_
        refine WL.yld (by decide) (Yld.extract rfl rfl) ?_
        refine WL.eff (by decide) (Eff.alloc 171 rfl zer_37) ?_
        rintro _ _ ⟨g171, rfl, rfl⟩
        refine WL.eff0 (Eff0.storeBAM 171 agg_37 rfl rfl rfl (by first | exact ⟨rfl, rfl⟩ | (constructor <;> simp [*])) (by first | rfl | exact all_one _)) ?_
        refine WL.yld (by decide) (Yld.assign rfl) ?_
        refine WL.done (hK47 _ _ ?_)
        refine WC.seqRegion fun K53 hK53 => ?_
        refine WL.yld (by decide) (Yld.move rfl) ?_
        refine WL.yld (by decide) (Yld.len und_23 rfl) ?_
        refine WL.yld (by decide) (Yld.neq rfl rfl) ?_
        refine WL.new (v' := .bool false) (congrArg Value.bool (by rw [hsl]; rfl)) ?_
        refine WL.yld (by decide) (Yld.move rfl) ?_
        refine WL.yldG (by decide) rfl (Yld.move rfl) ?_
        refine WL.yldG (by decide) rfl (Yld.neq rfl rfl) ?_
        refine WL.new (v' := .bool false) (congrArg Value.bool (by rw [List.nil_append, hgd.1]; rfl)) ?_
        refine WL.yld (by decide) (Yld.pickF rfl rfl) ?_
        refine WL.yld (by decide) (Yld.move rfl) ?_
        refine WL.yldG (by decide) rfl (Yld.loadBM (k := 171) agg_37 rfl rfl (by first | rfl | (simp [*]; done))) ?_
        refine WL.yldG (by decide) rfl (Yld.loadBM (k := 142) agg_37 rfl rfl (by first | rfl | (simp [*]; done))) ?_
        refine WL.yldG (by decide) rfl (Yld.neqA (zeqs_37 _ _ _ _ _ _) rfl rfl) ?_
        refine WL.new (v' := .bool false) (congrArg Value.bool (by rw [List.nil_append, hgd.2.1, hgd.2.2.1, hgd.2.2.2]; simp)) ?_
        refine WL.yld (by decide) (Yld.pickF rfl rfl) ?_
        refine WL.done (hK53 _ _ ?_)
        refine WC.condF rfl ?_
        refine WC.skip ?_
        refine QK.blockN ?_
        refine QK.thenN (hK35 _ _ ?_)
        refine WC.region fun K54 hK54 => ?_
        refine WL.yld (by decide) (Yld.add rfl rfl (by omega)) ?_
        refine WL.yld (by decide) (Yld.move rfl) ?_
        refine WL.done (hK54 _ _ ?_)
        refine QK.thenN (hK8 (1 + 1) _ _ ?_ ?_ (Sub.cons rfl (Sub.cons rfl (Sub.cons rfl (Sub.cons rfl (Sub.cons rfl (Sub.nil _)))))) (Sub.cons rfl (Sub.cons rfl (Sub.nil _))))
        · show _ ≤ 2; omega
        · show 2 - _ < 2 - _; omega
    · replace hc34 := of_decide_eq_false hc34
      exfalso; omega
  · skip
    refine WC.seqRegion fun K55 hK55 => ?_
    refine WL.yld (by decide) (Yld.lss rfl rfl) ?_
    refine WL.done (hK55 _ _ ?_)
    refine WC.seq fun K56 hK56 => ?_
    refine WC.cond rfl (fun hc57 => ?_) (fun hc57 => ?_)
    · replace hc57 := of_decide_eq_true hc57
      exfalso; omega
    · replace hc57 := of_decide_eq_false hc57
      refine WC.exit (QK.thenE (QK.thenE (QK.blockX ?_)))
      refine QK.thenN (hK3 _ _ ?_)
      refine WC.seqRegion fun K58 hK58 => ?_
      refine WL.yld (by decide) (Yld.loadBM (k := 101) agg_37 rfl rfl (by first | rfl | (simp [*]; done))) ?_
      refine WL.eff (by decide) (Eff.call 172 rfl Try.func26 nm_26 rfl rfl rfl (fun w hb hh => law07_near w _ _ _ (by omega) (by omega) (by omega))) ?_
      rintro _ _ ⟨_, ⟨rfl, rfl⟩, rfl⟩
      refine WL.eff (by decide) (Eff.call 181 rfl Try.func31 nm_31 rfl rfl rfl (fun w hb hh => sb_Valid w _ _ _)) ?_
      rintro _ _ ⟨_, ⟨rfl, rfl⟩, rfl⟩
      refine WL.new (v' := .bool true) (congrArg Value.bool sv_near) ?_
      refine WL.yld (by decide) (Yld.move rfl) ?_
      refine WL.effG (by decide) rfl (Eff.call 190 rfl Try.func33 nm_33 rfl rfl rfl (fun w hb hh => law07_awake w)) ?_
      rintro _ _ ⟨_, ⟨rfl, rfl⟩, rfl⟩
      refine WL.yld (by decide) (Yld.pickT rfl rfl) ?_
      refine WL.yld (by decide) (Yld.assign rfl) ?_
      refine WL.done (hK58 _ _ ?_)
      refine WC.ret ?_
      exact Ret.fn [] (ResIs.one rfl rfl) rfl (by decide) rfl

end Go.Proofs.Ytibopglhgbbmpaa
