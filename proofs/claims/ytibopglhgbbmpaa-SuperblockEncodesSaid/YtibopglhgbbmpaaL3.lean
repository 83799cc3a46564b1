/-
  The statements on superblocks: every input, the law returns true.
  Printed by a program of ours (gen.py, spec_law07.py) from the function's operations. Conditions: as each theorem says.
-/
import Derived.Test.YtibopglhgbbmpaaK11
import Derived.Test.YtibopglhgbbmpaaM5
import Derived.Test.YtibopglhgbbmpaaF3
namespace Go.Proofs.Ytibopglhgbbmpaa
open Go Go.RowKit
set_option linter.unusedVariables false

theorem und_39 : Try.prog.underlying 39 = some (.slice 37) := by kernel_rfl
theorem und_4 : Try.prog.underlying 4 = some .bool := by kernel_rfl
theorem fill_39_2 : ∀ a0 a1 a2 a3 a4 a5 : Int, Instr.fill (fun i => some (i * 3, 3)) ((Array.range (2 * 3)).map ((Value.agg #[(I64 0), (I64 0), (I64 0)]).cells[· % (Value.agg #[(I64 0), (I64 0), (I64 0)]).cells.size]!)) [(0, Value.agg #[Value.int .i64 a0, Value.int .i64 a1, Value.int .i64 a2]), (1, Value.agg #[Value.int .i64 a3, Value.int .i64 a4, Value.int .i64 a5])] = some ([Value.int .i64 a0, Value.int .i64 a1, Value.int .i64 a2, Value.int .i64 a3, Value.int .i64 a4, Value.int .i64 a5] : List Value).toArray := fun a0 a1 a2 a3 a4 a5 => by kernel_rfl
theorem nm_26 : (Try.f26.name == "runtime.NumGoroutine") = false := by kernel_rfl
theorem nm_28 : (Try.f28.name == "runtime.NumGoroutine") = false := by kernel_rfl
theorem nm_30 : (Try.f30.name == "runtime.NumGoroutine") = false := by kernel_rfl
theorem nm_33 : (Try.f33.name == "runtime.NumGoroutine") = false := by kernel_rfl
theorem nm_43 : (Try.f43.name == "runtime.NumGoroutine") = false := by kernel_rfl
theorem sty_39 : STy Try.prog 39 37 (.agg #[(I64 0), (I64 0), (I64 0)]) 3 24 := STy.of und_39 (by kernel_rfl) rfl

set_option maxRecDepth 10000 in
theorem law_SuperblockNext (w : World) (b0_0 : Int) (v0_0 : -9223372036854775808 ≤ b0_0 ∧ b0_0 ≤ 9223372036854775807) (b0_1 : Int) (v0_1 : -9223372036854775808 ≤ b0_1 ∧ b0_1 ≤ 9223372036854775807) (b0_2 : Int) (v0_2 : -9223372036854775808 ≤ b0_2 ∧ b0_2 ≤ 9223372036854775807) (x1 : BitVec 8) :
    Fn Try.prog 8 #[.agg #[I64 b0_0, I64 b0_1, I64 b0_2], U8 x1] w fun r es => r = .bool true := by
  refine Fn.intro (N := 56) Try.func8 rfl rfl (Nat.le_of_ble_eq_true rfl) ?_
  refine WC.seqRegion fun K1 hK1 => ?_
  refine WL.eff (by decide) (Eff.box 101 (us := [I64 b0_0, I64 b0_1, I64 b0_2]) rfl rfl rfl) ?_
  rintro _ _ ⟨g101, rfl, rfl⟩
  refine WL.yld (by decide) (Yld.assign rfl) ?_
  refine WL.done (hK1 _ _ ?_)
  refine WC.seqRegion fun K3 hK3 => ?_
  refine WL.yld (by decide) (Yld.loadBM (k := 101) agg_37 rfl rfl (by first | rfl | (simp [*]; done))) ?_
  refine WL.eff (by decide) (Eff.call 102 rfl Try.func26 nm_26 rfl rfl rfl (fun w hb hh => law07_near w _ _ _ (by omega) (by omega) (by omega))) ?_
  rintro _ _ ⟨_, ⟨rfl, rfl⟩, rfl⟩
  refine WL.eff (by decide) (Eff.alloc 111 rfl zer_37) ?_
  rintro _ _ ⟨g111, rfl, rfl⟩
  refine WL.eff0 (Eff0.storeBAM 111 agg_37 rfl rfl rfl (by first | exact ⟨rfl, rfl⟩ | (constructor <;> simp [*])) (by first | rfl | exact all_one _)) ?_
  refine WL.done (hK3 _ _ ?_)
  refine WC.seq fun K6 hK6 => ?_
  refine WC.seqRegion fun K7 hK7 => ?_
  refine WL.yld (by decide) (Yld.assign rfl) ?_
  refine WL.done (hK7 _ _ ?_)
  refine WC.block ?_
  refine WC.loop (σ := Nat × Int × Int × Int) (fun ⟨i, a, b, c⟩ => [(1, U8 x1), (5, .pointer (some ⟨g111, 0, none⟩)), (6, I64 (i : Nat))]) (fun ⟨i, a, b, c⟩ => [(111, .blk g111 37 [I64 a, I64 b, I64 c])]) (fun ⟨i, a, b, c⟩ => i ≤ x1.toNat ∧ sv a b c = true) (fun ⟨i, a, b, c⟩ => x1.toNat - i) (0, _, _, _) ?_ (Sub.cons rfl (Sub.cons rfl (Sub.cons rfl (Sub.nil _)))) (Sub.cons rfl (Sub.nil _)) ?_
  · exact ⟨by omega, sv_near⟩
  rintro ⟨i, a, b, c⟩ ⟨hi, hv⟩ K8 hK8
  obtain ⟨hv1, hv2, hv3, hv4, hv5, hv6⟩ := sv_iff.1 hv
  have hx8 := x1.isLt
  simp only [Nat.reducePow] at hx8
  refine WC.seq fun K9 hK9 => ?_
  refine WC.seqRegion fun K10 hK10 => ?_
  refine WL.yld (by decide) (Yld.move rfl) ?_
  refine WL.yld (by decide) (Yld.move rfl) ?_
  refine WL.yld (by decide) (Yld.conv_u8_i64 some_5 und_3 rfl) ?_
  refine WL.yld (by decide) (Yld.lss rfl rfl) ?_
  refine WL.done (hK10 _ _ ?_)
  refine WC.cond rfl (fun hc11 => ?_) (fun hc11 => ?_)
  · replace hc11 := of_decide_eq_true hc11
    refine WC.skip ?_
    refine QK.thenN (hK9 _ _ ?_)
    refine WC.seq fun K12 hK12 => ?_
    refine WC.block ?_
    refine WC.seqRegion fun K13 hK13 => ?_
    refine WL.yld (by decide) (Yld.loadBM (k := 111) agg_37 rfl rfl (by first | rfl | (simp [*]; done))) ?_
    refine WL.eff (by decide) (Eff.call 112 rfl Try.func29 nm_29 rfl rfl rfl (fun w hb hh => sb_Next w _ _ _ (by omega) (by omega) (by omega))) ?_
    rintro _ _ ⟨_, ⟨rfl, rfl⟩, rfl⟩
    refine WL.yld (by decide) (Yld.move rfl) ?_
    refine WL.yld (by decide) (Yld.extract rfl rfl) ?_
    refine WL.yld (by decide) (Yld.extract rfl rfl) ?_
    refine WL.eff (by decide) (Eff.alloc 121 rfl zer_37) ?_
    rintro _ _ ⟨g121, rfl, rfl⟩
    refine WL.eff0 (Eff0.storeBAM 121 agg_37 rfl rfl rfl (by first | exact ⟨rfl, rfl⟩ | (constructor <;> simp [*])) (by first | rfl | exact all_one _)) ?_
    refine WL.yld (by decide) (Yld.assign rfl) ?_
    refine WL.done (hK13 _ _ ?_)
    refine WC.seq fun K16 hK16 => ?_
    refine WC.seqRegion fun K17 hK17 => ?_
    refine WL.yld (by decide) (Yld.fieldAddr Try.underlying37 rfl nz_2 rfl rfl) ?_
    refine WL.yld (by decide) (Yld.loadB (k := 111) scal_2 rfl rfl rfl) ?_
    refine WL.yld (by decide) (Yld.eql rfl rfl) ?_
    refine WL.done (hK17 _ _ ?_)
    refine WC.cond rfl (fun hc18 => ?_) (fun hc18 => ?_)
    · replace hc18 := eq_of_beq hc18
      have hcm : c = 4294967295 := hc18
      refine WC.seqRegion fun K19 hK19 => ?_
      refine WL.yld (by decide) (Yld.move rfl) ?_
      refine WL.yld (by decide) (Yld.eql rfl rfl) ?_
      refine WL.new (v' := .bool true) (congrArg Value.bool (by rw [snE_2 hv hcm]; rfl)) ?_
      refine WL.yld (by decide) (Yld.move rfl) ?_
      refine WL.effG (by decide) rfl (Eff.call 122 rfl Try.func33 nm_33 rfl rfl rfl (fun w hb hh => law07_awake w)) ?_
      rintro _ _ ⟨_, ⟨rfl, rfl⟩, rfl⟩
      refine WL.yld (by decide) (Yld.pickT rfl rfl) ?_
      refine WL.yld (by decide) (Yld.assign rfl) ?_
      refine WL.done (hK19 _ _ ?_)
      refine WC.ret (QK.thenR (QK.blockR (QK.thenR (QK.thenR (QK.blockR (QK.thenR ?_))))))
      exact Ret.fn [] (ResIs.one rfl rfl) rfl (by decide) rfl
    · replace hc18 := ne_of_beq_false hc18
      have hcm : c ≠ 4294967295 := hc18
      obtain ⟨e1, e2, e3, e4⟩ := sn_good (snE_0 hv hcm)
      refine WC.skip ?_
      refine QK.thenN (hK16 _ _ ?_)
      refine WC.seq fun K21 hK21 => ?_
      refine WC.seqRegion fun K22 hK22 => ?_
      refine WL.yld (by decide) (Yld.move rfl) ?_
      refine WL.yld (by decide) (Yld.neq rfl rfl) ?_
      refine WL.new (v' := .bool false) (congrArg Value.bool (by rw [e1]; rfl)) ?_
      refine WL.yld (by decide) (Yld.move rfl) ?_
      refine WL.yldG (by decide) rfl (Yld.fieldAddr Try.underlying37 rfl nz_3 rfl rfl) ?_
      refine WL.yldG (by decide) rfl (Yld.loadB (k := 121) scal_3 rfl rfl rfl) ?_
      refine WL.yldG (by decide) rfl (Yld.fieldAddr Try.underlying37 rfl nz_3 rfl rfl) ?_
      refine WL.yldG (by decide) rfl (Yld.loadB (k := 111) scal_3 rfl rfl rfl) ?_
      refine WL.yldG (by decide) rfl (Yld.neq rfl rfl) ?_
      refine WL.new (v' := .bool false) (congrArg Value.bool (by rw [e2]; simp)) ?_
      refine WL.yld (by decide) (Yld.pickF rfl rfl) ?_
      refine WL.yld (by decide) (Yld.move rfl) ?_
      refine WL.yldG (by decide) rfl (Yld.fieldAddr Try.underlying37 rfl nz_3 rfl rfl) ?_
      refine WL.yldG (by decide) rfl (Yld.loadB (k := 121) scal_3 rfl rfl rfl) ?_
      refine WL.yldG (by decide) rfl (Yld.fieldAddr Try.underlying37 rfl nz_3 rfl rfl) ?_
      refine WL.yldG (by decide) rfl (Yld.loadB (k := 111) scal_3 rfl rfl rfl) ?_
      refine WL.yldG (by decide) rfl (Yld.neq rfl rfl) ?_
      refine WL.new (v' := .bool false) (congrArg Value.bool (by rw [e3]; simp)) ?_
      refine WL.yld (by decide) (Yld.pickF rfl rfl) ?_
      refine WL.yld (by decide) (Yld.move rfl) ?_
      refine WL.yldG (by decide) rfl (Yld.fieldAddr Try.underlying37 rfl nz_2 rfl rfl) ?_
      refine WL.yldG (by decide) rfl (Yld.loadB (k := 121) scal_2 rfl rfl rfl) ?_
      refine WL.yldG (by decide) rfl (Yld.fieldAddr Try.underlying37 rfl nz_2 rfl rfl) ?_
      refine WL.yldG (by decide) rfl (Yld.loadB (k := 111) scal_2 rfl rfl rfl) ?_
      refine WL.yldG (by decide) rfl (Yld.add rfl rfl (by omega)) ?_
      refine WL.yldG (by decide) rfl (Yld.neq rfl rfl) ?_
      refine WL.new (v' := .bool false) (congrArg Value.bool (by rw [e4]; simp)) ?_
      refine WL.yld (by decide) (Yld.pickF rfl rfl) ?_
      refine WL.done (hK22 _ _ ?_)
      refine WC.condF rfl ?_
      refine WC.skip ?_
      refine QK.thenN (hK21 _ _ ?_)
      refine WC.region fun K23 hK23 => ?_
      refine WL.yld (by decide) (Yld.loadBM (k := 121) agg_37 rfl rfl (by first | rfl | (simp [*]; done))) ?_
      refine WL.eff0 (Eff0.storeBAM 111 agg_37 rfl rfl rfl (by first | exact ⟨rfl, rfl⟩ | (constructor <;> simp [*])) (by first | rfl | exact all_one _)) ?_
      refine WL.done (hK23 _ _ ?_)
      refine QK.blockN ?_
      refine QK.thenN (hK12 _ _ ?_)
      refine WC.region fun K24 hK24 => ?_
      refine WL.yld (by decide) (Yld.move rfl) ?_
      refine WL.yld (by decide) (Yld.add rfl rfl (by omega)) ?_
      refine WL.yld (by decide) (Yld.assign rfl) ?_
      refine WL.done (hK24 _ _ ?_)
      refine QK.thenN (hK8 (i + 1, _, _, _) _ _ ?_ ?_ (Sub.cons rfl (Sub.cons rfl (Sub.cons rfl (Sub.nil _)))) (Sub.cons rfl (Sub.nil _)))
      · exact ⟨by omega, by rw [e2, e3, e4]; exact sv_iff.2 (by omega)⟩
      · dsimp only; omega
  · replace hc11 := of_decide_eq_false hc11
    refine WC.exit (QK.thenE (QK.thenE (QK.blockX ?_)))
    refine QK.thenN (hK6 _ _ ?_)
    refine WC.seqRegion fun K25 hK25 => ?_
    refine WL.eff (by decide) (Eff.call 131 rfl Try.func33 nm_33 rfl rfl rfl (fun w hb hh => law07_awake w)) ?_
    rintro _ _ ⟨_, ⟨rfl, rfl⟩, rfl⟩
    refine WL.yld (by decide) (Yld.assign rfl) ?_
    refine WL.done (hK25 _ _ ?_)
    refine WC.ret ?_
    exact Ret.fn [] (ResIs.one rfl rfl) rfl (by decide) rfl

set_option maxRecDepth 10000 in
theorem law_SuperblockBursts (w : World) (b0_0 : Int) (v0_0 : -9223372036854775808 ≤ b0_0 ∧ b0_0 ≤ 9223372036854775807) (b0_1 : Int) (v0_1 : -9223372036854775808 ≤ b0_1 ∧ b0_1 ≤ 9223372036854775807) (b0_2 : Int) (v0_2 : -9223372036854775808 ≤ b0_2 ∧ b0_2 ≤ 9223372036854775807) (a1 : Int) (w1 : -9223372036854775808 ≤ a1 ∧ a1 ≤ 9223372036854775807) (x2 : BitVec 32) :
    Fn Try.prog 18 #[.agg #[I64 b0_0, I64 b0_1, I64 b0_2], I64 a1, U32 x2] w fun r es => r = .bool true := by
  refine Fn.intro (N := 81) Try.func18 rfl rfl (Nat.le_of_ble_eq_true rfl) ?_
  refine WC.seqRegion fun K1 hK1 => ?_
  refine WL.eff (by decide) (Eff.box 101 (us := [I64 b0_0, I64 b0_1, I64 b0_2]) rfl rfl rfl) ?_
  rintro _ _ ⟨g101, rfl, rfl⟩
  refine WL.yld (by decide) (Yld.assign rfl) ?_
  refine WL.done (hK1 _ _ ?_)
  have hv : sv (b0_0 % 4) (1 + b0_1 % 8) (b0_2 % 4294967296) = true := sv_near
  have hsb : sbytes (b0_0 % 4) (1 + b0_1 % 8) (b0_2 % 4294967296) = senc (b0_0 % 4) (1 + b0_1 % 8) (b0_2 % 4294967296) := if_pos hv
  have hse : serr (b0_0 % 4) (1 + b0_1 % 8) (b0_2 % 4294967296) = 0 := if_pos hv
  refine WC.seqRegion fun K3 hK3 => ?_
  refine WL.yld (by decide) (Yld.loadBM (k := 101) agg_37 rfl rfl (by first | rfl | (simp [*]; done))) ?_
  refine WL.eff (by decide) (Eff.call 102 rfl Try.func26 nm_26 rfl rfl rfl (fun w hb hh => law07_near w _ _ _ (by omega) (by omega) (by omega))) ?_
  rintro _ _ ⟨_, ⟨rfl, rfl⟩, rfl⟩
  refine WL.eff (by decide) (Eff.call 111 rfl Try.func27 nm_27 rfl rfl rfl (fun w hb hh => sb_Encode w _ _ _ (by omega) (by omega) (by omega))) ?_
  rintro _ _ ⟨_, ⟨A5, c5, rfl, rfl⟩, rfl⟩
  refine WL.newH (e' := .own 5 1 A5 16 c5 ((senc (b0_0 % 4) (1 + b0_1 % 8) (b0_2 % 4294967296)).map U8)) (by rw [hsb, senc_length]) ?_
  refine WL.yld (by decide) (Yld.move rfl) ?_
  refine WL.yld (by decide) (Yld.extract rfl rfl) ?_
  refine WL.new (v' := .slice A5 16 c5) (by show Value.slice A5 (sbytes (b0_0 % 4) (1 + b0_1 % 8) (b0_2 % 4294967296)).length c5 = _; rw [hsb, senc_length]) ?_
  refine WL.yld (by decide) (Yld.extract rfl rfl) ?_
  refine WL.new (v' := I64 0) (congrArg I64 hse) ?_
  refine WL.yld (by decide) (Yld.assign rfl) ?_
  refine WL.yld (by decide) (Yld.assign rfl) ?_
  refine WL.done (hK3 _ _ ?_)
  refine WC.seq fun K6 hK6 => ?_
  refine WC.seqRegion fun K7 hK7 => ?_
  refine WL.yld (by decide) (Yld.move rfl) ?_
  refine WL.yld (by decide) (Yld.neq rfl rfl) ?_
  refine WL.new (v' := .bool false) rfl ?_
  refine WL.yld (by decide) (Yld.move rfl) ?_
  refine WL.yldG (by decide) rfl (Yld.move rfl) ?_
  refine WL.yldG (by decide) rfl (Yld.len und_23 rfl) ?_
  refine WL.yldG (by decide) rfl (Yld.neq rfl rfl) ?_
  refine WL.new (v' := .bool false) rfl ?_
  refine WL.yld (by decide) (Yld.pickF rfl rfl) ?_
  refine WL.done (hK7 _ _ ?_)
  refine WC.condF rfl ?_
  refine WC.skip ?_
  refine QK.thenN (hK6 _ _ ?_)
  obtain ⟨bit, hbit, hbn⟩ := idx_mod a1 128 (by omega)
  have htm := tmod_bd a1 128 (by omega)
  refine WC.seqRegion fun K8 hK8 => ?_
  refine WL.yld (by decide) (Yld.move rfl) ?_
  refine WL.yld (by decide) (Yld.remT rfl rfl (by omega)) ?_
  refine WL.yld (by decide) (Yld.add rfl rfl (by omega)) ?_
  refine WL.yld (by decide) (Yld.rem rfl rfl (by omega)) ?_
  refine WL.new (v' := I64 (bit : Nat)) (congrArg I64 hbit) ?_
  refine WL.yld (by decide) (Yld.assign rfl) ?_
  refine WL.done (hK8 _ _ ?_)
  refine WC.seqRegion fun K9 hK9 => ?_
  refine WL.eff (by decide) (Eff.buildSliceM U8 120 [] sty_23 rfl rfl rfl rfl rfl (by decide)) ?_
  rintro _ _ ⟨g120, rfl, rfl⟩
  refine WL.yld (by decide) (Yld.move rfl) ?_
  refine WL.eff (by decide) (Eff.appendM (f := U8) 120 sty_23 rfl rfl rfl (RdH.own (k := 111) rfl) (by omega)) ?_
  rintro _ _ ⟨A11, c11, rfl, rfl⟩
  refine WL.yld (by decide) (Yld.assign rfl) ?_
  refine WL.done (hK9 _ _ ?_)
  refine WC.seq fun K12 hK12 => ?_
  refine WC.seqRegion fun K13 hK13 => ?_
  refine WL.yld (by decide) (Yld.assign rfl) ?_
  refine WL.done (hK13 _ _ ?_)
  refine WC.block ?_
  refine WC.loop (σ := Nat × List (BitVec 8)) (fun ⟨i, os⟩ => [(2, U32 x2), (7, .slice A5 16 c5), (9, I64 (bit : Nat)), (10, .slice A11 (0 + 16) c11), (11, I64 (i : Nat))]) (fun ⟨i, os⟩ => [(111, .own 5 1 A5 16 c5 ((senc (b0_0 % 4) (1 + b0_1 % 8) (b0_2 % 4294967296)).map U8)), (120, .own 5 1 A11 (0 + 16) c11 (os.map U8))]) (fun ⟨i, os⟩ => i ≤ 32 ∧ bit + i ≤ 128 ∧ os = burstTo (senc (b0_0 % 4) (1 + b0_1 % 8) (b0_2 % 4294967296)) bit x2 i) (fun ⟨i, os⟩ => 32 - i) (0, _) ?_ (Sub.cons rfl (Sub.cons rfl (Sub.cons rfl (Sub.cons rfl (Sub.cons rfl (Sub.nil _)))))) (Sub.cons rfl (Sub.cons rfl (Sub.nil _))) ?_
  · exact ⟨by omega, by omega, rfl⟩
  rintro ⟨i, os⟩ ⟨hi, hki, ho⟩ K14 hK14
  have hol : os.length = 16 := by rw [ho, burstTo_length, senc_length]
  refine WC.seq fun K15 hK15 => ?_
  refine WC.seqRegion fun K16 hK16 => ?_
  refine WL.yld (by decide) (Yld.move rfl) ?_
  refine WL.yld (by decide) (Yld.lss rfl rfl) ?_
  refine WL.yld (by decide) (Yld.move rfl) ?_
  refine WL.bool (fun hb17 => ?_) (fun hb17 => ?_)
  · replace hb17 := of_decide_eq_true hb17
    refine WL.yldG (by decide) rfl (Yld.move rfl) ?_
    refine WL.yldG (by decide) rfl (Yld.move rfl) ?_
    refine WL.yldG (by decide) rfl (Yld.add rfl rfl (by omega)) ?_
    refine WL.yldG (by decide) rfl (Yld.lss rfl rfl) ?_
    refine WL.yld (by decide) (Yld.pickT rfl rfl) ?_
    refine WL.done (hK16 _ _ ?_)
    refine WC.cond rfl (fun hc18 => ?_) (fun hc18 => ?_)
    · replace hc18 := of_decide_eq_true hc18
      refine WC.skip ?_
      refine QK.thenN (hK15 _ _ ?_)
      refine WC.seq fun K19 hK19 => ?_
      refine WC.block ?_
      refine WC.region fun K20 hK20 => ?_
      refine WL.yld (by decide) (Yld.move rfl) ?_
      refine WL.yld (by decide) (Yld.move rfl) ?_
      refine WL.yld (by decide) (Yld.move rfl) ?_
      refine WL.yld (by decide) (Yld.add rfl rfl (by omega)) ?_
      refine WL.yld (by decide) (Yld.quo rfl rfl (by omega)) ?_
      refine WL.new (v' := I64 (((bit + i) / 8 : Nat) : Int)) (congrArg I64 (by omega)) ?_
      refine WL.yld (by decide) (Yld.idxAddr1 sty_23 rfl rfl (RdH.own (k := 120) rfl) (by omega)) ?_
      refine WL.yld (by decide) (Yld.loadR scal_5 rfl (RdH.own (k := 120) rfl) (getElem?_map1 _ _ 0 (by omega))) ?_
      refine WL.yld (by decide) (Yld.move rfl) ?_
      refine WL.yld (by decide) (Yld.move rfl) ?_
      refine WL.yld (by decide) (Yld.conv_i64_uint some_3 und_34 rfl (by omega)) ?_
      refine WL.yld (by decide) (Yld.shr_u32 rfl rfl (by omega)) ?_
      refine WL.yld (by decide) (Yld.and_u32 (b := 1#32) rfl rfl) ?_
      refine WL.yld (by decide) (Yld.move rfl) ?_
      refine WL.yld (by decide) (Yld.move rfl) ?_
      refine WL.yld (by decide) (Yld.add rfl rfl (by omega)) ?_
      refine WL.yld (by decide) (Yld.rem rfl rfl (by omega)) ?_
      refine WL.new (v' := I64 (((bit + i) % 8 : Nat) : Int)) (congrArg I64 (by omega)) ?_
      refine WL.yld (by decide) (Yld.conv_i64_uint some_3 und_34 rfl (by omega)) ?_
      refine WL.yld (by decide) (Yld.shl_u32 rfl rfl (by omega)) ?_
      refine WL.yld (by decide) (Yld.conv_u32_u8 some_33 und_5 rfl) ?_
      refine WL.yld (by decide) (Yld.xor_u8 rfl rfl) ?_
      refine WL.yld (by decide) (Yld.idxAddr1 sty_23 rfl rfl (RdH.own (k := 120) rfl) (by omega)) ?_
      refine WL.eff0 (Eff0.storeOM U8 120 siz_5 rfl rfl rfl (by omega)) ?_
      refine WL.done (hK20 _ _ ?_)
      refine QK.blockN ?_
      refine QK.thenN (hK19 _ _ ?_)
      refine WC.region fun K21 hK21 => ?_
      refine WL.yld (by decide) (Yld.move rfl) ?_
      refine WL.yld (by decide) (Yld.add rfl rfl (by omega)) ?_
      refine WL.yld (by decide) (Yld.assign rfl) ?_
      refine WL.done (hK21 _ _ ?_)
      refine QK.thenN (hK14 (i + 1, _) _ _ ?_ ?_ (Sub.cons rfl (Sub.cons rfl (Sub.cons rfl (Sub.cons rfl (Sub.cons rfl (Sub.nil _)))))) (Sub.cons rfl (Sub.cons rfl (Sub.nil _))))
      · exact ⟨by omega, by omega, by subst ho; rfl⟩
      · dsimp only; omega
    · replace hc18 := of_decide_eq_false hc18
      refine WC.exit (QK.thenE (QK.thenE (QK.blockX ?_)))
      refine QK.thenN (hK12 _ _ ?_)
      refine WC.seqRegion fun K22 hK22 => ?_
      refine WL.yld (by decide) (Yld.move rfl) ?_
      refine WL.eff (by decide) (Eff.call 121 rfl Try.func43 nm_43 rfl rfl rfl (fun w hb hh => sb_Decode w ((RdH.own (k := 120) rfl) w hb hh))) ?_
      rintro _ _ ⟨_, ⟨rfl, rfl⟩, rfl⟩
      refine WL.yld (by decide) (Yld.move rfl) ?_
      refine WL.yld (by decide) (Yld.extract rfl rfl) ?_
      refine WL.yld (by decide) (Yld.extract rfl rfl) ?_
      refine WL.eff (by decide) (Eff.alloc 130 rfl zer_37) ?_
      rintro _ _ ⟨g130, rfl, rfl⟩
      refine WL.eff0 (Eff0.storeBAM 130 agg_37 rfl rfl rfl (by first | exact ⟨rfl, rfl⟩ | (constructor <;> simp [*])) (by first | rfl | exact all_one _)) ?_
      refine WL.yld (by decide) (Yld.assign rfl) ?_
      refine WL.done (hK22 _ _ ?_)
      refine WC.seqRegion fun K25 hK25 => ?_
      refine WL.yld (by decide) (Yld.move rfl) ?_
      refine WL.yld (by decide) (Yld.b2s und_23 und_5 und_9 rfl (RdH.own (k := 111) rfl)) ?_
      refine WL.yld (by decide) (Yld.move rfl) ?_
      refine WL.yld (by decide) (Yld.b2s und_23 und_5 und_9 rfl (RdH.own (k := 120) rfl)) ?_
      refine WL.yld (by decide) (Yld.eqlStr rfl rfl) ?_
      refine WL.yld (by decide) (Yld.move rfl) ?_
      refine WL.yld (by decide) (Yld.eql rfl rfl) ?_
      refine WL.yld (by decide) (Yld.eqlB und_4 rfl rfl) ?_
      refine WL.new (v' := .bool true) (by subst ho; exact congrArg Value.bool (sb_burst hv _ _ _ (by omega))) ?_
      refine WL.yld (by decide) (Yld.move rfl) ?_
      refine WL.effG (by decide) rfl (Eff.call 131 rfl Try.func33 nm_33 rfl rfl rfl (fun w hb hh => law07_awake w)) ?_
      rintro _ _ ⟨_, ⟨rfl, rfl⟩, rfl⟩
      refine WL.yld (by decide) (Yld.pickT rfl rfl) ?_
      refine WL.yld (by decide) (Yld.assign rfl) ?_
      refine WL.done (hK25 _ _ ?_)
      refine WC.ret ?_
      exact Ret.fn [] (ResIs.one rfl rfl) rfl (by decide) rfl
  · replace hb17 := of_decide_eq_false hb17
    refine WL.skip (by decide) rfl rfl ?_
    refine WL.skip (by decide) rfl rfl ?_
    refine WL.skip (by decide) rfl rfl ?_
    refine WL.skip (by decide) rfl rfl ?_
    refine WL.yld (by decide) (Yld.pickF rfl rfl) ?_
    refine WL.done (hK16 _ _ ?_)
    refine WC.condF rfl ?_
    refine WC.exit (QK.thenE (QK.thenE (QK.blockX ?_)))
    refine QK.thenN (hK12 _ _ ?_)
    refine WC.seqRegion fun K27 hK27 => ?_
    refine WL.yld (by decide) (Yld.move rfl) ?_
    refine WL.eff (by decide) (Eff.call 140 rfl Try.func43 nm_43 rfl rfl rfl (fun w hb hh => sb_Decode w ((RdH.own (k := 120) rfl) w hb hh))) ?_
    rintro _ _ ⟨_, ⟨rfl, rfl⟩, rfl⟩
    refine WL.yld (by decide) (Yld.move rfl) ?_
    refine WL.yld (by decide) (Yld.extract rfl rfl) ?_
    refine WL.yld (by decide) (Yld.extract rfl rfl) ?_
    refine WL.eff (by decide) (Eff.alloc 149 rfl zer_37) ?_
    rintro _ _ ⟨g149, rfl, rfl⟩
    refine WL.eff0 (Eff0.storeBAM 149 agg_37 rfl rfl rfl (by first | exact ⟨rfl, rfl⟩ | (constructor <;> simp [*])) (by first | rfl | exact all_one _)) ?_
    refine WL.yld (by decide) (Yld.assign rfl) ?_
    refine WL.done (hK27 _ _ ?_)
    refine WC.seqRegion fun K30 hK30 => ?_
    refine WL.yld (by decide) (Yld.move rfl) ?_
    refine WL.yld (by decide) (Yld.b2s und_23 und_5 und_9 rfl (RdH.own (k := 111) rfl)) ?_
    refine WL.yld (by decide) (Yld.move rfl) ?_
    refine WL.yld (by decide) (Yld.b2s und_23 und_5 und_9 rfl (RdH.own (k := 120) rfl)) ?_
    refine WL.yld (by decide) (Yld.eqlStr rfl rfl) ?_
    refine WL.yld (by decide) (Yld.move rfl) ?_
    refine WL.yld (by decide) (Yld.eql rfl rfl) ?_
    refine WL.yld (by decide) (Yld.eqlB und_4 rfl rfl) ?_
    refine WL.new (v' := .bool true) (by subst ho; exact congrArg Value.bool (sb_burst hv _ _ _ (by omega))) ?_
    refine WL.yld (by decide) (Yld.move rfl) ?_
    refine WL.effG (by decide) rfl (Eff.call 150 rfl Try.func33 nm_33 rfl rfl rfl (fun w hb hh => law07_awake w)) ?_
    rintro _ _ ⟨_, ⟨rfl, rfl⟩, rfl⟩
    refine WL.yld (by decide) (Yld.pickT rfl rfl) ?_
    refine WL.yld (by decide) (Yld.assign rfl) ?_
    refine WL.done (hK30 _ _ ?_)
    refine WC.ret ?_
    exact Ret.fn [] (ResIs.one rfl rfl) rfl (by decide) rfl

set_option maxRecDepth 10000 in
theorem law_SuperblockEncodes (w : World) (b0_0 : Int) (v0_0 : -9223372036854775808 ≤ b0_0 ∧ b0_0 ≤ 9223372036854775807) (b0_1 : Int) (v0_1 : -9223372036854775808 ≤ b0_1 ∧ b0_1 ≤ 9223372036854775807) (b0_2 : Int) (v0_2 : -9223372036854775808 ≤ b0_2 ∧ b0_2 ≤ 9223372036854775807) :
    Fn Try.prog 7 #[.agg #[I64 b0_0, I64 b0_1, I64 b0_2]] w fun r es => r = .bool true := by
  refine Fn.intro (N := 71) Try.func7 rfl rfl (Nat.le_of_ble_eq_true rfl) ?_
  refine WC.seqRegion fun K1 hK1 => ?_
  refine WL.eff (by decide) (Eff.box 101 (us := [I64 b0_0, I64 b0_1, I64 b0_2]) rfl rfl rfl) ?_
  rintro _ _ ⟨g101, rfl, rfl⟩
  refine WL.yld (by decide) (Yld.assign rfl) ?_
  refine WL.done (hK1 _ _ ?_)
  refine WC.seq fun K3 hK3 => ?_
  refine WC.seqRegionD (n := 6) [(101, _)] rfl mixed (Sub.cons rfl (Sub.nil _)) fun K5 hK5 => ?_
  refine WD.take 0 rfl (by kernel_rfl) (by kernel_rfl) (by kernel_rfl) (by decide) (Yld.loadBM (k := 101) agg_37 rfl rfl (by first | rfl | (simp [*]; done))) ?_
  refine WD.take 1 rfl (by kernel_rfl) (by kernel_rfl) (by kernel_rfl) (by decide) (Yld.loadBM (k := 101) agg_37 rfl rfl (by first | rfl | (simp [*]; done))) ?_
  refine WD.take 5 rfl (by kernel_rfl) (by kernel_rfl) (by kernel_rfl) (by decide) (Yld.move rfl) ?_
  refine WD.one 2 (by kernel_rfl) ?_
  refine WS.eff rfl (by decide) (Eff.call 102 rfl Try.func26 nm_26 rfl rfl rfl (fun w hb hh => law07_near w _ _ _ (by omega) (by omega) (by omega))) ?_
  rintro _ _ ⟨_, ⟨rfl, rfl⟩, rfl⟩
  refine ⟨(Sub.cons rfl (Sub.nil _)), ?_⟩
  refine WD.one 3 (by kernel_rfl) ?_
  refine WS.eff rfl (by decide) (Eff.buildSliceA 111 sty_39 rfl rfl (by decide) (fill_39_2 _ _ _ _ _ _) rfl) ?_
  rintro _ _ ⟨g111, rfl, rfl⟩
  refine ⟨(Sub.cons rfl (Sub.nil _)), ?_⟩
  refine WD.take 4 rfl (by kernel_rfl) (by kernel_rfl) (by kernel_rfl) (by decide) (Yld.len und_39 rfl) ?_
  refine WD.done (by kernel_rfl) (hK5 _ _ ?_)
  refine WC.block ?_
  refine WC.loop (σ := Nat) (fun k => [(16, .slice (some ⟨g111, 0, none⟩) 2 2), (17, I64 ((2 : Nat) : Int)), (18, I64 (k : Nat))]) (fun k => [(111, .own 37 3 (some ⟨g111, 0, none⟩) 2 2 [I64 b0_0, I64 b0_1, I64 b0_2, I64 (b0_0 % 4), I64 (1 + b0_1 % 8), I64 (b0_2 % 4294967296)])]) (fun k => k ≤ 2) (fun k => 2 - k) 0 ?_ (Sub.cons rfl (Sub.cons rfl (Sub.cons rfl (Sub.nil _)))) (Sub.cons rfl (Sub.nil _)) ?_
  · exact Nat.zero_le _
  rintro k hk K8 hK8
  rcases (by omega : k = 0 ∨ k = 1 ∨ k = 2) with rfl | rfl | rfl
  · skip
    refine WC.seqRegion fun K9 hK9 => ?_
    refine WL.yld (by decide) (Yld.lss rfl rfl) ?_
    refine WL.done (hK9 _ _ ?_)
    refine WC.seq fun K10 hK10 => ?_
    refine WC.cond rfl (fun hc11 => ?_) (fun hc11 => ?_)
    · replace hc11 := of_decide_eq_true hc11
      refine WC.skip ?_
      refine QK.thenN (hK10 _ _ ?_)
      refine WC.seq fun K12 hK12 => ?_
      refine WC.block ?_
      refine WC.seqRegion fun K13 hK13 => ?_
      refine WL.yld (by decide) (Yld.idxAddr sty_39 rfl rfl (RdH.own (k := 111) rfl) (by decide) (by omega)) ?_
      refine WL.yld (by decide) (Yld.loadRD (us := [I64 b0_0, I64 b0_1, I64 b0_2]) agg_37 rfl (RdH.own (k := 111) rfl) rfl rfl) ?_
      refine WL.eff (by decide) (Eff.alloc 112 rfl zer_37) ?_
      rintro _ _ ⟨g112, rfl, rfl⟩
      refine WL.eff0 (Eff0.storeBAM 112 agg_37 rfl rfl rfl (by first | exact ⟨rfl, rfl⟩ | (constructor <;> simp [*])) (by first | rfl | exact all_one _)) ?_
      refine WL.done (hK13 _ _ ?_)
      refine WC.seqRegion fun K15 hK15 => ?_
      refine WL.yld (by decide) (Yld.loadBM (k := 112) agg_37 rfl rfl (by first | rfl | (simp [*]; done))) ?_
      refine WL.eff (by decide) (Eff.call 113 rfl Try.func27 nm_27 rfl rfl rfl (fun w hb hh => sb_Encode w _ _ _ (by omega) (by omega) (by omega))) ?_
      rintro _ _ ⟨_, ⟨A16, c16, rfl, rfl⟩, rfl⟩
      refine WL.yld (by decide) (Yld.move rfl) ?_
      refine WL.yld (by decide) (Yld.extract rfl rfl) ?_
      refine WL.yld (by decide) (Yld.extract rfl rfl) ?_
      refine WL.yld (by decide) (Yld.assign rfl) ?_
      refine WL.yld (by decide) (Yld.assign rfl) ?_
      refine WL.done (hK15 _ _ ?_)
      refine WC.seqRegion fun K17 hK17 => ?_
      refine WL.yld (by decide) (Yld.loadBM (k := 112) agg_37 rfl rfl (by first | rfl | (simp [*]; done))) ?_
      refine WL.eff (by decide) (Eff.call 122 rfl Try.func28 nm_28 rfl rfl rfl (fun w hb hh => r07_Encode w _ _ _ (by omega) (by omega) (by omega))) ?_
      rintro _ _ ⟨_, ⟨A18, c18, rfl, rfl⟩, rfl⟩
      refine WL.yld (by decide) (Yld.move rfl) ?_
      refine WL.yld (by decide) (Yld.extract rfl rfl) ?_
      refine WL.yld (by decide) (Yld.extract rfl rfl) ?_
      refine WL.yld (by decide) (Yld.assign rfl) ?_
      refine WL.yld (by decide) (Yld.assign rfl) ?_
      refine WL.done (hK17 _ _ ?_)
      refine WC.seqRegion fun K19 hK19 => ?_
      refine WL.yld (by decide) (Yld.loadBM (k := 112) agg_37 rfl rfl (by first | rfl | (simp [*]; done))) ?_
      refine WL.eff (by decide) (Eff.call 131 rfl Try.func29 nm_29 rfl rfl rfl (fun w hb hh => sb_Next w _ _ _ (by omega) (by omega) (by omega))) ?_
      rintro _ _ ⟨_, ⟨rfl, rfl⟩, rfl⟩
      refine WL.yld (by decide) (Yld.move rfl) ?_
      refine WL.yld (by decide) (Yld.extract rfl rfl) ?_
      refine WL.yld (by decide) (Yld.extract rfl rfl) ?_
      refine WL.eff (by decide) (Eff.alloc 140 rfl zer_37) ?_
      rintro _ _ ⟨g140, rfl, rfl⟩
      refine WL.eff0 (Eff0.storeBAM 140 agg_37 rfl rfl rfl (by first | exact ⟨rfl, rfl⟩ | (constructor <;> simp [*])) (by first | rfl | exact all_one _)) ?_
      refine WL.yld (by decide) (Yld.assign rfl) ?_
      refine WL.done (hK19 _ _ ?_)
      refine WC.seqRegion fun K22 hK22 => ?_
      refine WL.yld (by decide) (Yld.loadBM (k := 112) agg_37 rfl rfl (by first | rfl | (simp [*]; done))) ?_
      refine WL.eff (by decide) (Eff.call 141 rfl Try.func30 nm_30 rfl rfl rfl (fun w hb hh => r07_Next w _ _ _ (by omega) (by omega) (by omega))) ?_
      rintro _ _ ⟨_, ⟨rfl, rfl⟩, rfl⟩
      refine WL.yld (by decide) (Yld.move rfl) ?_
      refine WL.yld (by decide) (Yld.extract rfl rfl) ?_
      refine WL.yld (by decide) (Yld.extract rfl rfl) ?_
      refine WL.eff (by decide) (Eff.alloc 150 rfl zer_37) ?_
      rintro _ _ ⟨g150, rfl, rfl⟩
      refine WL.eff0 (Eff0.storeBAM 150 agg_37 rfl rfl rfl (by first | exact ⟨rfl, rfl⟩ | (constructor <;> simp [*])) (by first | rfl | exact all_one _)) ?_
      refine WL.yld (by decide) (Yld.assign rfl) ?_
      refine WL.done (hK22 _ _ ?_)
      refine WC.seqRegionD (n := 27) [(111, _), (112, _), (113, _), (122, _), (140, _), (150, _)] rfl mixed (Sub.cons rfl (Sub.cons rfl (Sub.cons rfl (Sub.cons rfl (Sub.cons rfl (Sub.cons rfl (Sub.nil _))))))) fun K26 hK26 => ?_
      refine WD.take 0 rfl (by kernel_rfl) (by kernel_rfl) (by kernel_rfl) (by decide) (Yld.loadBM (k := 112) agg_37 rfl rfl (by first | rfl | (simp [*]; done))) ?_
      refine WD.take 2 rfl (by kernel_rfl) (by kernel_rfl) (by kernel_rfl) (by decide) (Yld.loadBM (k := 112) agg_37 rfl rfl (by first | rfl | (simp [*]; done))) ?_
      refine WD.one 1 (by kernel_rfl) ?_
      refine WS.eff rfl (by decide) (Eff.call 151 rfl Try.func31 nm_31 rfl rfl rfl (fun w hb hh => sb_Valid w _ _ _)) ?_
      rintro _ _ ⟨_, ⟨rfl, rfl⟩, rfl⟩
      refine ⟨(Sub.cons rfl (Sub.cons rfl (Sub.cons rfl (Sub.cons rfl (Sub.cons rfl (Sub.cons rfl (Sub.nil _))))))), ?_⟩
      refine WD.one 3 (by kernel_rfl) ?_
      refine WS.eff rfl (by decide) (Eff.call 160 rfl Try.func32 nm_32 rfl rfl rfl (fun w hb hh => r07_Valid w _ _ _)) ?_
      rintro _ _ ⟨_, ⟨rfl, rfl⟩, rfl⟩
      refine ⟨(Sub.cons rfl (Sub.cons rfl (Sub.cons rfl (Sub.cons rfl (Sub.cons rfl (Sub.cons rfl (Sub.nil _))))))), ?_⟩
      refine WD.take 4 rfl (by kernel_rfl) (by kernel_rfl) (by kernel_rfl) (by decide) (Yld.neqB und_4 rfl rfl) ?_
      refine WD.new (v' := .bool false) (congrArg Value.bool (by simp)) ?_
      refine WD.take 5 rfl (by kernel_rfl) (by kernel_rfl) (by kernel_rfl) (by decide) (Yld.move rfl) ?_
      refine WD.takeG 6 rfl (by kernel_rfl) (by kernel_rfl) (by kernel_rfl) (by decide) rfl (Yld.move rfl) ?_
      refine WD.takeG 7 rfl (by kernel_rfl) (by kernel_rfl) (by kernel_rfl) (by decide) rfl (Yld.move rfl) ?_
      refine WD.takeG 8 rfl (by kernel_rfl) (by kernel_rfl) (by kernel_rfl) (by decide) rfl (Yld.neq rfl rfl) ?_
      refine WD.new (v' := .bool false) (congrArg Value.bool (by simp)) ?_
      refine WD.take 9 rfl (by kernel_rfl) (by kernel_rfl) (by kernel_rfl) (by decide) (Yld.pickF rfl rfl) ?_
      refine WD.take 10 rfl (by kernel_rfl) (by kernel_rfl) (by kernel_rfl) (by decide) (Yld.move rfl) ?_
      refine WD.takeG 11 rfl (by kernel_rfl) (by kernel_rfl) (by kernel_rfl) (by decide) rfl (Yld.move rfl) ?_
      refine WD.takeG 12 rfl (by kernel_rfl) (by kernel_rfl) (by kernel_rfl) (by decide) rfl (Yld.move rfl) ?_
      refine WD.takeG 13 rfl (by kernel_rfl) (by kernel_rfl) (by kernel_rfl) (by decide) rfl (Yld.neq rfl rfl) ?_
      refine WD.new (v' := .bool false) (congrArg Value.bool (by simp)) ?_
      refine WD.take 14 rfl (by kernel_rfl) (by kernel_rfl) (by kernel_rfl) (by decide) (Yld.pickF rfl rfl) ?_
      refine WD.take 15 rfl (by kernel_rfl) (by kernel_rfl) (by kernel_rfl) (by decide) (Yld.move rfl) ?_
      refine WD.takeG 16 rfl (by kernel_rfl) (by kernel_rfl) (by kernel_rfl) (by decide) rfl (Yld.move rfl) ?_
      refine WD.takeG 17 rfl (by kernel_rfl) (by kernel_rfl) (by kernel_rfl) (by decide) rfl (Yld.b2s und_23 und_5 und_9 rfl (RdH.own (k := 113) rfl)) ?_
      refine WD.takeG 18 rfl (by kernel_rfl) (by kernel_rfl) (by kernel_rfl) (by decide) rfl (Yld.move rfl) ?_
      refine WD.takeG 19 rfl (by kernel_rfl) (by kernel_rfl) (by kernel_rfl) (by decide) rfl (Yld.b2s und_23 und_5 und_9 rfl (RdH.own (k := 122) rfl)) ?_
      refine WD.takeG 20 rfl (by kernel_rfl) (by kernel_rfl) (by kernel_rfl) (by decide) rfl (Yld.neqStr rfl rfl) ?_
      refine WD.new (v' := .bool false) (congrArg Value.bool (by simp)) ?_
      refine WD.take 21 rfl (by kernel_rfl) (by kernel_rfl) (by kernel_rfl) (by decide) (Yld.pickF rfl rfl) ?_
      refine WD.take 22 rfl (by kernel_rfl) (by kernel_rfl) (by kernel_rfl) (by decide) (Yld.move rfl) ?_
      refine WD.takeG 23 rfl (by kernel_rfl) (by kernel_rfl) (by kernel_rfl) (by decide) rfl (Yld.loadBM (k := 140) agg_37 rfl rfl (by first | rfl | (simp [*]; done))) ?_
      refine WD.takeG 24 rfl (by kernel_rfl) (by kernel_rfl) (by kernel_rfl) (by decide) rfl (Yld.loadBM (k := 150) agg_37 rfl rfl (by first | rfl | (simp [*]; done))) ?_
      refine WD.takeG 25 rfl (by kernel_rfl) (by kernel_rfl) (by kernel_rfl) (by decide) rfl (Yld.neqA (zeqs_37 _ _ _ _ _ _) rfl rfl) ?_
      refine WD.new (v' := .bool false) (congrArg Value.bool (by simp)) ?_
      refine WD.take 26 rfl (by kernel_rfl) (by kernel_rfl) (by kernel_rfl) (by decide) (Yld.pickF rfl rfl) ?_
      refine WD.done (by kernel_rfl) (hK26 _ _ ?_)
      refine WC.condF rfl ?_
      refine WC.skip ?_
      refine QK.blockN ?_
      refine QK.thenN (hK12 _ _ ?_)
      refine WC.region fun K29 hK29 => ?_
      refine WL.yld (by decide) (Yld.add rfl rfl (by omega)) ?_
      refine WL.yld (by decide) (Yld.move rfl) ?_
      refine WL.done (hK29 _ _ ?_)
      refine QK.thenN (hK8 (0 + 1) _ _ ?_ ?_ (Sub.cons rfl (Sub.cons rfl (Sub.cons rfl (Sub.nil _)))) (Sub.cons rfl (Sub.nil _)))
      · show _ ≤ 2; omega
      · show 2 - _ < 2 - _; omega
    · replace hc11 := of_decide_eq_false hc11
      exfalso; omega
  · skip
    refine WC.seqRegion fun K30 hK30 => ?_
    refine WL.yld (by decide) (Yld.lss rfl rfl) ?_
    refine WL.done (hK30 _ _ ?_)
    refine WC.seq fun K31 hK31 => ?_
    refine WC.cond rfl (fun hc32 => ?_) (fun hc32 => ?_)
    · replace hc32 := of_decide_eq_true hc32
      refine WC.skip ?_
      refine QK.thenN (hK31 _ _ ?_)
      refine WC.seq fun K33 hK33 => ?_
      refine WC.block ?_
      refine WC.seqRegion fun K34 hK34 => ?_
      refine WL.yld (by decide) (Yld.idxAddr sty_39 rfl rfl (RdH.own (k := 111) rfl) (by decide) (by omega)) ?_
      refine WL.yld (by decide) (Yld.loadRD (us := [I64 (b0_0 % 4), I64 (1 + b0_1 % 8), I64 (b0_2 % 4294967296)]) agg_37 rfl (RdH.own (k := 111) rfl) rfl rfl) ?_
      refine WL.eff (by decide) (Eff.alloc 169 rfl zer_37) ?_
      rintro _ _ ⟨g169, rfl, rfl⟩
      refine WL.eff0 (Eff0.storeBAM 169 agg_37 rfl rfl rfl (by first | exact ⟨rfl, rfl⟩ | (constructor <;> simp [*])) (by first | rfl | exact all_one _)) ?_
      refine WL.done (hK34 _ _ ?_)
      refine WC.seqRegion fun K36 hK36 => ?_
      refine WL.yld (by decide) (Yld.loadBM (k := 169) agg_37 rfl rfl (by first | rfl | (simp [*]; done))) ?_
      refine WL.eff (by decide) (Eff.call 170 rfl Try.func27 nm_27 rfl rfl rfl (fun w hb hh => sb_Encode w _ _ _ (by omega) (by omega) (by omega))) ?_
      rintro _ _ ⟨_, ⟨A37, c37, rfl, rfl⟩, rfl⟩
      refine WL.yld (by decide) (Yld.move rfl) ?_
      refine WL.yld (by decide) (Yld.extract rfl rfl) ?_
      refine WL.yld (by decide) (Yld.extract rfl rfl) ?_
      refine WL.yld (by decide) (Yld.assign rfl) ?_
      refine WL.yld (by decide) (Yld.assign rfl) ?_
      refine WL.done (hK36 _ _ ?_)
      refine WC.seqRegion fun K38 hK38 => ?_
      refine WL.yld (by decide) (Yld.loadBM (k := 169) agg_37 rfl rfl (by first | rfl | (simp [*]; done))) ?_
      refine WL.eff (by decide) (Eff.call 179 rfl Try.func28 nm_28 rfl rfl rfl (fun w hb hh => r07_Encode w _ _ _ (by omega) (by omega) (by omega))) ?_
      rintro _ _ ⟨_, ⟨A39, c39, rfl, rfl⟩, rfl⟩
      refine WL.yld (by decide) (Yld.move rfl) ?_
      refine WL.yld (by decide) (Yld.extract rfl rfl) ?_
      refine WL.yld (by decide) (Yld.extract rfl rfl) ?_
      refine WL.yld (by decide) (Yld.assign rfl) ?_
      refine WL.yld (by decide) (Yld.assign rfl) ?_
      refine WL.done (hK38 _ _ ?_)
      refine WC.seqRegion fun K40 hK40 => ?_
      refine WL.yld (by decide) (Yld.loadBM (k := 169) agg_37 rfl rfl (by first | rfl | (simp [*]; done))) ?_
      refine WL.eff (by decide) (Eff.call 188 rfl Try.func29 nm_29 rfl rfl rfl (fun w hb hh => sb_Next w _ _ _ (by omega) (by omega) (by omega))) ?_
      rintro _ _ ⟨_, ⟨rfl, rfl⟩, rfl⟩
      refine WL.yld (by decide) (Yld.move rfl) ?_
      refine WL.yld (by decide) (Yld.extract rfl rfl) ?_
      refine WL.yld (by decide) (Yld.extract rfl rfl) ?_
      refine WL.eff (by decide) (Eff.alloc 197 rfl zer_37) ?_
      rintro _ _ ⟨g197, rfl, rfl⟩
      refine WL.eff0 (Eff0.storeBAM 197 agg_37 rfl rfl rfl (by first | exact ⟨rfl, rfl⟩ | (constructor <;> simp [*])) (by first | rfl | exact all_one _)) ?_
      refine WL.yld (by decide) (Yld.assign rfl) ?_
      refine WL.done (hK40 _ _ ?_)
      refine WC.seqRegion fun K43 hK43 => ?_
      refine WL.yld (by decide) (Yld.loadBM (k := 169) agg_37 rfl rfl (by first | rfl | (simp [*]; done))) ?_
      refine WL.eff (by decide) (Eff.call 198 rfl Try.func30 nm_30 rfl rfl rfl (fun w hb hh => r07_Next w _ _ _ (by omega) (by omega) (by omega))) ?_
      rintro _ _ ⟨_, ⟨rfl, rfl⟩, rfl⟩
      refine WL.yld (by decide) (Yld.move rfl) ?_
      refine WL.yld (by decide) (Yld.extract rfl rfl) ?_
      refine WL.yld (by decide) (Yld.extract rfl rfl) ?_
      refine WL.eff (by decide) (Eff.alloc 207 rfl zer_37) ?_
      rintro _ _ ⟨g207, rfl, rfl⟩
      refine WL.eff0 (Eff0.storeBAM 207 agg_37 rfl rfl rfl (by first | exact ⟨rfl, rfl⟩ | (constructor <;> simp [*])) (by first | rfl | exact all_one _)) ?_
      refine WL.yld (by decide) (Yld.assign rfl) ?_
      refine WL.done (hK43 _ _ ?_)
      refine WC.seqRegionD (n := 27) [(111, _), (169, _), (170, _), (179, _), (197, _), (207, _)] rfl mixed (Sub.cons rfl (Sub.cons rfl (Sub.cons rfl (Sub.cons rfl (Sub.cons rfl (Sub.cons rfl (Sub.nil _))))))) fun K47 hK47 => ?_
      refine WD.take 0 rfl (by kernel_rfl) (by kernel_rfl) (by kernel_rfl) (by decide) (Yld.loadBM (k := 169) agg_37 rfl rfl (by first | rfl | (simp [*]; done))) ?_
      refine WD.take 2 rfl (by kernel_rfl) (by kernel_rfl) (by kernel_rfl) (by decide) (Yld.loadBM (k := 169) agg_37 rfl rfl (by first | rfl | (simp [*]; done))) ?_
      refine WD.one 1 (by kernel_rfl) ?_
      refine WS.eff rfl (by decide) (Eff.call 208 rfl Try.func31 nm_31 rfl rfl rfl (fun w hb hh => sb_Valid w _ _ _)) ?_
      rintro _ _ ⟨_, ⟨rfl, rfl⟩, rfl⟩
      refine ⟨(Sub.cons rfl (Sub.cons rfl (Sub.cons rfl (Sub.cons rfl (Sub.cons rfl (Sub.cons rfl (Sub.nil _))))))), ?_⟩
      refine WD.one 3 (by kernel_rfl) ?_
      refine WS.eff rfl (by decide) (Eff.call 217 rfl Try.func32 nm_32 rfl rfl rfl (fun w hb hh => r07_Valid w _ _ _)) ?_
      rintro _ _ ⟨_, ⟨rfl, rfl⟩, rfl⟩
      refine ⟨(Sub.cons rfl (Sub.cons rfl (Sub.cons rfl (Sub.cons rfl (Sub.cons rfl (Sub.cons rfl (Sub.nil _))))))), ?_⟩
      refine WD.take 4 rfl (by kernel_rfl) (by kernel_rfl) (by kernel_rfl) (by decide) (Yld.neqB und_4 rfl rfl) ?_
      refine WD.new (v' := .bool false) (congrArg Value.bool (by simp)) ?_
      refine WD.take 5 rfl (by kernel_rfl) (by kernel_rfl) (by kernel_rfl) (by decide) (Yld.move rfl) ?_
      refine WD.takeG 6 rfl (by kernel_rfl) (by kernel_rfl) (by kernel_rfl) (by decide) rfl (Yld.move rfl) ?_
      refine WD.takeG 7 rfl (by kernel_rfl) (by kernel_rfl) (by kernel_rfl) (by decide) rfl (Yld.move rfl) ?_
      refine WD.takeG 8 rfl (by kernel_rfl) (by kernel_rfl) (by kernel_rfl) (by decide) rfl (Yld.neq rfl rfl) ?_
      refine WD.new (v' := .bool false) (congrArg Value.bool (by simp)) ?_
      refine WD.take 9 rfl (by kernel_rfl) (by kernel_rfl) (by kernel_rfl) (by decide) (Yld.pickF rfl rfl) ?_
      refine WD.take 10 rfl (by kernel_rfl) (by kernel_rfl) (by kernel_rfl) (by decide) (Yld.move rfl) ?_
      refine WD.takeG 11 rfl (by kernel_rfl) (by kernel_rfl) (by kernel_rfl) (by decide) rfl (Yld.move rfl) ?_
      refine WD.takeG 12 rfl (by kernel_rfl) (by kernel_rfl) (by kernel_rfl) (by decide) rfl (Yld.move rfl) ?_
      refine WD.takeG 13 rfl (by kernel_rfl) (by kernel_rfl) (by kernel_rfl) (by decide) rfl (Yld.neq rfl rfl) ?_
      refine WD.new (v' := .bool false) (congrArg Value.bool (by simp)) ?_
      refine WD.take 14 rfl (by kernel_rfl) (by kernel_rfl) (by kernel_rfl) (by decide) (Yld.pickF rfl rfl) ?_
      refine WD.take 15 rfl (by kernel_rfl) (by kernel_rfl) (by kernel_rfl) (by decide) (Yld.move rfl) ?_
      refine WD.takeG 16 rfl (by kernel_rfl) (by kernel_rfl) (by kernel_rfl) (by decide) rfl (Yld.move rfl) ?_
      refine WD.takeG 17 rfl (by kernel_rfl) (by kernel_rfl) (by kernel_rfl) (by decide) rfl (Yld.b2s und_23 und_5 und_9 rfl (RdH.own (k := 170) rfl)) ?_
      refine WD.takeG 18 rfl (by kernel_rfl) (by kernel_rfl) (by kernel_rfl) (by decide) rfl (Yld.move rfl) ?_
      refine WD.takeG 19 rfl (by kernel_rfl) (by kernel_rfl) (by kernel_rfl) (by decide) rfl (Yld.b2s und_23 und_5 und_9 rfl (RdH.own (k := 179) rfl)) ?_
      refine WD.takeG 20 rfl (by kernel_rfl) (by kernel_rfl) (by kernel_rfl) (by decide) rfl (Yld.neqStr rfl rfl) ?_
      refine WD.new (v' := .bool false) (congrArg Value.bool (by simp)) ?_
      refine WD.take 21 rfl (by kernel_rfl) (by kernel_rfl) (by kernel_rfl) (by decide) (Yld.pickF rfl rfl) ?_
      refine WD.take 22 rfl (by kernel_rfl) (by kernel_rfl) (by kernel_rfl) (by decide) (Yld.move rfl) ?_
      refine WD.takeG 23 rfl (by kernel_rfl) (by kernel_rfl) (by kernel_rfl) (by decide) rfl (Yld.loadBM (k := 197) agg_37 rfl rfl (by first | rfl | (simp [*]; done))) ?_
      refine WD.takeG 24 rfl (by kernel_rfl) (by kernel_rfl) (by kernel_rfl) (by decide) rfl (Yld.loadBM (k := 207) agg_37 rfl rfl (by first | rfl | (simp [*]; done))) ?_
      refine WD.takeG 25 rfl (by kernel_rfl) (by kernel_rfl) (by kernel_rfl) (by decide) rfl (Yld.neqA (zeqs_37 _ _ _ _ _ _) rfl rfl) ?_
      refine WD.new (v' := .bool false) (congrArg Value.bool (by simp)) ?_
      refine WD.take 26 rfl (by kernel_rfl) (by kernel_rfl) (by kernel_rfl) (by decide) (Yld.pickF rfl rfl) ?_
      refine WD.done (by kernel_rfl) (hK47 _ _ ?_)
      refine WC.condF rfl ?_
      refine WC.skip ?_
      refine QK.blockN ?_
      refine QK.thenN (hK33 _ _ ?_)
      refine WC.region fun K50 hK50 => ?_
      refine WL.yld (by decide) (Yld.add rfl rfl (by omega)) ?_
      refine WL.yld (by decide) (Yld.move rfl) ?_
      refine WL.done (hK50 _ _ ?_)
      refine QK.thenN (hK8 (1 + 1) _ _ ?_ ?_ (Sub.cons rfl (Sub.cons rfl (Sub.cons rfl (Sub.nil _)))) (Sub.cons rfl (Sub.nil _)))
      · show _ ≤ 2; omega
      · show 2 - _ < 2 - _; omega
    · replace hc32 := of_decide_eq_false hc32
      exfalso; omega
  · skip
    refine WC.seqRegion fun K51 hK51 => ?_
    refine WL.yld (by decide) (Yld.lss rfl rfl) ?_
    refine WL.done (hK51 _ _ ?_)
    refine WC.seq fun K52 hK52 => ?_
    refine WC.cond rfl (fun hc53 => ?_) (fun hc53 => ?_)
    · replace hc53 := of_decide_eq_true hc53
      exfalso; omega
    · replace hc53 := of_decide_eq_false hc53
      refine WC.exit (QK.thenE (QK.thenE (QK.blockX ?_)))
      refine QK.thenN (hK3 _ _ ?_)
      refine WC.seqRegion fun K54 hK54 => ?_
      refine WL.eff (by decide) (Eff.call 226 rfl Try.func33 nm_33 rfl rfl rfl (fun w hb hh => law07_awake w)) ?_
      rintro _ _ ⟨_, ⟨rfl, rfl⟩, rfl⟩
      refine WL.yld (by decide) (Yld.assign rfl) ?_
      refine WL.done (hK54 _ _ ?_)
      refine WC.ret ?_
      exact Ret.fn [] (ResIs.one rfl rfl) rfl (by decide) rfl

end Go.Proofs.Ytibopglhgbbmpaa
