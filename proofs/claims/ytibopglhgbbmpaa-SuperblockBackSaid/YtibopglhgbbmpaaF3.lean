/-
  The walks of superblock and of its reference.
  Printed by a program of ours (gen.py, spec_sb.py) from the function's operations. Conditions: as each theorem says.
-/
import Derived.Test.YtibopglhgbbmpaaK10
import Derived.Test.YtibopglhgbbmpaaM5
import Derived.Test.YtibopglhgbbmpaaF2
namespace Go.Proofs.Ytibopglhgbbmpaa
open Go Go.RowKit
set_option linter.unusedVariables false

theorem und_2 : Try.prog.underlying 2 = some (.int .i64) := by kernel_rfl
theorem und_3 : Try.prog.underlying 3 = some (.int .i64) := by kernel_rfl
theorem und_66 : Try.prog.underlying 66 = some (.array 4 5) := by kernel_rfl
theorem agg_37 : Agg Try.prog 37 3 := ⟨⟨_, Try.underlying37, rfl⟩, by kernel_rfl⟩
theorem agg_66 : Agg Try.prog 66 4 := ⟨⟨_, Try.underlying66, rfl⟩, by kernel_rfl⟩
theorem built_37_ : Try.prog.built 37 [] = some ([(I64 0), (I64 0), (I64 0)] : List Value).toArray := by kernel_rfl
theorem built_37_0_1 : ∀ (a0 : Int) (a1 : Int), Try.prog.built 37 [(0, (I64 a0)), (1, (I64 a1))] = some ([(I64 a0), (I64 a1), (I64 0)] : List Value).toArray := fun a0 a1 => by kernel_rfl
theorem built_37_0_1_2 : ∀ (a0 : Int) (a1 : Int) (a2 : Int), Try.prog.built 37 [(0, (I64 a0)), (1, (I64 a1)), (2, (I64 a2))] = some ([(I64 a0), (I64 a1), (I64 a2)] : List Value).toArray := fun a0 a1 a2 => by kernel_rfl
theorem built_66_0_1_2_3 : ∀ (a0 : BitVec 8) (a1 : BitVec 8) (a2 : BitVec 8) (a3 : BitVec 8), Try.prog.built 66 [(0, (U8 a0)), (1, (U8 a1)), (2, (U8 a2)), (3, (U8 a3))] = some (([a0, a1, a2, a3].map U8) : List Value).toArray := fun a0 a1 a2 a3 => by kernel_rfl
theorem eqg_66 : Try.prog.eqGuardType Try.prog.depth 66 = false := by kernel_rfl
theorem nm_27 : (Try.f27.name == "runtime.NumGoroutine") = false := by kernel_rfl
theorem nm_29 : (Try.f29.name == "runtime.NumGoroutine") = false := by kernel_rfl
theorem nm_31 : (Try.f31.name == "runtime.NumGoroutine") = false := by kernel_rfl
theorem nm_32 : (Try.f32.name == "runtime.NumGoroutine") = false := by kernel_rfl
theorem nm_47 : (Try.f47.name == "runtime.NumGoroutine") = false := by kernel_rfl
theorem nm_48 : (Try.f48.name == "runtime.NumGoroutine") = false := by kernel_rfl
theorem nm_54 : (Try.f54.name == "runtime.NumGoroutine") = false := by kernel_rfl
theorem nz_2 : (Try.prog.info? 2).map (fun i => decide (i.size = 0)) = some false := by kernel_rfl
theorem nz_3 : (Try.prog.info? 3).map (fun i => decide (i.size = 0)) = some false := by kernel_rfl
theorem scal_2 : scal Try.prog 2 = true := by kernel_rfl
theorem scal_3 : scal Try.prog 3 = true := by kernel_rfl
theorem siz_2 : (Try.prog.info? 2).map (·.size) = some 1 := by kernel_rfl
theorem siz_5 : (Try.prog.info? 5).map (·.size) = some 1 := by kernel_rfl
theorem some_2 : (Try.prog.underlying 2).isSome = true := by kernel_rfl
theorem zeqs_37 : ∀ (a0 b0 : Int) (a1 b1 : Int) (a2 b2 : Int), EqA Try.prog 37 [Value.int .i64 a0, Value.int .i64 a1, Value.int .i64 a2] [Value.int .i64 b0, Value.int .i64 b1, Value.int .i64 b2] ((a0 == b0) && ((a1 == b1) && ((a2 == b2) && true))) := fun a0 b0 a1 b1 a2 b2 => EqA.struct (by kernel_rfl) (by kernel_rfl) (by kernel_rfl) (show (Try.prog.fieldsOf 37).toList = _ by simp only [Program.fieldsOf, Try.underlying37]; rfl) (EqF.cons (by decide) scal_3 rfl rfl (EqV.int und_3) (EqF.cons (by decide) scal_3 rfl rfl (EqV.int und_3) (EqF.cons (by decide) scal_2 rfl rfl (EqV.int und_2) EqF.nil)))
theorem zer_37 : (Try.prog.info? 37).map (fun i => i.zero.map (·.cells)) = some (some ([(I64 0), (I64 0), (I64 0)] : List Value).toArray) := by kernel_rfl
theorem zer_66 : (Try.prog.info? 66).map (fun i => i.zero.map (·.cells)) = some (some (((List.replicate 4 0#8).map U8) : List Value).toArray) := by kernel_rfl

set_option maxRecDepth 10000 in
theorem sb_Valid (w : World) (a b c : Int) :
    Fn Try.prog 31 #[.agg #[I64 a, I64 b, I64 c]] w fun r es => r = .bool (sv a b c) ∧ es = [] := by
  refine Fn.intro (N := 31) Try.func31 rfl rfl (Nat.le_of_ble_eq_true rfl) ?_
  refine WC.seqRegion fun K1 hK1 => ?_
  refine WL.eff (by decide) (Eff.box 101 (us := [I64 a, I64 b, I64 c]) rfl rfl rfl) ?_
  rintro _ _ ⟨g101, rfl, rfl⟩
  refine WL.yld (by decide) (Yld.assign rfl) ?_
  refine WL.done (hK1 _ _ ?_)
  refine WC.seqRegion fun K3 hK3 => ?_
  refine WL.yld (by decide) (Yld.fieldAddr Try.underlying37 rfl nz_3 rfl rfl) ?_
  refine WL.yld (by decide) (Yld.loadB (k := 101) scal_3 rfl rfl rfl) ?_
  refine WL.yld (by decide) (Yld.geq rfl rfl) ?_
  refine WL.yld (by decide) (Yld.move rfl) ?_
  refine WL.bool (fun hb4 => ?_) (fun hb4 => ?_)
  · replace hb4 := of_decide_eq_true hb4
    refine WL.yldG (by decide) rfl (Yld.fieldAddr Try.underlying37 rfl nz_3 rfl rfl) ?_
    refine WL.yldG (by decide) rfl (Yld.loadB (k := 101) scal_3 rfl rfl rfl) ?_
    refine WL.yldG (by decide) rfl (Yld.lss rfl rfl) ?_
    refine WL.yld (by decide) (Yld.pickT rfl rfl) ?_
    refine WL.yld (by decide) (Yld.move rfl) ?_
    refine WL.bool (fun hb5 => ?_) (fun hb5 => ?_)
    · replace hb5 := of_decide_eq_true hb5
      refine WL.yldG (by decide) rfl (Yld.fieldAddr Try.underlying37 rfl nz_3 rfl rfl) ?_
      refine WL.yldG (by decide) rfl (Yld.loadB (k := 101) scal_3 rfl rfl rfl) ?_
      refine WL.yldG (by decide) rfl (Yld.geq rfl rfl) ?_
      refine WL.yld (by decide) (Yld.pickT rfl rfl) ?_
      refine WL.yld (by decide) (Yld.move rfl) ?_
      refine WL.bool (fun hb6 => ?_) (fun hb6 => ?_)
      · replace hb6 := of_decide_eq_true hb6
        refine WL.yldG (by decide) rfl (Yld.fieldAddr Try.underlying37 rfl nz_3 rfl rfl) ?_
        refine WL.yldG (by decide) rfl (Yld.loadB (k := 101) scal_3 rfl rfl rfl) ?_
        refine WL.yldG (by decide) rfl (Yld.leq rfl rfl) ?_
        refine WL.yld (by decide) (Yld.pickT rfl rfl) ?_
        refine WL.yld (by decide) (Yld.move rfl) ?_
        refine WL.bool (fun hb7 => ?_) (fun hb7 => ?_)
        · replace hb7 := of_decide_eq_true hb7
          refine WL.yldG (by decide) rfl (Yld.fieldAddr Try.underlying37 rfl nz_2 rfl rfl) ?_
          refine WL.yldG (by decide) rfl (Yld.loadB (k := 101) scal_2 rfl rfl rfl) ?_
          refine WL.yldG (by decide) rfl (Yld.geq rfl rfl) ?_
          refine WL.yld (by decide) (Yld.pickT rfl rfl) ?_
          refine WL.yld (by decide) (Yld.move rfl) ?_
          refine WL.bool (fun hb8 => ?_) (fun hb8 => ?_)
          · replace hb8 := of_decide_eq_true hb8
            refine WL.yldG (by decide) rfl (Yld.fieldAddr Try.underlying37 rfl nz_2 rfl rfl) ?_
            refine WL.yldG (by decide) rfl (Yld.loadB (k := 101) scal_2 rfl rfl rfl) ?_
            refine WL.yldG (by decide) rfl (Yld.leq rfl rfl) ?_
            refine WL.yld (by decide) (Yld.pickT rfl rfl) ?_
            refine WL.yld (by decide) (Yld.assign rfl) ?_
            refine WL.done (hK3 _ _ ?_)
            refine WC.ret ?_
            exact Ret.fn [] (ResIs.one rfl rfl) rfl (by decide) ⟨congrArg Value.bool (by first | exact (sv_not.2 (by omega)).symm | (rw [Bool.eq_iff_iff, sv_iff, decide_eq_true_eq]; omega)), rfl⟩
          · replace hb8 := of_decide_eq_false hb8
            refine WL.skip (by decide) rfl rfl ?_
            refine WL.skip (by decide) rfl rfl ?_
            refine WL.skip (by decide) rfl rfl ?_
            refine WL.yld (by decide) (Yld.pickF rfl rfl) ?_
            refine WL.yld (by decide) (Yld.assign rfl) ?_
            refine WL.done (hK3 _ _ ?_)
            refine WC.ret ?_
            exact Ret.fn [] (ResIs.one rfl rfl) rfl (by decide) ⟨congrArg Value.bool (by first | exact (sv_not.2 (by omega)).symm | (rw [Bool.eq_iff_iff, sv_iff, decide_eq_true_eq]; omega)), rfl⟩
        · replace hb7 := of_decide_eq_false hb7
          refine WL.skip (by decide) rfl rfl ?_
          refine WL.skip (by decide) rfl rfl ?_
          refine WL.skip (by decide) rfl rfl ?_
          refine WL.yld (by decide) (Yld.pickF rfl rfl) ?_
          refine WL.yld (by decide) (Yld.move rfl) ?_
          refine WL.skip (by decide) rfl rfl ?_
          refine WL.skip (by decide) rfl rfl ?_
          refine WL.skip (by decide) rfl rfl ?_
          refine WL.yld (by decide) (Yld.pickF rfl rfl) ?_
          refine WL.yld (by decide) (Yld.assign rfl) ?_
          refine WL.done (hK3 _ _ ?_)
          refine WC.ret ?_
          exact Ret.fn [] (ResIs.one rfl rfl) rfl (by decide) ⟨congrArg Value.bool (by first | exact (sv_not.2 (by omega)).symm | (rw [Bool.eq_iff_iff, sv_iff, decide_eq_true_eq]; omega)), rfl⟩
      · replace hb6 := of_decide_eq_false hb6
        refine WL.skip (by decide) rfl rfl ?_
        refine WL.skip (by decide) rfl rfl ?_
        refine WL.skip (by decide) rfl rfl ?_
        refine WL.yld (by decide) (Yld.pickF rfl rfl) ?_
        refine WL.yld (by decide) (Yld.move rfl) ?_
        refine WL.skip (by decide) rfl rfl ?_
        refine WL.skip (by decide) rfl rfl ?_
        refine WL.skip (by decide) rfl rfl ?_
        refine WL.yld (by decide) (Yld.pickF rfl rfl) ?_
        refine WL.yld (by decide) (Yld.move rfl) ?_
        refine WL.skip (by decide) rfl rfl ?_
        refine WL.skip (by decide) rfl rfl ?_
        refine WL.skip (by decide) rfl rfl ?_
        refine WL.yld (by decide) (Yld.pickF rfl rfl) ?_
        refine WL.yld (by decide) (Yld.assign rfl) ?_
        refine WL.done (hK3 _ _ ?_)
        refine WC.ret ?_
        exact Ret.fn [] (ResIs.one rfl rfl) rfl (by decide) ⟨congrArg Value.bool (by first | exact (sv_not.2 (by omega)).symm | (rw [Bool.eq_iff_iff, sv_iff, decide_eq_true_eq]; omega)), rfl⟩
    · replace hb5 := of_decide_eq_false hb5
      refine WL.skip (by decide) rfl rfl ?_
      refine WL.skip (by decide) rfl rfl ?_
      refine WL.skip (by decide) rfl rfl ?_
      refine WL.yld (by decide) (Yld.pickF rfl rfl) ?_
      refine WL.yld (by decide) (Yld.move rfl) ?_
      refine WL.skip (by decide) rfl rfl ?_
      refine WL.skip (by decide) rfl rfl ?_
      refine WL.skip (by decide) rfl rfl ?_
      refine WL.yld (by decide) (Yld.pickF rfl rfl) ?_
      refine WL.yld (by decide) (Yld.move rfl) ?_
      refine WL.skip (by decide) rfl rfl ?_
      refine WL.skip (by decide) rfl rfl ?_
      refine WL.skip (by decide) rfl rfl ?_
      refine WL.yld (by decide) (Yld.pickF rfl rfl) ?_
      refine WL.yld (by decide) (Yld.move rfl) ?_
      refine WL.skip (by decide) rfl rfl ?_
      refine WL.skip (by decide) rfl rfl ?_
      refine WL.skip (by decide) rfl rfl ?_
      refine WL.yld (by decide) (Yld.pickF rfl rfl) ?_
      refine WL.yld (by decide) (Yld.assign rfl) ?_
      refine WL.done (hK3 _ _ ?_)
      refine WC.ret ?_
      exact Ret.fn [] (ResIs.one rfl rfl) rfl (by decide) ⟨congrArg Value.bool (by first | exact (sv_not.2 (by omega)).symm | (rw [Bool.eq_iff_iff, sv_iff, decide_eq_true_eq]; omega)), rfl⟩
  · replace hb4 := of_decide_eq_false hb4
    refine WL.skip (by decide) rfl rfl ?_
    refine WL.skip (by decide) rfl rfl ?_
    refine WL.skip (by decide) rfl rfl ?_
    refine WL.yld (by decide) (Yld.pickF rfl rfl) ?_
    refine WL.yld (by decide) (Yld.move rfl) ?_
    refine WL.skip (by decide) rfl rfl ?_
    refine WL.skip (by decide) rfl rfl ?_
    refine WL.skip (by decide) rfl rfl ?_
    refine WL.yld (by decide) (Yld.pickF rfl rfl) ?_
    refine WL.yld (by decide) (Yld.move rfl) ?_
    refine WL.skip (by decide) rfl rfl ?_
    refine WL.skip (by decide) rfl rfl ?_
    refine WL.skip (by decide) rfl rfl ?_
    refine WL.yld (by decide) (Yld.pickF rfl rfl) ?_
    refine WL.yld (by decide) (Yld.move rfl) ?_
    refine WL.skip (by decide) rfl rfl ?_
    refine WL.skip (by decide) rfl rfl ?_
    refine WL.skip (by decide) rfl rfl ?_
    refine WL.yld (by decide) (Yld.pickF rfl rfl) ?_
    refine WL.yld (by decide) (Yld.move rfl) ?_
    refine WL.skip (by decide) rfl rfl ?_
    refine WL.skip (by decide) rfl rfl ?_
    refine WL.skip (by decide) rfl rfl ?_
    refine WL.yld (by decide) (Yld.pickF rfl rfl) ?_
    refine WL.yld (by decide) (Yld.assign rfl) ?_
    refine WL.done (hK3 _ _ ?_)
    refine WC.ret ?_
    exact Ret.fn [] (ResIs.one rfl rfl) rfl (by decide) ⟨congrArg Value.bool (by first | exact (sv_not.2 (by omega)).symm | (rw [Bool.eq_iff_iff, sv_iff, decide_eq_true_eq]; omega)), rfl⟩

set_option maxRecDepth 10000 in
theorem r07_Valid (w : World) (a b c : Int) :
    Fn Try.prog 32 #[.agg #[I64 a, I64 b, I64 c]] w fun r es => r = .bool (sv a b c) ∧ es = [] := by
  refine Fn.intro (N := 31) Try.func32 rfl rfl (Nat.le_of_ble_eq_true rfl) ?_
  refine WC.seqRegion fun K1 hK1 => ?_
  refine WL.eff (by decide) (Eff.box 101 (us := [I64 a, I64 b, I64 c]) rfl rfl rfl) ?_
  rintro _ _ ⟨g101, rfl, rfl⟩
  refine WL.yld (by decide) (Yld.assign rfl) ?_
  refine WL.done (hK1 _ _ ?_)
  refine WC.seqRegion fun K3 hK3 => ?_
  refine WL.yld (by decide) (Yld.fieldAddr Try.underlying37 rfl nz_3 rfl rfl) ?_
  refine WL.yld (by decide) (Yld.loadB (k := 101) scal_3 rfl rfl rfl) ?_
  refine WL.yld (by decide) (Yld.geq rfl rfl) ?_
  refine WL.yld (by decide) (Yld.move rfl) ?_
  refine WL.bool (fun hb4 => ?_) (fun hb4 => ?_)
  · replace hb4 := of_decide_eq_true hb4
    refine WL.yldG (by decide) rfl (Yld.fieldAddr Try.underlying37 rfl nz_3 rfl rfl) ?_
    refine WL.yldG (by decide) rfl (Yld.loadB (k := 101) scal_3 rfl rfl rfl) ?_
    refine WL.yldG (by decide) rfl (Yld.lss rfl rfl) ?_
    refine WL.yld (by decide) (Yld.pickT rfl rfl) ?_
    refine WL.yld (by decide) (Yld.move rfl) ?_
    refine WL.bool (fun hb5 => ?_) (fun hb5 => ?_)
    · replace hb5 := of_decide_eq_true hb5
      refine WL.yldG (by decide) rfl (Yld.fieldAddr Try.underlying37 rfl nz_3 rfl rfl) ?_
      refine WL.yldG (by decide) rfl (Yld.loadB (k := 101) scal_3 rfl rfl rfl) ?_
      refine WL.yldG (by decide) rfl (Yld.geq rfl rfl) ?_
      refine WL.yld (by decide) (Yld.pickT rfl rfl) ?_
      refine WL.yld (by decide) (Yld.move rfl) ?_
      refine WL.bool (fun hb6 => ?_) (fun hb6 => ?_)
      · replace hb6 := of_decide_eq_true hb6
        refine WL.yldG (by decide) rfl (Yld.fieldAddr Try.underlying37 rfl nz_3 rfl rfl) ?_
        refine WL.yldG (by decide) rfl (Yld.loadB (k := 101) scal_3 rfl rfl rfl) ?_
        refine WL.yldG (by decide) rfl (Yld.leq rfl rfl) ?_
        refine WL.yld (by decide) (Yld.pickT rfl rfl) ?_
        refine WL.yld (by decide) (Yld.move rfl) ?_
        refine WL.bool (fun hb7 => ?_) (fun hb7 => ?_)
        · replace hb7 := of_decide_eq_true hb7
          refine WL.yldG (by decide) rfl (Yld.fieldAddr Try.underlying37 rfl nz_2 rfl rfl) ?_
          refine WL.yldG (by decide) rfl (Yld.loadB (k := 101) scal_2 rfl rfl rfl) ?_
          refine WL.yldG (by decide) rfl (Yld.geq rfl rfl) ?_
          refine WL.yld (by decide) (Yld.pickT rfl rfl) ?_
          refine WL.yld (by decide) (Yld.move rfl) ?_
          refine WL.bool (fun hb8 => ?_) (fun hb8 => ?_)
          · replace hb8 := of_decide_eq_true hb8
            refine WL.yldG (by decide) rfl (Yld.fieldAddr Try.underlying37 rfl nz_2 rfl rfl) ?_
            refine WL.yldG (by decide) rfl (Yld.loadB (k := 101) scal_2 rfl rfl rfl) ?_
            refine WL.yldG (by decide) rfl (Yld.lss rfl rfl) ?_
            refine WL.yld (by decide) (Yld.pickT rfl rfl) ?_
            refine WL.yld (by decide) (Yld.assign rfl) ?_
            refine WL.done (hK3 _ _ ?_)
            refine WC.ret ?_
            exact Ret.fn [] (ResIs.one rfl rfl) rfl (by decide) ⟨congrArg Value.bool (by first | exact (sv_not.2 (by omega)).symm | (rw [Bool.eq_iff_iff, sv_iff, decide_eq_true_eq]; omega)), rfl⟩
          · replace hb8 := of_decide_eq_false hb8
            refine WL.skip (by decide) rfl rfl ?_
            refine WL.skip (by decide) rfl rfl ?_
            refine WL.skip (by decide) rfl rfl ?_
            refine WL.yld (by decide) (Yld.pickF rfl rfl) ?_
            refine WL.yld (by decide) (Yld.assign rfl) ?_
            refine WL.done (hK3 _ _ ?_)
            refine WC.ret ?_
            exact Ret.fn [] (ResIs.one rfl rfl) rfl (by decide) ⟨congrArg Value.bool (by first | exact (sv_not.2 (by omega)).symm | (rw [Bool.eq_iff_iff, sv_iff, decide_eq_true_eq]; omega)), rfl⟩
        · replace hb7 := of_decide_eq_false hb7
          refine WL.skip (by decide) rfl rfl ?_
          refine WL.skip (by decide) rfl rfl ?_
          refine WL.skip (by decide) rfl rfl ?_
          refine WL.yld (by decide) (Yld.pickF rfl rfl) ?_
          refine WL.yld (by decide) (Yld.move rfl) ?_
          refine WL.skip (by decide) rfl rfl ?_
          refine WL.skip (by decide) rfl rfl ?_
          refine WL.skip (by decide) rfl rfl ?_
          refine WL.yld (by decide) (Yld.pickF rfl rfl) ?_
          refine WL.yld (by decide) (Yld.assign rfl) ?_
          refine WL.done (hK3 _ _ ?_)
          refine WC.ret ?_
          exact Ret.fn [] (ResIs.one rfl rfl) rfl (by decide) ⟨congrArg Value.bool (by first | exact (sv_not.2 (by omega)).symm | (rw [Bool.eq_iff_iff, sv_iff, decide_eq_true_eq]; omega)), rfl⟩
      · replace hb6 := of_decide_eq_false hb6
        refine WL.skip (by decide) rfl rfl ?_
        refine WL.skip (by decide) rfl rfl ?_
        refine WL.skip (by decide) rfl rfl ?_
        refine WL.yld (by decide) (Yld.pickF rfl rfl) ?_
        refine WL.yld (by decide) (Yld.move rfl) ?_
        refine WL.skip (by decide) rfl rfl ?_
        refine WL.skip (by decide) rfl rfl ?_
        refine WL.skip (by decide) rfl rfl ?_
        refine WL.yld (by decide) (Yld.pickF rfl rfl) ?_
        refine WL.yld (by decide) (Yld.move rfl) ?_
        refine WL.skip (by decide) rfl rfl ?_
        refine WL.skip (by decide) rfl rfl ?_
        refine WL.skip (by decide) rfl rfl ?_
        refine WL.yld (by decide) (Yld.pickF rfl rfl) ?_
        refine WL.yld (by decide) (Yld.assign rfl) ?_
        refine WL.done (hK3 _ _ ?_)
        refine WC.ret ?_
        exact Ret.fn [] (ResIs.one rfl rfl) rfl (by decide) ⟨congrArg Value.bool (by first | exact (sv_not.2 (by omega)).symm | (rw [Bool.eq_iff_iff, sv_iff, decide_eq_true_eq]; omega)), rfl⟩
    · replace hb5 := of_decide_eq_false hb5
      refine WL.skip (by decide) rfl rfl ?_
      refine WL.skip (by decide) rfl rfl ?_
      refine WL.skip (by decide) rfl rfl ?_
      refine WL.yld (by decide) (Yld.pickF rfl rfl) ?_
      refine WL.yld (by decide) (Yld.move rfl) ?_
      refine WL.skip (by decide) rfl rfl ?_
      refine WL.skip (by decide) rfl rfl ?_
      refine WL.skip (by decide) rfl rfl ?_
      refine WL.yld (by decide) (Yld.pickF rfl rfl) ?_
      refine WL.yld (by decide) (Yld.move rfl) ?_
      refine WL.skip (by decide) rfl rfl ?_
      refine WL.skip (by decide) rfl rfl ?_
      refine WL.skip (by decide) rfl rfl ?_
      refine WL.yld (by decide) (Yld.pickF rfl rfl) ?_
      refine WL.yld (by decide) (Yld.move rfl) ?_
      refine WL.skip (by decide) rfl rfl ?_
      refine WL.skip (by decide) rfl rfl ?_
      refine WL.skip (by decide) rfl rfl ?_
      refine WL.yld (by decide) (Yld.pickF rfl rfl) ?_
      refine WL.yld (by decide) (Yld.assign rfl) ?_
      refine WL.done (hK3 _ _ ?_)
      refine WC.ret ?_
      exact Ret.fn [] (ResIs.one rfl rfl) rfl (by decide) ⟨congrArg Value.bool (by first | exact (sv_not.2 (by omega)).symm | (rw [Bool.eq_iff_iff, sv_iff, decide_eq_true_eq]; omega)), rfl⟩
  · replace hb4 := of_decide_eq_false hb4
    refine WL.skip (by decide) rfl rfl ?_
    refine WL.skip (by decide) rfl rfl ?_
    refine WL.skip (by decide) rfl rfl ?_
    refine WL.yld (by decide) (Yld.pickF rfl rfl) ?_
    refine WL.yld (by decide) (Yld.move rfl) ?_
    refine WL.skip (by decide) rfl rfl ?_
    refine WL.skip (by decide) rfl rfl ?_
    refine WL.skip (by decide) rfl rfl ?_
    refine WL.yld (by decide) (Yld.pickF rfl rfl) ?_
    refine WL.yld (by decide) (Yld.move rfl) ?_
    refine WL.skip (by decide) rfl rfl ?_
    refine WL.skip (by decide) rfl rfl ?_
    refine WL.skip (by decide) rfl rfl ?_
    refine WL.yld (by decide) (Yld.pickF rfl rfl) ?_
    refine WL.yld (by decide) (Yld.move rfl) ?_
    refine WL.skip (by decide) rfl rfl ?_
    refine WL.skip (by decide) rfl rfl ?_
    refine WL.skip (by decide) rfl rfl ?_
    refine WL.yld (by decide) (Yld.pickF rfl rfl) ?_
    refine WL.yld (by decide) (Yld.move rfl) ?_
    refine WL.skip (by decide) rfl rfl ?_
    refine WL.skip (by decide) rfl rfl ?_
    refine WL.skip (by decide) rfl rfl ?_
    refine WL.yld (by decide) (Yld.pickF rfl rfl) ?_
    refine WL.yld (by decide) (Yld.assign rfl) ?_
    refine WL.done (hK3 _ _ ?_)
    refine WC.ret ?_
    exact Ret.fn [] (ResIs.one rfl rfl) rfl (by decide) ⟨congrArg Value.bool (by first | exact (sv_not.2 (by omega)).symm | (rw [Bool.eq_iff_iff, sv_iff, decide_eq_true_eq]; omega)), rfl⟩

set_option maxRecDepth 10000 in
theorem law07_near (w : World) (a b c : Int) (ha : -9223372036854775808 ≤ a ∧ a ≤ 9223372036854775807) (hb : -9223372036854775808 ≤ b ∧ b ≤ 9223372036854775807) (hc : -9223372036854775808 ≤ c ∧ c ≤ 9223372036854775807) :
    Fn Try.prog 26 #[.agg #[I64 a, I64 b, I64 c]] w fun r es => r = .agg #[I64 (a % 4), I64 (1 + b % 8), I64 (c % 4294967296)] ∧ es = [] := by
  refine Fn.intro (N := 14) Try.func26 rfl rfl (Nat.le_of_ble_eq_true rfl) ?_
  refine WC.seqRegion fun K1 hK1 => ?_
  refine WL.eff (by decide) (Eff.box 101 (us := [I64 a, I64 b, I64 c]) rfl rfl rfl) ?_
  rintro _ _ ⟨g101, rfl, rfl⟩
  refine WL.eff (by decide) (Eff.alloc 102 rfl zer_37) ?_
  rintro _ _ ⟨g102, rfl, rfl⟩
  refine WL.done (hK1 _ _ ?_)
  refine WC.seqRegion fun K4 hK4 => ?_
  refine WL.yld (by decide) (Yld.fieldAddr Try.underlying37 rfl nz_3 rfl rfl) ?_
  refine WL.yld (by decide) (Yld.loadB (k := 101) scal_3 rfl rfl rfl) ?_
  refine WL.yld (by decide) (Yld.mask_i64 2 rfl rfl (by decide) (by decide)) ?_
  refine WL.new (v' := I64 (a % 4)) (congrArg I64 (by omega)) ?_
  refine WL.yld (by decide) (Yld.fieldAddr Try.underlying37 rfl nz_3 rfl rfl) ?_
  refine WL.yld (by decide) (Yld.loadB (k := 101) scal_3 rfl rfl rfl) ?_
  refine WL.yld (by decide) (Yld.mask_i64 3 rfl rfl (by decide) (by decide)) ?_
  refine WL.new (v' := I64 (b % 8)) (congrArg I64 (by omega)) ?_
  refine WL.yld (by decide) (Yld.add rfl rfl (by omega)) ?_
  refine WL.yld (by decide) (Yld.fieldAddr Try.underlying37 rfl nz_2 rfl rfl) ?_
  refine WL.yld (by decide) (Yld.loadB (k := 101) scal_2 rfl rfl rfl) ?_
  refine WL.yld (by decide) (Yld.mask_i64 32 rfl rfl (by decide) (by decide)) ?_
  refine WL.new (v' := I64 (c % 4294967296)) (congrArg I64 (by omega)) ?_
  refine WL.yld (by decide) (Yld.build rfl (built_37_0_1_2 _ _ _)) ?_
  refine WL.eff0 (Eff0.storeBAM 102 agg_37 rfl rfl rfl (by first | exact ⟨rfl, rfl⟩ | (constructor <;> simp [*])) (by first | rfl | exact all_one _)) ?_
  refine WL.done (hK4 _ _ ?_)
  refine WC.ret ?_
  exact Ret.fn [] (ResIs.cellM (k := 102) rfl agg_37 rfl rfl rfl) rfl (by decide) ⟨rfl, rfl⟩

set_option maxRecDepth 10000 in
theorem sb_big (w : World) (v : Int) (n : Nat) (hv : 0 ≤ v ∧ v ≤ 9223372036854775807) (hn : n ≤ 8) :
    Fn Try.prog 47 #[I64 v, I64 (n : Nat)] w fun r es => ∃ A c, r = .slice A n c ∧ es = [.own 5 1 A n c ((be n (BitVec.ofInt 64 v)).map U8)] := by
  refine Fn.intro (N := 27) Try.func47 rfl rfl (Nat.le_of_ble_eq_true rfl) ?_
  refine WC.seqRegion fun K1 hK1 => ?_
  refine WL.yld (by decide) (Yld.assign rfl) ?_
  refine WL.done (hK1 _ _ ?_)
  refine WC.seqRegion fun K2 hK2 => ?_
  refine WL.yld (by decide) (Yld.move rfl) ?_
  refine WL.eff (by decide) (Eff.makeM U8 101 0#8 sty_23 rfl rfl rfl rfl (by omega)) ?_
  rintro _ _ ⟨g101, rfl, rfl⟩
  refine WL.yld (by decide) (Yld.assign rfl) ?_
  refine WL.done (hK2 _ _ ?_)
  refine WC.seq fun K4 hK4 => ?_
  refine WC.seqRegion fun K5 hK5 => ?_
  refine WL.yld (by decide) (Yld.move rfl) ?_
  refine WL.yld (by decide) (Yld.len und_23 rfl) ?_
  refine WL.yld (by decide) (Yld.move rfl) ?_
  refine WL.done (hK5 _ _ ?_)
  refine WC.block ?_
  refine WC.loop (σ := Nat × List (BitVec 8)) (fun ⟨k, os⟩ => [(0, I64 v), (1, I64 (n : Nat)), (5, .slice (some ⟨g101, 0, none⟩) n n), (10, I64 (n : Nat)), (11, I64 (k : Nat))]) (fun ⟨k, os⟩ => [(101, .own 5 1 (some ⟨g101, 0, none⟩) n n (os.map U8))]) (fun ⟨k, os⟩ => k ≤ n ∧ os.length = n ∧ os.drop (n - k) = (be n (BitVec.ofInt 64 v)).drop (n - k)) (fun ⟨k, os⟩ => n - k) (0, _) ?_ (Sub.cons rfl (Sub.cons rfl (Sub.cons rfl (Sub.cons rfl (Sub.cons rfl (Sub.nil _)))))) (Sub.cons rfl (Sub.nil _)) ?_
  · exact ⟨by omega, by simp, by rw [List.drop_of_length_le (by simp), List.drop_of_length_le (by rw [be_length]; omega)]⟩
  rintro ⟨k, os⟩ ⟨hk, ho, ht⟩ K6 hK6
  refine WC.seqRegion fun K7 hK7 => ?_
  refine WL.yld (by decide) (Yld.lss rfl rfl) ?_
  refine WL.done (hK7 _ _ ?_)
  refine WC.seq fun K8 hK8 => ?_
  refine WC.cond rfl (fun hc9 => ?_) (fun hc9 => ?_)
  · replace hc9 := of_decide_eq_true hc9
    refine WC.skip ?_
    refine QK.thenN (hK8 _ _ ?_)
    refine WC.seq fun K10 hK10 => ?_
    refine WC.block ?_
    refine WC.seqRegion fun K11 hK11 => ?_
    refine WL.yld (by decide) (Yld.move rfl) ?_
    refine WL.yld (by decide) (Yld.assign rfl) ?_
    refine WL.done (hK11 _ _ ?_)
    refine WC.region fun K12 hK12 => ?_
    refine WL.yld (by decide) (Yld.move rfl) ?_
    refine WL.yld (by decide) (Yld.move rfl) ?_
    refine WL.yld (by decide) (Yld.sub rfl rfl (by omega)) ?_
    refine WL.yld (by decide) (Yld.move rfl) ?_
    refine WL.yld (by decide) (Yld.sub rfl rfl (by omega)) ?_
    refine WL.new (v' := I64 ((n - 1 - k : Nat) : Int)) (congrArg I64 (by omega)) ?_
    refine WL.yld (by decide) (Yld.move rfl) ?_
    refine WL.yld (by decide) (Yld.move rfl) ?_
    refine WL.yld (by decide) (Yld.mul rfl rfl (by omega)) ?_
    refine WL.yld (by decide) (Yld.shr_i64 rfl rfl (by omega) (by omega)) ?_
    refine WL.yld (by decide) (Yld.conv_i64_u8 some_2 und_5 rfl) ?_
    refine WL.new (v' := U8 ((be n (BitVec.ofInt 64 v)).getD (n - 1 - k) 0)) (congrArg U8 (by rw [be_getD _ _ _ (by omega), ofInt_byte _ _ hv, show ((8 : Int) * (k : Nat)).toNat = 8 * (n - 1 - (n - 1 - k)) by omega])) ?_
    refine WL.yld (by decide) (Yld.idxAddr1 sty_23 rfl rfl (RdH.own (k := 101) rfl) (by omega)) ?_
    refine WL.eff0 (Eff0.storeOM U8 101 siz_5 rfl rfl rfl (by first | omega | (simp; omega))) ?_
    refine WL.done (hK12 _ _ ?_)
    refine QK.blockN ?_
    refine QK.thenN (hK10 _ _ ?_)
    refine WC.region fun K13 hK13 => ?_
    refine WL.yld (by decide) (Yld.add rfl rfl (by omega)) ?_
    refine WL.yld (by decide) (Yld.move rfl) ?_
    refine WL.done (hK13 _ _ ?_)
    refine QK.thenN (hK6 (k + 1, _) _ _ ?_ ?_ (Sub.cons rfl (Sub.cons rfl (Sub.cons rfl (Sub.cons rfl (Sub.cons rfl (Sub.nil _)))))) (Sub.cons rfl (Sub.nil _)))
    · exact ⟨by omega, by simp [ho], by rw [show n - (k + 1) = n - 1 - k by omega]; exact drop_set_tgt (be n (BitVec.ofInt 64 v)) os (n - 1 - k) 0 (by rw [be_length]; omega) (by omega) (by rw [show n - 1 - k + 1 = n - k by omega]; exact ht)⟩
    · dsimp only; omega
  · replace hc9 := of_decide_eq_false hc9
    obtain rfl : k = n := by omega
    refine WC.exit (QK.thenE (QK.thenE (QK.blockX ?_)))
    refine QK.thenN (hK4 _ _ ?_)
    refine WC.seqRegion fun K14 hK14 => ?_
    refine WL.yld (by decide) (Yld.move rfl) ?_
    refine WL.yld (by decide) (Yld.assign rfl) ?_
    refine WL.done (hK14 _ _ ?_)
    refine WC.ret ?_
    exact Ret.fn [101] (ResIs.one rfl rfl) rfl (by decide) ⟨_, _, rfl, by rw [show os = be k (BitVec.ofInt 64 v) by simpa using ht]⟩

set_option maxRecDepth 10000 in
theorem sb_little (w : World) (s : BitVec 32) :
    Fn Try.prog 48 #[U32 s] w fun r es => r = .agg ((le4 s).map U8).toArray ∧ es = [] := by
  refine Fn.intro (N := 15) Try.func48 rfl rfl (Nat.le_of_ble_eq_true rfl) ?_
  refine WC.seqRegion fun K1 hK1 => ?_
  refine WL.eff (by decide) (Eff.alloc 101 rfl zer_66) ?_
  rintro _ _ ⟨g101, rfl, rfl⟩
  refine WL.done (hK1 _ _ ?_)
  refine WC.seqRegion fun K3 hK3 => ?_
  refine WL.yld (by decide) (Yld.move rfl) ?_
  refine WL.yld (by decide) (Yld.conv_u32_u8 some_33 und_5 rfl) ?_
  refine WL.yld (by decide) (Yld.move rfl) ?_
  refine WL.yld (by decide) (Yld.shr_u32 rfl rfl (by omega)) ?_
  refine WL.yld (by decide) (Yld.conv_u32_u8 some_33 und_5 rfl) ?_
  refine WL.yld (by decide) (Yld.move rfl) ?_
  refine WL.yld (by decide) (Yld.shr_u32 rfl rfl (by omega)) ?_
  refine WL.yld (by decide) (Yld.conv_u32_u8 some_33 und_5 rfl) ?_
  refine WL.yld (by decide) (Yld.move rfl) ?_
  refine WL.yld (by decide) (Yld.shr_u32 rfl rfl (by omega)) ?_
  refine WL.yld (by decide) (Yld.conv_u32_u8 some_33 und_5 rfl) ?_
  refine WL.yld (by decide) (Yld.build rfl (built_66_0_1_2_3 _ _ _ _)) ?_
  refine WL.eff0 (Eff0.storeBAM 101 agg_66 rfl rfl rfl ⟨rfl, rfl⟩ (by first | rfl | exact all_one _)) ?_
  refine WL.done (hK3 _ _ ?_)
  refine WC.ret ?_
  exact Ret.fn [] (ResIs.cellM (k := 101) rfl agg_66 rfl rfl rfl) rfl (by decide) ⟨rfl, rfl⟩

set_option maxRecDepth 10000 in
theorem sb_number (w : World) {Ax : Option Addr} {nx cx : Nat} {xsx : List (BitVec 8)} (hx : SlR w 1 Ax nx cx (xsx.map U8)) (hn : nx ≤ 4) :
    Fn Try.prog 54 #[.slice Ax nx cx] w fun r es => r = I64 (vn xsx : Nat) ∧ es = [] := by
  have hlx := hx.len1
  have hcmx := hx.cm
  have hlex := hx.le
  unfold maxLen at hcmx
  refine Fn.intro (N := 19) Try.func54 rfl rfl (Nat.le_of_ble_eq_true rfl) ?_
  refine WC.seqRegion fun K1 hK1 => ?_
  refine WL.yld (by decide) (Yld.assign rfl) ?_
  refine WL.done (hK1 _ _ ?_)
  refine WC.seqRegion fun K2 hK2 => ?_
  refine WL.yld (by decide) (Yld.assign rfl) ?_
  refine WL.done (hK2 _ _ ?_)
  refine WC.seq fun K3 hK3 => ?_
  refine WC.seqRegion fun K4 hK4 => ?_
  refine WL.yld (by decide) (Yld.move rfl) ?_
  refine WL.yld (by decide) (Yld.len und_23 rfl) ?_
  refine WL.yld (by decide) (Yld.move rfl) ?_
  refine WL.done (hK4 _ _ ?_)
  refine WC.block ?_
  refine WC.loop (σ := Nat × Nat) (fun ⟨k, v⟩ => [(3, I64 (v : Nat)), (6, .slice Ax nx cx), (7, I64 (nx : Nat)), (8, I64 (k : Nat))]) (fun ⟨k, v⟩ => []) (fun ⟨k, v⟩ => k ≤ nx ∧ v = vn (xsx.take k)) (fun ⟨k, v⟩ => nx - k) (0, 0) ?_ (Sub.cons rfl (Sub.cons rfl (Sub.cons rfl (Sub.cons rfl (Sub.nil _))))) (Sub.nil _) ?_
  · exact ⟨by omega, rfl⟩
  rintro ⟨k, v⟩ ⟨hk, hv⟩ K5 hK5
  have hlt := vn_lt xsx k (by omega)
  rw [← hv] at hlt
  refine WC.seqRegion fun K6 hK6 => ?_
  refine WL.yld (by decide) (Yld.lss rfl rfl) ?_
  refine WL.done (hK6 _ _ ?_)
  refine WC.seq fun K7 hK7 => ?_
  refine WC.cond rfl (fun hc8 => ?_) (fun hc8 => ?_)
  · replace hc8 := of_decide_eq_true hc8
    refine WC.skip ?_
    refine QK.thenN (hK7 _ _ ?_)
    refine WC.seq fun K9 hK9 => ?_
    refine WC.block ?_
    refine WC.seqRegion fun K10 hK10 => ?_
    refine WL.yld (by decide) (Yld.idxAddr1 sty_23 rfl rfl (RdH.old hx) (by omega)) ?_
    refine WL.yld (by decide) (Yld.loadR scal_5 rfl (RdH.old hx) (getElem?_map1 _ _ 0 (by omega))) ?_
    refine WL.yld (by decide) (Yld.assign rfl) ?_
    refine WL.done (hK10 _ _ ?_)
    have hl3 := vn_bd xsx k 3 (by omega) (by omega)
    rw [← hv] at hl3
    simp only [Nat.reducePow] at hl3
    have hbl := (xsx.getD k 0).isLt
    simp only [Nat.reducePow] at hbl
    refine WC.region fun K11 hK11 => ?_
    refine WL.yld (by decide) (Yld.move rfl) ?_
    refine WL.yld (by decide) (Yld.shl_i64 rfl rfl (by decide) (by simp; omega)) ?_
    refine WL.new (v' := I64 ((v * 256 : Nat) : Int)) (congrArg I64 (congrArg (fun n : Nat => (n : Int)) (by rw [show ((8 : Int)).toNat = 8 from rfl, Nat.shiftLeft_eq]))) ?_
    refine WL.yld (by decide) (Yld.move rfl) ?_
    refine WL.yld (by decide) (Yld.conv_u8_i64 some_5 und_2 rfl) ?_
    refine WL.yld (by decide) (Yld.or_i64 rfl rfl (by omega)) ?_
    refine WL.new (v' := I64 ((v * 256 + (xsx.getD k 0).toNat : Nat) : Int)) (congrArg I64 (congrArg (fun n : Nat => (n : Int)) (by rw [← or_byte _ _ (by omega), Nat.shiftLeft_eq]; rfl))) ?_
    refine WL.yld (by decide) (Yld.assign rfl) ?_
    refine WL.done (hK11 _ _ ?_)
    refine QK.blockN ?_
    refine QK.thenN (hK9 _ _ ?_)
    refine WC.region fun K12 hK12 => ?_
    refine WL.yld (by decide) (Yld.add rfl rfl (by omega)) ?_
    refine WL.yld (by decide) (Yld.move rfl) ?_
    refine WL.done (hK12 _ _ ?_)
    refine QK.thenN (hK5 (k + 1, _) _ _ ?_ ?_ (Sub.cons rfl (Sub.cons rfl (Sub.cons rfl (Sub.cons rfl (Sub.nil _))))) (Sub.nil _))
    · exact ⟨by omega, by rw [vn_take_succ _ _ (by omega), ← hv]⟩
    · dsimp only; omega
  · replace hc8 := of_decide_eq_false hc8
    obtain rfl : k = nx := by omega
    refine WC.exit (QK.thenE (QK.thenE (QK.blockX ?_)))
    refine QK.thenN (hK3 _ _ ?_)
    refine WC.seqRegion fun K13 hK13 => ?_
    refine WL.yld (by decide) (Yld.move rfl) ?_
    refine WL.yld (by decide) (Yld.assign rfl) ?_
    refine WL.done (hK13 _ _ ?_)
    refine WC.ret ?_
    exact Ret.fn [] (ResIs.one rfl rfl) rfl (by decide) ⟨by rw [hv, List.take_of_length_le (by omega)], rfl⟩

set_option maxRecDepth 10000 in
theorem sb_Encode (w : World) (a b c : Int) (ha : -9223372036854775808 ≤ a ∧ a ≤ 9223372036854775807) (hb : -9223372036854775808 ≤ b ∧ b ≤ 9223372036854775807) (hc : -9223372036854775808 ≤ c ∧ c ≤ 9223372036854775807) :
    Fn Try.prog 27 #[.agg #[I64 a, I64 b, I64 c]] w fun r es => ∃ A c', r = .tuple #[.slice A (sbytes a b c).length c', I64 (serr a b c)] ∧ es = [.own 5 1 A (sbytes a b c).length c' ((sbytes a b c).map U8)] := by
  refine Fn.intro (N := 31) Try.func27 rfl rfl (Nat.le_of_ble_eq_true rfl) ?_
  refine WC.seqRegion fun K1 hK1 => ?_
  refine WL.eff (by decide) (Eff.box 101 (us := [I64 a, I64 b, I64 c]) rfl rfl rfl) ?_
  rintro _ _ ⟨g101, rfl, rfl⟩
  refine WL.yld (by decide) (Yld.assign rfl) ?_
  refine WL.yld (by decide) (Yld.assign rfl) ?_
  refine WL.done (hK1 _ _ ?_)
  refine WC.seq fun K3 hK3 => ?_
  refine WC.seqRegion fun K4 hK4 => ?_
  refine WL.yld (by decide) (Yld.loadBM (k := 101) agg_37 rfl rfl (by first | rfl | (simp [*]; done))) ?_
  refine WL.eff (by decide) (Eff.call 102 rfl Try.func31 nm_31 rfl rfl rfl (fun w hb hh => sb_Valid w _ _ _)) ?_
  rintro _ _ ⟨_, ⟨rfl, rfl⟩, rfl⟩
  refine WL.yld (by decide) (Yld.notB rfl) ?_
  refine WL.done (hK4 _ _ ?_)
  refine WC.cond rfl (fun hc6 => ?_) (fun hc6 => ?_)
  · skip
    have hv : sv a b c = false := by simpa using hc6
    refine WC.nilOwn 990 5 1 rfl ?_
    refine WC.seqRegion fun K7 hK7 => ?_
    refine WL.yld (by decide) (Yld.assign rfl) ?_
    refine WL.yld (by decide) (Yld.assign rfl) ?_
    refine WL.done (hK7 _ _ ?_)
    refine WC.ret (QK.thenR ?_)
    exact Ret.fn [990] (ResIs.two rfl rfl rfl) rfl (by decide) ⟨none, 0, by rw [sbytes, serr, hv]; rfl, by rw [sbytes, hv]; rfl⟩
  · skip
    have hv : sv a b c = true := by simpa using hc6
    obtain ⟨hv1, hv2, hv3, hv4, hv5, hv6⟩ := sv_iff.1 hv
    refine WC.skip ?_
    refine QK.thenN (hK3 _ _ ?_)
    refine WC.seqRegion fun K8 hK8 => ?_
    refine WL.eff (by decide) (Eff.buildSliceM U8 111 [78#8, 86#8, 79#8, 76#8] sty_23 rfl rfl rfl rfl rfl (by decide)) ?_
    rintro _ _ ⟨g111, rfl, rfl⟩
    refine WL.eff (by decide) (Eff.mark 111 und_23 und_5 rfl rfl rfl) ?_
    rintro _ _ ⟨rfl, rfl⟩
    refine WL.yld (by decide) (Yld.fieldAddr Try.underlying37 rfl nz_3 rfl rfl) ?_
    refine WL.yld (by decide) (Yld.loadB (k := 101) scal_3 rfl rfl rfl) ?_
    refine WL.eff (by decide) (Eff.call 112 rfl Try.func47 nm_47 rfl rfl rfl (fun w hb hh => sb_big w _ 2 (by omega) (by omega))) ?_
    rintro _ _ ⟨_, ⟨A10, c10, rfl, rfl⟩, rfl⟩
    refine WL.eff (by decide) (Eff.appendGrowM (f := U8) 121 sty_23 rfl rfl (RdH.roM (k := 111) rfl rfl (by decide)) rfl (RdH.own (k := 112) rfl) (by omega) (by omega)) ?_
    rintro _ _ ⟨A11, c11, rfl, rfl⟩
    refine WL.yld (by decide) (Yld.assign rfl) ?_
    refine WL.done (hK8 _ _ ?_)
    refine WC.seqRegion fun K12 hK12 => ?_
    refine WL.yld (by decide) (Yld.move rfl) ?_
    refine WL.yld (by decide) (Yld.fieldAddr Try.underlying37 rfl nz_3 rfl rfl) ?_
    refine WL.yld (by decide) (Yld.loadB (k := 101) scal_3 rfl rfl rfl) ?_
    refine WL.eff (by decide) (Eff.call 122 rfl Try.func47 nm_47 rfl rfl rfl (fun w hb hh => sb_big w _ 2 (by omega) (by omega))) ?_
    rintro _ _ ⟨_, ⟨A13, c13, rfl, rfl⟩, rfl⟩
    refine WL.eff (by decide) (Eff.appendM (f := U8) 121 sty_23 rfl rfl rfl (RdH.own (k := 122) rfl) (by omega)) ?_
    rintro _ _ ⟨A14, c14, rfl, rfl⟩
    refine WL.yld (by decide) (Yld.assign rfl) ?_
    refine WL.done (hK12 _ _ ?_)
    refine WC.seqRegion fun K15 hK15 => ?_
    refine WL.yld (by decide) (Yld.move rfl) ?_
    refine WL.yld (by decide) (Yld.fieldAddr Try.underlying37 rfl nz_2 rfl rfl) ?_
    refine WL.yld (by decide) (Yld.loadB (k := 101) scal_2 rfl rfl rfl) ?_
    refine WL.eff (by decide) (Eff.call 131 rfl Try.func47 nm_47 rfl rfl rfl (fun w hb hh => sb_big w _ 4 (by omega) (by omega))) ?_
    rintro _ _ ⟨_, ⟨A16, c16, rfl, rfl⟩, rfl⟩
    refine WL.eff (by decide) (Eff.appendM (f := U8) 121 sty_23 rfl rfl rfl (RdH.own (k := 131) rfl) (by omega)) ?_
    rintro _ _ ⟨A17, c17, rfl, rfl⟩
    refine WL.yld (by decide) (Yld.assign rfl) ?_
    refine WL.done (hK15 _ _ ?_)
    refine WC.seqRegion fun K18 hK18 => ?_
    refine WL.yld (by decide) (Yld.move rfl) ?_
    refine WL.eff (by decide) (Eff.call 140 rfl Try.func35 nm_35 rfl rfl rfl (fun w hb hh => crc_Sum w ((RdH.own (k := 121) rfl) w hb hh))) ?_
    rintro _ _ ⟨_, ⟨rfl, rfl⟩, rfl⟩
    refine WL.eff (by decide) (Eff.call 149 rfl Try.func48 nm_48 rfl rfl rfl (fun w hb hh => sb_little w _)) ?_
    rintro _ _ ⟨_, ⟨rfl, rfl⟩, rfl⟩
    refine WL.eff (by decide) (Eff.alloc 158 rfl zer_66) ?_
    rintro _ _ ⟨g158, rfl, rfl⟩
    refine WL.eff0 (Eff0.storeBAM 158 agg_66 rfl rfl rfl (by first | exact ⟨rfl, rfl⟩ | (constructor <;> simp [*])) (by first | rfl | exact all_one _)) ?_
    refine WL.done (hK18 _ _ ?_)
    refine WC.seqRegion fun K22 hK22 => ?_
    refine WL.yld (by decide) (Yld.move rfl) ?_
    refine WL.yld (by decide) (Yld.sliceArr und_66 siz_5 rfl) ?_
    refine WL.eff (by decide) (Eff.appendM (f := U8) 121 sty_23 rfl rfl rfl (RdH.blkM (k := 158) rfl rfl (by decide)) (by omega)) ?_
    rintro _ _ ⟨A23, c23, rfl, rfl⟩
    refine WL.yld (by decide) (Yld.assign rfl) ?_
    refine WL.yld (by decide) (Yld.assign rfl) ?_
    refine WL.done (hK22 _ _ ?_)
    refine WC.ret ?_
    exact Ret.fn [121] (ResIs.two rfl rfl rfl) rfl (by decide) ⟨_, _, by rw [sbytes, serr, if_pos hv, if_pos hv, senc_length], by rw [sbytes, if_pos hv, senc_length]; rfl⟩

set_option maxRecDepth 10000 in
theorem r07_Encode (w : World) (a b c : Int) (ha : -9223372036854775808 ≤ a ∧ a ≤ 9223372036854775807) (hb : -9223372036854775808 ≤ b ∧ b ≤ 9223372036854775807) (hc : -9223372036854775808 ≤ c ∧ c ≤ 9223372036854775807) :
    Fn Try.prog 28 #[.agg #[I64 a, I64 b, I64 c]] w fun r es => ∃ A c', r = .tuple #[.slice A (sbytes a b c).length c', I64 (serr a b c)] ∧ es = [.own 5 1 A (sbytes a b c).length c' ((sbytes a b c).map U8)] := by
  refine Fn.intro (N := 30) Try.func28 rfl rfl (Nat.le_of_ble_eq_true rfl) ?_
  refine WC.seqRegion fun K1 hK1 => ?_
  refine WL.eff (by decide) (Eff.box 101 (us := [I64 a, I64 b, I64 c]) rfl rfl rfl) ?_
  rintro _ _ ⟨g101, rfl, rfl⟩
  refine WL.yld (by decide) (Yld.assign rfl) ?_
  refine WL.yld (by decide) (Yld.assign rfl) ?_
  refine WL.done (hK1 _ _ ?_)
  refine WC.seq fun K3 hK3 => ?_
  refine WC.seqRegion fun K4 hK4 => ?_
  refine WL.yld (by decide) (Yld.loadBM (k := 101) agg_37 rfl rfl (by first | rfl | (simp [*]; done))) ?_
  refine WL.eff (by decide) (Eff.call 102 rfl Try.func32 nm_32 rfl rfl rfl (fun w hb hh => r07_Valid w _ _ _)) ?_
  rintro _ _ ⟨_, ⟨rfl, rfl⟩, rfl⟩
  refine WL.yld (by decide) (Yld.notB rfl) ?_
  refine WL.done (hK4 _ _ ?_)
  refine WC.cond rfl (fun hc6 => ?_) (fun hc6 => ?_)
  · skip
    have hv : sv a b c = false := by simpa using hc6
    refine WC.nilOwn 990 5 1 rfl ?_
    refine WC.seqRegion fun K7 hK7 => ?_
    refine WL.yld (by decide) (Yld.assign rfl) ?_
    refine WL.yld (by decide) (Yld.assign rfl) ?_
    refine WL.done (hK7 _ _ ?_)
    refine WC.ret (QK.thenR ?_)
    exact Ret.fn [990] (ResIs.two rfl rfl rfl) rfl (by decide) ⟨none, 0, by rw [sbytes, serr, hv]; rfl, by rw [sbytes, hv]; rfl⟩
  · skip
    have hv : sv a b c = true := by simpa using hc6
    obtain ⟨hv1, hv2, hv3, hv4, hv5, hv6⟩ := sv_iff.1 hv
    refine WC.skip ?_
    refine QK.thenN (hK3 _ _ ?_)
    refine WC.seqRegion fun K8 hK8 => ?_
    refine WL.eff (by decide) (Eff.buildSliceM U8 111 [78#8, 86#8, 79#8, 76#8] sty_23 rfl rfl rfl rfl rfl (by decide)) ?_
    rintro _ _ ⟨g111, rfl, rfl⟩
    refine WL.eff (by decide) (Eff.mark 111 und_23 und_5 rfl rfl rfl) ?_
    rintro _ _ ⟨rfl, rfl⟩
    refine WL.yld (by decide) (Yld.fieldAddr Try.underlying37 rfl nz_3 rfl rfl) ?_
    refine WL.yld (by decide) (Yld.loadB (k := 101) scal_3 rfl rfl rfl) ?_
    refine WL.yld (by decide) (Yld.conv_i64_u64 some_3 und_63 rfl) ?_
    refine WL.eff (by decide) (Eff.call 112 rfl Try.func45 nm_45 rfl rfl rfl (fun w hb hh => r06_Number w _ 2 (by omega))) ?_
    rintro _ _ ⟨_, ⟨A10, c10, rfl, rfl⟩, rfl⟩
    refine WL.eff (by decide) (Eff.appendGrowM (f := U8) 121 sty_23 rfl rfl (RdH.roM (k := 111) rfl rfl (by decide)) rfl (RdH.own (k := 112) rfl) (by omega) (by omega)) ?_
    rintro _ _ ⟨A11, c11, rfl, rfl⟩
    refine WL.yld (by decide) (Yld.assign rfl) ?_
    refine WL.done (hK8 _ _ ?_)
    refine WC.seqRegionD (n := 12) [(101, _), (111, _), (112, _)] rfl mixed (Sub.cons rfl (Sub.cons rfl (Sub.cons rfl (Sub.nil _)))) fun K13 hK13 => ?_
    refine WD.take 0 rfl (by kernel_rfl) (by kernel_rfl) (by kernel_rfl) (by decide) (Yld.move rfl) ?_
    refine WD.take 1 rfl (by kernel_rfl) (by kernel_rfl) (by kernel_rfl) (by decide) (Yld.fieldAddr Try.underlying37 rfl nz_3 rfl rfl) ?_
    refine WD.take 2 rfl (by kernel_rfl) (by kernel_rfl) (by kernel_rfl) (by decide) (Yld.loadB (k := 101) scal_3 rfl rfl rfl) ?_
    refine WD.take 3 rfl (by kernel_rfl) (by kernel_rfl) (by kernel_rfl) (by decide) (Yld.conv_i64_u64 some_3 und_63 rfl) ?_
    refine WD.take 6 rfl (by kernel_rfl) (by kernel_rfl) (by kernel_rfl) (by decide) (Yld.fieldAddr Try.underlying37 rfl nz_2 rfl rfl) ?_
    refine WD.take 7 rfl (by kernel_rfl) (by kernel_rfl) (by kernel_rfl) (by decide) (Yld.loadB (k := 101) scal_2 rfl rfl rfl) ?_
    refine WD.take 8 rfl (by kernel_rfl) (by kernel_rfl) (by kernel_rfl) (by decide) (Yld.conv_i64_u64 some_2 und_63 rfl) ?_
    refine WD.one 4 (by kernel_rfl) ?_
    refine WS.eff rfl (by decide) (Eff.call 122 rfl Try.func45 nm_45 rfl rfl rfl (fun w hb hh => r06_Number w _ 2 (by omega))) ?_
    rintro _ _ ⟨_, ⟨A14, c14, rfl, rfl⟩, rfl⟩
    refine ⟨(Sub.cons rfl (Sub.cons rfl (Sub.cons rfl (Sub.nil _)))), ?_⟩
    refine WD.one 5 (by kernel_rfl) ?_
    refine WS.eff rfl (by decide) (Eff.appendM (f := U8) 121 sty_23 rfl rfl rfl (RdH.own (k := 122) rfl) (by omega)) ?_
    rintro _ _ ⟨A15, c15, rfl, rfl⟩
    refine ⟨(Sub.cons rfl (Sub.cons rfl (Sub.cons rfl (Sub.nil _)))), ?_⟩
    refine WD.one 9 (by kernel_rfl) ?_
    refine WS.eff rfl (by decide) (Eff.call 131 rfl Try.func45 nm_45 rfl rfl rfl (fun w hb hh => r06_Number w _ 4 (by omega))) ?_
    rintro _ _ ⟨_, ⟨A16, c16, rfl, rfl⟩, rfl⟩
    refine ⟨(Sub.cons rfl (Sub.cons rfl (Sub.cons rfl (Sub.nil _)))), ?_⟩
    refine WD.one 10 (by kernel_rfl) ?_
    refine WS.eff rfl (by decide) (Eff.appendM (f := U8) 121 sty_23 rfl rfl rfl (RdH.own (k := 131) rfl) (by omega)) ?_
    rintro _ _ ⟨A17, c17, rfl, rfl⟩
    refine ⟨(Sub.cons rfl (Sub.cons rfl (Sub.cons rfl (Sub.nil _)))), ?_⟩
    refine WD.take 11 rfl (by kernel_rfl) (by kernel_rfl) (by kernel_rfl) (by decide) (Yld.assign rfl) ?_
    refine WD.done (by kernel_rfl) (hK13 _ _ ?_)
    refine WC.seqRegion fun K18 hK18 => ?_
    refine WL.yld (by decide) (Yld.move rfl) ?_
    refine WL.yld (by decide) (Yld.move rfl) ?_
    refine WL.eff (by decide) (Eff.call 140 rfl Try.func42 nm_42 rfl rfl rfl (fun w hb hh => r06_Check w ((RdH.own (k := 121) rfl) w hb hh))) ?_
    rintro _ _ ⟨_, ⟨A19, c19, rfl, rfl⟩, rfl⟩
    refine WL.eff (by decide) (Eff.appendM (f := U8) 121 sty_23 rfl rfl rfl (RdH.own (k := 140) rfl) (by omega)) ?_
    rintro _ _ ⟨A20, c20, rfl, rfl⟩
    refine WL.yld (by decide) (Yld.assign rfl) ?_
    refine WL.yld (by decide) (Yld.assign rfl) ?_
    refine WL.done (hK18 _ _ ?_)
    refine WC.ret ?_
    exact Ret.fn [121] (ResIs.two rfl rfl rfl) rfl (by decide) ⟨_, _, by rw [sbytes, serr, if_pos hv, if_pos hv, senc_length], by rw [sbytes, if_pos hv, senc_length]; rfl⟩

set_option maxRecDepth 10000 in
theorem sb_Next (w : World) (a b c : Int) (ha : -9223372036854775808 ≤ a ∧ a ≤ 9223372036854775807) (hb : -9223372036854775808 ≤ b ∧ b ≤ 9223372036854775807) (hc : -9223372036854775808 ≤ c ∧ c ≤ 9223372036854775807) :
    Fn Try.prog 29 #[.agg #[I64 a, I64 b, I64 c]] w fun r es => r = .tuple #[.agg #[I64 (snA a b c), I64 (snB a b c), I64 (snC a b c)], I64 (snE a b c)] ∧ es = [] := by
  refine Fn.intro (N := 25) Try.func29 rfl rfl (Nat.le_of_ble_eq_true rfl) ?_
  refine WC.seqRegion fun K1 hK1 => ?_
  refine WL.eff (by decide) (Eff.box 101 (us := [I64 a, I64 b, I64 c]) rfl rfl rfl) ?_
  rintro _ _ ⟨g101, rfl, rfl⟩
  refine WL.eff (by decide) (Eff.alloc 102 rfl zer_37) ?_
  rintro _ _ ⟨g102, rfl, rfl⟩
  refine WL.yld (by decide) (Yld.assign rfl) ?_
  refine WL.done (hK1 _ _ ?_)
  refine WC.seqRegion fun K4 hK4 => ?_
  refine WL.yld (by decide) (Yld.fieldAddr Try.underlying37 rfl nz_3 rfl rfl) ?_
  refine WL.yld (by decide) (Yld.loadB (k := 101) scal_3 rfl rfl rfl) ?_
  refine WL.yld (by decide) (Yld.fieldAddr Try.underlying37 rfl nz_3 rfl rfl) ?_
  refine WL.yld (by decide) (Yld.loadB (k := 101) scal_3 rfl rfl rfl) ?_
  refine WL.yld (by decide) (Yld.build rfl (built_37_0_1_2 _ _ _)) ?_
  refine WL.eff (by decide) (Eff.alloc 103 rfl zer_37) ?_
  rintro _ _ ⟨g103, rfl, rfl⟩
  refine WL.eff0 (Eff0.storeBAM 103 agg_37 rfl rfl rfl (by first | exact ⟨rfl, rfl⟩ | (constructor <;> simp [*])) (by first | rfl | exact all_one _)) ?_
  refine WL.done (hK4 _ _ ?_)
  refine WC.seq fun K6 hK6 => ?_
  refine WC.block ?_
  refine WC.seqRegion fun K7 hK7 => ?_
  refine WL.yld (by decide) (Yld.loadBM (k := 101) agg_37 rfl rfl (by first | rfl | (simp [*]; done))) ?_
  refine WL.eff (by decide) (Eff.call 104 rfl Try.func31 nm_31 rfl rfl rfl (fun w hb hh => sb_Valid w _ _ _)) ?_
  rintro _ _ ⟨_, ⟨rfl, rfl⟩, rfl⟩
  refine WL.yld (by decide) (Yld.notB rfl) ?_
  refine WL.yld (by decide) (Yld.assign rfl) ?_
  refine WL.done (hK7 _ _ ?_)
  refine WC.cond rfl (fun hc9 => ?_) (fun hc9 => ?_)
  · skip
    have hv : sv a b c = false := by simpa using hc9
    refine WC.seqRegion fun K10 hK10 => ?_
    refine WL.yld (by decide) (Yld.build rfl (built_37_ )) ?_
    refine WL.eff0 (Eff0.storeBAM 102 agg_37 rfl rfl rfl (by first | exact ⟨rfl, rfl⟩ | (constructor <;> simp [*])) (by first | rfl | exact all_one _)) ?_
    refine WL.yld (by decide) (Yld.assign rfl) ?_
    refine WL.done (hK10 _ _ ?_)
    refine WC.ret (QK.blockR (QK.thenR ?_))
    obtain ⟨e1, e2, e3, e4⟩ := sn_bad (snE_1 hv) (by decide)
    exact Ret.fn [] (ResIs.cellTmpM (k := 102) rfl agg_37 rfl rfl rfl rfl) rfl (by decide) ⟨by rw [e1, e2, e3, e4] <;> rfl, rfl⟩
  · skip
    have hv : sv a b c = true := by simpa using hc9
    obtain ⟨hv1, hv2, hv3, hv4, hv5, hv6⟩ := sv_iff.1 hv
    refine WC.seqRegion fun K11 hK11 => ?_
    refine WL.yld (by decide) (Yld.loadBM (k := 101) agg_37 rfl rfl (by first | rfl | (simp [*]; done))) ?_
    refine WL.yld (by decide) (Yld.loadBM (k := 103) agg_37 rfl rfl (by first | rfl | (simp [*]; done))) ?_
    refine WL.yld (by decide) (Yld.eqlA (zeqs_37 _ _ _ _ _ _) rfl rfl) ?_
    refine WL.new (v' := .bool (c == 4294967295)) (congrArg Value.bool (by simp)) ?_
    refine WL.yld (by decide) (Yld.assign rfl) ?_
    refine WL.done (hK11 _ _ ?_)
    refine WC.cond rfl (fun hc12 => ?_) (fun hc12 => ?_)
    · replace hc12 := eq_of_beq hc12
      refine WC.seqRegion fun K13 hK13 => ?_
      refine WL.yld (by decide) (Yld.build rfl (built_37_ )) ?_
      refine WL.eff0 (Eff0.storeBAM 102 agg_37 rfl rfl rfl (by first | exact ⟨rfl, rfl⟩ | (constructor <;> simp [*])) (by first | rfl | exact all_one _)) ?_
      refine WL.yld (by decide) (Yld.assign rfl) ?_
      refine WL.done (hK13 _ _ ?_)
      refine WC.ret (QK.blockR (QK.thenR ?_))
      obtain ⟨e1, e2, e3, e4⟩ := sn_bad (snE_2 hv (by assumption)) (by decide)
      exact Ret.fn [] (ResIs.cellTmpM (k := 102) rfl agg_37 rfl rfl rfl rfl) rfl (by decide) ⟨by rw [e1, e2, e3, e4] <;> rfl, rfl⟩
    · replace hc12 := ne_of_beq_false hc12
      refine WC.skip ?_
      refine QK.blockN ?_
      refine QK.thenN (hK6 _ _ ?_)
      refine WC.seqRegion fun K14 hK14 => ?_
      refine WL.yld (by decide) (Yld.fieldAddr Try.underlying37 rfl nz_2 rfl rfl) ?_
      refine WL.yld (by decide) (Yld.loadB (k := 101) scal_2 rfl rfl rfl) ?_
      refine WL.yld (by decide) (Yld.add rfl rfl (by omega)) ?_
      refine WL.yld (by decide) (Yld.fieldAddr Try.underlying37 rfl nz_2 rfl rfl) ?_
      refine WL.eff0 (Eff0.storeB 101 siz_2 rfl rfl rfl rfl (by first | decide | exact Nat.le_of_ble_eq_true rfl)) ?_
      refine WL.done (hK14 _ _ ?_)
      refine WC.seqRegion fun K15 hK15 => ?_
      refine WL.yld (by decide) (Yld.loadBM (k := 101) agg_37 rfl rfl (by first | rfl | (simp [*]; done))) ?_
      refine WL.eff0 (Eff0.storeBAM 102 agg_37 rfl rfl rfl (by first | exact ⟨rfl, rfl⟩ | (constructor <;> simp [*])) (by first | rfl | exact all_one _)) ?_
      refine WL.yld (by decide) (Yld.assign rfl) ?_
      refine WL.done (hK15 _ _ ?_)
      refine WC.ret ?_
      obtain ⟨e1, e2, e3, e4⟩ := sn_good (snE_0 hv (by assumption))
      exact Ret.fn [] (ResIs.cellTmpM (k := 102) rfl agg_37 rfl rfl rfl rfl) rfl (by decide) ⟨by rw [e1, e2, e3, e4] <;> rfl, rfl⟩

set_option maxRecDepth 10000 in
theorem r07_Next (w : World) (a b c : Int) (ha : -9223372036854775808 ≤ a ∧ a ≤ 9223372036854775807) (hb : -9223372036854775808 ≤ b ∧ b ≤ 9223372036854775807) (hc : -9223372036854775808 ≤ c ∧ c ≤ 9223372036854775807) :
    Fn Try.prog 30 #[.agg #[I64 a, I64 b, I64 c]] w fun r es => r = .tuple #[.agg #[I64 (snA a b c), I64 (snB a b c), I64 (snC a b c)], I64 (snE a b c)] ∧ es = [] := by
  refine Fn.intro (N := 17) Try.func30 rfl rfl (Nat.le_of_ble_eq_true rfl) ?_
  refine WC.seqRegion fun K1 hK1 => ?_
  refine WL.eff (by decide) (Eff.box 101 (us := [I64 a, I64 b, I64 c]) rfl rfl rfl) ?_
  rintro _ _ ⟨g101, rfl, rfl⟩
  refine WL.eff (by decide) (Eff.alloc 102 rfl zer_37) ?_
  rintro _ _ ⟨g102, rfl, rfl⟩
  refine WL.yld (by decide) (Yld.assign rfl) ?_
  refine WL.done (hK1 _ _ ?_)
  refine WC.seq fun K4 hK4 => ?_
  refine WC.seqRegion fun K5 hK5 => ?_
  refine WL.yld (by decide) (Yld.loadBM (k := 101) agg_37 rfl rfl (by first | rfl | (simp [*]; done))) ?_
  refine WL.eff (by decide) (Eff.call 103 rfl Try.func32 nm_32 rfl rfl rfl (fun w hb hh => r07_Valid w _ _ _)) ?_
  rintro _ _ ⟨_, ⟨rfl, rfl⟩, rfl⟩
  refine WL.yld (by decide) (Yld.notB rfl) ?_
  refine WL.done (hK5 _ _ ?_)
  refine WC.cond rfl (fun hc7 => ?_) (fun hc7 => ?_)
  · skip
    have hv : sv a b c = false := by simpa using hc7
    refine WC.seqRegion fun K8 hK8 => ?_
    refine WL.yld (by decide) (Yld.build rfl (built_37_ )) ?_
    refine WL.eff0 (Eff0.storeBAM 102 agg_37 rfl rfl rfl (by first | exact ⟨rfl, rfl⟩ | (constructor <;> simp [*])) (by first | rfl | exact all_one _)) ?_
    refine WL.yld (by decide) (Yld.assign rfl) ?_
    refine WL.done (hK8 _ _ ?_)
    refine WC.ret (QK.thenR ?_)
    obtain ⟨e1, e2, e3, e4⟩ := sn_bad (snE_1 hv) (by decide)
    exact Ret.fn [] (ResIs.cellTmpM (k := 102) rfl agg_37 rfl rfl rfl rfl) rfl (by decide) ⟨by rw [e1, e2, e3, e4] <;> rfl, rfl⟩
  · skip
    have hv : sv a b c = true := by simpa using hc7
    obtain ⟨hv1, hv2, hv3, hv4, hv5, hv6⟩ := sv_iff.1 hv
    refine WC.skip ?_
    refine QK.thenN (hK4 _ _ ?_)
    refine WC.seqRegion fun K9 hK9 => ?_
    refine WL.yld (by decide) (Yld.fieldAddr Try.underlying37 rfl nz_2 rfl rfl) ?_
    refine WL.yld (by decide) (Yld.loadB (k := 101) scal_2 rfl rfl rfl) ?_
    refine WL.yld (by decide) (Yld.add rfl rfl (by omega)) ?_
    refine WL.yld (by decide) (Yld.fieldAddr Try.underlying37 rfl nz_2 rfl rfl) ?_
    refine WL.eff0 (Eff0.storeB 101 siz_2 rfl rfl rfl rfl (by first | decide | exact Nat.le_of_ble_eq_true rfl)) ?_
    refine WL.done (hK9 _ _ ?_)
    refine WC.seq fun K10 hK10 => ?_
    refine WC.seqRegion fun K11 hK11 => ?_
    refine WL.yld (by decide) (Yld.loadBM (k := 101) agg_37 rfl rfl (by first | rfl | (simp [*]; done))) ?_
    refine WL.eff (by decide) (Eff.call 112 rfl Try.func32 nm_32 rfl rfl rfl (fun w hb hh => r07_Valid w _ _ _)) ?_
    rintro _ _ ⟨_, ⟨rfl, rfl⟩, rfl⟩
    refine WL.yld (by decide) (Yld.notB rfl) ?_
    refine WL.done (hK11 _ _ ?_)
    refine WC.cond rfl (fun hc13 => ?_) (fun hc13 => ?_)
    · skip
      have hw : sv a b (c + 1) = false := by simpa using hc13
      have hc2 : c = 4294967295 := by have := sv_not.1 hw; omega
      refine WC.seqRegion fun K14 hK14 => ?_
      refine WL.yld (by decide) (Yld.build rfl (built_37_ )) ?_
      refine WL.eff0 (Eff0.storeBAM 102 agg_37 rfl rfl rfl (by first | exact ⟨rfl, rfl⟩ | (constructor <;> simp [*])) (by first | rfl | exact all_one _)) ?_
      refine WL.yld (by decide) (Yld.assign rfl) ?_
      refine WL.done (hK14 _ _ ?_)
      refine WC.ret (QK.thenR ?_)
      obtain ⟨e1, e2, e3, e4⟩ := sn_bad (snE_2 hv hc2) (by decide)
      exact Ret.fn [] (ResIs.cellTmpM (k := 102) rfl agg_37 rfl rfl rfl rfl) rfl (by decide) ⟨by rw [e1, e2, e3, e4] <;> rfl, rfl⟩
    · skip
      have hw : sv a b (c + 1) = true := by simpa using hc13
      have hc2 : c ≠ 4294967295 := by have := sv_iff.1 hw; omega
      refine WC.skip ?_
      refine QK.thenN (hK10 _ _ ?_)
      refine WC.seqRegion fun K15 hK15 => ?_
      refine WL.yld (by decide) (Yld.loadBM (k := 101) agg_37 rfl rfl (by first | rfl | (simp [*]; done))) ?_
      refine WL.eff0 (Eff0.storeBAM 102 agg_37 rfl rfl rfl (by first | exact ⟨rfl, rfl⟩ | (constructor <;> simp [*])) (by first | rfl | exact all_one _)) ?_
      refine WL.yld (by decide) (Yld.assign rfl) ?_
      refine WL.done (hK15 _ _ ?_)
      refine WC.ret ?_
      obtain ⟨e1, e2, e3, e4⟩ := sn_good (snE_0 hv hc2)
      exact Ret.fn [] (ResIs.cellTmpM (k := 102) rfl agg_37 rfl rfl rfl rfl) rfl (by decide) ⟨by rw [e1, e2, e3, e4] <;> rfl, rfl⟩

set_option maxRecDepth 10000 in
theorem sb_Decode (w : World) {Ax : Option Addr} {nx cx : Nat} {xsx : List (BitVec 8)} (hx : SlR w 1 Ax nx cx (xsx.map U8)) :
    Fn Try.prog 43 #[.slice Ax nx cx] w fun r es => r = .tuple #[.agg #[I64 (sdA xsx), I64 (sdB xsx), I64 (sdC xsx)], I64 (sdE xsx)] ∧ es = [] := by
  have hlx := hx.len1
  have hcmx := hx.cm
  have hlex := hx.le
  unfold maxLen at hcmx
  refine Fn.intro (N := 42) Try.func43 rfl rfl (Nat.le_of_ble_eq_true rfl) ?_
  refine WC.seqRegion fun K1 hK1 => ?_
  refine WL.eff (by decide) (Eff.alloc 101 rfl zer_37) ?_
  rintro _ _ ⟨g101, rfl, rfl⟩
  refine WL.yld (by decide) (Yld.assign rfl) ?_
  refine WL.done (hK1 _ _ ?_)
  refine WC.seq fun K3 hK3 => ?_
  refine WC.block ?_
  refine WC.seqRegion fun K4 hK4 => ?_
  refine WL.yld (by decide) (Yld.move rfl) ?_
  refine WL.yld (by decide) (Yld.len und_23 rfl) ?_
  refine WL.yld (by decide) (Yld.lss rfl rfl) ?_
  refine WL.yld (by decide) (Yld.assign rfl) ?_
  refine WL.done (hK4 _ _ ?_)
  refine WC.cond rfl (fun hc5 => ?_) (fun hc5 => ?_)
  · replace hc5 := of_decide_eq_true hc5
    have e0 := sdE_short (xs := xsx) (by omega)
    obtain ⟨e1, e2, e3⟩ := sd_bad (xs := xsx) (by rw [e0]; decide)
    refine WC.seqRegion fun K6 hK6 => ?_
    refine WL.yld (by decide) (Yld.build rfl (built_37_ )) ?_
    refine WL.eff0 (Eff0.storeBAM 101 agg_37 rfl rfl rfl (by first | exact ⟨rfl, rfl⟩ | (constructor <;> simp [*])) (by first | rfl | exact all_one _)) ?_
    refine WL.yld (by decide) (Yld.assign rfl) ?_
    refine WL.done (hK6 _ _ ?_)
    refine WC.ret (QK.blockR (QK.thenR ?_))
    exact Ret.fn [] (ResIs.cellTmpM (k := 101) rfl agg_37 rfl rfl rfl rfl) rfl (by decide) ⟨by rw [e0, e1, e2, e3], rfl⟩
  · replace hc5 := of_decide_eq_false hc5
    refine WC.seqRegion fun K7 hK7 => ?_
    refine WL.yld (by decide) (Yld.move rfl) ?_
    refine WL.yld (by decide) (Yld.sliceH sty_23 rfl rfl (by omega)) ?_
    refine WL.yld (by decide) (Yld.b2s und_23 und_5 und_9 rfl (RdH.take1 (RdH.old hx) (by omega))) ?_
    refine WL.yld (by decide) (Yld.neqStr (b := [78#8, 86#8, 79#8, 76#8]) rfl rfl) ?_
    refine WL.yld (by decide) (Yld.assign rfl) ?_
    refine WL.done (hK7 _ _ ?_)
    refine WC.cond rfl (fun hc8 => ?_) (fun hc8 => ?_)
    · replace hc8 := neq_str_t hc8
      have h2 : ¬ xsx.take 4 = smagic := hc8
      have e0 := sdE_form (xs := xsx) (by omega) h2
      obtain ⟨e1, e2, e3⟩ := sd_bad (xs := xsx) (by rw [e0]; decide)
      refine WC.seqRegion fun K9 hK9 => ?_
      refine WL.yld (by decide) (Yld.build rfl (built_37_ )) ?_
      refine WL.eff0 (Eff0.storeBAM 101 agg_37 rfl rfl rfl (by first | exact ⟨rfl, rfl⟩ | (constructor <;> simp [*])) (by first | rfl | exact all_one _)) ?_
      refine WL.yld (by decide) (Yld.assign rfl) ?_
      refine WL.done (hK9 _ _ ?_)
      refine WC.ret (QK.blockR (QK.thenR ?_))
      exact Ret.fn [] (ResIs.cellTmpM (k := 101) rfl agg_37 rfl rfl rfl rfl) rfl (by decide) ⟨by rw [e0, e1, e2, e3], rfl⟩
    · replace hc8 := neq_str_f hc8
      have h2 : xsx.take 4 = smagic := hc8
      refine WC.seqRegionD (n := 10) [(101, _)] rfl mixed (Sub.cons rfl (Sub.nil _)) fun K11 hK11 => ?_
      refine WD.take 0 rfl (by kernel_rfl) (by kernel_rfl) (by kernel_rfl) (by decide) (Yld.move rfl) ?_
      refine WD.take 1 rfl (by kernel_rfl) (by kernel_rfl) (by kernel_rfl) (by decide) (Yld.sliceH sty_23 rfl rfl (by omega)) ?_
      refine WD.take 4 rfl (by kernel_rfl) (by kernel_rfl) (by kernel_rfl) (by decide) (Yld.move rfl) ?_
      refine WD.take 5 rfl (by kernel_rfl) (by kernel_rfl) (by kernel_rfl) (by decide) (Yld.sliceLH sty_23 rfl rfl rfl (by omega)) ?_
      refine WD.take 6 rfl (by kernel_rfl) (by kernel_rfl) (by kernel_rfl) (by decide) (Yld.arrayAt und_66 rfl (by omega)) ?_
      refine WD.take 7 rfl (by kernel_rfl) (by kernel_rfl) (by kernel_rfl) (by decide) (Yld.loadArr agg_66 rfl (RdH.cut1 (lo := 12) (hi := 16) (RdH.old hx) (by omega) (by omega)) (by first | rfl | (simp; done) | (simp; omega)) (by decide)) ?_
      refine WD.one 2 (by kernel_rfl) ?_
      refine WS.eff rfl (by decide) (Eff.call 102 rfl Try.func35 nm_35 rfl rfl rfl (fun w hb hh => crc_Sum w ((RdH.take1 (RdH.old hx) (by omega)) w hb hh))) ?_
      rintro _ _ ⟨_, ⟨rfl, rfl⟩, rfl⟩
      refine ⟨(Sub.cons rfl (Sub.nil _)), ?_⟩
      refine WD.one 3 (by kernel_rfl) ?_
      refine WS.eff rfl (by decide) (Eff.call 111 rfl Try.func48 nm_48 rfl rfl rfl (fun w hb hh => sb_little w _)) ?_
      rintro _ _ ⟨_, ⟨rfl, rfl⟩, rfl⟩
      refine ⟨(Sub.cons rfl (Sub.nil _)), ?_⟩
      refine WD.take 8 rfl (by kernel_rfl) (by kernel_rfl) (by kernel_rfl) (by decide) (Yld.neqA (EqA.row8 eqg_66 und_66 und_5 siz_5 _ _ (by first | rfl | (simp; done) | (simp; omega)) (by first | rfl | (simp; done) | (simp; omega))) rfl rfl) ?_
      refine WD.take 9 rfl (by kernel_rfl) (by kernel_rfl) (by kernel_rfl) (by decide) (Yld.assign rfl) ?_
      refine WD.done (by kernel_rfl) (hK11 _ _ ?_)
      refine WC.cond rfl (fun hc14 => ?_) (fun hc14 => ?_)
      · skip
        have h3 : ¬ le4 (crcSum (xsx.take 12)) = (xsx.drop 12).take 4 := by first | exact hc14 | (have e := hc14; simp at e; exact e)
        have e0 := sdE_check (xs := xsx) (by omega) h2 h3
        obtain ⟨e1, e2, e3⟩ := sd_bad (xs := xsx) (by rw [e0]; decide)
        refine WC.seqRegion fun K15 hK15 => ?_
        refine WL.yld (by decide) (Yld.build rfl (built_37_ )) ?_
        refine WL.eff0 (Eff0.storeBAM 101 agg_37 rfl rfl rfl (by first | exact ⟨rfl, rfl⟩ | (constructor <;> simp [*])) (by first | rfl | exact all_one _)) ?_
        refine WL.yld (by decide) (Yld.assign rfl) ?_
        refine WL.done (hK15 _ _ ?_)
        refine WC.ret (QK.blockR (QK.thenR ?_))
        exact Ret.fn [] (ResIs.cellTmpM (k := 101) rfl agg_37 rfl rfl rfl rfl) rfl (by decide) ⟨by rw [e0, e1, e2, e3], rfl⟩
      · skip
        have h3 : le4 (crcSum (xsx.take 12)) = (xsx.drop 12).take 4 := by first | exact hc14 | (have e := hc14; simp at e; exact e)
        refine WC.skip ?_
        refine QK.blockN ?_
        refine QK.thenN (hK3 _ _ ?_)
        refine WC.seqRegionD (n := 12) [(101, _)] rfl mixed (Sub.cons rfl (Sub.nil _)) fun K17 hK17 => ?_
        refine WD.take 0 rfl (by kernel_rfl) (by kernel_rfl) (by kernel_rfl) (by decide) (Yld.move rfl) ?_
        refine WD.take 1 rfl (by kernel_rfl) (by kernel_rfl) (by kernel_rfl) (by decide) (Yld.sliceLH sty_23 rfl rfl rfl (by omega)) ?_
        refine WD.take 3 rfl (by kernel_rfl) (by kernel_rfl) (by kernel_rfl) (by decide) (Yld.move rfl) ?_
        refine WD.take 4 rfl (by kernel_rfl) (by kernel_rfl) (by kernel_rfl) (by decide) (Yld.sliceLH sty_23 rfl rfl rfl (by omega)) ?_
        refine WD.take 6 rfl (by kernel_rfl) (by kernel_rfl) (by kernel_rfl) (by decide) (Yld.move rfl) ?_
        refine WD.take 7 rfl (by kernel_rfl) (by kernel_rfl) (by kernel_rfl) (by decide) (Yld.sliceLH sty_23 rfl rfl rfl (by omega)) ?_
        refine WD.two 2 10 (by kernel_rfl) ?_ ?_
        · skip
          refine WS.eff rfl (by decide) (Eff.call 120 rfl Try.func54 nm_54 rfl rfl rfl (fun w hb hh => sb_number w ((RdH.cut1 (lo := 4) (hi := 6) (RdH.old hx) (by omega) (by omega)) w hb hh) (by first | omega | (simp; done) | decide))) ?_
          rintro _ _ ⟨_, ⟨rfl, rfl⟩, rfl⟩
          refine ⟨(Sub.cons rfl (Sub.nil _)), ?_⟩
          refine WD.new (v' := I64 (sfA xsx)) rfl ?_
          refine WD.two 5 10 (by kernel_rfl) ?_ ?_
          · skip
            refine WS.eff rfl (by decide) (Eff.call 129 rfl Try.func54 nm_54 rfl rfl rfl (fun w hb hh => sb_number w ((RdH.cut1 (lo := 6) (hi := 8) (RdH.old hx) (by omega) (by omega)) w hb hh) (by first | omega | (simp; done) | decide))) ?_
            rintro _ _ ⟨_, ⟨rfl, rfl⟩, rfl⟩
            refine ⟨(Sub.cons rfl (Sub.nil _)), ?_⟩
            refine WD.new (v' := I64 (sfB xsx)) rfl ?_
            refine WD.two 8 10 (by kernel_rfl) ?_ ?_
            · skip
              refine WS.eff rfl (by decide) (Eff.call 138 rfl Try.func54 nm_54 rfl rfl rfl (fun w hb hh => sb_number w ((RdH.cut1 (lo := 8) (hi := 12) (RdH.old hx) (by omega) (by omega)) w hb hh) (by first | omega | (simp; done) | decide))) ?_
              rintro _ _ ⟨_, ⟨rfl, rfl⟩, rfl⟩
              refine ⟨(Sub.cons rfl (Sub.nil _)), ?_⟩
              refine WD.new (v' := I64 (sfC xsx)) rfl ?_
              refine WD.take 9 rfl (by kernel_rfl) (by kernel_rfl) (by kernel_rfl) (by decide) (Yld.build rfl (built_37_0_1_2 _ _ _)) ?_
              refine WD.one 10 (by kernel_rfl) ?_
              refine WS.eff rfl (by decide) (Eff.alloc 147 rfl zer_37) ?_
              rintro _ _ ⟨g147, rfl, rfl⟩
              refine ⟨(Sub.cons rfl (Sub.nil _)), ?_⟩
              refine WD.one 11 (by kernel_rfl) ?_
              refine WS.eff0 rfl (Eff0.storeBAM 147 agg_37 rfl rfl rfl (by first | exact ⟨rfl, rfl⟩ | (constructor <;> simp [*])) (by first | rfl | exact all_one _)) (Sub.cons rfl (Sub.nil _)) ?_
              refine WD.done (by kernel_rfl) (hK17 _ _ ?_)
              refine WC.seq fun K22 hK22 => ?_
              refine WC.seqRegion fun K23 hK23 => ?_
              refine WL.yld (by decide) (Yld.loadBM (k := 147) agg_37 rfl rfl (by first | rfl | (simp [*]; done))) ?_
              refine WL.eff (by decide) (Eff.call 148 rfl Try.func31 nm_31 rfl rfl rfl (fun w hb hh => sb_Valid w _ _ _)) ?_
              rintro _ _ ⟨_, ⟨rfl, rfl⟩, rfl⟩
              refine WL.yld (by decide) (Yld.notB rfl) ?_
              refine WL.done (hK23 _ _ ?_)
              refine WC.cond rfl (fun hc25 => ?_) (fun hc25 => ?_)
              · skip
                have h4 : sv (sfA xsx) (sfB xsx) (sfC xsx) = false := by simpa using hc25
                have e0 := sdE_form2 (xs := xsx) (by omega) h2 h3 h4
                obtain ⟨e1, e2, e3⟩ := sd_bad (xs := xsx) (by rw [e0]; decide)
                refine WC.seqRegion fun K26 hK26 => ?_
                refine WL.yld (by decide) (Yld.build rfl (built_37_ )) ?_
                refine WL.eff0 (Eff0.storeBAM 101 agg_37 rfl rfl rfl (by first | exact ⟨rfl, rfl⟩ | (constructor <;> simp [*])) (by first | rfl | exact all_one _)) ?_
                refine WL.yld (by decide) (Yld.assign rfl) ?_
                refine WL.done (hK26 _ _ ?_)
                refine WC.ret (QK.thenR ?_)
                exact Ret.fn [] (ResIs.cellTmpM (k := 101) rfl agg_37 rfl rfl rfl rfl) rfl (by decide) ⟨by rw [e0, e1, e2, e3], rfl⟩
              · skip
                have h4 : sv (sfA xsx) (sfB xsx) (sfC xsx) = true := by simpa using hc25
                have e0 := sdE_ok (xs := xsx) (by omega) h2 h3 h4
                obtain ⟨e1, e2, e3⟩ := sd_good e0
                refine WC.skip ?_
                refine QK.thenN (hK22 _ _ ?_)
                refine WC.seqRegion fun K27 hK27 => ?_
                refine WL.yld (by decide) (Yld.loadBM (k := 147) agg_37 rfl rfl (by first | rfl | (simp [*]; done))) ?_
                refine WL.eff0 (Eff0.storeBAM 101 agg_37 rfl rfl rfl (by first | exact ⟨rfl, rfl⟩ | (constructor <;> simp [*])) (by first | rfl | exact all_one _)) ?_
                refine WL.yld (by decide) (Yld.assign rfl) ?_
                refine WL.done (hK27 _ _ ?_)
                refine WC.ret ?_
                exact Ret.fn [] (ResIs.cellTmpM (k := 101) rfl agg_37 rfl rfl rfl rfl) rfl (by decide) ⟨by rw [e0, e1, e2, e3], rfl⟩
            · skip
              refine WS.eff rfl (by decide) (Eff.alloc 157 rfl zer_37) ?_
              rintro _ _ ⟨g157, rfl, rfl⟩
              refine ⟨(Sub.cons rfl (Sub.nil _)), ?_⟩
              refine WD.one 8 (by kernel_rfl) ?_
              refine WS.eff rfl (by decide) (Eff.call 158 rfl Try.func54 nm_54 rfl rfl rfl (fun w hb hh => sb_number w ((RdH.cut1 (lo := 8) (hi := 12) (RdH.old hx) (by omega) (by omega)) w hb hh) (by first | omega | (simp; done) | decide))) ?_
              rintro _ _ ⟨_, ⟨rfl, rfl⟩, rfl⟩
              refine ⟨(Sub.cons rfl (Sub.nil _)), ?_⟩
              refine WD.new (v' := I64 (sfC xsx)) rfl ?_
              refine WD.take 9 rfl (by kernel_rfl) (by kernel_rfl) (by kernel_rfl) (by decide) (Yld.build rfl (built_37_0_1_2 _ _ _)) ?_
              refine WD.one 11 (by kernel_rfl) ?_
              refine WS.eff0 rfl (Eff0.storeBAM 157 agg_37 rfl rfl rfl (by first | exact ⟨rfl, rfl⟩ | (constructor <;> simp [*])) (by first | rfl | exact all_one _)) (Sub.cons rfl (Sub.nil _)) ?_
              refine WD.done (by kernel_rfl) (hK17 _ _ ?_)
              refine WC.seq fun K30 hK30 => ?_
              refine WC.seqRegion fun K31 hK31 => ?_
              refine WL.yld (by decide) (Yld.loadBM (k := 157) agg_37 rfl rfl (by first | rfl | (simp [*]; done))) ?_
              refine WL.eff (by decide) (Eff.call 167 rfl Try.func31 nm_31 rfl rfl rfl (fun w hb hh => sb_Valid w _ _ _)) ?_
              rintro _ _ ⟨_, ⟨rfl, rfl⟩, rfl⟩
              refine WL.yld (by decide) (Yld.notB rfl) ?_
              refine WL.done (hK31 _ _ ?_)
              refine WC.cond rfl (fun hc33 => ?_) (fun hc33 => ?_)
              · skip
                have h4 : sv (sfA xsx) (sfB xsx) (sfC xsx) = false := by simpa using hc33
                have e0 := sdE_form2 (xs := xsx) (by omega) h2 h3 h4
                obtain ⟨e1, e2, e3⟩ := sd_bad (xs := xsx) (by rw [e0]; decide)
                refine WC.seqRegion fun K34 hK34 => ?_
                refine WL.yld (by decide) (Yld.build rfl (built_37_ )) ?_
                refine WL.eff0 (Eff0.storeBAM 101 agg_37 rfl rfl rfl (by first | exact ⟨rfl, rfl⟩ | (constructor <;> simp [*])) (by first | rfl | exact all_one _)) ?_
                refine WL.yld (by decide) (Yld.assign rfl) ?_
                refine WL.done (hK34 _ _ ?_)
                refine WC.ret (QK.thenR ?_)
                exact Ret.fn [] (ResIs.cellTmpM (k := 101) rfl agg_37 rfl rfl rfl rfl) rfl (by decide) ⟨by rw [e0, e1, e2, e3], rfl⟩
              · skip
                have h4 : sv (sfA xsx) (sfB xsx) (sfC xsx) = true := by simpa using hc33
                have e0 := sdE_ok (xs := xsx) (by omega) h2 h3 h4
                obtain ⟨e1, e2, e3⟩ := sd_good e0
                refine WC.skip ?_
                refine QK.thenN (hK30 _ _ ?_)
                refine WC.seqRegion fun K35 hK35 => ?_
                refine WL.yld (by decide) (Yld.loadBM (k := 157) agg_37 rfl rfl (by first | rfl | (simp [*]; done))) ?_
                refine WL.eff0 (Eff0.storeBAM 101 agg_37 rfl rfl rfl (by first | exact ⟨rfl, rfl⟩ | (constructor <;> simp [*])) (by first | rfl | exact all_one _)) ?_
                refine WL.yld (by decide) (Yld.assign rfl) ?_
                refine WL.done (hK35 _ _ ?_)
                refine WC.ret ?_
                exact Ret.fn [] (ResIs.cellTmpM (k := 101) rfl agg_37 rfl rfl rfl rfl) rfl (by decide) ⟨by rw [e0, e1, e2, e3], rfl⟩
          · skip
            refine WS.eff rfl (by decide) (Eff.alloc 176 rfl zer_37) ?_
            rintro _ _ ⟨g176, rfl, rfl⟩
            refine ⟨(Sub.cons rfl (Sub.nil _)), ?_⟩
            refine WD.one 5 (by kernel_rfl) ?_
            refine WS.eff rfl (by decide) (Eff.call 177 rfl Try.func54 nm_54 rfl rfl rfl (fun w hb hh => sb_number w ((RdH.cut1 (lo := 6) (hi := 8) (RdH.old hx) (by omega) (by omega)) w hb hh) (by first | omega | (simp; done) | decide))) ?_
            rintro _ _ ⟨_, ⟨rfl, rfl⟩, rfl⟩
            refine ⟨(Sub.cons rfl (Sub.nil _)), ?_⟩
            refine WD.new (v' := I64 (sfB xsx)) rfl ?_
            refine WD.one 8 (by kernel_rfl) ?_
            refine WS.eff rfl (by decide) (Eff.call 186 rfl Try.func54 nm_54 rfl rfl rfl (fun w hb hh => sb_number w ((RdH.cut1 (lo := 8) (hi := 12) (RdH.old hx) (by omega) (by omega)) w hb hh) (by first | omega | (simp; done) | decide))) ?_
            rintro _ _ ⟨_, ⟨rfl, rfl⟩, rfl⟩
            refine ⟨(Sub.cons rfl (Sub.nil _)), ?_⟩
            refine WD.new (v' := I64 (sfC xsx)) rfl ?_
            refine WD.take 9 rfl (by kernel_rfl) (by kernel_rfl) (by kernel_rfl) (by decide) (Yld.build rfl (built_37_0_1_2 _ _ _)) ?_
            refine WD.one 11 (by kernel_rfl) ?_
            refine WS.eff0 rfl (Eff0.storeBAM 176 agg_37 rfl rfl rfl (by first | exact ⟨rfl, rfl⟩ | (constructor <;> simp [*])) (by first | rfl | exact all_one _)) (Sub.cons rfl (Sub.nil _)) ?_
            refine WD.done (by kernel_rfl) (hK17 _ _ ?_)
            refine WC.seq fun K39 hK39 => ?_
            refine WC.seqRegion fun K40 hK40 => ?_
            refine WL.yld (by decide) (Yld.loadBM (k := 176) agg_37 rfl rfl (by first | rfl | (simp [*]; done))) ?_
            refine WL.eff (by decide) (Eff.call 195 rfl Try.func31 nm_31 rfl rfl rfl (fun w hb hh => sb_Valid w _ _ _)) ?_
            rintro _ _ ⟨_, ⟨rfl, rfl⟩, rfl⟩
            refine WL.yld (by decide) (Yld.notB rfl) ?_
            refine WL.done (hK40 _ _ ?_)
            refine WC.cond rfl (fun hc42 => ?_) (fun hc42 => ?_)
            · skip
              have h4 : sv (sfA xsx) (sfB xsx) (sfC xsx) = false := by simpa using hc42
              have e0 := sdE_form2 (xs := xsx) (by omega) h2 h3 h4
              obtain ⟨e1, e2, e3⟩ := sd_bad (xs := xsx) (by rw [e0]; decide)
              refine WC.seqRegion fun K43 hK43 => ?_
              refine WL.yld (by decide) (Yld.build rfl (built_37_ )) ?_
              refine WL.eff0 (Eff0.storeBAM 101 agg_37 rfl rfl rfl (by first | exact ⟨rfl, rfl⟩ | (constructor <;> simp [*])) (by first | rfl | exact all_one _)) ?_
              refine WL.yld (by decide) (Yld.assign rfl) ?_
              refine WL.done (hK43 _ _ ?_)
              refine WC.ret (QK.thenR ?_)
              exact Ret.fn [] (ResIs.cellTmpM (k := 101) rfl agg_37 rfl rfl rfl rfl) rfl (by decide) ⟨by rw [e0, e1, e2, e3], rfl⟩
            · skip
              have h4 : sv (sfA xsx) (sfB xsx) (sfC xsx) = true := by simpa using hc42
              have e0 := sdE_ok (xs := xsx) (by omega) h2 h3 h4
              obtain ⟨e1, e2, e3⟩ := sd_good e0
              refine WC.skip ?_
              refine QK.thenN (hK39 _ _ ?_)
              refine WC.seqRegion fun K44 hK44 => ?_
              refine WL.yld (by decide) (Yld.loadBM (k := 176) agg_37 rfl rfl (by first | rfl | (simp [*]; done))) ?_
              refine WL.eff0 (Eff0.storeBAM 101 agg_37 rfl rfl rfl (by first | exact ⟨rfl, rfl⟩ | (constructor <;> simp [*])) (by first | rfl | exact all_one _)) ?_
              refine WL.yld (by decide) (Yld.assign rfl) ?_
              refine WL.done (hK44 _ _ ?_)
              refine WC.ret ?_
              exact Ret.fn [] (ResIs.cellTmpM (k := 101) rfl agg_37 rfl rfl rfl rfl) rfl (by decide) ⟨by rw [e0, e1, e2, e3], rfl⟩
        · skip
          refine WS.eff rfl (by decide) (Eff.alloc 204 rfl zer_37) ?_
          rintro _ _ ⟨g204, rfl, rfl⟩
          refine ⟨(Sub.cons rfl (Sub.nil _)), ?_⟩
          refine WD.one 2 (by kernel_rfl) ?_
          refine WS.eff rfl (by decide) (Eff.call 205 rfl Try.func54 nm_54 rfl rfl rfl (fun w hb hh => sb_number w ((RdH.cut1 (lo := 4) (hi := 6) (RdH.old hx) (by omega) (by omega)) w hb hh) (by first | omega | (simp; done) | decide))) ?_
          rintro _ _ ⟨_, ⟨rfl, rfl⟩, rfl⟩
          refine ⟨(Sub.cons rfl (Sub.nil _)), ?_⟩
          refine WD.new (v' := I64 (sfA xsx)) rfl ?_
          refine WD.one 5 (by kernel_rfl) ?_
          refine WS.eff rfl (by decide) (Eff.call 214 rfl Try.func54 nm_54 rfl rfl rfl (fun w hb hh => sb_number w ((RdH.cut1 (lo := 6) (hi := 8) (RdH.old hx) (by omega) (by omega)) w hb hh) (by first | omega | (simp; done) | decide))) ?_
          rintro _ _ ⟨_, ⟨rfl, rfl⟩, rfl⟩
          refine ⟨(Sub.cons rfl (Sub.nil _)), ?_⟩
          refine WD.new (v' := I64 (sfB xsx)) rfl ?_
          refine WD.one 8 (by kernel_rfl) ?_
          refine WS.eff rfl (by decide) (Eff.call 223 rfl Try.func54 nm_54 rfl rfl rfl (fun w hb hh => sb_number w ((RdH.cut1 (lo := 8) (hi := 12) (RdH.old hx) (by omega) (by omega)) w hb hh) (by first | omega | (simp; done) | decide))) ?_
          rintro _ _ ⟨_, ⟨rfl, rfl⟩, rfl⟩
          refine ⟨(Sub.cons rfl (Sub.nil _)), ?_⟩
          refine WD.new (v' := I64 (sfC xsx)) rfl ?_
          refine WD.take 9 rfl (by kernel_rfl) (by kernel_rfl) (by kernel_rfl) (by decide) (Yld.build rfl (built_37_0_1_2 _ _ _)) ?_
          refine WD.one 11 (by kernel_rfl) ?_
          refine WS.eff0 rfl (Eff0.storeBAM 204 agg_37 rfl rfl rfl (by first | exact ⟨rfl, rfl⟩ | (constructor <;> simp [*])) (by first | rfl | exact all_one _)) (Sub.cons rfl (Sub.nil _)) ?_
          refine WD.done (by kernel_rfl) (hK17 _ _ ?_)
          refine WC.seq fun K49 hK49 => ?_
          refine WC.seqRegion fun K50 hK50 => ?_
          refine WL.yld (by decide) (Yld.loadBM (k := 204) agg_37 rfl rfl (by first | rfl | (simp [*]; done))) ?_
          refine WL.eff (by decide) (Eff.call 232 rfl Try.func31 nm_31 rfl rfl rfl (fun w hb hh => sb_Valid w _ _ _)) ?_
          rintro _ _ ⟨_, ⟨rfl, rfl⟩, rfl⟩
          refine WL.yld (by decide) (Yld.notB rfl) ?_
          refine WL.done (hK50 _ _ ?_)
          refine WC.cond rfl (fun hc52 => ?_) (fun hc52 => ?_)
          · skip
            have h4 : sv (sfA xsx) (sfB xsx) (sfC xsx) = false := by simpa using hc52
            have e0 := sdE_form2 (xs := xsx) (by omega) h2 h3 h4
            obtain ⟨e1, e2, e3⟩ := sd_bad (xs := xsx) (by rw [e0]; decide)
            refine WC.seqRegion fun K53 hK53 => ?_
            refine WL.yld (by decide) (Yld.build rfl (built_37_ )) ?_
            refine WL.eff0 (Eff0.storeBAM 101 agg_37 rfl rfl rfl (by first | exact ⟨rfl, rfl⟩ | (constructor <;> simp [*])) (by first | rfl | exact all_one _)) ?_
            refine WL.yld (by decide) (Yld.assign rfl) ?_
            refine WL.done (hK53 _ _ ?_)
            refine WC.ret (QK.thenR ?_)
            exact Ret.fn [] (ResIs.cellTmpM (k := 101) rfl agg_37 rfl rfl rfl rfl) rfl (by decide) ⟨by rw [e0, e1, e2, e3], rfl⟩
          · skip
            have h4 : sv (sfA xsx) (sfB xsx) (sfC xsx) = true := by simpa using hc52
            have e0 := sdE_ok (xs := xsx) (by omega) h2 h3 h4
            obtain ⟨e1, e2, e3⟩ := sd_good e0
            refine WC.skip ?_
            refine QK.thenN (hK49 _ _ ?_)
            refine WC.seqRegion fun K54 hK54 => ?_
            refine WL.yld (by decide) (Yld.loadBM (k := 204) agg_37 rfl rfl (by first | rfl | (simp [*]; done))) ?_
            refine WL.eff0 (Eff0.storeBAM 101 agg_37 rfl rfl rfl (by first | exact ⟨rfl, rfl⟩ | (constructor <;> simp [*])) (by first | rfl | exact all_one _)) ?_
            refine WL.yld (by decide) (Yld.assign rfl) ?_
            refine WL.done (hK54 _ _ ?_)
            refine WC.ret ?_
            exact Ret.fn [] (ResIs.cellTmpM (k := 101) rfl agg_37 rfl rfl rfl rfl) rfl (by decide) ⟨by rw [e0, e1, e2, e3], rfl⟩

set_option maxRecDepth 10000 in
theorem r07_Decode (w : World) {Ax : Option Addr} {nx cx : Nat} {xsx : List (BitVec 8)} (hx : SlR w 1 Ax nx cx (xsx.map U8)) :
    Fn Try.prog 44 #[.slice Ax nx cx] w fun r es => r = .tuple #[.agg #[I64 (sdA xsx), I64 (sdB xsx), I64 (sdC xsx)], I64 (sdE xsx)] ∧ es = [] := by
  have hlx := hx.len1
  have hcmx := hx.cm
  have hlex := hx.le
  unfold maxLen at hcmx
  refine Fn.intro (N := 41) Try.func44 rfl rfl (Nat.le_of_ble_eq_true rfl) ?_
  refine WC.seqRegion fun K1 hK1 => ?_
  refine WL.eff (by decide) (Eff.alloc 101 rfl zer_37) ?_
  rintro _ _ ⟨g101, rfl, rfl⟩
  refine WL.yld (by decide) (Yld.assign rfl) ?_
  refine WL.done (hK1 _ _ ?_)
  refine WC.seq fun K3 hK3 => ?_
  refine WC.seqRegion fun K4 hK4 => ?_
  refine WL.yld (by decide) (Yld.move rfl) ?_
  refine WL.yld (by decide) (Yld.len und_23 rfl) ?_
  refine WL.yld (by decide) (Yld.lss rfl rfl) ?_
  refine WL.done (hK4 _ _ ?_)
  refine WC.cond rfl (fun hc5 => ?_) (fun hc5 => ?_)
  · replace hc5 := of_decide_eq_true hc5
    have e0 := sdE_short (xs := xsx) (by omega)
    obtain ⟨e1, e2, e3⟩ := sd_bad (xs := xsx) (by rw [e0]; decide)
    refine WC.seqRegion fun K6 hK6 => ?_
    refine WL.yld (by decide) (Yld.build rfl (built_37_ )) ?_
    refine WL.eff0 (Eff0.storeBAM 101 agg_37 rfl rfl rfl (by first | exact ⟨rfl, rfl⟩ | (constructor <;> simp [*])) (by first | rfl | exact all_one _)) ?_
    refine WL.yld (by decide) (Yld.assign rfl) ?_
    refine WL.done (hK6 _ _ ?_)
    refine WC.ret (QK.thenR ?_)
    exact Ret.fn [] (ResIs.cellTmpM (k := 101) rfl agg_37 rfl rfl rfl rfl) rfl (by decide) ⟨by rw [e0, e1, e2, e3], rfl⟩
  · replace hc5 := of_decide_eq_false hc5
    refine WC.skip ?_
    refine QK.thenN (hK3 _ _ ?_)
    refine WC.seq fun K7 hK7 => ?_
    refine WC.seqRegion fun K8 hK8 => ?_
    refine WL.yld (by decide) (Yld.move rfl) ?_
    refine WL.yld (by decide) (Yld.sliceH sty_23 rfl rfl (by omega)) ?_
    refine WL.yld (by decide) (Yld.b2s und_23 und_5 und_9 rfl (RdH.take1 (RdH.old hx) (by omega))) ?_
    refine WL.yld (by decide) (Yld.neqStr (b := [78#8, 86#8, 79#8, 76#8]) rfl rfl) ?_
    refine WL.done (hK8 _ _ ?_)
    refine WC.cond rfl (fun hc9 => ?_) (fun hc9 => ?_)
    · replace hc9 := neq_str_t hc9
      have h2 : ¬ xsx.take 4 = smagic := hc9
      have e0 := sdE_form (xs := xsx) (by omega) h2
      obtain ⟨e1, e2, e3⟩ := sd_bad (xs := xsx) (by rw [e0]; decide)
      refine WC.seqRegion fun K10 hK10 => ?_
      refine WL.yld (by decide) (Yld.build rfl (built_37_ )) ?_
      refine WL.eff0 (Eff0.storeBAM 101 agg_37 rfl rfl rfl (by first | exact ⟨rfl, rfl⟩ | (constructor <;> simp [*])) (by first | rfl | exact all_one _)) ?_
      refine WL.yld (by decide) (Yld.assign rfl) ?_
      refine WL.done (hK10 _ _ ?_)
      refine WC.ret (QK.thenR ?_)
      exact Ret.fn [] (ResIs.cellTmpM (k := 101) rfl agg_37 rfl rfl rfl rfl) rfl (by decide) ⟨by rw [e0, e1, e2, e3], rfl⟩
    · replace hc9 := neq_str_f hc9
      have h2 : xsx.take 4 = smagic := hc9
      refine WC.skip ?_
      refine QK.thenN (hK7 _ _ ?_)
      refine WC.seq fun K11 hK11 => ?_
      refine WC.seqRegionD (n := 8) [(101, _)] rfl mixed (Sub.cons rfl (Sub.nil _)) fun K13 hK13 => ?_
      refine WD.take 0 rfl (by kernel_rfl) (by kernel_rfl) (by kernel_rfl) (by decide) (Yld.move rfl) ?_
      refine WD.take 1 rfl (by kernel_rfl) (by kernel_rfl) (by kernel_rfl) (by decide) (Yld.sliceH sty_23 rfl rfl (by omega)) ?_
      refine WD.take 4 rfl (by kernel_rfl) (by kernel_rfl) (by kernel_rfl) (by decide) (Yld.move rfl) ?_
      refine WD.take 5 rfl (by kernel_rfl) (by kernel_rfl) (by kernel_rfl) (by decide) (Yld.sliceLH sty_23 rfl rfl rfl (by omega)) ?_
      refine WD.take 6 rfl (by kernel_rfl) (by kernel_rfl) (by kernel_rfl) (by decide) (Yld.b2s und_23 und_5 und_9 rfl (RdH.cut1 (lo := 12) (hi := 16) (RdH.old hx) (by omega) (by omega))) ?_
      refine WD.one 2 (by kernel_rfl) ?_
      refine WS.eff rfl (by decide) (Eff.call 102 rfl Try.func42 nm_42 rfl rfl rfl (fun w hb hh => r06_Check w ((RdH.take1 (RdH.old hx) (by omega)) w hb hh))) ?_
      rintro _ _ ⟨_, ⟨A14, c14, rfl, rfl⟩, rfl⟩
      refine ⟨(Sub.cons rfl (Sub.nil _)), ?_⟩
      refine WD.one 3 (by kernel_rfl) ?_
      refine WS.yld rfl (by decide) (Yld.b2s und_23 und_5 und_9 rfl (RdH.own (k := 102) rfl)) ?_
      refine WD.take 7 rfl (by kernel_rfl) (by kernel_rfl) (by kernel_rfl) (by decide) (Yld.neqStr rfl rfl) ?_
      refine WD.done (by kernel_rfl) (hK13 _ _ ?_)
      refine WC.cond rfl (fun hc15 => ?_) (fun hc15 => ?_)
      · replace hc15 := neq_str_t hc15
        have h3 : ¬ le4 (crcSum (xsx.take 12)) = (xsx.drop 12).take 4 := by first | exact hc15 | (have e := hc15; simp at e; exact e)
        have e0 := sdE_check (xs := xsx) (by omega) h2 h3
        obtain ⟨e1, e2, e3⟩ := sd_bad (xs := xsx) (by rw [e0]; decide)
        refine WC.seqRegion fun K16 hK16 => ?_
        refine WL.yld (by decide) (Yld.build rfl (built_37_ )) ?_
        refine WL.eff0 (Eff0.storeBAM 101 agg_37 rfl rfl rfl (by first | exact ⟨rfl, rfl⟩ | (constructor <;> simp [*])) (by first | rfl | exact all_one _)) ?_
        refine WL.yld (by decide) (Yld.assign rfl) ?_
        refine WL.done (hK16 _ _ ?_)
        refine WC.ret (QK.thenR ?_)
        exact Ret.fn [] (ResIs.cellTmpM (k := 101) rfl agg_37 rfl rfl rfl rfl) rfl (by decide) ⟨by rw [e0, e1, e2, e3], rfl⟩
      · replace hc15 := neq_str_f hc15
        have h3 : le4 (crcSum (xsx.take 12)) = (xsx.drop 12).take 4 := by first | exact hc15 | (have e := hc15; simp at e; exact e)
        refine WC.skip ?_
        refine QK.thenN (hK11 _ _ ?_)
        refine WC.seqRegionD (n := 15) [(101, _), (102, _)] rfl mixed (Sub.cons rfl (Sub.cons rfl (Sub.nil _))) fun K18 hK18 => ?_
        refine WD.take 0 rfl (by kernel_rfl) (by kernel_rfl) (by kernel_rfl) (by decide) (Yld.move rfl) ?_
        refine WD.take 1 rfl (by kernel_rfl) (by kernel_rfl) (by kernel_rfl) (by decide) (Yld.sliceLH sty_23 rfl rfl rfl (by omega)) ?_
        refine WD.take 4 rfl (by kernel_rfl) (by kernel_rfl) (by kernel_rfl) (by decide) (Yld.move rfl) ?_
        refine WD.take 5 rfl (by kernel_rfl) (by kernel_rfl) (by kernel_rfl) (by decide) (Yld.sliceLH sty_23 rfl rfl rfl (by omega)) ?_
        refine WD.take 8 rfl (by kernel_rfl) (by kernel_rfl) (by kernel_rfl) (by decide) (Yld.move rfl) ?_
        refine WD.take 9 rfl (by kernel_rfl) (by kernel_rfl) (by kernel_rfl) (by decide) (Yld.sliceLH sty_23 rfl rfl rfl (by omega)) ?_
        refine WD.two 2 13 (by kernel_rfl) ?_ ?_
        · skip
          refine WS.eff rfl (by decide) (Eff.call 111 rfl Try.func46 nm_46 rfl rfl rfl (fun w hb hh => r06_Value w ((RdH.cut1 (lo := 4) (hi := 6) (RdH.old hx) (by omega) (by omega)) w hb hh))) ?_
          rintro _ _ ⟨_, ⟨rfl, rfl⟩, rfl⟩
          refine ⟨(Sub.cons rfl (Sub.cons rfl (Sub.nil _))), ?_⟩
          refine WD.take 3 rfl (by kernel_rfl) (by kernel_rfl) (by kernel_rfl) (by decide) (Yld.conv_u64_i64 some_63 und_3 rfl) ?_
          refine WD.new (v' := I64 (sfA xsx)) (congrArg I64 (val_int _ (by simp; omega))) ?_
          refine WD.two 6 13 (by kernel_rfl) ?_ ?_
          · skip
            refine WS.eff rfl (by decide) (Eff.call 120 rfl Try.func46 nm_46 rfl rfl rfl (fun w hb hh => r06_Value w ((RdH.cut1 (lo := 6) (hi := 8) (RdH.old hx) (by omega) (by omega)) w hb hh))) ?_
            rintro _ _ ⟨_, ⟨rfl, rfl⟩, rfl⟩
            refine ⟨(Sub.cons rfl (Sub.cons rfl (Sub.nil _))), ?_⟩
            refine WD.take 7 rfl (by kernel_rfl) (by kernel_rfl) (by kernel_rfl) (by decide) (Yld.conv_u64_i64 some_63 und_3 rfl) ?_
            refine WD.new (v' := I64 (sfB xsx)) (congrArg I64 (val_int _ (by simp; omega))) ?_
            refine WD.two 10 13 (by kernel_rfl) ?_ ?_
            · skip
              refine WS.eff rfl (by decide) (Eff.call 129 rfl Try.func46 nm_46 rfl rfl rfl (fun w hb hh => r06_Value w ((RdH.cut1 (lo := 8) (hi := 12) (RdH.old hx) (by omega) (by omega)) w hb hh))) ?_
              rintro _ _ ⟨_, ⟨rfl, rfl⟩, rfl⟩
              refine ⟨(Sub.cons rfl (Sub.cons rfl (Sub.nil _))), ?_⟩
              refine WD.take 11 rfl (by kernel_rfl) (by kernel_rfl) (by kernel_rfl) (by decide) (Yld.conv_u64_i64 some_63 und_2 rfl) ?_
              refine WD.new (v' := I64 (sfC xsx)) (congrArg I64 (val_int _ (by simp; omega))) ?_
              refine WD.take 12 rfl (by kernel_rfl) (by kernel_rfl) (by kernel_rfl) (by decide) (Yld.build rfl (built_37_0_1_2 _ _ _)) ?_
              refine WD.one 13 (by kernel_rfl) ?_
              refine WS.eff rfl (by decide) (Eff.alloc 138 rfl zer_37) ?_
              rintro _ _ ⟨g138, rfl, rfl⟩
              refine ⟨(Sub.cons rfl (Sub.cons rfl (Sub.nil _))), ?_⟩
              refine WD.one 14 (by kernel_rfl) ?_
              refine WS.eff0 rfl (Eff0.storeBAM 138 agg_37 rfl rfl rfl (by first | exact ⟨rfl, rfl⟩ | (constructor <;> simp [*])) (by first | rfl | exact all_one _)) (Sub.cons rfl (Sub.cons rfl (Sub.nil _))) ?_
              refine WD.done (by kernel_rfl) (hK18 _ _ ?_)
              refine WC.seq fun K23 hK23 => ?_
              refine WC.seqRegion fun K24 hK24 => ?_
              refine WL.yld (by decide) (Yld.loadBM (k := 138) agg_37 rfl rfl (by first | rfl | (simp [*]; done))) ?_
              refine WL.eff (by decide) (Eff.call 139 rfl Try.func32 nm_32 rfl rfl rfl (fun w hb hh => r07_Valid w _ _ _)) ?_
              rintro _ _ ⟨_, ⟨rfl, rfl⟩, rfl⟩
              refine WL.yld (by decide) (Yld.notB rfl) ?_
              refine WL.done (hK24 _ _ ?_)
              refine WC.cond rfl (fun hc26 => ?_) (fun hc26 => ?_)
              · skip
                have h4 : sv (sfA xsx) (sfB xsx) (sfC xsx) = false := by simpa using hc26
                have e0 := sdE_form2 (xs := xsx) (by omega) h2 h3 h4
                obtain ⟨e1, e2, e3⟩ := sd_bad (xs := xsx) (by rw [e0]; decide)
                refine WC.seqRegion fun K27 hK27 => ?_
                refine WL.yld (by decide) (Yld.build rfl (built_37_ )) ?_
                refine WL.eff0 (Eff0.storeBAM 101 agg_37 rfl rfl rfl (by first | exact ⟨rfl, rfl⟩ | (constructor <;> simp [*])) (by first | rfl | exact all_one _)) ?_
                refine WL.yld (by decide) (Yld.assign rfl) ?_
                refine WL.done (hK27 _ _ ?_)
                refine WC.ret (QK.thenR ?_)
                exact Ret.fn [] (ResIs.cellTmpM (k := 101) rfl agg_37 rfl rfl rfl rfl) rfl (by decide) ⟨by rw [e0, e1, e2, e3], rfl⟩
              · skip
                have h4 : sv (sfA xsx) (sfB xsx) (sfC xsx) = true := by simpa using hc26
                have e0 := sdE_ok (xs := xsx) (by omega) h2 h3 h4
                obtain ⟨e1, e2, e3⟩ := sd_good e0
                refine WC.skip ?_
                refine QK.thenN (hK23 _ _ ?_)
                refine WC.seqRegion fun K28 hK28 => ?_
                refine WL.yld (by decide) (Yld.loadBM (k := 138) agg_37 rfl rfl (by first | rfl | (simp [*]; done))) ?_
                refine WL.eff0 (Eff0.storeBAM 101 agg_37 rfl rfl rfl (by first | exact ⟨rfl, rfl⟩ | (constructor <;> simp [*])) (by first | rfl | exact all_one _)) ?_
                refine WL.yld (by decide) (Yld.assign rfl) ?_
                refine WL.done (hK28 _ _ ?_)
                refine WC.ret ?_
                exact Ret.fn [] (ResIs.cellTmpM (k := 101) rfl agg_37 rfl rfl rfl rfl) rfl (by decide) ⟨by rw [e0, e1, e2, e3], rfl⟩
            · skip
              refine WS.eff rfl (by decide) (Eff.alloc 148 rfl zer_37) ?_
              rintro _ _ ⟨g148, rfl, rfl⟩
              refine ⟨(Sub.cons rfl (Sub.cons rfl (Sub.nil _))), ?_⟩
              refine WD.one 10 (by kernel_rfl) ?_
              refine WS.eff rfl (by decide) (Eff.call 149 rfl Try.func46 nm_46 rfl rfl rfl (fun w hb hh => r06_Value w ((RdH.cut1 (lo := 8) (hi := 12) (RdH.old hx) (by omega) (by omega)) w hb hh))) ?_
              rintro _ _ ⟨_, ⟨rfl, rfl⟩, rfl⟩
              refine ⟨(Sub.cons rfl (Sub.cons rfl (Sub.nil _))), ?_⟩
              refine WD.take 11 rfl (by kernel_rfl) (by kernel_rfl) (by kernel_rfl) (by decide) (Yld.conv_u64_i64 some_63 und_2 rfl) ?_
              refine WD.new (v' := I64 (sfC xsx)) (congrArg I64 (val_int _ (by simp; omega))) ?_
              refine WD.take 12 rfl (by kernel_rfl) (by kernel_rfl) (by kernel_rfl) (by decide) (Yld.build rfl (built_37_0_1_2 _ _ _)) ?_
              refine WD.one 14 (by kernel_rfl) ?_
              refine WS.eff0 rfl (Eff0.storeBAM 148 agg_37 rfl rfl rfl (by first | exact ⟨rfl, rfl⟩ | (constructor <;> simp [*])) (by first | rfl | exact all_one _)) (Sub.cons rfl (Sub.cons rfl (Sub.nil _))) ?_
              refine WD.done (by kernel_rfl) (hK18 _ _ ?_)
              refine WC.seq fun K31 hK31 => ?_
              refine WC.seqRegion fun K32 hK32 => ?_
              refine WL.yld (by decide) (Yld.loadBM (k := 148) agg_37 rfl rfl (by first | rfl | (simp [*]; done))) ?_
              refine WL.eff (by decide) (Eff.call 158 rfl Try.func32 nm_32 rfl rfl rfl (fun w hb hh => r07_Valid w _ _ _)) ?_
              rintro _ _ ⟨_, ⟨rfl, rfl⟩, rfl⟩
              refine WL.yld (by decide) (Yld.notB rfl) ?_
              refine WL.done (hK32 _ _ ?_)
              refine WC.cond rfl (fun hc34 => ?_) (fun hc34 => ?_)
              · skip
                have h4 : sv (sfA xsx) (sfB xsx) (sfC xsx) = false := by simpa using hc34
                have e0 := sdE_form2 (xs := xsx) (by omega) h2 h3 h4
                obtain ⟨e1, e2, e3⟩ := sd_bad (xs := xsx) (by rw [e0]; decide)
                refine WC.seqRegion fun K35 hK35 => ?_
                refine WL.yld (by decide) (Yld.build rfl (built_37_ )) ?_
                refine WL.eff0 (Eff0.storeBAM 101 agg_37 rfl rfl rfl (by first | exact ⟨rfl, rfl⟩ | (constructor <;> simp [*])) (by first | rfl | exact all_one _)) ?_
                refine WL.yld (by decide) (Yld.assign rfl) ?_
                refine WL.done (hK35 _ _ ?_)
                refine WC.ret (QK.thenR ?_)
                exact Ret.fn [] (ResIs.cellTmpM (k := 101) rfl agg_37 rfl rfl rfl rfl) rfl (by decide) ⟨by rw [e0, e1, e2, e3], rfl⟩
              · skip
                have h4 : sv (sfA xsx) (sfB xsx) (sfC xsx) = true := by simpa using hc34
                have e0 := sdE_ok (xs := xsx) (by omega) h2 h3 h4
                obtain ⟨e1, e2, e3⟩ := sd_good e0
                refine WC.skip ?_
                refine QK.thenN (hK31 _ _ ?_)
                refine WC.seqRegion fun K36 hK36 => ?_
                refine WL.yld (by decide) (Yld.loadBM (k := 148) agg_37 rfl rfl (by first | rfl | (simp [*]; done))) ?_
                refine WL.eff0 (Eff0.storeBAM 101 agg_37 rfl rfl rfl (by first | exact ⟨rfl, rfl⟩ | (constructor <;> simp [*])) (by first | rfl | exact all_one _)) ?_
                refine WL.yld (by decide) (Yld.assign rfl) ?_
                refine WL.done (hK36 _ _ ?_)
                refine WC.ret ?_
                exact Ret.fn [] (ResIs.cellTmpM (k := 101) rfl agg_37 rfl rfl rfl rfl) rfl (by decide) ⟨by rw [e0, e1, e2, e3], rfl⟩
          · skip
            refine WS.eff rfl (by decide) (Eff.alloc 167 rfl zer_37) ?_
            rintro _ _ ⟨g167, rfl, rfl⟩
            refine ⟨(Sub.cons rfl (Sub.cons rfl (Sub.nil _))), ?_⟩
            refine WD.one 6 (by kernel_rfl) ?_
            refine WS.eff rfl (by decide) (Eff.call 168 rfl Try.func46 nm_46 rfl rfl rfl (fun w hb hh => r06_Value w ((RdH.cut1 (lo := 6) (hi := 8) (RdH.old hx) (by omega) (by omega)) w hb hh))) ?_
            rintro _ _ ⟨_, ⟨rfl, rfl⟩, rfl⟩
            refine ⟨(Sub.cons rfl (Sub.cons rfl (Sub.nil _))), ?_⟩
            refine WD.take 7 rfl (by kernel_rfl) (by kernel_rfl) (by kernel_rfl) (by decide) (Yld.conv_u64_i64 some_63 und_3 rfl) ?_
            refine WD.new (v' := I64 (sfB xsx)) (congrArg I64 (val_int _ (by simp; omega))) ?_
            refine WD.one 10 (by kernel_rfl) ?_
            refine WS.eff rfl (by decide) (Eff.call 177 rfl Try.func46 nm_46 rfl rfl rfl (fun w hb hh => r06_Value w ((RdH.cut1 (lo := 8) (hi := 12) (RdH.old hx) (by omega) (by omega)) w hb hh))) ?_
            rintro _ _ ⟨_, ⟨rfl, rfl⟩, rfl⟩
            refine ⟨(Sub.cons rfl (Sub.cons rfl (Sub.nil _))), ?_⟩
            refine WD.take 11 rfl (by kernel_rfl) (by kernel_rfl) (by kernel_rfl) (by decide) (Yld.conv_u64_i64 some_63 und_2 rfl) ?_
            refine WD.new (v' := I64 (sfC xsx)) (congrArg I64 (val_int _ (by simp; omega))) ?_
            refine WD.take 12 rfl (by kernel_rfl) (by kernel_rfl) (by kernel_rfl) (by decide) (Yld.build rfl (built_37_0_1_2 _ _ _)) ?_
            refine WD.one 14 (by kernel_rfl) ?_
            refine WS.eff0 rfl (Eff0.storeBAM 167 agg_37 rfl rfl rfl (by first | exact ⟨rfl, rfl⟩ | (constructor <;> simp [*])) (by first | rfl | exact all_one _)) (Sub.cons rfl (Sub.cons rfl (Sub.nil _))) ?_
            refine WD.done (by kernel_rfl) (hK18 _ _ ?_)
            refine WC.seq fun K40 hK40 => ?_
            refine WC.seqRegion fun K41 hK41 => ?_
            refine WL.yld (by decide) (Yld.loadBM (k := 167) agg_37 rfl rfl (by first | rfl | (simp [*]; done))) ?_
            refine WL.eff (by decide) (Eff.call 186 rfl Try.func32 nm_32 rfl rfl rfl (fun w hb hh => r07_Valid w _ _ _)) ?_
            rintro _ _ ⟨_, ⟨rfl, rfl⟩, rfl⟩
            refine WL.yld (by decide) (Yld.notB rfl) ?_
            refine WL.done (hK41 _ _ ?_)
            refine WC.cond rfl (fun hc43 => ?_) (fun hc43 => ?_)
            · skip
              have h4 : sv (sfA xsx) (sfB xsx) (sfC xsx) = false := by simpa using hc43
              have e0 := sdE_form2 (xs := xsx) (by omega) h2 h3 h4
              obtain ⟨e1, e2, e3⟩ := sd_bad (xs := xsx) (by rw [e0]; decide)
              refine WC.seqRegion fun K44 hK44 => ?_
              refine WL.yld (by decide) (Yld.build rfl (built_37_ )) ?_
              refine WL.eff0 (Eff0.storeBAM 101 agg_37 rfl rfl rfl (by first | exact ⟨rfl, rfl⟩ | (constructor <;> simp [*])) (by first | rfl | exact all_one _)) ?_
              refine WL.yld (by decide) (Yld.assign rfl) ?_
              refine WL.done (hK44 _ _ ?_)
              refine WC.ret (QK.thenR ?_)
              exact Ret.fn [] (ResIs.cellTmpM (k := 101) rfl agg_37 rfl rfl rfl rfl) rfl (by decide) ⟨by rw [e0, e1, e2, e3], rfl⟩
            · skip
              have h4 : sv (sfA xsx) (sfB xsx) (sfC xsx) = true := by simpa using hc43
              have e0 := sdE_ok (xs := xsx) (by omega) h2 h3 h4
              obtain ⟨e1, e2, e3⟩ := sd_good e0
              refine WC.skip ?_
              refine QK.thenN (hK40 _ _ ?_)
              refine WC.seqRegion fun K45 hK45 => ?_
              refine WL.yld (by decide) (Yld.loadBM (k := 167) agg_37 rfl rfl (by first | rfl | (simp [*]; done))) ?_
              refine WL.eff0 (Eff0.storeBAM 101 agg_37 rfl rfl rfl (by first | exact ⟨rfl, rfl⟩ | (constructor <;> simp [*])) (by first | rfl | exact all_one _)) ?_
              refine WL.yld (by decide) (Yld.assign rfl) ?_
              refine WL.done (hK45 _ _ ?_)
              refine WC.ret ?_
              exact Ret.fn [] (ResIs.cellTmpM (k := 101) rfl agg_37 rfl rfl rfl rfl) rfl (by decide) ⟨by rw [e0, e1, e2, e3], rfl⟩
        · skip
          refine WS.eff rfl (by decide) (Eff.alloc 195 rfl zer_37) ?_
          rintro _ _ ⟨g195, rfl, rfl⟩
          refine ⟨(Sub.cons rfl (Sub.cons rfl (Sub.nil _))), ?_⟩
          refine WD.one 2 (by kernel_rfl) ?_
          refine WS.eff rfl (by decide) (Eff.call 196 rfl Try.func46 nm_46 rfl rfl rfl (fun w hb hh => r06_Value w ((RdH.cut1 (lo := 4) (hi := 6) (RdH.old hx) (by omega) (by omega)) w hb hh))) ?_
          rintro _ _ ⟨_, ⟨rfl, rfl⟩, rfl⟩
          refine ⟨(Sub.cons rfl (Sub.cons rfl (Sub.nil _))), ?_⟩
          refine WD.take 3 rfl (by kernel_rfl) (by kernel_rfl) (by kernel_rfl) (by decide) (Yld.conv_u64_i64 some_63 und_3 rfl) ?_
          refine WD.new (v' := I64 (sfA xsx)) (congrArg I64 (val_int _ (by simp; omega))) ?_
          refine WD.one 6 (by kernel_rfl) ?_
          refine WS.eff rfl (by decide) (Eff.call 205 rfl Try.func46 nm_46 rfl rfl rfl (fun w hb hh => r06_Value w ((RdH.cut1 (lo := 6) (hi := 8) (RdH.old hx) (by omega) (by omega)) w hb hh))) ?_
          rintro _ _ ⟨_, ⟨rfl, rfl⟩, rfl⟩
          refine ⟨(Sub.cons rfl (Sub.cons rfl (Sub.nil _))), ?_⟩
          refine WD.take 7 rfl (by kernel_rfl) (by kernel_rfl) (by kernel_rfl) (by decide) (Yld.conv_u64_i64 some_63 und_3 rfl) ?_
          refine WD.new (v' := I64 (sfB xsx)) (congrArg I64 (val_int _ (by simp; omega))) ?_
          refine WD.one 10 (by kernel_rfl) ?_
          refine WS.eff rfl (by decide) (Eff.call 214 rfl Try.func46 nm_46 rfl rfl rfl (fun w hb hh => r06_Value w ((RdH.cut1 (lo := 8) (hi := 12) (RdH.old hx) (by omega) (by omega)) w hb hh))) ?_
          rintro _ _ ⟨_, ⟨rfl, rfl⟩, rfl⟩
          refine ⟨(Sub.cons rfl (Sub.cons rfl (Sub.nil _))), ?_⟩
          refine WD.take 11 rfl (by kernel_rfl) (by kernel_rfl) (by kernel_rfl) (by decide) (Yld.conv_u64_i64 some_63 und_2 rfl) ?_
          refine WD.new (v' := I64 (sfC xsx)) (congrArg I64 (val_int _ (by simp; omega))) ?_
          refine WD.take 12 rfl (by kernel_rfl) (by kernel_rfl) (by kernel_rfl) (by decide) (Yld.build rfl (built_37_0_1_2 _ _ _)) ?_
          refine WD.one 14 (by kernel_rfl) ?_
          refine WS.eff0 rfl (Eff0.storeBAM 195 agg_37 rfl rfl rfl (by first | exact ⟨rfl, rfl⟩ | (constructor <;> simp [*])) (by first | rfl | exact all_one _)) (Sub.cons rfl (Sub.cons rfl (Sub.nil _))) ?_
          refine WD.done (by kernel_rfl) (hK18 _ _ ?_)
          refine WC.seq fun K50 hK50 => ?_
          refine WC.seqRegion fun K51 hK51 => ?_
          refine WL.yld (by decide) (Yld.loadBM (k := 195) agg_37 rfl rfl (by first | rfl | (simp [*]; done))) ?_
          refine WL.eff (by decide) (Eff.call 223 rfl Try.func32 nm_32 rfl rfl rfl (fun w hb hh => r07_Valid w _ _ _)) ?_
          rintro _ _ ⟨_, ⟨rfl, rfl⟩, rfl⟩
          refine WL.yld (by decide) (Yld.notB rfl) ?_
          refine WL.done (hK51 _ _ ?_)
          refine WC.cond rfl (fun hc53 => ?_) (fun hc53 => ?_)
          · skip
            have h4 : sv (sfA xsx) (sfB xsx) (sfC xsx) = false := by simpa using hc53
            have e0 := sdE_form2 (xs := xsx) (by omega) h2 h3 h4
            obtain ⟨e1, e2, e3⟩ := sd_bad (xs := xsx) (by rw [e0]; decide)
            refine WC.seqRegion fun K54 hK54 => ?_
            refine WL.yld (by decide) (Yld.build rfl (built_37_ )) ?_
            refine WL.eff0 (Eff0.storeBAM 101 agg_37 rfl rfl rfl (by first | exact ⟨rfl, rfl⟩ | (constructor <;> simp [*])) (by first | rfl | exact all_one _)) ?_
            refine WL.yld (by decide) (Yld.assign rfl) ?_
            refine WL.done (hK54 _ _ ?_)
            refine WC.ret (QK.thenR ?_)
            exact Ret.fn [] (ResIs.cellTmpM (k := 101) rfl agg_37 rfl rfl rfl rfl) rfl (by decide) ⟨by rw [e0, e1, e2, e3], rfl⟩
          · skip
            have h4 : sv (sfA xsx) (sfB xsx) (sfC xsx) = true := by simpa using hc53
            have e0 := sdE_ok (xs := xsx) (by omega) h2 h3 h4
            obtain ⟨e1, e2, e3⟩ := sd_good e0
            refine WC.skip ?_
            refine QK.thenN (hK50 _ _ ?_)
            refine WC.seqRegion fun K55 hK55 => ?_
            refine WL.yld (by decide) (Yld.loadBM (k := 195) agg_37 rfl rfl (by first | rfl | (simp [*]; done))) ?_
            refine WL.eff0 (Eff0.storeBAM 101 agg_37 rfl rfl rfl (by first | exact ⟨rfl, rfl⟩ | (constructor <;> simp [*])) (by first | rfl | exact all_one _)) ?_
            refine WL.yld (by decide) (Yld.assign rfl) ?_
            refine WL.done (hK55 _ _ ?_)
            refine WC.ret ?_
            exact Ret.fn [] (ResIs.cellTmpM (k := 101) rfl agg_37 rfl rfl rfl rfl) rfl (by decide) ⟨by rw [e0, e1, e2, e3], rfl⟩

set_option maxRecDepth 10000 in
theorem law07_awake (w : World)  :
    Fn Try.prog 33 #[] w fun r es => r = .bool true ∧ es = [] := by
  refine Fn.intro (N := 26) Try.func33 rfl rfl (Nat.le_of_ble_eq_true rfl) ?_
  refine WC.seqRegion fun K1 hK1 => ?_
  refine WL.yld (by decide) (Yld.assign rfl) ?_
  refine WL.done (hK1 _ _ ?_)
  refine WC.seqRegion fun K2 hK2 => ?_
  refine WL.yld (by decide) (Yld.build rfl (built_37_ )) ?_
  refine WL.eff (by decide) (Eff.call 101 rfl Try.func27 nm_27 rfl rfl rfl (fun w hb hh => sb_Encode w _ _ _ (by omega) (by omega) (by omega))) ?_
  rintro _ _ ⟨_, ⟨A3, c3, rfl, rfl⟩, rfl⟩
  refine WL.yld (by decide) (Yld.move rfl) ?_
  refine WL.yld (by decide) (Yld.extract rfl rfl) ?_
  refine WL.yld (by decide) (Yld.extract rfl rfl) ?_
  refine WL.yld (by decide) (Yld.assign rfl) ?_
  refine WL.yld (by decide) (Yld.assign rfl) ?_
  refine WL.done (hK2 _ _ ?_)
  refine WC.seqRegion fun K4 hK4 => ?_
  refine WL.yld (by decide) (Yld.build rfl (built_37_0_1 _ _)) ?_
  refine WL.eff (by decide) (Eff.call 110 rfl Try.func29 nm_29 rfl rfl rfl (fun w hb hh => sb_Next w _ _ _ (by omega) (by omega) (by omega))) ?_
  rintro _ _ ⟨_, ⟨rfl, rfl⟩, rfl⟩
  refine WL.yld (by decide) (Yld.move rfl) ?_
  refine WL.yld (by decide) (Yld.extract rfl rfl) ?_
  refine WL.yld (by decide) (Yld.extract rfl rfl) ?_
  refine WL.eff (by decide) (Eff.alloc 119 rfl zer_37) ?_
  rintro _ _ ⟨g119, rfl, rfl⟩
  refine WL.eff0 (Eff0.storeBAM 119 agg_37 rfl rfl rfl (by first | exact ⟨rfl, rfl⟩ | (constructor <;> simp [*])) (by first | rfl | exact all_one _)) ?_
  refine WL.yld (by decide) (Yld.assign rfl) ?_
  refine WL.done (hK4 _ _ ?_)
  refine WC.seqRegion fun K7 hK7 => ?_
  refine WL.yld (by decide) (Yld.move rfl) ?_
  refine WL.yld (by decide) (Yld.eql rfl rfl) ?_
  refine WL.new (v' := .bool true) (congrArg Value.bool (by decide +kernel)) ?_
  refine WL.yld (by decide) (Yld.move rfl) ?_
  refine WL.yldG (by decide) rfl (Yld.move rfl) ?_
  refine WL.yldG (by decide) rfl (Yld.eql rfl rfl) ?_
  refine WL.new (v' := .bool true) (congrArg Value.bool (by decide +kernel)) ?_
  refine WL.yld (by decide) (Yld.pickT rfl rfl) ?_
  refine WL.yld (by decide) (Yld.move rfl) ?_
  refine WL.yldG (by decide) rfl (Yld.loadBM (k := 119) agg_37 rfl rfl (by first | rfl | (simp [*]; done))) ?_
  refine WL.yldG (by decide) rfl (Yld.build rfl (built_37_0_1_2 _ _ _)) ?_
  refine WL.yldG (by decide) rfl (Yld.eqlA (zeqs_37 _ _ _ _ _ _) rfl rfl) ?_
  refine WL.new (v' := .bool true) (congrArg Value.bool (by decide +kernel)) ?_
  refine WL.yld (by decide) (Yld.pickT rfl rfl) ?_
  refine WL.yld (by decide) (Yld.assign rfl) ?_
  refine WL.done (hK7 _ _ ?_)
  refine WC.ret ?_
  exact Ret.fn [] (ResIs.one rfl rfl) rfl (by decide) ⟨rfl, rfl⟩

end Go.Proofs.Ytibopglhgbbmpaa
