/-
  The statements on checksums: every input, the law returns true.
  Printed by a program of ours (gen.py, spec_law01.py) from the function's operations. Conditions: as each theorem says.
-/
import Derived.Test.YtibopglhgbbmpaaProg
import Derived.Test.YtibopglhgbbmpaaK8
import Derived.Test.YtibopglhgbbmpaaM2
import Derived.Test.YtibopglhgbbmpaaF1
namespace Go.Proofs.Ytibopglhgbbmpaa
open Go Go.RowKit
set_option linter.unusedVariables false

theorem und_2 : Try.prog.underlying 2 = some (.int .i64) := by kernel_rfl
theorem und_5 : Try.prog.underlying 5 = some (.int .u8) := by kernel_rfl
theorem nm_34 : (Try.f34.name == "runtime.NumGoroutine") = false := by kernel_rfl
theorem nm_35 : (Try.f35.name == "runtime.NumGoroutine") = false := by kernel_rfl
theorem nm_36 : (Try.f36.name == "runtime.NumGoroutine") = false := by kernel_rfl
theorem nm_39 : (Try.f39.name == "runtime.NumGoroutine") = false := by kernel_rfl
theorem nm_40 : (Try.f40.name == "runtime.NumGoroutine") = false := by kernel_rfl
theorem nm_41 : (Try.f41.name == "runtime.NumGoroutine") = false := by kernel_rfl
theorem some_33 : (Try.prog.underlying 33).isSome = true := by kernel_rfl

set_option maxRecDepth 10000 in
theorem law01_awake (w : World) :
    Fn Try.prog 39 #[] w fun r es => r = .bool true ∧ es = [] := by
  refine Fn.intro (N := 22) Try.func39 rfl rfl (Nat.le_of_ble_eq_true rfl) ?_
  refine WC.seqRegion fun K1 hK1 => ?_
  refine WL.yld (by decide) (Yld.assign rfl) ?_
  refine WL.done (hK1 _ _ ?_)
  refine WC.seqRegion fun K2 hK2 => ?_
  refine WL.eff (by decide) (Eff.buildSliceM U8 101 [49#8, 50#8, 51#8, 52#8, 53#8, 54#8, 55#8, 56#8, 57#8] sty_23 rfl rfl rfl rfl rfl (by decide)) ?_
  rintro _ _ ⟨g101, rfl, rfl⟩
  refine WL.eff (by decide) (Eff.mark 101 und_23 und_5 rfl rfl rfl) ?_
  rintro _ _ ⟨rfl, rfl⟩
  refine WL.eff (by decide) (Eff.call 102 rfl Try.func35 nm_35 rfl rfl rfl (fun w hb hh => crc_Sum w ((RdH.ro (k := 101) rfl (by decide)) w hb hh))) ?_
  rintro _ _ ⟨_, ⟨rfl, rfl⟩, rfl⟩
  refine WL.new (v' := U32 3808858755#32) (congrArg U32 (by decide +kernel)) ?_
  refine WL.yld (by decide) (Yld.assign rfl) ?_
  refine WL.done (hK2 _ _ ?_)
  refine WC.seqRegion fun K5 hK5 => ?_
  refine WL.yld (by decide) (Yld.move rfl) ?_
  refine WL.yld (by decide) (Yld.eql_u32 (b := 3808858755#32) rfl rfl) ?_
  refine WL.new (v' := .bool true) (congrArg Value.bool (by decide +kernel)) ?_
  refine WL.yld (by decide) (Yld.move rfl) ?_
  refine WL.effG (by decide) rfl (Eff.call 111 rfl Try.func35 nm_35 rfl rfl rfl (fun w hb hh => crc_Sum w (RdH.nilM w hb hh))) ?_
  rintro _ _ ⟨_, ⟨rfl, rfl⟩, rfl⟩
  refine WL.yldG (by decide) rfl (Yld.eql_u32 (b := 0#32) rfl rfl) ?_
  refine WL.new (v' := .bool true) (congrArg Value.bool (by decide +kernel)) ?_
  refine WL.yld (by decide) (Yld.pickT rfl rfl) ?_
  refine WL.yld (by decide) (Yld.move rfl) ?_
  refine WL.effG (by decide) rfl (Eff.buildSliceM U8 120 [49#8, 50#8, 51#8, 52#8] sty_23 rfl rfl rfl rfl rfl (by decide)) ?_
  rintro _ _ ⟨g120, rfl, rfl⟩
  refine WL.effG (by decide) rfl (Eff.mark 120 und_23 und_5 rfl rfl rfl) ?_
  rintro _ _ ⟨rfl, rfl⟩
  refine WL.effG (by decide) rfl (Eff.call 121 rfl Try.func35 nm_35 rfl rfl rfl (fun w hb hh => crc_Sum w ((RdH.ro (k := 120) rfl (by decide)) w hb hh))) ?_
  rintro _ _ ⟨_, ⟨rfl, rfl⟩, rfl⟩
  refine WL.effG (by decide) rfl (Eff.buildSliceM U8 130 [53#8, 54#8, 55#8, 56#8, 57#8] sty_23 rfl rfl rfl rfl rfl (by decide)) ?_
  rintro _ _ ⟨g130, rfl, rfl⟩
  refine WL.effG (by decide) rfl (Eff.mark 130 und_23 und_5 rfl rfl rfl) ?_
  rintro _ _ ⟨rfl, rfl⟩
  refine WL.effG (by decide) rfl (Eff.call 131 rfl Try.func35 nm_35 rfl rfl rfl (fun w hb hh => crc_Sum w ((RdH.ro (k := 130) rfl (by decide)) w hb hh))) ?_
  rintro _ _ ⟨_, ⟨rfl, rfl⟩, rfl⟩
  refine WL.effG (by decide) rfl (Eff.call 140 rfl Try.func40 nm_40 rfl rfl rfl (fun w hb hh => crc_Combine w _ _ _ (by omega))) ?_
  rintro _ _ ⟨_, ⟨rfl, rfl⟩, rfl⟩
  refine WL.yldG (by decide) rfl (Yld.move rfl) ?_
  refine WL.yldG (by decide) rfl (Yld.eql_u32 rfl rfl) ?_
  refine WL.new (v' := .bool true) (congrArg Value.bool (by decide +kernel)) ?_
  refine WL.yld (by decide) (Yld.pickT rfl rfl) ?_
  refine WL.yld (by decide) (Yld.assign rfl) ?_
  refine WL.done (hK5 _ _ ?_)
  refine WC.ret ?_
  exact Ret.fn [] (ResIs.one rfl rfl) rfl (by decide) ⟨rfl, rfl⟩

set_option maxRecDepth 10000 in
theorem law01_cut (w : World) {A : Option Addr} {n c m : Nat} {xs : List (BitVec 8)} (h : SlR w 1 A n c (xs.map U8)) (hm : m ≤ 9223372036854775807) :
    Fn Try.prog 34 #[.slice A n c, I64 (m : Nat)] w fun r es => r = .slice A (min n m) c ∧ es = [] := by
  have hl := h.len1
  have hcm := h.cm
  have hle := h.le
  unfold maxLen at hcm
  refine Fn.intro (N := 13) Try.func34 rfl rfl (Nat.le_of_ble_eq_true rfl) ?_
  refine WC.seqRegion fun K1 hK1 => ?_
  refine WL.yld (by decide) (Yld.assign rfl) ?_
  refine WL.done (hK1 _ _ ?_)
  refine WC.seq fun K2 hK2 => ?_
  refine WC.seqRegion fun K3 hK3 => ?_
  refine WL.yld (by decide) (Yld.move rfl) ?_
  refine WL.yld (by decide) (Yld.len und_23 rfl) ?_
  refine WL.yld (by decide) (Yld.move rfl) ?_
  refine WL.yld (by decide) (Yld.gtr rfl rfl) ?_
  refine WL.done (hK3 _ _ ?_)
  refine WC.cond rfl (fun hc4 => ?_) (fun hc4 => ?_)
  · replace hc4 := of_decide_eq_true hc4
    refine WC.seqRegion fun K5 hK5 => ?_
    refine WL.yld (by decide) (Yld.move rfl) ?_
    refine WL.yld (by decide) (Yld.move rfl) ?_
    refine WL.yld (by decide) (Yld.sliceH sty_23 rfl rfl (by omega)) ?_
    refine WL.yld (by decide) (Yld.assign rfl) ?_
    refine WL.done (hK5 _ _ ?_)
    refine WC.ret (QK.thenR ?_)
    exact Ret.fn [] (ResIs.one rfl rfl) rfl (by decide) ⟨by rw [Nat.min_eq_right (by omega)]; rfl, rfl⟩
  · replace hc4 := of_decide_eq_false hc4
    refine WC.skip ?_
    refine QK.thenN (hK2 _ _ ?_)
    refine WC.seqRegion fun K6 hK6 => ?_
    refine WL.yld (by decide) (Yld.move rfl) ?_
    refine WL.yld (by decide) (Yld.assign rfl) ?_
    refine WL.done (hK6 _ _ ?_)
    refine WC.ret ?_
    exact Ret.fn [] (ResIs.one rfl rfl) rfl (by decide) ⟨by rw [Nat.min_eq_left (by omega)], rfl⟩

set_option maxRecDepth 10000 in
theorem law_Crc32cSums (w : World) {A0 : Option Addr} {n0 c0 : Nat} {xs0 : List (BitVec 8)} (s0 : SlR w 1 A0 n0 c0 (xs0.map U8)) (x1 : BitVec 32) :
    Fn Try.prog 9 #[.slice A0 n0 c0, U32 x1] w fun r es => r = .bool true := by
  have hl0 := s0.len1
  have hcm0 := s0.cm
  have hle0 := s0.le
  unfold maxLen at hcm0
  refine Fn.intro (N := 24) Try.func9 rfl rfl (Nat.le_of_ble_eq_true rfl) ?_
  refine WC.seqRegion fun K1 hK1 => ?_
  refine WL.yld (by decide) (Yld.assign rfl) ?_
  refine WL.done (hK1 _ _ ?_)
  refine WC.seqRegion fun K2 hK2 => ?_
  refine WL.yld (by decide) (Yld.move rfl) ?_
  refine WL.eff (by decide) (Eff.call 101 rfl Try.func34 nm_34 rfl rfl rfl (fun w hb hh => law01_cut w (m := 4000) ((RdH.old s0) w hb hh) (by omega))) ?_
  rintro _ _ ⟨_, ⟨rfl, rfl⟩, rfl⟩
  refine WL.yld (by decide) (Yld.assign rfl) ?_
  refine WL.done (hK2 _ _ ?_)
  refine WC.seqRegion fun K4 hK4 => ?_
  refine WL.yld (by decide) (Yld.move rfl) ?_
  refine WL.eff (by decide) (Eff.call 110 rfl Try.func35 nm_35 rfl rfl rfl (fun w hb hh => crc_Sum w ((RdH.take1 (RdH.old s0) (Nat.min_le_left _ _)) w hb hh))) ?_
  rintro _ _ ⟨_, ⟨rfl, rfl⟩, rfl⟩
  refine WL.yld (by decide) (Yld.move rfl) ?_
  refine WL.eff (by decide) (Eff.call 119 rfl Try.func36 nm_36 rfl rfl rfl (fun w hb hh => ref_Sum w ((RdH.take1 (RdH.old s0) (Nat.min_le_left _ _)) w hb hh))) ?_
  rintro _ _ ⟨_, ⟨rfl, rfl⟩, rfl⟩
  refine WL.yld (by decide) (Yld.eql_u32 rfl rfl) ?_
  refine WL.new (v' := .bool true) (congrArg Value.bool (beq_self_eq_true _)) ?_
  refine WL.yld (by decide) (Yld.move rfl) ?_
  refine WL.yldG (by decide) rfl (Yld.move rfl) ?_
  refine WL.yldG (by decide) rfl (Yld.move rfl) ?_
  refine WL.effG (by decide) rfl (Eff.call 128 rfl Try.func37 nm_37 rfl rfl rfl (fun w hb hh => crc_Extend w _ ((RdH.take1 (RdH.old s0) (Nat.min_le_left _ _)) w hb hh))) ?_
  rintro _ _ ⟨_, ⟨rfl, rfl⟩, rfl⟩
  refine WL.yldG (by decide) rfl (Yld.move rfl) ?_
  refine WL.yldG (by decide) rfl (Yld.move rfl) ?_
  refine WL.effG (by decide) rfl (Eff.call 137 rfl Try.func38 nm_38 rfl rfl rfl (fun w hb hh => ref_Extend w _ ((RdH.take1 (RdH.old s0) (Nat.min_le_left _ _)) w hb hh))) ?_
  rintro _ _ ⟨_, ⟨rfl, rfl⟩, rfl⟩
  refine WL.yldG (by decide) rfl (Yld.eql_u32 rfl rfl) ?_
  refine WL.new (v' := .bool true) (congrArg Value.bool (beq_self_eq_true _)) ?_
  refine WL.yld (by decide) (Yld.pickT rfl rfl) ?_
  refine WL.yld (by decide) (Yld.move rfl) ?_
  refine WL.effG (by decide) rfl (Eff.call 146 rfl Try.func39 nm_39 rfl rfl rfl (fun w hb hh => law01_awake w)) ?_
  rintro _ _ ⟨_, ⟨rfl, rfl⟩, rfl⟩
  refine WL.yld (by decide) (Yld.pickT rfl rfl) ?_
  refine WL.yld (by decide) (Yld.assign rfl) ?_
  refine WL.done (hK4 _ _ ?_)
  refine WC.ret ?_
  exact Ret.fn [] (ResIs.one rfl rfl) rfl (by decide) rfl

set_option maxRecDepth 10000 in
theorem law_Crc32cExtends (w : World) {A0 : Option Addr} {n0 c0 : Nat} {xs0 : List (BitVec 8)} (s0 : SlR w 1 A0 n0 c0 (xs0.map U8)) {A1 : Option Addr} {n1 c1 : Nat} {xs1 : List (BitVec 8)} (s1 : SlR w 1 A1 n1 c1 (xs1.map U8)) :
    Fn Try.prog 10 #[.slice A0 n0 c0, .slice A1 n1 c1] w fun r es => r = .bool true := by
  have hl0 := s0.len1
  have hcm0 := s0.cm
  have hle0 := s0.le
  unfold maxLen at hcm0
  have hl1 := s1.len1
  have hcm1 := s1.cm
  have hle1 := s1.le
  unfold maxLen at hcm1
  refine Fn.intro (N := 32) Try.func10 rfl rfl (Nat.le_of_ble_eq_true rfl) ?_
  refine WC.seqRegion fun K1 hK1 => ?_
  refine WL.yld (by decide) (Yld.assign rfl) ?_
  refine WL.done (hK1 _ _ ?_)
  refine WC.seqRegion fun K2 hK2 => ?_
  refine WL.yld (by decide) (Yld.move rfl) ?_
  refine WL.eff (by decide) (Eff.call 101 rfl Try.func34 nm_34 rfl rfl rfl (fun w hb hh => law01_cut w (m := 2000) ((RdH.old s0) w hb hh) (by omega))) ?_
  rintro _ _ ⟨_, ⟨rfl, rfl⟩, rfl⟩
  refine WL.yld (by decide) (Yld.move rfl) ?_
  refine WL.eff (by decide) (Eff.call 110 rfl Try.func34 nm_34 rfl rfl rfl (fun w hb hh => law01_cut w (m := 2000) ((RdH.old s1) w hb hh) (by omega))) ?_
  rintro _ _ ⟨_, ⟨rfl, rfl⟩, rfl⟩
  refine WL.yld (by decide) (Yld.assign rfl) ?_
  refine WL.yld (by decide) (Yld.assign rfl) ?_
  refine WL.done (hK2 _ _ ?_)
  refine WC.seqRegion fun K5 hK5 => ?_
  refine WL.eff (by decide) (Eff.buildSliceM U8 119 [] sty_23 rfl rfl rfl rfl rfl (by decide)) ?_
  rintro _ _ ⟨g119, rfl, rfl⟩
  refine WL.yld (by decide) (Yld.move rfl) ?_
  refine WL.eff (by decide) (Eff.appendM (f := U8) 119 sty_23 rfl rfl rfl (RdH.take1 (RdH.old s0) (Nat.min_le_left _ _)) (by omega)) ?_
  rintro _ _ ⟨A7, c7, rfl, rfl⟩
  refine WL.yld (by decide) (Yld.move rfl) ?_
  refine WL.eff (by decide) (Eff.appendM (f := U8) 119 sty_23 rfl rfl rfl (RdH.take1 (RdH.old s1) (Nat.min_le_left _ _)) (by omega)) ?_
  rintro _ _ ⟨A8, c8, rfl, rfl⟩
  refine WL.yld (by decide) (Yld.assign rfl) ?_
  refine WL.done (hK5 _ _ ?_)
  refine WC.seqRegion fun K9 hK9 => ?_
  refine WL.yld (by decide) (Yld.move rfl) ?_
  refine WL.eff (by decide) (Eff.call 120 rfl Try.func35 nm_35 rfl rfl rfl (fun w hb hh => crc_Sum w ((RdH.take1 (RdH.old s0) (Nat.min_le_left _ _)) w hb hh))) ?_
  rintro _ _ ⟨_, ⟨rfl, rfl⟩, rfl⟩
  refine WL.yld (by decide) (Yld.move rfl) ?_
  refine WL.eff (by decide) (Eff.call 129 rfl Try.func37 nm_37 rfl rfl rfl (fun w hb hh => crc_Extend w _ ((RdH.take1 (RdH.old s1) (Nat.min_le_left _ _)) w hb hh))) ?_
  rintro _ _ ⟨_, ⟨rfl, rfl⟩, rfl⟩
  refine WL.yld (by decide) (Yld.move rfl) ?_
  refine WL.eff (by decide) (Eff.call 138 rfl Try.func35 nm_35 rfl rfl rfl (fun w hb hh => crc_Sum w ((RdH.own (k := 119) rfl) w hb hh))) ?_
  rintro _ _ ⟨_, ⟨rfl, rfl⟩, rfl⟩
  refine WL.yld (by decide) (Yld.eql_u32 rfl rfl) ?_
  refine WL.new (v' := .bool true) (by rw [crcExt_sum]; exact congrArg Value.bool (beq_self_eq_true _)) ?_
  refine WL.yld (by decide) (Yld.move rfl) ?_
  refine WL.yldG (by decide) rfl (Yld.move rfl) ?_
  refine WL.effG (by decide) rfl (Eff.call 147 rfl Try.func37 nm_37 rfl rfl rfl (fun w hb hh => crc_Extend w (0#32) ((RdH.own (k := 119) rfl) w hb hh))) ?_
  rintro _ _ ⟨_, ⟨rfl, rfl⟩, rfl⟩
  refine WL.yldG (by decide) rfl (Yld.move rfl) ?_
  refine WL.effG (by decide) rfl (Eff.call 156 rfl Try.func35 nm_35 rfl rfl rfl (fun w hb hh => crc_Sum w ((RdH.own (k := 119) rfl) w hb hh))) ?_
  rintro _ _ ⟨_, ⟨rfl, rfl⟩, rfl⟩
  refine WL.yldG (by decide) rfl (Yld.eql_u32 rfl rfl) ?_
  refine WL.new (v' := .bool true) (congrArg Value.bool (beq_self_eq_true _)) ?_
  refine WL.yld (by decide) (Yld.pickT rfl rfl) ?_
  refine WL.yld (by decide) (Yld.move rfl) ?_
  refine WL.effG (by decide) rfl (Eff.call 165 rfl Try.func39 nm_39 rfl rfl rfl (fun w hb hh => law01_awake w)) ?_
  rintro _ _ ⟨_, ⟨rfl, rfl⟩, rfl⟩
  refine WL.yld (by decide) (Yld.pickT rfl rfl) ?_
  refine WL.yld (by decide) (Yld.assign rfl) ?_
  refine WL.done (hK9 _ _ ?_)
  refine WC.ret ?_
  exact Ret.fn [] (ResIs.one rfl rfl) rfl (by decide) rfl

set_option maxRecDepth 10000 in
theorem law_Crc32cCombines (w : World) (x0 : BitVec 32) (x1 : BitVec 32) (a2 : Int) (w2 : -9223372036854775808 ≤ a2 ∧ a2 ≤ 9223372036854775807) :
    Fn Try.prog 11 #[U32 x0, U32 x1, I64 a2] w fun r es => r = .bool true := by
  refine Fn.intro (N := 19) Try.func11 rfl rfl (Nat.le_of_ble_eq_true rfl) ?_
  refine WC.seqRegion fun K1 hK1 => ?_
  refine WL.yld (by decide) (Yld.assign rfl) ?_
  refine WL.done (hK1 _ _ ?_)
  refine WC.seqRegion fun K2 hK2 => ?_
  refine WL.yld (by decide) (Yld.move rfl) ?_
  refine WL.yld (by decide) (Yld.move rfl) ?_
  refine WL.yld (by decide) (Yld.move rfl) ?_
  refine WL.eff (by decide) (Eff.call 101 rfl Try.func40 nm_40 rfl rfl rfl (fun w hb hh => crc_Combine w _ _ _ (by omega))) ?_
  rintro _ _ ⟨_, ⟨rfl, rfl⟩, rfl⟩
  refine WL.yld (by decide) (Yld.move rfl) ?_
  refine WL.yld (by decide) (Yld.move rfl) ?_
  refine WL.yld (by decide) (Yld.move rfl) ?_
  refine WL.eff (by decide) (Eff.call 110 rfl Try.func41 nm_41 rfl rfl rfl (fun w hb hh => ref_Combine w _ _ _ (by omega))) ?_
  rintro _ _ ⟨_, ⟨rfl, rfl⟩, rfl⟩
  refine WL.yld (by decide) (Yld.eql_u32 rfl rfl) ?_
  refine WL.new (v' := .bool true) (congrArg Value.bool (beq_self_eq_true _)) ?_
  refine WL.yld (by decide) (Yld.move rfl) ?_
  refine WL.effG (by decide) rfl (Eff.call 119 rfl Try.func39 nm_39 rfl rfl rfl (fun w hb hh => law01_awake w)) ?_
  rintro _ _ ⟨_, ⟨rfl, rfl⟩, rfl⟩
  refine WL.yld (by decide) (Yld.pickT rfl rfl) ?_
  refine WL.yld (by decide) (Yld.assign rfl) ?_
  refine WL.done (hK2 _ _ ?_)
  refine WC.ret ?_
  exact Ret.fn [] (ResIs.one rfl rfl) rfl (by decide) rfl

set_option maxRecDepth 10000 in
theorem law_Crc32cJoins (w : World) {A0 : Option Addr} {n0 c0 : Nat} {xs0 : List (BitVec 8)} (s0 : SlR w 1 A0 n0 c0 (xs0.map U8)) {A1 : Option Addr} {n1 c1 : Nat} {xs1 : List (BitVec 8)} (s1 : SlR w 1 A1 n1 c1 (xs1.map U8)) :
    Fn Try.prog 12 #[.slice A0 n0 c0, .slice A1 n1 c1] w fun r es => r = .bool true := by
  have hl0 := s0.len1
  have hcm0 := s0.cm
  have hle0 := s0.le
  unfold maxLen at hcm0
  have hl1 := s1.len1
  have hcm1 := s1.cm
  have hle1 := s1.le
  unfold maxLen at hcm1
  refine Fn.intro (N := 26) Try.func12 rfl rfl (Nat.le_of_ble_eq_true rfl) ?_
  refine WC.seqRegion fun K1 hK1 => ?_
  refine WL.yld (by decide) (Yld.assign rfl) ?_
  refine WL.done (hK1 _ _ ?_)
  refine WC.seqRegion fun K2 hK2 => ?_
  refine WL.yld (by decide) (Yld.move rfl) ?_
  refine WL.eff (by decide) (Eff.call 101 rfl Try.func34 nm_34 rfl rfl rfl (fun w hb hh => law01_cut w (m := 2000) ((RdH.old s0) w hb hh) (by omega))) ?_
  rintro _ _ ⟨_, ⟨rfl, rfl⟩, rfl⟩
  refine WL.yld (by decide) (Yld.move rfl) ?_
  refine WL.eff (by decide) (Eff.call 110 rfl Try.func34 nm_34 rfl rfl rfl (fun w hb hh => law01_cut w (m := 2000) ((RdH.old s1) w hb hh) (by omega))) ?_
  rintro _ _ ⟨_, ⟨rfl, rfl⟩, rfl⟩
  refine WL.yld (by decide) (Yld.assign rfl) ?_
  refine WL.yld (by decide) (Yld.assign rfl) ?_
  refine WL.done (hK2 _ _ ?_)
  refine WC.seqRegion fun K5 hK5 => ?_
  refine WL.yld (by decide) (Yld.move rfl) ?_
  refine WL.eff (by decide) (Eff.call 119 rfl Try.func35 nm_35 rfl rfl rfl (fun w hb hh => crc_Sum w ((RdH.take1 (RdH.old s0) (Nat.min_le_left _ _)) w hb hh))) ?_
  rintro _ _ ⟨_, ⟨rfl, rfl⟩, rfl⟩
  refine WL.yld (by decide) (Yld.move rfl) ?_
  refine WL.eff (by decide) (Eff.call 128 rfl Try.func35 nm_35 rfl rfl rfl (fun w hb hh => crc_Sum w ((RdH.take1 (RdH.old s1) (Nat.min_le_left _ _)) w hb hh))) ?_
  rintro _ _ ⟨_, ⟨rfl, rfl⟩, rfl⟩
  refine WL.yld (by decide) (Yld.move rfl) ?_
  refine WL.yld (by decide) (Yld.len und_23 rfl) ?_
  refine WL.eff (by decide) (Eff.call 137 rfl Try.func40 nm_40 rfl rfl rfl (fun w hb hh => crc_Combine w _ _ _ (by omega))) ?_
  rintro _ _ ⟨_, ⟨rfl, rfl⟩, rfl⟩
  refine WL.eff (by decide) (Eff.buildSliceM U8 146 [] sty_23 rfl rfl rfl rfl rfl (by decide)) ?_
  rintro _ _ ⟨g146, rfl, rfl⟩
  refine WL.yld (by decide) (Yld.move rfl) ?_
  refine WL.eff (by decide) (Eff.appendM (f := U8) 146 sty_23 rfl rfl rfl (RdH.take1 (RdH.old s0) (Nat.min_le_left _ _)) (by omega)) ?_
  rintro _ _ ⟨A10, c10, rfl, rfl⟩
  refine WL.yld (by decide) (Yld.move rfl) ?_
  refine WL.eff (by decide) (Eff.appendM (f := U8) 146 sty_23 rfl rfl rfl (RdH.take1 (RdH.old s1) (Nat.min_le_left _ _)) (by omega)) ?_
  rintro _ _ ⟨A11, c11, rfl, rfl⟩
  refine WL.eff (by decide) (Eff.call 147 rfl Try.func35 nm_35 rfl rfl rfl (fun w hb hh => crc_Sum w ((RdH.own (k := 146) rfl) w hb hh))) ?_
  rintro _ _ ⟨_, ⟨rfl, rfl⟩, rfl⟩
  refine WL.yld (by decide) (Yld.eql_u32 rfl rfl) ?_
  refine WL.new (v' := .bool true) (by rw [List.nil_append, ← crcComb_join, show (xs1.take (min n1 2000)).length = min n1 2000 by rw [List.length_take]; omega]; exact congrArg Value.bool (beq_self_eq_true _)) ?_
  refine WL.yld (by decide) (Yld.move rfl) ?_
  refine WL.effG (by decide) rfl (Eff.call 156 rfl Try.func39 nm_39 rfl rfl rfl (fun w hb hh => law01_awake w)) ?_
  rintro _ _ ⟨_, ⟨rfl, rfl⟩, rfl⟩
  refine WL.yld (by decide) (Yld.pickT rfl rfl) ?_
  refine WL.yld (by decide) (Yld.assign rfl) ?_
  refine WL.done (hK5 _ _ ?_)
  refine WC.ret ?_
  exact Ret.fn [] (ResIs.one rfl rfl) rfl (by decide) rfl

set_option maxRecDepth 10000 in
theorem law_Crc32cAssociates (w : World) (x0 : BitVec 32) (x1 : BitVec 32) (x2 : BitVec 32) (x3 : BitVec 32) (x4 : BitVec 32) :
    Fn Try.prog 13 #[U32 x0, U32 x1, U32 x2, U32 x3, U32 x4] w fun r es => r = .bool true := by
  have hx3 := x3.isLt
  have hx4 := x4.isLt
  refine Fn.intro (N := 40) Try.func13 rfl rfl (Nat.le_of_ble_eq_true rfl) ?_
  refine WC.seqRegion fun K1 hK1 => ?_
  refine WL.yld (by decide) (Yld.assign rfl) ?_
  refine WL.done (hK1 _ _ ?_)
  refine WC.seqRegion fun K2 hK2 => ?_
  refine WL.yld (by decide) (Yld.move rfl) ?_
  refine WL.yld (by decide) (Yld.move rfl) ?_
  refine WL.yld (by decide) (Yld.move rfl) ?_
  refine WL.yld (by decide) (Yld.conv_u32_i64 some_33 und_2 rfl) ?_
  refine WL.eff (by decide) (Eff.call 101 rfl Try.func40 nm_40 rfl rfl rfl (fun w hb hh => crc_Combine w _ _ _ (by omega))) ?_
  rintro _ _ ⟨_, ⟨rfl, rfl⟩, rfl⟩
  refine WL.yld (by decide) (Yld.move rfl) ?_
  refine WL.yld (by decide) (Yld.move rfl) ?_
  refine WL.yld (by decide) (Yld.conv_u32_i64 some_33 und_2 rfl) ?_
  refine WL.eff (by decide) (Eff.call 110 rfl Try.func40 nm_40 rfl rfl rfl (fun w hb hh => crc_Combine w _ _ _ (by omega))) ?_
  rintro _ _ ⟨_, ⟨rfl, rfl⟩, rfl⟩
  refine WL.yld (by decide) (Yld.assign rfl) ?_
  refine WL.done (hK2 _ _ ?_)
  refine WC.seqRegion fun K5 hK5 => ?_
  refine WL.yld (by decide) (Yld.move rfl) ?_
  refine WL.yld (by decide) (Yld.move rfl) ?_
  refine WL.yld (by decide) (Yld.move rfl) ?_
  refine WL.yld (by decide) (Yld.move rfl) ?_
  refine WL.yld (by decide) (Yld.conv_u32_i64 some_33 und_2 rfl) ?_
  refine WL.eff (by decide) (Eff.call 119 rfl Try.func40 nm_40 rfl rfl rfl (fun w hb hh => crc_Combine w _ _ _ (by omega))) ?_
  rintro _ _ ⟨_, ⟨rfl, rfl⟩, rfl⟩
  refine WL.yld (by decide) (Yld.move rfl) ?_
  refine WL.yld (by decide) (Yld.conv_u32_i64 some_33 und_2 rfl) ?_
  refine WL.yld (by decide) (Yld.move rfl) ?_
  refine WL.yld (by decide) (Yld.conv_u32_i64 some_33 und_2 rfl) ?_
  refine WL.yld (by decide) (Yld.add rfl rfl (by omega)) ?_
  refine WL.eff (by decide) (Eff.call 128 rfl Try.func40 nm_40 rfl rfl rfl (fun w hb hh => crc_Combine w _ _ _ (by omega))) ?_
  rintro _ _ ⟨_, ⟨rfl, rfl⟩, rfl⟩
  refine WL.yld (by decide) (Yld.assign rfl) ?_
  refine WL.done (hK5 _ _ ?_)
  refine WC.seqRegion fun K8 hK8 => ?_
  refine WL.yld (by decide) (Yld.move rfl) ?_
  refine WL.yld (by decide) (Yld.move rfl) ?_
  refine WL.yld (by decide) (Yld.eql_u32 rfl rfl) ?_
  refine WL.new (v' := .bool true) (by rw [crcComb_assoc]; exact congrArg Value.bool (beq_self_eq_true _)) ?_
  refine WL.yld (by decide) (Yld.move rfl) ?_
  refine WL.effG (by decide) rfl (Eff.call 137 rfl Try.func39 nm_39 rfl rfl rfl (fun w hb hh => law01_awake w)) ?_
  rintro _ _ ⟨_, ⟨rfl, rfl⟩, rfl⟩
  refine WL.yld (by decide) (Yld.pickT rfl rfl) ?_
  refine WL.yld (by decide) (Yld.assign rfl) ?_
  refine WL.done (hK8 _ _ ?_)
  refine WC.ret ?_
  exact Ret.fn [] (ResIs.one rfl rfl) rfl (by decide) rfl

end Go.Proofs.Ytibopglhgbbmpaa
