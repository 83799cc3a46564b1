/-
  The statements on checksums: every input, the law returns true.
  Printed by a program of ours (gen.py, spec_law01.py) from the function's operations. Conditions: as each theorem says.
-/
import Derived.Test.YtibopglhgbbmpaaProg
import Derived.Test.YtibopglhgbbmpaaK8
import Derived.Test.YtibopglhgbbmpaaM3
import Derived.Test.YtibopglhgbbmpaaF1
namespace Go.Proofs.Ytibopglhgbbmpaa
open Go Go.RowKit
set_option linter.unusedVariables false

theorem und_2 : Try.prog.underlying 2 = some (.int .i64) := by kernel_rfl
theorem und_4 : Try.prog.underlying 4 = some .bool := by kernel_rfl
theorem und_5 : Try.prog.underlying 5 = some (.int .u8) := by kernel_rfl
theorem und_9 : Try.prog.underlying 9 = some .string := by kernel_rfl
theorem nm_34 : (Try.f34.name == "runtime.NumGoroutine") = false := by kernel_rfl
theorem nm_35 : (Try.f35.name == "runtime.NumGoroutine") = false := by kernel_rfl
theorem nm_36 : (Try.f36.name == "runtime.NumGoroutine") = false := by kernel_rfl
theorem nm_39 : (Try.f39.name == "runtime.NumGoroutine") = false := by kernel_rfl
theorem nm_40 : (Try.f40.name == "runtime.NumGoroutine") = false := by kernel_rfl
theorem nm_41 : (Try.f41.name == "runtime.NumGoroutine") = false := by kernel_rfl
theorem siz_5 : (Try.prog.info? 5).map (·.size) = some 1 := by kernel_rfl
theorem some_33 : (Try.prog.underlying 33).isSome = true := by kernel_rfl

set_option maxRecDepth 10000 in
theorem law01_awake (w : World) :
    Fn Try.prog 39 #[] w fun r es => r = .bool true ∧ es = [] := by
  refine Fn.intro (N := 22) Try.func39 rfl rfl (Nat.le_of_ble_eq_true rfl) ?_
  refine WC.seqRegion fun K1 hK1 => ?_
  refine WL.yld (by decide) (Yld.assign rfl) ?_
  refine WL.done (hK1 _ _ ?_)
  refine WC.seqRegion fun K2 hK2 => ?_
  refine WL.eff (by decide) (Eff.buildSliceM U8 101 [49#8, 50#8, 51#8, 52#8, 53#8, 54#8, 55#8, 56#8, 57#8] sty_23 rfl rfl rfl rfl rfl (by decide)) ?_
  rintro _ _ ⟨g101, rfl, rfl⟩
  refine WL.eff (by decide) (Eff.mark 101 und_23 und_5 rfl rfl rfl) ?_
  rintro _ _ ⟨rfl, rfl⟩
  refine WL.eff (by decide) (Eff.call 102 rfl Try.func35 nm_35 rfl rfl rfl (fun w hb hh => crc_Sum w ((RdH.ro (k := 101) rfl (by decide)) w hb hh))) ?_
  rintro _ _ ⟨_, ⟨rfl, rfl⟩, rfl⟩
  refine WL.new (v' := U32 3808858755#32) (congrArg U32 (by decide +kernel)) ?_
  refine WL.yld (by decide) (Yld.assign rfl) ?_
  refine WL.done (hK2 _ _ ?_)
  refine WC.seqRegion fun K5 hK5 => ?_
  refine WL.yld (by decide) (Yld.move rfl) ?_
  refine WL.yld (by decide) (Yld.eql_u32 (b := 3808858755#32) rfl rfl) ?_
  refine WL.new (v' := .bool true) (congrArg Value.bool (by decide +kernel)) ?_
  refine WL.yld (by decide) (Yld.move rfl) ?_
  refine WL.effG (by decide) rfl (Eff.call 111 rfl Try.func35 nm_35 rfl rfl rfl (fun w hb hh => crc_Sum w (RdH.nilM w hb hh))) ?_
  rintro _ _ ⟨_, ⟨rfl, rfl⟩, rfl⟩
  refine WL.yldG (by decide) rfl (Yld.eql_u32 (b := 0#32) rfl rfl) ?_
  refine WL.new (v' := .bool true) (congrArg Value.bool (by decide +kernel)) ?_
  refine WL.yld (by decide) (Yld.pickT rfl rfl) ?_
  refine WL.yld (by decide) (Yld.move rfl) ?_
  refine WL.effG (by decide) rfl (Eff.buildSliceM U8 120 [49#8, 50#8, 51#8, 52#8] sty_23 rfl rfl rfl rfl rfl (by decide)) ?_
  rintro _ _ ⟨g120, rfl, rfl⟩
  refine WL.effG (by decide) rfl (Eff.mark 120 und_23 und_5 rfl rfl rfl) ?_
  rintro _ _ ⟨rfl, rfl⟩
  refine WL.effG (by decide) rfl (Eff.call 121 rfl Try.func35 nm_35 rfl rfl rfl (fun w hb hh => crc_Sum w ((RdH.ro (k := 120) rfl (by decide)) w hb hh))) ?_
  rintro _ _ ⟨_, ⟨rfl, rfl⟩, rfl⟩
  refine WL.effG (by decide) rfl (Eff.buildSliceM U8 130 [53#8, 54#8, 55#8, 56#8, 57#8] sty_23 rfl rfl rfl rfl rfl (by decide)) ?_
  rintro _ _ ⟨g130, rfl, rfl⟩
  refine WL.effG (by decide) rfl (Eff.mark 130 und_23 und_5 rfl rfl rfl) ?_
  rintro _ _ ⟨rfl, rfl⟩
  refine WL.effG (by decide) rfl (Eff.call 131 rfl Try.func35 nm_35 rfl rfl rfl (fun w hb hh => crc_Sum w ((RdH.ro (k := 130) rfl (by decide)) w hb hh))) ?_
  rintro _ _ ⟨_, ⟨rfl, rfl⟩, rfl⟩
  refine WL.effG (by decide) rfl (Eff.call 140 rfl Try.func40 nm_40 rfl rfl rfl (fun w hb hh => crc_Combine w _ _ _ (by omega))) ?_
  rintro _ _ ⟨_, ⟨rfl, rfl⟩, rfl⟩
  refine WL.yldG (by decide) rfl (Yld.move rfl) ?_
  refine WL.yldG (by decide) rfl (Yld.eql_u32 rfl rfl) ?_
  refine WL.new (v' := .bool true) (congrArg Value.bool (by decide +kernel)) ?_
  refine WL.yld (by decide) (Yld.pickT rfl rfl) ?_
  refine WL.yld (by decide) (Yld.assign rfl) ?_
  refine WL.done (hK5 _ _ ?_)
  refine WC.ret ?_
  exact Ret.fn [] (ResIs.one rfl rfl) rfl (by decide) ⟨rfl, rfl⟩

set_option maxRecDepth 10000 in
theorem law01_cut (w : World) {A : Option Addr} {n c m : Nat} {xs : List (BitVec 8)} (h : SlR w 1 A n c (xs.map U8)) (hm : m ≤ 9223372036854775807) :
    Fn Try.prog 34 #[.slice A n c, I64 (m : Nat)] w fun r es => r = .slice A (min n m) c ∧ es = [] := by
  have hl := h.len1
  have hcm := h.cm
  have hle := h.le
  unfold maxLen at hcm
  refine Fn.intro (N := 13) Try.func34 rfl rfl (Nat.le_of_ble_eq_true rfl) ?_
  refine WC.seqRegion fun K1 hK1 => ?_
  refine WL.yld (by decide) (Yld.assign rfl) ?_
  refine WL.done (hK1 _ _ ?_)
  refine WC.seq fun K2 hK2 => ?_
  refine WC.seqRegion fun K3 hK3 => ?_
  refine WL.yld (by decide) (Yld.move rfl) ?_
  refine WL.yld (by decide) (Yld.len und_23 rfl) ?_
  refine WL.yld (by decide) (Yld.move rfl) ?_
  refine WL.yld (by decide) (Yld.gtr rfl rfl) ?_
  refine WL.done (hK3 _ _ ?_)
  refine WC.cond rfl (fun hc4 => ?_) (fun hc4 => ?_)
  · replace hc4 := of_decide_eq_true hc4
    refine WC.seqRegion fun K5 hK5 => ?_
    refine WL.yld (by decide) (Yld.move rfl) ?_
    refine WL.yld (by decide) (Yld.move rfl) ?_
    refine WL.yld (by decide) (Yld.sliceH sty_23 rfl rfl (by omega)) ?_
    refine WL.yld (by decide) (Yld.assign rfl) ?_
    refine WL.done (hK5 _ _ ?_)
    refine WC.ret (QK.thenR ?_)
    exact Ret.fn [] (ResIs.one rfl rfl) rfl (by decide) ⟨by rw [Nat.min_eq_right (by omega)]; rfl, rfl⟩
  · replace hc4 := of_decide_eq_false hc4
    refine WC.skip ?_
    refine QK.thenN (hK2 _ _ ?_)
    refine WC.seqRegion fun K6 hK6 => ?_
    refine WL.yld (by decide) (Yld.move rfl) ?_
    refine WL.yld (by decide) (Yld.assign rfl) ?_
    refine WL.done (hK6 _ _ ?_)
    refine WC.ret ?_
    exact Ret.fn [] (ResIs.one rfl rfl) rfl (by decide) ⟨by rw [Nat.min_eq_left (by omega)], rfl⟩

set_option maxRecDepth 10000 in
theorem law_Crc32cSums (w : World) {A0 : Option Addr} {n0 c0 : Nat} {xs0 : List (BitVec 8)} (s0 : SlR w 1 A0 n0 c0 (xs0.map U8)) (x1 : BitVec 32) :
    Fn Try.prog 9 #[.slice A0 n0 c0, U32 x1] w fun r es => r = .bool true := by
  have hl0 := s0.len1
  have hcm0 := s0.cm
  have hle0 := s0.le
  unfold maxLen at hcm0
  refine Fn.intro (N := 24) Try.func9 rfl rfl (Nat.le_of_ble_eq_true rfl) ?_
  refine WC.seqRegion fun K1 hK1 => ?_
  refine WL.yld (by decide) (Yld.assign rfl) ?_
  refine WL.done (hK1 _ _ ?_)
  refine WC.seqRegion fun K2 hK2 => ?_
  refine WL.yld (by decide) (Yld.move rfl) ?_
  refine WL.eff (by decide) (Eff.call 101 rfl Try.func34 nm_34 rfl rfl rfl (fun w hb hh => law01_cut w (m := 4000) ((RdH.old s0) w hb hh) (by omega))) ?_
  rintro _ _ ⟨_, ⟨rfl, rfl⟩, rfl⟩
  refine WL.yld (by decide) (Yld.assign rfl) ?_
  refine WL.done (hK2 _ _ ?_)
  refine WC.seqRegion fun K4 hK4 => ?_
  refine WL.yld (by decide) (Yld.move rfl) ?_
  refine WL.eff (by decide) (Eff.call 110 rfl Try.func35 nm_35 rfl rfl rfl (fun w hb hh => crc_Sum w ((RdH.take1 (RdH.old s0) (Nat.min_le_left _ _)) w hb hh))) ?_
  rintro _ _ ⟨_, ⟨rfl, rfl⟩, rfl⟩
  refine WL.yld (by decide) (Yld.move rfl) ?_
  refine WL.eff (by decide) (Eff.call 119 rfl Try.func36 nm_36 rfl rfl rfl (fun w hb hh => ref_Sum w ((RdH.take1 (RdH.old s0) (Nat.min_le_left _ _)) w hb hh))) ?_
  rintro _ _ ⟨_, ⟨rfl, rfl⟩, rfl⟩
  refine WL.yld (by decide) (Yld.eql_u32 rfl rfl) ?_
  refine WL.new (v' := .bool true) (congrArg Value.bool (beq_self_eq_true _)) ?_
  refine WL.yld (by decide) (Yld.move rfl) ?_
  refine WL.yldG (by decide) rfl (Yld.move rfl) ?_
  refine WL.yldG (by decide) rfl (Yld.move rfl) ?_
  refine WL.effG (by decide) rfl (Eff.call 128 rfl Try.func37 nm_37 rfl rfl rfl (fun w hb hh => crc_Extend w _ ((RdH.take1 (RdH.old s0) (Nat.min_le_left _ _)) w hb hh))) ?_
  rintro _ _ ⟨_, ⟨rfl, rfl⟩, rfl⟩
  refine WL.yldG (by decide) rfl (Yld.move rfl) ?_
  refine WL.yldG (by decide) rfl (Yld.move rfl) ?_
  refine WL.effG (by decide) rfl (Eff.call 137 rfl Try.func38 nm_38 rfl rfl rfl (fun w hb hh => ref_Extend w _ ((RdH.take1 (RdH.old s0) (Nat.min_le_left _ _)) w hb hh))) ?_
  rintro _ _ ⟨_, ⟨rfl, rfl⟩, rfl⟩
  refine WL.yldG (by decide) rfl (Yld.eql_u32 rfl rfl) ?_
  refine WL.new (v' := .bool true) (congrArg Value.bool (beq_self_eq_true _)) ?_
  refine WL.yld (by decide) (Yld.pickT rfl rfl) ?_
  refine WL.yld (by decide) (Yld.move rfl) ?_
  refine WL.effG (by decide) rfl (Eff.call 146 rfl Try.func39 nm_39 rfl rfl rfl (fun w hb hh => law01_awake w)) ?_
  rintro _ _ ⟨_, ⟨rfl, rfl⟩, rfl⟩
  refine WL.yld (by decide) (Yld.pickT rfl rfl) ?_
  refine WL.yld (by decide) (Yld.assign rfl) ?_
  refine WL.done (hK4 _ _ ?_)
  refine WC.ret ?_
  exact Ret.fn [] (ResIs.one rfl rfl) rfl (by decide) rfl

set_option maxRecDepth 10000 in
theorem law_Crc32cExtends (w : World) {A0 : Option Addr} {n0 c0 : Nat} {xs0 : List (BitVec 8)} (s0 : SlR w 1 A0 n0 c0 (xs0.map U8)) {A1 : Option Addr} {n1 c1 : Nat} {xs1 : List (BitVec 8)} (s1 : SlR w 1 A1 n1 c1 (xs1.map U8)) :
    Fn Try.prog 10 #[.slice A0 n0 c0, .slice A1 n1 c1] w fun r es => r = .bool true := by
  have hl0 := s0.len1
  have hcm0 := s0.cm
  have hle0 := s0.le
  unfold maxLen at hcm0
  have hl1 := s1.len1
  have hcm1 := s1.cm
  have hle1 := s1.le
  unfold maxLen at hcm1
  refine Fn.intro (N := 32) Try.func10 rfl rfl (Nat.le_of_ble_eq_true rfl) ?_
  refine WC.seqRegion fun K1 hK1 => ?_
  refine WL.yld (by decide) (Yld.assign rfl) ?_
  refine WL.done (hK1 _ _ ?_)
  refine WC.seqRegion fun K2 hK2 => ?_
  refine WL.yld (by decide) (Yld.move rfl) ?_
  refine WL.eff (by decide) (Eff.call 101 rfl Try.func34 nm_34 rfl rfl rfl (fun w hb hh => law01_cut w (m := 2000) ((RdH.old s0) w hb hh) (by omega))) ?_
  rintro _ _ ⟨_, ⟨rfl, rfl⟩, rfl⟩
  refine WL.yld (by decide) (Yld.move rfl) ?_
  refine WL.eff (by decide) (Eff.call 110 rfl Try.func34 nm_34 rfl rfl rfl (fun w hb hh => law01_cut w (m := 2000) ((RdH.old s1) w hb hh) (by omega))) ?_
  rintro _ _ ⟨_, ⟨rfl, rfl⟩, rfl⟩
  refine WL.yld (by decide) (Yld.assign rfl) ?_
  refine WL.yld (by decide) (Yld.assign rfl) ?_
  refine WL.done (hK2 _ _ ?_)
  refine WC.seqRegion fun K5 hK5 => ?_
  refine WL.eff (by decide) (Eff.buildSliceM U8 119 [] sty_23 rfl rfl rfl rfl rfl (by decide)) ?_
  rintro _ _ ⟨g119, rfl, rfl⟩
  refine WL.yld (by decide) (Yld.move rfl) ?_
  refine WL.eff (by decide) (Eff.appendM (f := U8) 119 sty_23 rfl rfl rfl (RdH.take1 (RdH.old s0) (Nat.min_le_left _ _)) (by omega)) ?_
  rintro _ _ ⟨A7, c7, rfl, rfl⟩
  refine WL.yld (by decide) (Yld.move rfl) ?_
  refine WL.eff (by decide) (Eff.appendM (f := U8) 119 sty_23 rfl rfl rfl (RdH.take1 (RdH.old s1) (Nat.min_le_left _ _)) (by omega)) ?_
  rintro _ _ ⟨A8, c8, rfl, rfl⟩
  refine WL.yld (by decide) (Yld.assign rfl) ?_
  refine WL.done (hK5 _ _ ?_)
  refine WC.seqRegion fun K9 hK9 => ?_
  refine WL.yld (by decide) (Yld.move rfl) ?_
  refine WL.eff (by decide) (Eff.call 120 rfl Try.func35 nm_35 rfl rfl rfl (fun w hb hh => crc_Sum w ((RdH.take1 (RdH.old s0) (Nat.min_le_left _ _)) w hb hh))) ?_
  rintro _ _ ⟨_, ⟨rfl, rfl⟩, rfl⟩
  refine WL.yld (by decide) (Yld.move rfl) ?_
  refine WL.eff (by decide) (Eff.call 129 rfl Try.func37 nm_37 rfl rfl rfl (fun w hb hh => crc_Extend w _ ((RdH.take1 (RdH.old s1) (Nat.min_le_left _ _)) w hb hh))) ?_
  rintro _ _ ⟨_, ⟨rfl, rfl⟩, rfl⟩
  refine WL.yld (by decide) (Yld.move rfl) ?_
  refine WL.eff (by decide) (Eff.call 138 rfl Try.func35 nm_35 rfl rfl rfl (fun w hb hh => crc_Sum w ((RdH.own (k := 119) rfl) w hb hh))) ?_
  rintro _ _ ⟨_, ⟨rfl, rfl⟩, rfl⟩
  refine WL.yld (by decide) (Yld.eql_u32 rfl rfl) ?_
  refine WL.new (v' := .bool true) (by rw [crcExt_sum]; exact congrArg Value.bool (beq_self_eq_true _)) ?_
  refine WL.yld (by decide) (Yld.move rfl) ?_
  refine WL.yldG (by decide) rfl (Yld.move rfl) ?_
  refine WL.effG (by decide) rfl (Eff.call 147 rfl Try.func37 nm_37 rfl rfl rfl (fun w hb hh => crc_Extend w (0#32) ((RdH.own (k := 119) rfl) w hb hh))) ?_
  rintro _ _ ⟨_, ⟨rfl, rfl⟩, rfl⟩
  refine WL.yldG (by decide) rfl (Yld.move rfl) ?_
  refine WL.effG (by decide) rfl (Eff.call 156 rfl Try.func35 nm_35 rfl rfl rfl (fun w hb hh => crc_Sum w ((RdH.own (k := 119) rfl) w hb hh))) ?_
  rintro _ _ ⟨_, ⟨rfl, rfl⟩, rfl⟩
  refine WL.yldG (by decide) rfl (Yld.eql_u32 rfl rfl) ?_
  refine WL.new (v' := .bool true) (congrArg Value.bool (beq_self_eq_true _)) ?_
  refine WL.yld (by decide) (Yld.pickT rfl rfl) ?_
  refine WL.yld (by decide) (Yld.move rfl) ?_
  refine WL.effG (by decide) rfl (Eff.call 165 rfl Try.func39 nm_39 rfl rfl rfl (fun w hb hh => law01_awake w)) ?_
  rintro _ _ ⟨_, ⟨rfl, rfl⟩, rfl⟩
  refine WL.yld (by decide) (Yld.pickT rfl rfl) ?_
  refine WL.yld (by decide) (Yld.assign rfl) ?_
  refine WL.done (hK9 _ _ ?_)
  refine WC.ret ?_
  exact Ret.fn [] (ResIs.one rfl rfl) rfl (by decide) rfl

set_option maxRecDepth 10000 in
theorem law_Crc32cCombines (w : World) (x0 : BitVec 32) (x1 : BitVec 32) (a2 : Int) (w2 : -9223372036854775808 ≤ a2 ∧ a2 ≤ 9223372036854775807) :
    Fn Try.prog 11 #[U32 x0, U32 x1, I64 a2] w fun r es => r = .bool true := by
  refine Fn.intro (N := 19) Try.func11 rfl rfl (Nat.le_of_ble_eq_true rfl) ?_
  refine WC.seqRegion fun K1 hK1 => ?_
  refine WL.yld (by decide) (Yld.assign rfl) ?_
  refine WL.done (hK1 _ _ ?_)
  refine WC.seqRegion fun K2 hK2 => ?_
  refine WL.yld (by decide) (Yld.move rfl) ?_
  refine WL.yld (by decide) (Yld.move rfl) ?_
  refine WL.yld (by decide) (Yld.move rfl) ?_
  refine WL.eff (by decide) (Eff.call 101 rfl Try.func40 nm_40 rfl rfl rfl (fun w hb hh => crc_Combine w _ _ _ (by omega))) ?_
  rintro _ _ ⟨_, ⟨rfl, rfl⟩, rfl⟩
  refine WL.yld (by decide) (Yld.move rfl) ?_
  refine WL.yld (by decide) (Yld.move rfl) ?_
  refine WL.yld (by decide) (Yld.move rfl) ?_
  refine WL.eff (by decide) (Eff.call 110 rfl Try.func41 nm_41 rfl rfl rfl (fun w hb hh => ref_Combine w _ _ _ (by omega))) ?_
  rintro _ _ ⟨_, ⟨rfl, rfl⟩, rfl⟩
  refine WL.yld (by decide) (Yld.eql_u32 rfl rfl) ?_
  refine WL.new (v' := .bool true) (congrArg Value.bool (beq_self_eq_true _)) ?_
  refine WL.yld (by decide) (Yld.move rfl) ?_
  refine WL.effG (by decide) rfl (Eff.call 119 rfl Try.func39 nm_39 rfl rfl rfl (fun w hb hh => law01_awake w)) ?_
  rintro _ _ ⟨_, ⟨rfl, rfl⟩, rfl⟩
  refine WL.yld (by decide) (Yld.pickT rfl rfl) ?_
  refine WL.yld (by decide) (Yld.assign rfl) ?_
  refine WL.done (hK2 _ _ ?_)
  refine WC.ret ?_
  exact Ret.fn [] (ResIs.one rfl rfl) rfl (by decide) rfl

set_option maxRecDepth 10000 in
theorem law_Crc32cJoins (w : World) {A0 : Option Addr} {n0 c0 : Nat} {xs0 : List (BitVec 8)} (s0 : SlR w 1 A0 n0 c0 (xs0.map U8)) {A1 : Option Addr} {n1 c1 : Nat} {xs1 : List (BitVec 8)} (s1 : SlR w 1 A1 n1 c1 (xs1.map U8)) :
    Fn Try.prog 12 #[.slice A0 n0 c0, .slice A1 n1 c1] w fun r es => r = .bool true := by
  have hl0 := s0.len1
  have hcm0 := s0.cm
  have hle0 := s0.le
  unfold maxLen at hcm0
  have hl1 := s1.len1
  have hcm1 := s1.cm
  have hle1 := s1.le
  unfold maxLen at hcm1
  refine Fn.intro (N := 26) Try.func12 rfl rfl (Nat.le_of_ble_eq_true rfl) ?_
  refine WC.seqRegion fun K1 hK1 => ?_
  refine WL.yld (by decide) (Yld.assign rfl) ?_
  refine WL.done (hK1 _ _ ?_)
  refine WC.seqRegion fun K2 hK2 => ?_
  refine WL.yld (by decide) (Yld.move rfl) ?_
  refine WL.eff (by decide) (Eff.call 101 rfl Try.func34 nm_34 rfl rfl rfl (fun w hb hh => law01_cut w (m := 2000) ((RdH.old s0) w hb hh) (by omega))) ?_
  rintro _ _ ⟨_, ⟨rfl, rfl⟩, rfl⟩
  refine WL.yld (by decide) (Yld.move rfl) ?_
  refine WL.eff (by decide) (Eff.call 110 rfl Try.func34 nm_34 rfl rfl rfl (fun w hb hh => law01_cut w (m := 2000) ((RdH.old s1) w hb hh) (by omega))) ?_
  rintro _ _ ⟨_, ⟨rfl, rfl⟩, rfl⟩
  refine WL.yld (by decide) (Yld.assign rfl) ?_
  refine WL.yld (by decide) (Yld.assign rfl) ?_
  refine WL.done (hK2 _ _ ?_)
  refine WC.seqRegion fun K5 hK5 => ?_
  refine WL.yld (by decide) (Yld.move rfl) ?_
  refine WL.eff (by decide) (Eff.call 119 rfl Try.func35 nm_35 rfl rfl rfl (fun w hb hh => crc_Sum w ((RdH.take1 (RdH.old s0) (Nat.min_le_left _ _)) w hb hh))) ?_
  rintro _ _ ⟨_, ⟨rfl, rfl⟩, rfl⟩
  refine WL.yld (by decide) (Yld.move rfl) ?_
  refine WL.eff (by decide) (Eff.call 128 rfl Try.func35 nm_35 rfl rfl rfl (fun w hb hh => crc_Sum w ((RdH.take1 (RdH.old s1) (Nat.min_le_left _ _)) w hb hh))) ?_
  rintro _ _ ⟨_, ⟨rfl, rfl⟩, rfl⟩
  refine WL.yld (by decide) (Yld.move rfl) ?_
  refine WL.yld (by decide) (Yld.len und_23 rfl) ?_
  refine WL.eff (by decide) (Eff.call 137 rfl Try.func40 nm_40 rfl rfl rfl (fun w hb hh => crc_Combine w _ _ _ (by omega))) ?_
  rintro _ _ ⟨_, ⟨rfl, rfl⟩, rfl⟩
  refine WL.eff (by decide) (Eff.buildSliceM U8 146 [] sty_23 rfl rfl rfl rfl rfl (by decide)) ?_
  rintro _ _ ⟨g146, rfl, rfl⟩
  refine WL.yld (by decide) (Yld.move rfl) ?_
  refine WL.eff (by decide) (Eff.appendM (f := U8) 146 sty_23 rfl rfl rfl (RdH.take1 (RdH.old s0) (Nat.min_le_left _ _)) (by omega)) ?_
  rintro _ _ ⟨A10, c10, rfl, rfl⟩
  refine WL.yld (by decide) (Yld.move rfl) ?_
  refine WL.eff (by decide) (Eff.appendM (f := U8) 146 sty_23 rfl rfl rfl (RdH.take1 (RdH.old s1) (Nat.min_le_left _ _)) (by omega)) ?_
  rintro _ _ ⟨A11, c11, rfl, rfl⟩
  refine WL.eff (by decide) (Eff.call 147 rfl Try.func35 nm_35 rfl rfl rfl (fun w hb hh => crc_Sum w ((RdH.own (k := 146) rfl) w hb hh))) ?_
  rintro _ _ ⟨_, ⟨rfl, rfl⟩, rfl⟩
  refine WL.yld (by decide) (Yld.eql_u32 rfl rfl) ?_
  refine WL.new (v' := .bool true) (by rw [List.nil_append, ← crcComb_join, show (xs1.take (min n1 2000)).length = min n1 2000 by rw [List.length_take]; omega]; exact congrArg Value.bool (beq_self_eq_true _)) ?_
  refine WL.yld (by decide) (Yld.move rfl) ?_
  refine WL.effG (by decide) rfl (Eff.call 156 rfl Try.func39 nm_39 rfl rfl rfl (fun w hb hh => law01_awake w)) ?_
  rintro _ _ ⟨_, ⟨rfl, rfl⟩, rfl⟩
  refine WL.yld (by decide) (Yld.pickT rfl rfl) ?_
  refine WL.yld (by decide) (Yld.assign rfl) ?_
  refine WL.done (hK5 _ _ ?_)
  refine WC.ret ?_
  exact Ret.fn [] (ResIs.one rfl rfl) rfl (by decide) rfl

set_option maxRecDepth 10000 in
theorem law_Crc32cAssociates (w : World) (x0 : BitVec 32) (x1 : BitVec 32) (x2 : BitVec 32) (x3 : BitVec 32) (x4 : BitVec 32) :
    Fn Try.prog 13 #[U32 x0, U32 x1, U32 x2, U32 x3, U32 x4] w fun r es => r = .bool true := by
  have hx3 := x3.isLt
  have hx4 := x4.isLt
  refine Fn.intro (N := 40) Try.func13 rfl rfl (Nat.le_of_ble_eq_true rfl) ?_
  refine WC.seqRegion fun K1 hK1 => ?_
  refine WL.yld (by decide) (Yld.assign rfl) ?_
  refine WL.done (hK1 _ _ ?_)
  refine WC.seqRegion fun K2 hK2 => ?_
  refine WL.yld (by decide) (Yld.move rfl) ?_
  refine WL.yld (by decide) (Yld.move rfl) ?_
  refine WL.yld (by decide) (Yld.move rfl) ?_
  refine WL.yld (by decide) (Yld.conv_u32_i64 some_33 und_2 rfl) ?_
  refine WL.eff (by decide) (Eff.call 101 rfl Try.func40 nm_40 rfl rfl rfl (fun w hb hh => crc_Combine w _ _ _ (by omega))) ?_
  rintro _ _ ⟨_, ⟨rfl, rfl⟩, rfl⟩
  refine WL.yld (by decide) (Yld.move rfl) ?_
  refine WL.yld (by decide) (Yld.move rfl) ?_
  refine WL.yld (by decide) (Yld.conv_u32_i64 some_33 und_2 rfl) ?_
  refine WL.eff (by decide) (Eff.call 110 rfl Try.func40 nm_40 rfl rfl rfl (fun w hb hh => crc_Combine w _ _ _ (by omega))) ?_
  rintro _ _ ⟨_, ⟨rfl, rfl⟩, rfl⟩
  refine WL.yld (by decide) (Yld.assign rfl) ?_
  refine WL.done (hK2 _ _ ?_)
  refine WC.seqRegion fun K5 hK5 => ?_
  refine WL.yld (by decide) (Yld.move rfl) ?_
  refine WL.yld (by decide) (Yld.move rfl) ?_
  refine WL.yld (by decide) (Yld.move rfl) ?_
  refine WL.yld (by decide) (Yld.move rfl) ?_
  refine WL.yld (by decide) (Yld.conv_u32_i64 some_33 und_2 rfl) ?_
  refine WL.eff (by decide) (Eff.call 119 rfl Try.func40 nm_40 rfl rfl rfl (fun w hb hh => crc_Combine w _ _ _ (by omega))) ?_
  rintro _ _ ⟨_, ⟨rfl, rfl⟩, rfl⟩
  refine WL.yld (by decide) (Yld.move rfl) ?_
  refine WL.yld (by decide) (Yld.conv_u32_i64 some_33 und_2 rfl) ?_
  refine WL.yld (by decide) (Yld.move rfl) ?_
  refine WL.yld (by decide) (Yld.conv_u32_i64 some_33 und_2 rfl) ?_
  refine WL.yld (by decide) (Yld.add rfl rfl (by omega)) ?_
  refine WL.eff (by decide) (Eff.call 128 rfl Try.func40 nm_40 rfl rfl rfl (fun w hb hh => crc_Combine w _ _ _ (by omega))) ?_
  rintro _ _ ⟨_, ⟨rfl, rfl⟩, rfl⟩
  refine WL.yld (by decide) (Yld.assign rfl) ?_
  refine WL.done (hK5 _ _ ?_)
  refine WC.seqRegion fun K8 hK8 => ?_
  refine WL.yld (by decide) (Yld.move rfl) ?_
  refine WL.yld (by decide) (Yld.move rfl) ?_
  refine WL.yld (by decide) (Yld.eql_u32 rfl rfl) ?_
  refine WL.new (v' := .bool true) (by rw [crcComb_assoc]; exact congrArg Value.bool (beq_self_eq_true _)) ?_
  refine WL.yld (by decide) (Yld.move rfl) ?_
  refine WL.effG (by decide) rfl (Eff.call 137 rfl Try.func39 nm_39 rfl rfl rfl (fun w hb hh => law01_awake w)) ?_
  rintro _ _ ⟨_, ⟨rfl, rfl⟩, rfl⟩
  refine WL.yld (by decide) (Yld.pickT rfl rfl) ?_
  refine WL.yld (by decide) (Yld.assign rfl) ?_
  refine WL.done (hK8 _ _ ?_)
  refine WC.ret ?_
  exact Ret.fn [] (ResIs.one rfl rfl) rfl (by decide) rfl

set_option maxRecDepth 10000 in
theorem law_Crc32cLinear (w : World) {A0 : Option Addr} {n0 c0 : Nat} {xs0 : List (BitVec 8)} (s0 : SlR w 1 A0 n0 c0 (xs0.map U8)) {A1 : Option Addr} {n1 c1 : Nat} {xs1 : List (BitVec 8)} (s1 : SlR w 1 A1 n1 c1 (xs1.map U8)) {A2 : Option Addr} {n2 c2 : Nat} {xs2 : List (BitVec 8)} (s2 : SlR w 1 A2 n2 c2 (xs2.map U8)) :
    Fn Try.prog 14 #[.slice A0 n0 c0, .slice A1 n1 c1, .slice A2 n2 c2] w fun r es => r = .bool true := by
  have hl0 := s0.len1
  have hcm0 := s0.cm
  have hle0 := s0.le
  unfold maxLen at hcm0
  have hl1 := s1.len1
  have hcm1 := s1.cm
  have hle1 := s1.le
  unfold maxLen at hcm1
  have hl2 := s2.len1
  have hcm2 := s2.cm
  have hle2 := s2.le
  unfold maxLen at hcm2
  refine Fn.intro (N := 62) Try.func14 rfl rfl (Nat.le_of_ble_eq_true rfl) ?_
  refine WC.seqRegion fun K1 hK1 => ?_
  refine WL.yld (by decide) (Yld.assign rfl) ?_
  refine WL.done (hK1 _ _ ?_)
  obtain ⟨m, hm, hm0, hm1, hm2, hm3⟩ : ∃ m : Nat, min (min (min (n0 : Int) n1) n2) 1000 = m ∧ m ≤ n0 ∧ m ≤ n1 ∧ m ≤ n2 ∧ m ≤ 1000 := ⟨(min (min (min (n0 : Int) n1) n2) 1000).toNat, by omega, by omega, by omega, by omega, by omega⟩
  refine WC.seqRegion fun K2 hK2 => ?_
  refine WL.yld (by decide) (Yld.move rfl) ?_
  refine WL.yld (by decide) (Yld.len und_23 rfl) ?_
  refine WL.yld (by decide) (Yld.move rfl) ?_
  refine WL.yld (by decide) (Yld.len und_23 rfl) ?_
  refine WL.yld (by decide) (Yld.move rfl) ?_
  refine WL.yld (by decide) (Yld.len und_23 rfl) ?_
  refine WL.yld (by decide) (Yld.min4 rfl rfl rfl rfl) ?_
  refine WL.new (v' := I64 (m : Nat)) (congrArg I64 hm) ?_
  refine WL.yld (by decide) (Yld.assign rfl) ?_
  refine WL.done (hK2 _ _ ?_)
  refine WC.seqRegion fun K3 hK3 => ?_
  refine WL.yld (by decide) (Yld.move rfl) ?_
  refine WL.eff (by decide) (Eff.makeM U8 101 0#8 sty_23 rfl rfl rfl rfl (by omega)) ?_
  rintro _ _ ⟨g101, rfl, rfl⟩
  refine WL.yld (by decide) (Yld.assign rfl) ?_
  refine WL.done (hK3 _ _ ?_)
  refine WC.seq fun K5 hK5 => ?_
  refine WC.seqRegion fun K6 hK6 => ?_
  refine WL.yld (by decide) (Yld.move rfl) ?_
  refine WL.yld (by decide) (Yld.len und_23 rfl) ?_
  refine WL.yld (by decide) (Yld.move rfl) ?_
  refine WL.done (hK6 _ _ ?_)
  refine WC.block ?_
  refine WC.loop (σ := Nat × List (BitVec 8)) (fun ⟨k, ds⟩ => [(0, .slice A0 n0 c0), (1, .slice A1 n1 c1), (2, .slice A2 n2 c2), (7, I64 (m : Nat)), (8, .slice (some ⟨g101, 0, none⟩) m m), (20, I64 (m : Nat)), (21, I64 (k : Nat))]) (fun ⟨k, ds⟩ => [(101, .own 5 1 (some ⟨g101, 0, none⟩) m m (ds.map U8))]) (fun ⟨k, ds⟩ => k ≤ m ∧ ds.length = m ∧ ds.take k = (zip3 (xs0.take m) (xs1.take m) (xs2.take m)).take k) (fun ⟨k, ds⟩ => m - k) (0, _) ?_ (Sub.cons rfl (Sub.cons rfl (Sub.cons rfl (Sub.cons rfl (Sub.cons rfl (Sub.cons rfl (Sub.cons rfl (Sub.nil _)))))))) (Sub.cons rfl (Sub.nil _)) ?_
  · exact ⟨by omega, by simp, rfl⟩
  rintro ⟨k, ds⟩ ⟨hk, ho, ht⟩ K7 hK7
  refine WC.seqRegion fun K8 hK8 => ?_
  refine WL.yld (by decide) (Yld.lss rfl rfl) ?_
  refine WL.done (hK8 _ _ ?_)
  refine WC.seq fun K9 hK9 => ?_
  refine WC.cond rfl (fun hc10 => ?_) (fun hc10 => ?_)
  · replace hc10 := of_decide_eq_true hc10
    refine WC.skip ?_
    refine QK.thenN (hK9 _ _ ?_)
    refine WC.seq fun K11 hK11 => ?_
    refine WC.block ?_
    refine WC.seqRegion fun K12 hK12 => ?_
    refine WL.yld (by decide) (Yld.move rfl) ?_
    refine WL.yld (by decide) (Yld.assign rfl) ?_
    refine WL.done (hK12 _ _ ?_)
    refine WC.regionD (n := 18) [] rfl mixed (Sub.nil _) fun K14 hK14 => ?_
    refine WD.take 0 rfl (by kernel_rfl) (by kernel_rfl) (by kernel_rfl) (by decide) (Yld.move rfl) ?_
    refine WD.take 1 rfl (by kernel_rfl) (by kernel_rfl) (by kernel_rfl) (by decide) (Yld.move rfl) ?_
    refine WD.take 2 rfl (by kernel_rfl) (by kernel_rfl) (by kernel_rfl) (by decide) (Yld.move rfl) ?_
    refine WD.take 3 rfl (by kernel_rfl) (by kernel_rfl) (by kernel_rfl) (by decide) (Yld.move rfl) ?_
    refine WD.take 4 rfl (by kernel_rfl) (by kernel_rfl) (by kernel_rfl) (by decide) (Yld.idxAddr1 sty_23 rfl rfl (RdH.old s0) (by omega)) ?_
    refine WD.take 5 rfl (by kernel_rfl) (by kernel_rfl) (by kernel_rfl) (by decide) (Yld.loadR scal_5 rfl (RdH.old s0) (getElem?_map1 _ _ 0 (by omega))) ?_
    refine WD.take 6 rfl (by kernel_rfl) (by kernel_rfl) (by kernel_rfl) (by decide) (Yld.move rfl) ?_
    refine WD.take 7 rfl (by kernel_rfl) (by kernel_rfl) (by kernel_rfl) (by decide) (Yld.move rfl) ?_
    refine WD.take 8 rfl (by kernel_rfl) (by kernel_rfl) (by kernel_rfl) (by decide) (Yld.idxAddr1 sty_23 rfl rfl (RdH.old s1) (by omega)) ?_
    refine WD.take 9 rfl (by kernel_rfl) (by kernel_rfl) (by kernel_rfl) (by decide) (Yld.loadR scal_5 rfl (RdH.old s1) (getElem?_map1 _ _ 0 (by omega))) ?_
    refine WD.take 10 rfl (by kernel_rfl) (by kernel_rfl) (by kernel_rfl) (by decide) (Yld.xor_u8 rfl rfl) ?_
    refine WD.take 11 rfl (by kernel_rfl) (by kernel_rfl) (by kernel_rfl) (by decide) (Yld.move rfl) ?_
    refine WD.take 12 rfl (by kernel_rfl) (by kernel_rfl) (by kernel_rfl) (by decide) (Yld.move rfl) ?_
    refine WD.take 13 rfl (by kernel_rfl) (by kernel_rfl) (by kernel_rfl) (by decide) (Yld.idxAddr1 sty_23 rfl rfl (RdH.old s2) (by omega)) ?_
    refine WD.take 14 rfl (by kernel_rfl) (by kernel_rfl) (by kernel_rfl) (by decide) (Yld.loadR scal_5 rfl (RdH.old s2) (getElem?_map1 _ _ 0 (by omega))) ?_
    refine WD.take 15 rfl (by kernel_rfl) (by kernel_rfl) (by kernel_rfl) (by decide) (Yld.xor_u8 rfl rfl) ?_
    refine WD.new (v' := U8 ((zip3 (xs0.take m) (xs1.take m) (xs2.take m)).getD k 0)) (congrArg U8 (zip3_getD _ _ _ m k (by omega) (by omega) (by omega) (by omega))) ?_
    refine WD.one 16 (by kernel_rfl) ?_
    refine WS.yld rfl (by decide) (Yld.idxAddr1 sty_23 rfl rfl (RdH.own (k := 101) rfl) (by omega)) ?_
    refine WD.one 17 (by kernel_rfl) ?_
    refine WS.eff0 rfl (Eff0.storeOM U8 101 siz_5 rfl rfl rfl (by first | omega | (simp; omega))) (Sub.nil _) ?_
    refine WD.done (by kernel_rfl) (hK14 _ _ ?_)
    refine QK.blockN ?_
    refine QK.thenN (hK11 _ _ ?_)
    refine WC.region fun K15 hK15 => ?_
    refine WL.yld (by decide) (Yld.add rfl rfl (by omega)) ?_
    refine WL.yld (by decide) (Yld.move rfl) ?_
    refine WL.done (hK15 _ _ ?_)
    refine QK.thenN (hK7 (k + 1, _) _ _ ?_ ?_ (Sub.cons rfl (Sub.cons rfl (Sub.cons rfl (Sub.cons rfl (Sub.cons rfl (Sub.cons rfl (Sub.cons rfl (Sub.nil _)))))))) (Sub.cons rfl (Sub.nil _)))
    · exact ⟨by omega, by simp [ho], take_set_tgt (zip3 (xs0.take m) (xs1.take m) (xs2.take m)) ds k 0 (by rw [zip3_length _ _ _ m] <;> omega) (by omega) ht⟩
    · dsimp only; omega
  · replace hc10 := of_decide_eq_false hc10
    obtain rfl : k = m := by omega
    obtain rfl : ds = zip3 (xs0.take k) (xs1.take k) (xs2.take k) := take_all ho (zip3_length _ _ _ k (by omega) (by omega) (by omega)) ht
    refine WC.exit (QK.thenE (QK.thenE (QK.blockX ?_)))
    refine QK.thenN (hK5 _ _ ?_)
    refine WC.seqRegionD (n := 21) [(101, _)] rfl mixed (Sub.cons rfl (Sub.nil _)) fun K17 hK17 => ?_
    refine WD.take 0 rfl (by kernel_rfl) (by kernel_rfl) (by kernel_rfl) (by decide) (Yld.move rfl) ?_
    refine WD.take 2 rfl (by kernel_rfl) (by kernel_rfl) (by kernel_rfl) (by decide) (Yld.move rfl) ?_
    refine WD.take 3 rfl (by kernel_rfl) (by kernel_rfl) (by kernel_rfl) (by decide) (Yld.move rfl) ?_
    refine WD.take 4 rfl (by kernel_rfl) (by kernel_rfl) (by kernel_rfl) (by decide) (Yld.sliceH sty_23 rfl rfl (by omega)) ?_
    refine WD.take 6 rfl (by kernel_rfl) (by kernel_rfl) (by kernel_rfl) (by decide) (Yld.move rfl) ?_
    refine WD.take 7 rfl (by kernel_rfl) (by kernel_rfl) (by kernel_rfl) (by decide) (Yld.move rfl) ?_
    refine WD.take 8 rfl (by kernel_rfl) (by kernel_rfl) (by kernel_rfl) (by decide) (Yld.sliceH sty_23 rfl rfl (by omega)) ?_
    refine WD.take 11 rfl (by kernel_rfl) (by kernel_rfl) (by kernel_rfl) (by decide) (Yld.move rfl) ?_
    refine WD.take 12 rfl (by kernel_rfl) (by kernel_rfl) (by kernel_rfl) (by decide) (Yld.move rfl) ?_
    refine WD.take 13 rfl (by kernel_rfl) (by kernel_rfl) (by kernel_rfl) (by decide) (Yld.sliceH sty_23 rfl rfl (by omega)) ?_
    refine WD.one 1 (by kernel_rfl) ?_
    refine WS.eff rfl (by decide) (Eff.call 102 rfl Try.func35 nm_35 rfl rfl rfl (fun w hb hh => crc_Sum w ((RdH.own (k := 101) rfl) w hb hh))) ?_
    rintro _ _ ⟨_, ⟨rfl, rfl⟩, rfl⟩
    refine ⟨(Sub.cons rfl (Sub.nil _)), ?_⟩
    refine WD.one 5 (by kernel_rfl) ?_
    refine WS.eff rfl (by decide) (Eff.call 111 rfl Try.func35 nm_35 rfl rfl rfl (fun w hb hh => crc_Sum w ((RdH.take1 (RdH.old s0) (by omega)) w hb hh))) ?_
    rintro _ _ ⟨_, ⟨rfl, rfl⟩, rfl⟩
    refine ⟨(Sub.cons rfl (Sub.nil _)), ?_⟩
    refine WD.one 9 (by kernel_rfl) ?_
    refine WS.eff rfl (by decide) (Eff.call 120 rfl Try.func35 nm_35 rfl rfl rfl (fun w hb hh => crc_Sum w ((RdH.take1 (RdH.old s1) (by omega)) w hb hh))) ?_
    rintro _ _ ⟨_, ⟨rfl, rfl⟩, rfl⟩
    refine ⟨(Sub.cons rfl (Sub.nil _)), ?_⟩
    refine WD.take 10 rfl (by kernel_rfl) (by kernel_rfl) (by kernel_rfl) (by decide) (Yld.xor_u32 rfl rfl) ?_
    refine WD.one 14 (by kernel_rfl) ?_
    refine WS.eff rfl (by decide) (Eff.call 129 rfl Try.func35 nm_35 rfl rfl rfl (fun w hb hh => crc_Sum w ((RdH.take1 (RdH.old s2) (by omega)) w hb hh))) ?_
    rintro _ _ ⟨_, ⟨rfl, rfl⟩, rfl⟩
    refine ⟨(Sub.cons rfl (Sub.nil _)), ?_⟩
    refine WD.take 15 rfl (by kernel_rfl) (by kernel_rfl) (by kernel_rfl) (by decide) (Yld.xor_u32 rfl rfl) ?_
    refine WD.take 16 rfl (by kernel_rfl) (by kernel_rfl) (by kernel_rfl) (by decide) (Yld.eql_u32 rfl rfl) ?_
    refine WD.new (v' := .bool true) (by rw [crcSum_zip3 _ _ _ k (by omega) (by omega) (by omega)]; exact congrArg Value.bool (beq_self_eq_true _)) ?_
    refine WD.take 17 rfl (by kernel_rfl) (by kernel_rfl) (by kernel_rfl) (by decide) (Yld.move rfl) ?_
    refine WD.one 18 (by kernel_rfl) ?_
    refine WS.effG rfl (by decide) rfl (Eff.call 138 rfl Try.func39 nm_39 rfl rfl rfl (fun w hb hh => law01_awake w)) ?_
    rintro _ _ ⟨_, ⟨rfl, rfl⟩, rfl⟩
    refine ⟨(Sub.cons rfl (Sub.nil _)), ?_⟩
    refine WD.take 19 rfl (by kernel_rfl) (by kernel_rfl) (by kernel_rfl) (by decide) (Yld.pickT rfl rfl) ?_
    refine WD.take 20 rfl (by kernel_rfl) (by kernel_rfl) (by kernel_rfl) (by decide) (Yld.assign rfl) ?_
    refine WD.done (by kernel_rfl) (hK17 _ _ ?_)
    refine WC.ret ?_
    exact Ret.fn [] (ResIs.one rfl rfl) rfl (by decide) rfl

set_option maxRecDepth 10000 in
theorem law_Crc32cBursts (w : World) {A0 : Option Addr} {n0 c0 : Nat} {xs0 : List (BitVec 8)} (s0 : SlR w 1 A0 n0 c0 (xs0.map U8)) (a1 : Int) (w1 : -9223372036854775808 ≤ a1 ∧ a1 ≤ 9223372036854775807) (x2 : BitVec 32) :
    Fn Try.prog 15 #[.slice A0 n0 c0, I64 a1, U32 x2] w fun r es => r = .bool true := by
  have hl0 := s0.len1
  have hcm0 := s0.cm
  have hle0 := s0.le
  unfold maxLen at hcm0
  refine Fn.intro (N := 76) Try.func15 rfl rfl (Nat.le_of_ble_eq_true rfl) ?_
  refine WC.seqRegion fun K1 hK1 => ?_
  refine WL.yld (by decide) (Yld.assign rfl) ?_
  refine WL.done (hK1 _ _ ?_)
  refine WC.seqRegion fun K2 hK2 => ?_
  refine WL.yld (by decide) (Yld.move rfl) ?_
  refine WL.eff (by decide) (Eff.call 101 rfl Try.func34 nm_34 rfl rfl rfl (fun w hb hh => law01_cut w (m := 2000) ((RdH.old s0) w hb hh) (by omega))) ?_
  rintro _ _ ⟨_, ⟨rfl, rfl⟩, rfl⟩
  refine WL.yld (by decide) (Yld.assign rfl) ?_
  refine WL.done (hK2 _ _ ?_)
  refine WC.seq fun K4 hK4 => ?_
  refine WC.seqRegion fun K5 hK5 => ?_
  refine WL.yld (by decide) (Yld.move rfl) ?_
  refine WL.yld (by decide) (Yld.len und_23 rfl) ?_
  refine WL.yld (by decide) (Yld.eql rfl rfl) ?_
  refine WL.done (hK5 _ _ ?_)
  refine WC.cond rfl (fun hc6 => ?_) (fun hc6 => ?_)
  · replace hc6 := eq_of_beq hc6
    refine WC.seqRegion fun K7 hK7 => ?_
    refine WL.eff (by decide) (Eff.call 110 rfl Try.func39 nm_39 rfl rfl rfl (fun w hb hh => law01_awake w)) ?_
    rintro _ _ ⟨_, ⟨rfl, rfl⟩, rfl⟩
    refine WL.yld (by decide) (Yld.assign rfl) ?_
    refine WL.done (hK7 _ _ ?_)
    refine WC.ret (QK.thenR ?_)
    exact Ret.fn [] (ResIs.one rfl rfl) rfl (by decide) rfl
  · replace hc6 := ne_of_beq_false hc6
    refine WC.skip ?_
    refine QK.thenN (hK4 _ _ ?_)
    refine WC.seqRegion fun K9 hK9 => ?_
    refine WL.yld (by decide) (Yld.move rfl) ?_
    refine WL.yld (by decide) (Yld.len und_23 rfl) ?_
    refine WL.yld (by decide) (Yld.mul rfl rfl (by omega)) ?_
    refine WL.new (v' := I64 ((8 * min n0 2000 : Nat) : Int)) (congrArg I64 (by omega)) ?_
    refine WL.yld (by decide) (Yld.assign rfl) ?_
    refine WL.done (hK9 _ _ ?_)
    obtain ⟨k, hk, hkn⟩ := idx_mod a1 (8 * min n0 2000) (by omega)
    have htm := tmod_bd a1 ((8 * min n0 2000 : Nat) : Int) (by omega)
    refine WC.seqRegion fun K10 hK10 => ?_
    refine WL.yld (by decide) (Yld.move rfl) ?_
    refine WL.yld (by decide) (Yld.move rfl) ?_
    refine WL.yld (by decide) (Yld.remT rfl rfl (by omega)) ?_
    refine WL.yld (by decide) (Yld.move rfl) ?_
    refine WL.yld (by decide) (Yld.add rfl rfl (by omega)) ?_
    refine WL.yld (by decide) (Yld.move rfl) ?_
    refine WL.yld (by decide) (Yld.rem rfl rfl (by omega)) ?_
    refine WL.new (v' := I64 (k : Nat)) (congrArg I64 hk) ?_
    refine WL.yld (by decide) (Yld.assign rfl) ?_
    refine WL.done (hK10 _ _ ?_)
    refine WC.seqRegion fun K11 hK11 => ?_
    refine WL.eff (by decide) (Eff.buildSliceM U8 119 [] sty_23 rfl rfl rfl rfl rfl (by decide)) ?_
    rintro _ _ ⟨g119, rfl, rfl⟩
    refine WL.yld (by decide) (Yld.move rfl) ?_
    refine WL.eff (by decide) (Eff.appendM (f := U8) 119 sty_23 rfl rfl rfl (RdH.take1 (RdH.old s0) (Nat.min_le_left _ _)) (by omega)) ?_
    rintro _ _ ⟨A13, c13, rfl, rfl⟩
    refine WL.yld (by decide) (Yld.assign rfl) ?_
    refine WL.done (hK11 _ _ ?_)
    refine WC.seq fun K14 hK14 => ?_
    refine WC.seqRegion fun K15 hK15 => ?_
    refine WL.yld (by decide) (Yld.assign rfl) ?_
    refine WL.done (hK15 _ _ ?_)
    refine WC.block ?_
    refine WC.loop (σ := Nat × List (BitVec 8)) (fun ⟨i, os⟩ => [(0, .slice A0 (min n0 2000) c0), (2, U32 x2), (7, I64 ((8 * min n0 2000 : Nat) : Int)), (8, I64 (k : Nat)), (9, .slice A13 (0 + min n0 2000) c13), (10, I64 (i : Nat))]) (fun ⟨i, os⟩ => [(119, .own 5 1 A13 (0 + min n0 2000) c13 (os.map U8))]) (fun ⟨i, os⟩ => i ≤ 32 ∧ k + i ≤ 8 * min n0 2000 ∧ os = burstTo (xs0.take (min n0 2000)) k x2 i) (fun ⟨i, os⟩ => 32 - i) (0, _) ?_ (Sub.cons rfl (Sub.cons rfl (Sub.cons rfl (Sub.cons rfl (Sub.cons rfl (Sub.cons rfl (Sub.nil _))))))) (Sub.cons rfl (Sub.nil _)) ?_
    · exact ⟨by omega, by omega, rfl⟩
    rintro ⟨i, os⟩ ⟨hi, hki, ho⟩ K16 hK16
    refine WC.seq fun K17 hK17 => ?_
    refine WC.seqRegion fun K18 hK18 => ?_
    refine WL.yld (by decide) (Yld.move rfl) ?_
    refine WL.yld (by decide) (Yld.lss rfl rfl) ?_
    refine WL.yld (by decide) (Yld.move rfl) ?_
    refine WL.bool (fun hb19 => ?_) (fun hb19 => ?_)
    · replace hb19 := of_decide_eq_true hb19
      refine WL.yldG (by decide) rfl (Yld.move rfl) ?_
      refine WL.yldG (by decide) rfl (Yld.move rfl) ?_
      refine WL.yldG (by decide) rfl (Yld.add rfl rfl (by omega)) ?_
      refine WL.yldG (by decide) rfl (Yld.move rfl) ?_
      refine WL.yldG (by decide) rfl (Yld.lss rfl rfl) ?_
      refine WL.yld (by decide) (Yld.pickT rfl rfl) ?_
      refine WL.done (hK18 _ _ ?_)
      refine WC.cond rfl (fun hc20 => ?_) (fun hc20 => ?_)
      · replace hc20 := of_decide_eq_true hc20
        refine WC.skip ?_
        refine QK.thenN (hK17 _ _ ?_)
        refine WC.seq fun K21 hK21 => ?_
        refine WC.block ?_
        refine WC.region fun K22 hK22 => ?_
        refine WL.yld (by decide) (Yld.move rfl) ?_
        refine WL.yld (by decide) (Yld.move rfl) ?_
        refine WL.yld (by decide) (Yld.move rfl) ?_
        refine WL.yld (by decide) (Yld.add rfl rfl (by omega)) ?_
        refine WL.yld (by decide) (Yld.quo rfl rfl (by omega)) ?_
        refine WL.new (v' := I64 (((k + i) / 8 : Nat) : Int)) (congrArg I64 (by omega)) ?_
        refine WL.yld (by decide) (Yld.idxAddr1 sty_23 rfl rfl (RdH.own (k := 119) rfl) (by omega)) ?_
        refine WL.yld (by decide) (Yld.loadR scal_5 rfl (RdH.own (k := 119) rfl) (getElem?_map1 _ _ 0 (by subst ho; rw [burstTo_length, List.length_take]; omega))) ?_
        refine WL.yld (by decide) (Yld.move rfl) ?_
        refine WL.yld (by decide) (Yld.move rfl) ?_
        refine WL.yld (by decide) (Yld.conv_i64_uint some_3 und_34 rfl (by omega)) ?_
        refine WL.yld (by decide) (Yld.shr_u32 rfl rfl (by omega)) ?_
        refine WL.yld (by decide) (Yld.and_u32 (b := 1#32) rfl rfl) ?_
        refine WL.yld (by decide) (Yld.move rfl) ?_
        refine WL.yld (by decide) (Yld.move rfl) ?_
        refine WL.yld (by decide) (Yld.add rfl rfl (by omega)) ?_
        refine WL.yld (by decide) (Yld.rem rfl rfl (by omega)) ?_
        refine WL.new (v' := I64 (((k + i) % 8 : Nat) : Int)) (congrArg I64 (by omega)) ?_
        refine WL.yld (by decide) (Yld.conv_i64_uint some_3 und_34 rfl (by omega)) ?_
        refine WL.yld (by decide) (Yld.shl_u32 rfl rfl (by omega)) ?_
        refine WL.yld (by decide) (Yld.conv_u32_u8 some_33 und_5 rfl) ?_
        refine WL.yld (by decide) (Yld.xor_u8 rfl rfl) ?_
        refine WL.yld (by decide) (Yld.idxAddr1 sty_23 rfl rfl (RdH.own (k := 119) rfl) (by omega)) ?_
        refine WL.eff0 (Eff0.storeOM U8 119 siz_5 rfl rfl rfl (by subst ho; rw [burstTo_length, List.length_take]; omega)) ?_
        refine WL.done (hK22 _ _ ?_)
        refine QK.blockN ?_
        refine QK.thenN (hK21 _ _ ?_)
        refine WC.region fun K23 hK23 => ?_
        refine WL.yld (by decide) (Yld.move rfl) ?_
        refine WL.yld (by decide) (Yld.add rfl rfl (by omega)) ?_
        refine WL.yld (by decide) (Yld.assign rfl) ?_
        refine WL.done (hK23 _ _ ?_)
        refine QK.thenN (hK16 (i + 1, _) _ _ ?_ ?_ (Sub.cons rfl (Sub.cons rfl (Sub.cons rfl (Sub.cons rfl (Sub.cons rfl (Sub.cons rfl (Sub.nil _))))))) (Sub.cons rfl (Sub.nil _)))
        · exact ⟨by omega, by omega, by subst ho; rfl⟩
        · dsimp only; omega
      · replace hc20 := of_decide_eq_false hc20
        refine WC.exit (QK.thenE (QK.thenE (QK.blockX ?_)))
        refine QK.thenN (hK14 _ _ ?_)
        refine WC.seqRegionD (n := 15) [(119, _)] rfl mixed (Sub.cons rfl (Sub.nil _)) fun K25 hK25 => ?_
        refine WD.take 0 rfl (by kernel_rfl) (by kernel_rfl) (by kernel_rfl) (by decide) (Yld.move rfl) ?_
        refine WD.take 1 rfl (by kernel_rfl) (by kernel_rfl) (by kernel_rfl) (by decide) (Yld.b2s und_23 und_5 und_9 rfl (RdH.take1 (RdH.old s0) (Nat.min_le_left _ _))) ?_
        refine WD.take 2 rfl (by kernel_rfl) (by kernel_rfl) (by kernel_rfl) (by decide) (Yld.move rfl) ?_
        refine WD.take 3 rfl (by kernel_rfl) (by kernel_rfl) (by kernel_rfl) (by decide) (Yld.b2s und_23 und_5 und_9 rfl (RdH.own (k := 119) rfl)) ?_
        refine WD.take 4 rfl (by kernel_rfl) (by kernel_rfl) (by kernel_rfl) (by decide) (Yld.eqlStr rfl rfl) ?_
        refine WD.take 5 rfl (by kernel_rfl) (by kernel_rfl) (by kernel_rfl) (by decide) (Yld.move rfl) ?_
        refine WD.take 7 rfl (by kernel_rfl) (by kernel_rfl) (by kernel_rfl) (by decide) (Yld.move rfl) ?_
        refine WD.one 6 (by kernel_rfl) ?_
        refine WS.eff rfl (by decide) (Eff.call 120 rfl Try.func35 nm_35 rfl rfl rfl (fun w hb hh => crc_Sum w ((RdH.take1 (RdH.old s0) (Nat.min_le_left _ _)) w hb hh))) ?_
        rintro _ _ ⟨_, ⟨rfl, rfl⟩, rfl⟩
        refine ⟨(Sub.cons rfl (Sub.nil _)), ?_⟩
        refine WD.one 8 (by kernel_rfl) ?_
        refine WS.eff rfl (by decide) (Eff.call 129 rfl Try.func35 nm_35 rfl rfl rfl (fun w hb hh => crc_Sum w ((RdH.own (k := 119) rfl) w hb hh))) ?_
        rintro _ _ ⟨_, ⟨rfl, rfl⟩, rfl⟩
        refine ⟨(Sub.cons rfl (Sub.nil _)), ?_⟩
        refine WD.take 9 rfl (by kernel_rfl) (by kernel_rfl) (by kernel_rfl) (by decide) (Yld.eql_u32 rfl rfl) ?_
        refine WD.take 10 rfl (by kernel_rfl) (by kernel_rfl) (by kernel_rfl) (by decide) (Yld.eqlB und_4 rfl rfl) ?_
        refine WD.new (v' := .bool true) (by subst ho; exact congrArg Value.bool (burst_law _ _ _ _ (by rw [List.length_take]; omega))) ?_
        refine WD.take 11 rfl (by kernel_rfl) (by kernel_rfl) (by kernel_rfl) (by decide) (Yld.move rfl) ?_
        refine WD.one 12 (by kernel_rfl) ?_
        refine WS.effG rfl (by decide) rfl (Eff.call 138 rfl Try.func39 nm_39 rfl rfl rfl (fun w hb hh => law01_awake w)) ?_
        rintro _ _ ⟨_, ⟨rfl, rfl⟩, rfl⟩
        refine ⟨(Sub.cons rfl (Sub.nil _)), ?_⟩
        refine WD.take 13 rfl (by kernel_rfl) (by kernel_rfl) (by kernel_rfl) (by decide) (Yld.pickT rfl rfl) ?_
        refine WD.take 14 rfl (by kernel_rfl) (by kernel_rfl) (by kernel_rfl) (by decide) (Yld.assign rfl) ?_
        refine WD.done (by kernel_rfl) (hK25 _ _ ?_)
        refine WC.ret ?_
        exact Ret.fn [] (ResIs.one rfl rfl) rfl (by decide) rfl
    · replace hb19 := of_decide_eq_false hb19
      refine WL.skip (by decide) rfl rfl ?_
      refine WL.skip (by decide) rfl rfl ?_
      refine WL.skip (by decide) rfl rfl ?_
      refine WL.skip (by decide) rfl rfl ?_
      refine WL.skip (by decide) rfl rfl ?_
      refine WL.yld (by decide) (Yld.pickF rfl rfl) ?_
      refine WL.done (hK18 _ _ ?_)
      refine WC.condF rfl ?_
      refine WC.exit (QK.thenE (QK.thenE (QK.blockX ?_)))
      refine QK.thenN (hK14 _ _ ?_)
      refine WC.seqRegionD (n := 15) [(119, _)] rfl mixed (Sub.cons rfl (Sub.nil _)) fun K30 hK30 => ?_
      refine WD.take 0 rfl (by kernel_rfl) (by kernel_rfl) (by kernel_rfl) (by decide) (Yld.move rfl) ?_
      refine WD.take 1 rfl (by kernel_rfl) (by kernel_rfl) (by kernel_rfl) (by decide) (Yld.b2s und_23 und_5 und_9 rfl (RdH.take1 (RdH.old s0) (Nat.min_le_left _ _))) ?_
      refine WD.take 2 rfl (by kernel_rfl) (by kernel_rfl) (by kernel_rfl) (by decide) (Yld.move rfl) ?_
      refine WD.take 3 rfl (by kernel_rfl) (by kernel_rfl) (by kernel_rfl) (by decide) (Yld.b2s und_23 und_5 und_9 rfl (RdH.own (k := 119) rfl)) ?_
      refine WD.take 4 rfl (by kernel_rfl) (by kernel_rfl) (by kernel_rfl) (by decide) (Yld.eqlStr rfl rfl) ?_
      refine WD.take 5 rfl (by kernel_rfl) (by kernel_rfl) (by kernel_rfl) (by decide) (Yld.move rfl) ?_
      refine WD.take 7 rfl (by kernel_rfl) (by kernel_rfl) (by kernel_rfl) (by decide) (Yld.move rfl) ?_
      refine WD.one 6 (by kernel_rfl) ?_
      refine WS.eff rfl (by decide) (Eff.call 147 rfl Try.func35 nm_35 rfl rfl rfl (fun w hb hh => crc_Sum w ((RdH.take1 (RdH.old s0) (Nat.min_le_left _ _)) w hb hh))) ?_
      rintro _ _ ⟨_, ⟨rfl, rfl⟩, rfl⟩
      refine ⟨(Sub.cons rfl (Sub.nil _)), ?_⟩
      refine WD.one 8 (by kernel_rfl) ?_
      refine WS.eff rfl (by decide) (Eff.call 156 rfl Try.func35 nm_35 rfl rfl rfl (fun w hb hh => crc_Sum w ((RdH.own (k := 119) rfl) w hb hh))) ?_
      rintro _ _ ⟨_, ⟨rfl, rfl⟩, rfl⟩
      refine ⟨(Sub.cons rfl (Sub.nil _)), ?_⟩
      refine WD.take 9 rfl (by kernel_rfl) (by kernel_rfl) (by kernel_rfl) (by decide) (Yld.eql_u32 rfl rfl) ?_
      refine WD.take 10 rfl (by kernel_rfl) (by kernel_rfl) (by kernel_rfl) (by decide) (Yld.eqlB und_4 rfl rfl) ?_
      refine WD.new (v' := .bool true) (by subst ho; exact congrArg Value.bool (burst_law _ _ _ _ (by rw [List.length_take]; omega))) ?_
      refine WD.take 11 rfl (by kernel_rfl) (by kernel_rfl) (by kernel_rfl) (by decide) (Yld.move rfl) ?_
      refine WD.one 12 (by kernel_rfl) ?_
      refine WS.effG rfl (by decide) rfl (Eff.call 165 rfl Try.func39 nm_39 rfl rfl rfl (fun w hb hh => law01_awake w)) ?_
      rintro _ _ ⟨_, ⟨rfl, rfl⟩, rfl⟩
      refine ⟨(Sub.cons rfl (Sub.nil _)), ?_⟩
      refine WD.take 13 rfl (by kernel_rfl) (by kernel_rfl) (by kernel_rfl) (by decide) (Yld.pickT rfl rfl) ?_
      refine WD.take 14 rfl (by kernel_rfl) (by kernel_rfl) (by kernel_rfl) (by decide) (Yld.assign rfl) ?_
      refine WD.done (by kernel_rfl) (hK30 _ _ ?_)
      refine WC.ret ?_
      exact Ret.fn [] (ResIs.one rfl rfl) rfl (by decide) rfl

end Go.Proofs.Ytibopglhgbbmpaa
