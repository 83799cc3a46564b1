/-
  The statements on journals: every input, the law returns true.
  Printed by a program of ours (gen.py, spec_law14.py) from the function's operations. Conditions: as each theorem says.
-/
import Derived.Test.YtibopglhgbbmpaaK9
import Derived.Test.YtibopglhgbbmpaaM4
import Derived.Test.YtibopglhgbbmpaaF2
namespace Go.Proofs.Ytibopglhgbbmpaa
open Go Go.RowKit
set_option linter.unusedVariables false

theorem und_26 : Try.prog.underlying 26 = some (.slice 23) := by kernel_rfl
theorem nm_19 : (Try.f19.name == "runtime.NumGoroutine") = false := by kernel_rfl
theorem nm_20 : (Try.f20.name == "runtime.NumGoroutine") = false := by kernel_rfl
theorem nm_21 : (Try.f21.name == "runtime.NumGoroutine") = false := by kernel_rfl
theorem nm_22 : (Try.f22.name == "runtime.NumGoroutine") = false := by kernel_rfl
theorem nm_23 : (Try.f23.name == "runtime.NumGoroutine") = false := by kernel_rfl
theorem nm_24 : (Try.f24.name == "runtime.NumGoroutine") = false := by kernel_rfl
theorem nm_25 : (Try.f25.name == "runtime.NumGoroutine") = false := by kernel_rfl
theorem scal_23 : scal Try.prog 23 = true := by kernel_rfl
theorem siz_5 : (Try.prog.info? 5).map (·.size) = some 1 := by kernel_rfl
theorem sty_26 : STy Try.prog 26 23 (.slice none 0 0) 1 24 := STy.of und_26 (by kernel_rfl) rfl

set_option maxRecDepth 10000 in
theorem law14_cut (w : World) {Ax : Option Addr} {nx cx : Nat} {xsx : List (BitVec 64)} (hx : SlR w 1 Ax nx cx (xsx.map U64)) :
    Fn Try.prog 20 #[.slice Ax nx cx] w fun r es => r = .slice Ax (min nx 60) cx ∧ es = [] := by
  have hlx := hx.len1
  have hcmx := hx.cm
  have hlex := hx.le
  unfold maxLen at hcmx
  refine Fn.intro (N := 9) Try.func20 rfl rfl (Nat.le_of_ble_eq_true rfl) ?_
  refine WC.seqRegion fun K1 hK1 => ?_
  refine WL.yld (by decide) (Yld.assign rfl) ?_
  refine WL.done (hK1 _ _ ?_)
  refine WC.seq fun K2 hK2 => ?_
  refine WC.seqRegion fun K3 hK3 => ?_
  refine WL.yld (by decide) (Yld.move rfl) ?_
  refine WL.yld (by decide) (Yld.len und_22 rfl) ?_
  refine WL.yld (by decide) (Yld.gtr rfl rfl) ?_
  refine WL.done (hK3 _ _ ?_)
  refine WC.cond rfl (fun hc4 => ?_) (fun hc4 => ?_)
  · replace hc4 := of_decide_eq_true hc4
    refine WC.seqRegion fun K5 hK5 => ?_
    refine WL.yld (by decide) (Yld.move rfl) ?_
    refine WL.yld (by decide) (Yld.sliceH sty_22 rfl rfl (by omega)) ?_
    refine WL.yld (by decide) (Yld.assign rfl) ?_
    refine WL.done (hK5 _ _ ?_)
    refine WC.ret (QK.thenR ?_)
    exact Ret.fn [] (ResIs.one rfl rfl) rfl (by decide) ⟨by rw [Nat.min_eq_right (by omega)]; rfl, rfl⟩
  · replace hc4 := of_decide_eq_false hc4
    refine WC.skip ?_
    refine QK.thenN (hK2 _ _ ?_)
    refine WC.seqRegion fun K6 hK6 => ?_
    refine WL.yld (by decide) (Yld.move rfl) ?_
    refine WL.yld (by decide) (Yld.assign rfl) ?_
    refine WL.done (hK6 _ _ ?_)
    refine WC.ret ?_
    exact Ret.fn [] (ResIs.one rfl rfl) rfl (by decide) ⟨by rw [Nat.min_eq_left (by omega)], rfl⟩

set_option maxRecDepth 10000 in
theorem law14_awake (w : World)  :
    Fn Try.prog 25 #[] w fun r es => r = .bool true ∧ es = [] := by
  refine Fn.intro (N := 34) Try.func25 rfl rfl (Nat.le_of_ble_eq_true rfl) ?_
  refine WC.seqRegion fun K1 hK1 => ?_
  refine WL.yld (by decide) (Yld.assign rfl) ?_
  refine WL.done (hK1 _ _ ?_)
  refine WC.seqRegion fun K2 hK2 => ?_
  refine WL.eff (by decide) (Eff.makeM U8 101 0#8 sty_23 rfl rfl rfl rfl (by omega)) ?_
  rintro _ _ ⟨g101, rfl, rfl⟩
  refine WL.eff (by decide) (Eff.call 102 rfl Try.func22 nm_22 rfl rfl rfl (fun w hb hh => j_Decode w ((RdH.own (k := 101) rfl) w hb hh) (by first | omega | (simp; omega)))) ?_
  rintro _ _ ⟨_, ⟨A4, c4, rfl, rfl⟩, rfl⟩
  refine WL.yld (by decide) (Yld.move rfl) ?_
  refine WL.yld (by decide) (Yld.extract rfl rfl) ?_
  refine WL.yld (by decide) (Yld.extract rfl rfl) ?_
  refine WL.yld (by decide) (Yld.assign rfl) ?_
  refine WL.yld (by decide) (Yld.assign rfl) ?_
  refine WL.done (hK2 _ _ ?_)
  refine WC.seqRegion fun K5 hK5 => ?_
  refine WL.eff (by decide) (Eff.buildSliceM U64 111 [7#64] sty_22 rfl rfl rfl rfl rfl (by decide)) ?_
  rintro _ _ ⟨g111, rfl, rfl⟩
  refine WL.eff (by decide) (Eff.call 112 rfl Try.func21 nm_21 rfl rfl rfl (fun w hb hh => j_Encode w ((RdH.own (k := 111) rfl) w hb hh) (by omega))) ?_
  rintro _ _ ⟨_, ⟨A7, c7, rfl, rfl⟩, rfl⟩
  refine WL.yld (by decide) (Yld.assign rfl) ?_
  refine WL.done (hK5 _ _ ?_)
  refine WC.seqRegion fun K8 hK8 => ?_
  refine WL.eff (by decide) (Eff.call 121 rfl Try.func21 nm_21 rfl rfl rfl (fun w hb hh => j_Encode w (RdH.nilM w hb hh) (by omega))) ?_
  rintro _ _ ⟨_, ⟨A9, c9, rfl, rfl⟩, rfl⟩
  refine WL.yld (by decide) (Yld.len und_23 rfl) ?_
  refine WL.yld (by decide) (Yld.eql rfl rfl) ?_
  refine WL.new (v' := .bool true) rfl ?_
  refine WL.yld (by decide) (Yld.move rfl) ?_
  refine WL.yldG (by decide) rfl (Yld.move rfl) ?_
  refine WL.yldG (by decide) rfl (Yld.len und_22 rfl) ?_
  refine WL.yldG (by decide) rfl (Yld.eql rfl rfl) ?_
  refine WL.new (v' := .bool true) (by rw [jd_short (by simp)]; rfl) ?_
  refine WL.yld (by decide) (Yld.pickT rfl rfl) ?_
  refine WL.yld (by decide) (Yld.move rfl) ?_
  refine WL.yldG (by decide) rfl (Yld.move rfl) ?_
  refine WL.yldG (by decide) rfl (Yld.eql rfl rfl) ?_
  refine WL.new (v' := .bool true) (by rw [jd_short (by simp)]; rfl) ?_
  refine WL.yld (by decide) (Yld.pickT rfl rfl) ?_
  refine WL.yld (by decide) (Yld.move rfl) ?_
  refine WL.yldG (by decide) rfl (Yld.move rfl) ?_
  refine WL.yldG (by decide) rfl (Yld.len und_23 rfl) ?_
  refine WL.yldG (by decide) rfl (Yld.eql rfl rfl) ?_
  refine WL.new (v' := .bool true) rfl ?_
  refine WL.yld (by decide) (Yld.pickT rfl rfl) ?_
  refine WL.yld (by decide) (Yld.move rfl) ?_
  refine WL.yldG (by decide) rfl (Yld.move rfl) ?_
  refine WL.yldG (by decide) rfl (Yld.idxAddr1 sty_23 rfl rfl (RdH.own (k := 112) rfl) (by omega)) ?_
  refine WL.yldG (by decide) rfl (Yld.loadR scal_5 rfl (RdH.own (k := 112) rfl) (getElem?_map1 _ _ 0 (by decide +kernel))) ?_
  refine WL.yldG (by decide) rfl (Yld.eql_u8 (b := 7#8) rfl rfl) ?_
  refine WL.new (v' := .bool true) (congrArg Value.bool (by decide +kernel)) ?_
  refine WL.yld (by decide) (Yld.pickT rfl rfl) ?_
  refine WL.yld (by decide) (Yld.assign rfl) ?_
  refine WL.done (hK8 _ _ ?_)
  refine WC.ret ?_
  exact Ret.fn [] (ResIs.one rfl rfl) rfl (by decide) ⟨rfl, rfl⟩

set_option maxRecDepth 10000 in
theorem law_JournalTorn (w : World) {A0 : Option Addr} {n0 c0 : Nat} {xs0 : List (BitVec 64)} (s0 : SlR w 1 A0 n0 c0 (xs0.map U64)) (a1 : Int) (w1 : -9223372036854775808 ≤ a1 ∧ a1 ≤ 9223372036854775807) :
    Fn Try.prog 4 #[.slice A0 n0 c0, I64 a1] w fun r es => r = .bool true := by
  have hl0 := s0.len1
  have hcm0 := s0.cm
  have hle0 := s0.le
  unfold maxLen at hcm0
  refine Fn.intro (N := 56) Try.func4 rfl rfl (Nat.le_of_ble_eq_true rfl) ?_
  refine WC.seqRegion fun K1 hK1 => ?_
  refine WL.yld (by decide) (Yld.assign rfl) ?_
  refine WL.done (hK1 _ _ ?_)
  refine WC.seqRegion fun K2 hK2 => ?_
  refine WL.yld (by decide) (Yld.move rfl) ?_
  refine WL.eff (by decide) (Eff.call 101 rfl Try.func20 nm_20 rfl rfl rfl (fun w hb hh => law14_cut w ((RdH.old s0) w hb hh))) ?_
  rintro _ _ ⟨_, ⟨rfl, rfl⟩, rfl⟩
  refine WL.yld (by decide) (Yld.assign rfl) ?_
  refine WL.done (hK2 _ _ ?_)
  refine WC.seqRegion fun K4 hK4 => ?_
  refine WL.yld (by decide) (Yld.move rfl) ?_
  refine WL.eff (by decide) (Eff.call 110 rfl Try.func21 nm_21 rfl rfl rfl (fun w hb hh => j_Encode w ((RdH.take1 (RdH.old s0) (Nat.min_le_left _ 60)) w hb hh) (by omega))) ?_
  rintro _ _ ⟨_, ⟨A5, c5, rfl, rfl⟩, rfl⟩
  refine WL.yld (by decide) (Yld.assign rfl) ?_
  refine WL.done (hK4 _ _ ?_)
  refine WC.seq fun K6 hK6 => ?_
  refine WC.seqRegion fun K7 hK7 => ?_
  refine WL.yld (by decide) (Yld.move rfl) ?_
  refine WL.yld (by decide) (Yld.len und_23 rfl) ?_
  refine WL.yld (by decide) (Yld.move rfl) ?_
  refine WL.yld (by decide) (Yld.len und_22 rfl) ?_
  refine WL.yld (by decide) (Yld.mul rfl rfl (by omega)) ?_
  refine WL.yld (by decide) (Yld.neq rfl rfl) ?_
  refine WL.done (hK7 _ _ ?_)
  refine WC.cond rfl (fun hc8 => ?_) (fun hc8 => ?_)
  · replace hc8 := bne_iff_ne.1 hc8
    exfalso; omega
  · replace hc8 := bne_eq_false_iff_eq.1 hc8
    refine WC.skip ?_
    refine QK.thenN (hK6 _ _ ?_)
    obtain ⟨left, hk, hkn⟩ := idx_mod a1 (12 * min n0 60 + 1) (by omega)
    have htm := tmod_bd a1 ((12 * min n0 60 + 1 : Nat) : Int) (by omega)
    refine WC.seqRegion fun K9 hK9 => ?_
    refine WL.yld (by decide) (Yld.move rfl) ?_
    refine WL.yld (by decide) (Yld.move rfl) ?_
    refine WL.yld (by decide) (Yld.len und_23 rfl) ?_
    refine WL.yld (by decide) (Yld.add rfl rfl (by omega)) ?_
    refine WL.new (v' := I64 ((12 * min n0 60 + 1 : Nat) : Int)) (congrArg I64 (by omega)) ?_
    refine WL.yld (by decide) (Yld.remT rfl rfl (by omega)) ?_
    refine WL.yld (by decide) (Yld.move rfl) ?_
    refine WL.yld (by decide) (Yld.len und_23 rfl) ?_
    refine WL.yld (by decide) (Yld.add rfl rfl (by omega)) ?_
    refine WL.yld (by decide) (Yld.add rfl rfl (by omega)) ?_
    refine WL.new (v' := I64 (a1.tmod ((12 * min n0 60 + 1 : Nat) : Int) + ((12 * min n0 60 + 1 : Nat) : Int))) (congrArg I64 (by omega)) ?_
    refine WL.yld (by decide) (Yld.move rfl) ?_
    refine WL.yld (by decide) (Yld.len und_23 rfl) ?_
    refine WL.yld (by decide) (Yld.add rfl rfl (by omega)) ?_
    refine WL.new (v' := I64 ((12 * min n0 60 + 1 : Nat) : Int)) (congrArg I64 (by omega)) ?_
    refine WL.yld (by decide) (Yld.rem rfl rfl (by omega)) ?_
    refine WL.new (v' := I64 (left : Nat)) (congrArg I64 hk) ?_
    refine WL.yld (by decide) (Yld.assign rfl) ?_
    refine WL.done (hK9 _ _ ?_)
    refine WC.fact (RdH.own (k := 110) rfl) fun hle6 hcm6 _ => ?_
    refine WC.seqRegion fun K10 hK10 => ?_
    refine WL.yld (by decide) (Yld.move rfl) ?_
    refine WL.yld (by decide) (Yld.move rfl) ?_
    refine WL.yld (by decide) (Yld.sliceH sty_23 rfl rfl (by omega)) ?_
    refine WL.eff (by decide) (Eff.call 119 rfl Try.func22 nm_22 rfl rfl rfl (fun w hb hh => j_Decode w ((RdH.take1 (RdH.own (k := 110) rfl) (by omega)) w hb hh) (by first | omega | (simp; omega)))) ?_
    rintro _ _ ⟨_, ⟨A11, c11, rfl, rfl⟩, rfl⟩
    refine WL.yld (by decide) (Yld.move rfl) ?_
    refine WL.yld (by decide) (Yld.extract rfl rfl) ?_
    refine WL.yld (by decide) (Yld.extract rfl rfl) ?_
    refine WL.yld (by decide) (Yld.assign rfl) ?_
    refine WL.yld (by decide) (Yld.assign rfl) ?_
    refine WL.done (hK10 _ _ ?_)
    refine WC.seqRegion fun K12 hK12 => ?_
    refine WL.yld (by decide) (Yld.move rfl) ?_
    refine WL.yld (by decide) (Yld.move rfl) ?_
    refine WL.yld (by decide) (Yld.move rfl) ?_
    refine WL.yld (by decide) (Yld.quo rfl rfl (by omega)) ?_
    refine WL.new (v' := I64 ((left / 12 : Nat) : Int)) (congrArg I64 (by omega)) ?_
    refine WL.yld (by decide) (Yld.sliceH sty_22 rfl rfl (by omega)) ?_
    refine WL.eff (by decide) (Eff.call 128 rfl Try.func24 nm_24 rfl rfl rfl (fun w hb hh => r14_Same w ((RdH.own (k := 119) rfl) w hb hh) ((RdH.take1 (RdH.take1 (RdH.old s0) (Nat.min_le_left _ 60)) (by omega)) w hb hh) (jd_torn _ _ (by rw [List.length_take]; omega)))) ?_
    rintro _ _ ⟨_, ⟨rfl, rfl⟩, rfl⟩
    refine WL.yld (by decide) (Yld.move rfl) ?_
    refine WL.yldG (by decide) rfl (Yld.move rfl) ?_
    refine WL.yldG (by decide) rfl (Yld.move rfl) ?_
    refine WL.yldG (by decide) rfl (Yld.quo rfl rfl (by omega)) ?_
    refine WL.new (v' := I64 ((left / 12 : Nat) : Int)) (congrArg I64 (by omega)) ?_
    refine WL.yldG (by decide) rfl (Yld.mul rfl rfl (by omega)) ?_
    refine WL.yldG (by decide) rfl (Yld.eql rfl rfl) ?_
    refine WL.new (v' := .bool true) (by rw [show jd ((jenc (xs0.take (min n0 60))).take (left : Int).toNat) = (xs0.take (min n0 60)).take (left / 12) from jd_torn _ _ (by rw [List.length_take]; omega)]; refine congrArg Value.bool (beq_iff_eq.2 ?_); rw [List.length_take, List.length_take]; omega) ?_
    refine WL.yld (by decide) (Yld.pickT rfl rfl) ?_
    refine WL.yld (by decide) (Yld.move rfl) ?_
    refine WL.effG (by decide) rfl (Eff.call 137 rfl Try.func25 nm_25 rfl rfl rfl (fun w hb hh => law14_awake w)) ?_
    rintro _ _ ⟨_, ⟨rfl, rfl⟩, rfl⟩
    refine WL.yld (by decide) (Yld.pickT rfl rfl) ?_
    refine WL.yld (by decide) (Yld.assign rfl) ?_
    refine WL.done (hK12 _ _ ?_)
    refine WC.ret ?_
    exact Ret.fn [] (ResIs.one rfl rfl) rfl (by decide) rfl

set_option maxRecDepth 10000 in
theorem law_JournalJoins (w : World) {A0 : Option Addr} {n0 c0 : Nat} {xs0 : List (BitVec 64)} (s0 : SlR w 1 A0 n0 c0 (xs0.map U64)) {A1 : Option Addr} {n1 c1 : Nat} {xs1 : List (BitVec 64)} (s1 : SlR w 1 A1 n1 c1 (xs1.map U64)) :
    Fn Try.prog 5 #[.slice A0 n0 c0, .slice A1 n1 c1] w fun r es => r = .bool true := by
  have hl0 := s0.len1
  have hcm0 := s0.cm
  have hle0 := s0.le
  unfold maxLen at hcm0
  have hl1 := s1.len1
  have hcm1 := s1.cm
  have hle1 := s1.le
  unfold maxLen at hcm1
  refine Fn.intro (N := 44) Try.func5 rfl rfl (Nat.le_of_ble_eq_true rfl) ?_
  refine WC.seqRegion fun K1 hK1 => ?_
  refine WL.yld (by decide) (Yld.assign rfl) ?_
  refine WL.done (hK1 _ _ ?_)
  refine WC.seqRegion fun K2 hK2 => ?_
  refine WL.yld (by decide) (Yld.move rfl) ?_
  refine WL.eff (by decide) (Eff.call 101 rfl Try.func20 nm_20 rfl rfl rfl (fun w hb hh => law14_cut w ((RdH.old s0) w hb hh))) ?_
  rintro _ _ ⟨_, ⟨rfl, rfl⟩, rfl⟩
  refine WL.yld (by decide) (Yld.move rfl) ?_
  refine WL.eff (by decide) (Eff.call 110 rfl Try.func20 nm_20 rfl rfl rfl (fun w hb hh => law14_cut w ((RdH.old s1) w hb hh))) ?_
  rintro _ _ ⟨_, ⟨rfl, rfl⟩, rfl⟩
  refine WL.yld (by decide) (Yld.assign rfl) ?_
  refine WL.yld (by decide) (Yld.assign rfl) ?_
  refine WL.done (hK2 _ _ ?_)
  refine WC.seqRegion fun K5 hK5 => ?_
  refine WL.eff (by decide) (Eff.buildSliceM U8 119 [] sty_23 rfl rfl rfl rfl rfl (by decide)) ?_
  rintro _ _ ⟨g119, rfl, rfl⟩
  refine WL.yld (by decide) (Yld.move rfl) ?_
  refine WL.eff (by decide) (Eff.call 120 rfl Try.func21 nm_21 rfl rfl rfl (fun w hb hh => j_Encode w ((RdH.take1 (RdH.old s0) (Nat.min_le_left _ 60)) w hb hh) (by omega))) ?_
  rintro _ _ ⟨_, ⟨A7, c7, rfl, rfl⟩, rfl⟩
  refine WL.eff (by decide) (Eff.appendM (f := U8) 119 sty_23 rfl rfl rfl (RdH.own (k := 120) rfl) (by omega)) ?_
  rintro _ _ ⟨A8, c8, rfl, rfl⟩
  refine WL.yld (by decide) (Yld.move rfl) ?_
  refine WL.eff (by decide) (Eff.call 129 rfl Try.func21 nm_21 rfl rfl rfl (fun w hb hh => j_Encode w ((RdH.take1 (RdH.old s1) (Nat.min_le_left _ 60)) w hb hh) (by omega))) ?_
  rintro _ _ ⟨_, ⟨A9, c9, rfl, rfl⟩, rfl⟩
  refine WL.eff (by decide) (Eff.appendM (f := U8) 119 sty_23 rfl rfl rfl (RdH.own (k := 129) rfl) (by omega)) ?_
  rintro _ _ ⟨A10, c10, rfl, rfl⟩
  refine WL.eff (by decide) (Eff.call 138 rfl Try.func22 nm_22 rfl rfl rfl (fun w hb hh => j_Decode w ((RdH.own (k := 119) rfl) w hb hh) (by first | omega | (simp; omega)))) ?_
  rintro _ _ ⟨_, ⟨A11, c11, rfl, rfl⟩, rfl⟩
  refine WL.yld (by decide) (Yld.move rfl) ?_
  refine WL.yld (by decide) (Yld.extract rfl rfl) ?_
  refine WL.yld (by decide) (Yld.extract rfl rfl) ?_
  refine WL.yld (by decide) (Yld.assign rfl) ?_
  refine WL.yld (by decide) (Yld.assign rfl) ?_
  refine WL.done (hK5 _ _ ?_)
  refine WC.seqRegion fun K12 hK12 => ?_
  refine WL.yld (by decide) (Yld.move rfl) ?_
  refine WL.eff (by decide) (Eff.buildSliceM U64 147 [] sty_22 rfl rfl rfl rfl rfl (by decide)) ?_
  rintro _ _ ⟨g147, rfl, rfl⟩
  refine WL.yld (by decide) (Yld.move rfl) ?_
  refine WL.eff (by decide) (Eff.appendM (f := U64) 147 sty_22 rfl rfl rfl (RdH.take1 (RdH.old s0) (Nat.min_le_left _ 60)) (by omega)) ?_
  rintro _ _ ⟨A14, c14, rfl, rfl⟩
  refine WL.yld (by decide) (Yld.move rfl) ?_
  refine WL.eff (by decide) (Eff.appendM (f := U64) 147 sty_22 rfl rfl rfl (RdH.take1 (RdH.old s1) (Nat.min_le_left _ 60)) (by omega)) ?_
  rintro _ _ ⟨A15, c15, rfl, rfl⟩
  refine WL.eff (by decide) (Eff.call 148 rfl Try.func24 nm_24 rfl rfl rfl (fun w hb hh => r14_Same w ((RdH.own (k := 138) rfl) w hb hh) ((RdH.own (k := 147) rfl) w hb hh) (by rw [List.nil_append, List.nil_append, jd_enc, jd_all]))) ?_
  rintro _ _ ⟨_, ⟨rfl, rfl⟩, rfl⟩
  refine WL.yld (by decide) (Yld.move rfl) ?_
  refine WL.yldG (by decide) rfl (Yld.move rfl) ?_
  refine WL.yldG (by decide) rfl (Yld.move rfl) ?_
  refine WL.yldG (by decide) rfl (Yld.len und_22 rfl) ?_
  refine WL.yldG (by decide) rfl (Yld.move rfl) ?_
  refine WL.yldG (by decide) rfl (Yld.len und_22 rfl) ?_
  refine WL.yldG (by decide) rfl (Yld.add rfl rfl (by omega)) ?_
  refine WL.yldG (by decide) rfl (Yld.mul rfl rfl (by omega)) ?_
  refine WL.yldG (by decide) rfl (Yld.eql rfl rfl) ?_
  refine WL.new (v' := .bool true) (by rw [List.nil_append, jd_enc, jd_all]; refine congrArg Value.bool (beq_iff_eq.2 ?_); rw [List.length_append, List.length_take, List.length_take]; omega) ?_
  refine WL.yld (by decide) (Yld.pickT rfl rfl) ?_
  refine WL.yld (by decide) (Yld.move rfl) ?_
  refine WL.effG (by decide) rfl (Eff.call 157 rfl Try.func25 nm_25 rfl rfl rfl (fun w hb hh => law14_awake w)) ?_
  rintro _ _ ⟨_, ⟨rfl, rfl⟩, rfl⟩
  refine WL.yld (by decide) (Yld.pickT rfl rfl) ?_
  refine WL.yld (by decide) (Yld.assign rfl) ?_
  refine WL.done (hK12 _ _ ?_)
  refine WC.ret ?_
  exact Ret.fn [] (ResIs.one rfl rfl) rfl (by decide) rfl

set_option maxRecDepth 10000 in
theorem law_JournalBursts (w : World) {A0 : Option Addr} {n0 c0 : Nat} {xs0 : List (BitVec 64)} (s0 : SlR w 1 A0 n0 c0 (xs0.map U64)) (a1 : Int) (w1 : -9223372036854775808 ≤ a1 ∧ a1 ≤ 9223372036854775807) (a2 : Int) (w2 : -9223372036854775808 ≤ a2 ∧ a2 ≤ 9223372036854775807) (x3 : BitVec 32) :
    Fn Try.prog 6 #[.slice A0 n0 c0, I64 a1, I64 a2, U32 x3] w fun r es => r = .bool true := by
  have hl0 := s0.len1
  have hcm0 := s0.cm
  have hle0 := s0.le
  unfold maxLen at hcm0
  refine Fn.intro (N := 119) Try.func6 rfl rfl (Nat.le_of_ble_eq_true rfl) ?_
  refine WC.seqRegion fun K1 hK1 => ?_
  refine WL.yld (by decide) (Yld.assign rfl) ?_
  refine WL.done (hK1 _ _ ?_)
  refine WC.seqRegion fun K2 hK2 => ?_
  refine WL.yld (by decide) (Yld.move rfl) ?_
  refine WL.eff (by decide) (Eff.call 101 rfl Try.func20 nm_20 rfl rfl rfl (fun w hb hh => law14_cut w ((RdH.old s0) w hb hh))) ?_
  rintro _ _ ⟨_, ⟨rfl, rfl⟩, rfl⟩
  refine WL.yld (by decide) (Yld.assign rfl) ?_
  refine WL.done (hK2 _ _ ?_)
  refine WC.seqRegion fun K4 hK4 => ?_
  refine WL.yld (by decide) (Yld.move rfl) ?_
  refine WL.eff (by decide) (Eff.call 110 rfl Try.func21 nm_21 rfl rfl rfl (fun w hb hh => j_Encode w ((RdH.take1 (RdH.old s0) (Nat.min_le_left _ 60)) w hb hh) (by omega))) ?_
  rintro _ _ ⟨_, ⟨A5, c5, rfl, rfl⟩, rfl⟩
  refine WL.yld (by decide) (Yld.assign rfl) ?_
  refine WL.done (hK4 _ _ ?_)
  refine WC.seq fun K6 hK6 => ?_
  refine WC.seqRegion fun K7 hK7 => ?_
  refine WL.yld (by decide) (Yld.move rfl) ?_
  refine WL.yld (by decide) (Yld.len und_22 rfl) ?_
  refine WL.yld (by decide) (Yld.eql rfl rfl) ?_
  refine WL.yld (by decide) (Yld.move rfl) ?_
  refine WL.bool (fun hb8 => ?_) (fun hb8 => ?_)
  · replace hb8 := eq_of_beq hb8
    refine WL.skip (by decide) rfl rfl ?_
    refine WL.skip (by decide) rfl rfl ?_
    refine WL.skip (by decide) rfl rfl ?_
    refine WL.skip (by decide) rfl rfl ?_
    refine WL.skip (by decide) rfl rfl ?_
    refine WL.skip (by decide) rfl rfl ?_
    refine WL.yld (by decide) (Yld.pickT rfl rfl) ?_
    refine WL.done (hK7 _ _ ?_)
    refine WC.condT rfl ?_
    refine WC.seqRegion fun K9 hK9 => ?_
    refine WL.yld (by decide) (Yld.move rfl) ?_
    refine WL.yld (by decide) (Yld.len und_22 rfl) ?_
    refine WL.yld (by decide) (Yld.eql rfl rfl) ?_
    refine WL.new (v' := .bool true) (congrArg Value.bool (beq_iff_eq.2 (by omega))) ?_
    refine WL.yld (by decide) (Yld.move rfl) ?_
    refine WL.effG (by decide) rfl (Eff.call 119 rfl Try.func25 nm_25 rfl rfl rfl (fun w hb hh => law14_awake w)) ?_
    rintro _ _ ⟨_, ⟨rfl, rfl⟩, rfl⟩
    refine WL.yld (by decide) (Yld.pickT rfl rfl) ?_
    refine WL.yld (by decide) (Yld.assign rfl) ?_
    refine WL.done (hK9 _ _ ?_)
    refine WC.ret (QK.thenR ?_)
    exact Ret.fn [] (ResIs.one rfl rfl) rfl (by decide) rfl
  · replace hb8 := ne_of_beq_false hb8
    refine WL.yldG (by decide) rfl (Yld.move rfl) ?_
    refine WL.yldG (by decide) rfl (Yld.len und_23 rfl) ?_
    refine WL.yldG (by decide) rfl (Yld.move rfl) ?_
    refine WL.yldG (by decide) rfl (Yld.len und_22 rfl) ?_
    refine WL.yldG (by decide) rfl (Yld.mul rfl rfl (by omega)) ?_
    refine WL.yldG (by decide) rfl (Yld.neq rfl rfl) ?_
    refine WL.yld (by decide) (Yld.pickF rfl rfl) ?_
    refine WL.done (hK7 _ _ ?_)
    refine WC.cond rfl (fun hc11 => ?_) (fun hc11 => ?_)
    · replace hc11 := bne_iff_ne.1 hc11
      exfalso; omega
    · replace hc11 := bne_eq_false_iff_eq.1 hc11
      refine WC.skip ?_
      refine QK.thenN (hK6 _ _ ?_)
      obtain ⟨i, hi, hin⟩ := idx_mod a1 (min n0 60) (by omega)
      have htm := tmod_bd a1 ((min n0 60 : Nat) : Int) (by omega)
      refine WC.seqRegion fun K12 hK12 => ?_
      refine WL.yld (by decide) (Yld.move rfl) ?_
      refine WL.yld (by decide) (Yld.move rfl) ?_
      refine WL.yld (by decide) (Yld.len und_22 rfl) ?_
      refine WL.yld (by decide) (Yld.remT rfl rfl (by omega)) ?_
      refine WL.yld (by decide) (Yld.move rfl) ?_
      refine WL.yld (by decide) (Yld.len und_22 rfl) ?_
      refine WL.yld (by decide) (Yld.add rfl rfl (by omega)) ?_
      refine WL.yld (by decide) (Yld.move rfl) ?_
      refine WL.yld (by decide) (Yld.len und_22 rfl) ?_
      refine WL.yld (by decide) (Yld.rem rfl rfl (by omega)) ?_
      refine WL.new (v' := I64 (i : Nat)) (congrArg I64 hi) ?_
      refine WL.yld (by decide) (Yld.assign rfl) ?_
      refine WL.done (hK12 _ _ ?_)
      obtain ⟨bit, hbit, hbn⟩ := idx_mod a2 96 (by omega)
      have htm2 := tmod_bd a2 96 (by omega)
      refine WC.seqRegion fun K13 hK13 => ?_
      refine WL.yld (by decide) (Yld.move rfl) ?_
      refine WL.yld (by decide) (Yld.remT rfl rfl (by omega)) ?_
      refine WL.yld (by decide) (Yld.add rfl rfl (by omega)) ?_
      refine WL.yld (by decide) (Yld.rem rfl rfl (by omega)) ?_
      refine WL.new (v' := I64 (bit : Nat)) (congrArg I64 hbit) ?_
      refine WL.yld (by decide) (Yld.assign rfl) ?_
      refine WL.done (hK13 _ _ ?_)
      refine WC.seqRegion fun K14 hK14 => ?_
      refine WL.eff (by decide) (Eff.buildSliceM U8 128 [] sty_23 rfl rfl rfl rfl rfl (by decide)) ?_
      rintro _ _ ⟨g128, rfl, rfl⟩
      refine WL.yld (by decide) (Yld.move rfl) ?_
      refine WL.eff (by decide) (Eff.appendM (f := U8) 128 sty_23 rfl rfl rfl (RdH.own (k := 110) rfl) (by omega)) ?_
      rintro _ _ ⟨A16, c16, rfl, rfl⟩
      refine WL.yld (by decide) (Yld.assign rfl) ?_
      refine WL.done (hK14 _ _ ?_)
      refine WC.seq fun K17 hK17 => ?_
      refine WC.seqRegion fun K18 hK18 => ?_
      refine WL.yld (by decide) (Yld.assign rfl) ?_
      refine WL.done (hK18 _ _ ?_)
      refine WC.block ?_
      refine WC.loop (σ := Nat × List (BitVec 8)) (fun ⟨j, os⟩ => [(9, .slice A0 (min n0 60) c0), (3, U32 x3), (10, .slice A5 (12 * min n0 60) c5), (11, I64 (i : Nat)), (12, I64 (bit : Nat)), (13, .slice A16 (0 + 12 * min n0 60) c16), (14, I64 (j : Nat))]) (fun ⟨j, os⟩ => [(110, .own 5 1 A5 (12 * min n0 60) c5 ((jenc (xs0.take (min n0 60))).map U8)), (128, .own 5 1 A16 (0 + 12 * min n0 60) c16 (os.map U8))]) (fun ⟨j, os⟩ => j ≤ 32 ∧ bit + j ≤ 96 ∧ os = (burstTo (jenc (xs0.take (min n0 60))) (96 * i + bit) x3 j)) (fun ⟨j, os⟩ => 32 - j) (0, _) ?_ (Sub.cons rfl (Sub.cons rfl (Sub.cons rfl (Sub.cons rfl (Sub.cons rfl (Sub.cons rfl (Sub.cons rfl (Sub.nil _)))))))) (Sub.cons rfl (Sub.cons rfl (Sub.nil _))) ?_
      · exact ⟨by omega, by omega, rfl⟩
      rintro ⟨j, os⟩ ⟨hj, hbj, ho⟩ K19 hK19
      have hol : os.length = 12 * min n0 60 := by rw [ho, burstTo_length, jenc_length, List.length_take]; omega
      refine WC.seq fun K20 hK20 => ?_
      refine WC.seqRegion fun K21 hK21 => ?_
      refine WL.yld (by decide) (Yld.move rfl) ?_
      refine WL.yld (by decide) (Yld.lss rfl rfl) ?_
      refine WL.yld (by decide) (Yld.move rfl) ?_
      refine WL.bool (fun hb22 => ?_) (fun hb22 => ?_)
      · replace hb22 := of_decide_eq_true hb22
        refine WL.yldG (by decide) rfl (Yld.move rfl) ?_
        refine WL.yldG (by decide) rfl (Yld.move rfl) ?_
        refine WL.yldG (by decide) rfl (Yld.add rfl rfl (by omega)) ?_
        refine WL.yldG (by decide) rfl (Yld.lss rfl rfl) ?_
        refine WL.yld (by decide) (Yld.pickT rfl rfl) ?_
        refine WL.done (hK21 _ _ ?_)
        refine WC.cond rfl (fun hc23 => ?_) (fun hc23 => ?_)
        · replace hc23 := of_decide_eq_true hc23
          refine WC.skip ?_
          refine QK.thenN (hK20 _ _ ?_)
          refine WC.seq fun K24 hK24 => ?_
          refine WC.block ?_
          refine WC.region fun K25 hK25 => ?_
          refine WL.yld (by decide) (Yld.move rfl) ?_
          refine WL.yld (by decide) (Yld.move rfl) ?_
          refine WL.yld (by decide) (Yld.mul rfl rfl (by omega)) ?_
          refine WL.yld (by decide) (Yld.move rfl) ?_
          refine WL.yld (by decide) (Yld.move rfl) ?_
          refine WL.yld (by decide) (Yld.add rfl rfl (by omega)) ?_
          refine WL.yld (by decide) (Yld.quo rfl rfl (by omega)) ?_
          refine WL.yld (by decide) (Yld.add rfl rfl (by omega)) ?_
          refine WL.new (v' := I64 (((96 * i + bit + j) / 8 : Nat) : Int)) (congrArg I64 (by omega)) ?_
          refine WL.yld (by decide) (Yld.idxAddr1 sty_23 rfl rfl (RdH.own (k := 128) rfl) (by omega)) ?_
          refine WL.yld (by decide) (Yld.loadR scal_5 rfl (RdH.own (k := 128) rfl) (getElem?_map1 _ _ 0 (by omega))) ?_
          refine WL.yld (by decide) (Yld.move rfl) ?_
          refine WL.yld (by decide) (Yld.move rfl) ?_
          refine WL.yld (by decide) (Yld.conv_i64_uint some_3 und_34 rfl (by omega)) ?_
          refine WL.yld (by decide) (Yld.shr_u32 rfl rfl (by omega)) ?_
          refine WL.yld (by decide) (Yld.and_u32 (b := 1#32) rfl rfl) ?_
          refine WL.yld (by decide) (Yld.move rfl) ?_
          refine WL.yld (by decide) (Yld.move rfl) ?_
          refine WL.yld (by decide) (Yld.add rfl rfl (by omega)) ?_
          refine WL.yld (by decide) (Yld.rem rfl rfl (by omega)) ?_
          refine WL.new (v' := I64 (((96 * i + bit + j) % 8 : Nat) : Int)) (congrArg I64 (by omega)) ?_
          refine WL.yld (by decide) (Yld.conv_i64_uint some_3 und_34 rfl (by omega)) ?_
          refine WL.yld (by decide) (Yld.shl_u32 rfl rfl (by omega)) ?_
          refine WL.yld (by decide) (Yld.conv_u32_u8 some_33 und_5 rfl) ?_
          refine WL.yld (by decide) (Yld.xor_u8 rfl rfl) ?_
          refine WL.yld (by decide) (Yld.idxAddr1 sty_23 rfl rfl (RdH.own (k := 128) rfl) (by omega)) ?_
          refine WL.eff0 (Eff0.storeOM U8 128 siz_5 rfl rfl rfl (by omega)) ?_
          refine WL.done (hK25 _ _ ?_)
          refine QK.blockN ?_
          refine QK.thenN (hK24 _ _ ?_)
          refine WC.region fun K26 hK26 => ?_
          refine WL.yld (by decide) (Yld.move rfl) ?_
          refine WL.yld (by decide) (Yld.add rfl rfl (by omega)) ?_
          refine WL.yld (by decide) (Yld.assign rfl) ?_
          refine WL.done (hK26 _ _ ?_)
          refine QK.thenN (hK19 (j + 1, _) _ _ ?_ ?_ (Sub.cons rfl (Sub.cons rfl (Sub.cons rfl (Sub.cons rfl (Sub.cons rfl (Sub.cons rfl (Sub.cons rfl (Sub.nil _)))))))) (Sub.cons rfl (Sub.cons rfl (Sub.nil _))))
          · exact ⟨by omega, by omega, by subst ho; rfl⟩
          · dsimp only; omega
        · replace hc23 := of_decide_eq_false hc23
          refine WC.exit (QK.thenE (QK.thenE (QK.blockX ?_)))
          refine QK.thenN (hK17 _ _ ?_)
          refine WC.seqRegion fun K27 hK27 => ?_
          refine WL.yld (by decide) (Yld.move rfl) ?_
          refine WL.eff (by decide) (Eff.call 129 rfl Try.func22 nm_22 rfl rfl rfl (fun w hb hh => j_Decode w ((RdH.own (k := 128) rfl) w hb hh) (by first | omega | (simp; omega)))) ?_
          rintro _ _ ⟨_, ⟨A28, c28, rfl, rfl⟩, rfl⟩
          refine WL.yld (by decide) (Yld.move rfl) ?_
          refine WL.yld (by decide) (Yld.extract rfl rfl) ?_
          refine WL.yld (by decide) (Yld.extract rfl rfl) ?_
          refine WL.yld (by decide) (Yld.assign rfl) ?_
          refine WL.yld (by decide) (Yld.assign rfl) ?_
          refine WL.done (hK27 _ _ ?_)
          refine WC.seq fun K29 hK29 => ?_
          refine WC.seqRegion fun K30 hK30 => ?_
          refine WL.yld (by decide) (Yld.move rfl) ?_
          refine WL.yld (by decide) (Yld.b2s und_23 und_5 und_9 rfl (RdH.own (k := 110) rfl)) ?_
          refine WL.yld (by decide) (Yld.move rfl) ?_
          refine WL.yld (by decide) (Yld.b2s und_23 und_5 und_9 rfl (RdH.own (k := 128) rfl)) ?_
          refine WL.yld (by decide) (Yld.eqlStr rfl rfl) ?_
          refine WL.done (hK30 _ _ ?_)
          refine WC.cond rfl (fun hc31 => ?_) (fun hc31 => ?_)
          · replace hc31 := eq_of_beq hc31
            have hsame := hc31
            refine WC.seqRegion fun K32 hK32 => ?_
            refine WL.yld (by decide) (Yld.move rfl) ?_
            refine WL.yld (by decide) (Yld.move rfl) ?_
            refine WL.eff (by decide) (Eff.call 138 rfl Try.func24 nm_24 rfl rfl rfl (fun w hb hh => r14_Same w ((RdH.own (k := 129) rfl) w hb hh) ((RdH.take1 (RdH.old s0) (Nat.min_le_left _ 60)) w hb hh) (by first | exact (by rw [← hsame]; exact jd_all _) | exact (by rw [ho]; exact jd_burst (xs0.take (min n0 60)) i bit j x3 (by rw [List.length_take]; omega) (by omega) (fun e => hdiff (by rw [ho, e])))))) ?_
            rintro _ _ ⟨_, ⟨rfl, rfl⟩, rfl⟩
            refine WL.yld (by decide) (Yld.move rfl) ?_
            refine WL.effG (by decide) rfl (Eff.call 147 rfl Try.func25 nm_25 rfl rfl rfl (fun w hb hh => law14_awake w)) ?_
            rintro _ _ ⟨_, ⟨rfl, rfl⟩, rfl⟩
            refine WL.yld (by decide) (Yld.pickT rfl rfl) ?_
            refine WL.yld (by decide) (Yld.assign rfl) ?_
            refine WL.done (hK32 _ _ ?_)
            refine WC.ret (QK.thenR ?_)
            exact Ret.fn [] (ResIs.one rfl rfl) rfl (by decide) rfl
          · replace hc31 := ne_of_beq_false hc31
            have hdiff := hc31
            refine WC.skip ?_
            refine QK.thenN (hK29 _ _ ?_)
            refine WC.seqRegion fun K35 hK35 => ?_
            refine WL.yld (by decide) (Yld.move rfl) ?_
            refine WL.yld (by decide) (Yld.move rfl) ?_
            refine WL.yld (by decide) (Yld.move rfl) ?_
            refine WL.yld (by decide) (Yld.sliceH sty_22 rfl rfl (by omega)) ?_
            refine WL.eff (by decide) (Eff.call 156 rfl Try.func24 nm_24 rfl rfl rfl (fun w hb hh => r14_Same w ((RdH.own (k := 129) rfl) w hb hh) ((RdH.take1 (RdH.take1 (RdH.old s0) (Nat.min_le_left _ 60)) (by omega)) w hb hh) (by first | exact (by rw [← hsame]; exact jd_all _) | exact (by rw [ho]; exact jd_burst (xs0.take (min n0 60)) i bit j x3 (by rw [List.length_take]; omega) (by omega) (fun e => hdiff (by rw [ho, e])))))) ?_
            rintro _ _ ⟨_, ⟨rfl, rfl⟩, rfl⟩
            refine WL.yld (by decide) (Yld.move rfl) ?_
            refine WL.yldG (by decide) rfl (Yld.move rfl) ?_
            refine WL.yldG (by decide) rfl (Yld.move rfl) ?_
            refine WL.yldG (by decide) rfl (Yld.mul rfl rfl (by omega)) ?_
            refine WL.yldG (by decide) rfl (Yld.eql rfl rfl) ?_
            refine WL.new (v' := .bool true) (by rw [ho, jd_burst _ _ _ _ _ (by rw [List.length_take]; omega) (by omega) (fun e => hdiff (by rw [ho, e]))]; refine congrArg Value.bool (beq_iff_eq.2 ?_); rw [List.length_take, List.length_take]; omega) ?_
            refine WL.yld (by decide) (Yld.pickT rfl rfl) ?_
            refine WL.yld (by decide) (Yld.move rfl) ?_
            refine WL.effG (by decide) rfl (Eff.call 165 rfl Try.func25 nm_25 rfl rfl rfl (fun w hb hh => law14_awake w)) ?_
            rintro _ _ ⟨_, ⟨rfl, rfl⟩, rfl⟩
            refine WL.yld (by decide) (Yld.pickT rfl rfl) ?_
            refine WL.yld (by decide) (Yld.assign rfl) ?_
            refine WL.done (hK35 _ _ ?_)
            refine WC.ret ?_
            exact Ret.fn [] (ResIs.one rfl rfl) rfl (by decide) rfl
      · replace hb22 := of_decide_eq_false hb22
        refine WL.skip (by decide) rfl rfl ?_
        refine WL.skip (by decide) rfl rfl ?_
        refine WL.skip (by decide) rfl rfl ?_
        refine WL.skip (by decide) rfl rfl ?_
        refine WL.yld (by decide) (Yld.pickF rfl rfl) ?_
        refine WL.done (hK21 _ _ ?_)
        refine WC.condF rfl ?_
        refine WC.exit (QK.thenE (QK.thenE (QK.blockX ?_)))
        refine QK.thenN (hK17 _ _ ?_)
        refine WC.seqRegion fun K38 hK38 => ?_
        refine WL.yld (by decide) (Yld.move rfl) ?_
        refine WL.eff (by decide) (Eff.call 174 rfl Try.func22 nm_22 rfl rfl rfl (fun w hb hh => j_Decode w ((RdH.own (k := 128) rfl) w hb hh) (by first | omega | (simp; omega)))) ?_
        rintro _ _ ⟨_, ⟨A39, c39, rfl, rfl⟩, rfl⟩
        refine WL.yld (by decide) (Yld.move rfl) ?_
        refine WL.yld (by decide) (Yld.extract rfl rfl) ?_
        refine WL.yld (by decide) (Yld.extract rfl rfl) ?_
        refine WL.yld (by decide) (Yld.assign rfl) ?_
        refine WL.yld (by decide) (Yld.assign rfl) ?_
        refine WL.done (hK38 _ _ ?_)
        refine WC.seq fun K40 hK40 => ?_
        refine WC.seqRegion fun K41 hK41 => ?_
        refine WL.yld (by decide) (Yld.move rfl) ?_
        refine WL.yld (by decide) (Yld.b2s und_23 und_5 und_9 rfl (RdH.own (k := 110) rfl)) ?_
        refine WL.yld (by decide) (Yld.move rfl) ?_
        refine WL.yld (by decide) (Yld.b2s und_23 und_5 und_9 rfl (RdH.own (k := 128) rfl)) ?_
        refine WL.yld (by decide) (Yld.eqlStr rfl rfl) ?_
        refine WL.done (hK41 _ _ ?_)
        refine WC.cond rfl (fun hc42 => ?_) (fun hc42 => ?_)
        · replace hc42 := eq_of_beq hc42
          have hsame := hc42
          refine WC.seqRegion fun K43 hK43 => ?_
          refine WL.yld (by decide) (Yld.move rfl) ?_
          refine WL.yld (by decide) (Yld.move rfl) ?_
          refine WL.eff (by decide) (Eff.call 183 rfl Try.func24 nm_24 rfl rfl rfl (fun w hb hh => r14_Same w ((RdH.own (k := 174) rfl) w hb hh) ((RdH.take1 (RdH.old s0) (Nat.min_le_left _ 60)) w hb hh) (by first | exact (by rw [← hsame]; exact jd_all _) | exact (by rw [ho]; exact jd_burst (xs0.take (min n0 60)) i bit j x3 (by rw [List.length_take]; omega) (by omega) (fun e => hdiff (by rw [ho, e])))))) ?_
          rintro _ _ ⟨_, ⟨rfl, rfl⟩, rfl⟩
          refine WL.yld (by decide) (Yld.move rfl) ?_
          refine WL.effG (by decide) rfl (Eff.call 192 rfl Try.func25 nm_25 rfl rfl rfl (fun w hb hh => law14_awake w)) ?_
          rintro _ _ ⟨_, ⟨rfl, rfl⟩, rfl⟩
          refine WL.yld (by decide) (Yld.pickT rfl rfl) ?_
          refine WL.yld (by decide) (Yld.assign rfl) ?_
          refine WL.done (hK43 _ _ ?_)
          refine WC.ret (QK.thenR ?_)
          exact Ret.fn [] (ResIs.one rfl rfl) rfl (by decide) rfl
        · replace hc42 := ne_of_beq_false hc42
          have hdiff := hc42
          refine WC.skip ?_
          refine QK.thenN (hK40 _ _ ?_)
          refine WC.seqRegion fun K46 hK46 => ?_
          refine WL.yld (by decide) (Yld.move rfl) ?_
          refine WL.yld (by decide) (Yld.move rfl) ?_
          refine WL.yld (by decide) (Yld.move rfl) ?_
          refine WL.yld (by decide) (Yld.sliceH sty_22 rfl rfl (by omega)) ?_
          refine WL.eff (by decide) (Eff.call 201 rfl Try.func24 nm_24 rfl rfl rfl (fun w hb hh => r14_Same w ((RdH.own (k := 174) rfl) w hb hh) ((RdH.take1 (RdH.take1 (RdH.old s0) (Nat.min_le_left _ 60)) (by omega)) w hb hh) (by first | exact (by rw [← hsame]; exact jd_all _) | exact (by rw [ho]; exact jd_burst (xs0.take (min n0 60)) i bit j x3 (by rw [List.length_take]; omega) (by omega) (fun e => hdiff (by rw [ho, e])))))) ?_
          rintro _ _ ⟨_, ⟨rfl, rfl⟩, rfl⟩
          refine WL.yld (by decide) (Yld.move rfl) ?_
          refine WL.yldG (by decide) rfl (Yld.move rfl) ?_
          refine WL.yldG (by decide) rfl (Yld.move rfl) ?_
          refine WL.yldG (by decide) rfl (Yld.mul rfl rfl (by omega)) ?_
          refine WL.yldG (by decide) rfl (Yld.eql rfl rfl) ?_
          refine WL.new (v' := .bool true) (by rw [ho, jd_burst _ _ _ _ _ (by rw [List.length_take]; omega) (by omega) (fun e => hdiff (by rw [ho, e]))]; refine congrArg Value.bool (beq_iff_eq.2 ?_); rw [List.length_take, List.length_take]; omega) ?_
          refine WL.yld (by decide) (Yld.pickT rfl rfl) ?_
          refine WL.yld (by decide) (Yld.move rfl) ?_
          refine WL.effG (by decide) rfl (Eff.call 210 rfl Try.func25 nm_25 rfl rfl rfl (fun w hb hh => law14_awake w)) ?_
          rintro _ _ ⟨_, ⟨rfl, rfl⟩, rfl⟩
          refine WL.yld (by decide) (Yld.pickT rfl rfl) ?_
          refine WL.yld (by decide) (Yld.assign rfl) ?_
          refine WL.done (hK46 _ _ ?_)
          refine WC.ret ?_
          exact Ret.fn [] (ResIs.one rfl rfl) rfl (by decide) rfl

set_option maxRecDepth 10000 in
theorem law_JournalCodes (w : World) {A0 : Option Addr} {n0 c0 : Nat} {xs0 : List (BitVec 64)} (s0 : SlR w 1 A0 n0 c0 (xs0.map U64)) {A1 : Option Addr} {n1 c1 : Nat} {xs1 : List (BitVec 8)} (s1 : SlR w 1 A1 n1 c1 (xs1.map U8)) (a2 : Int) (w2 : -9223372036854775808 ≤ a2 ∧ a2 ≤ 9223372036854775807) (x3 : BitVec 8) :
    Fn Try.prog 3 #[.slice A0 n0 c0, .slice A1 n1 c1, I64 a2, U8 x3] w fun r es => r = .bool true := by
  have hl0 := s0.len1
  have hcm0 := s0.cm
  have hle0 := s0.le
  unfold maxLen at hcm0
  have hl1 := s1.len1
  have hcm1 := s1.cm
  have hle1 := s1.le
  unfold maxLen at hcm1
  refine Fn.intro (N := 85) Try.func3 rfl rfl (Nat.le_of_ble_eq_true rfl) ?_
  refine WC.seqRegion fun K1 hK1 => ?_
  refine WL.yld (by decide) (Yld.assign rfl) ?_
  refine WL.done (hK1 _ _ ?_)
  refine WC.seqCut (σ := Nat) (fun m => [(0, .slice A0 n0 c0), (1, .slice A1 m c1), (2, I64 a2), (3, U8 x3)]) (fun m => []) (fun m => m ≤ n1 ∧ m ≤ 600) (fun K3 hK3 => ?_) ?_
  · skip
    refine WC.seqRegion fun K4 hK4 => ?_
    refine WL.yld (by decide) (Yld.move rfl) ?_
    refine WL.yld (by decide) (Yld.len und_23 rfl) ?_
    refine WL.yld (by decide) (Yld.gtr rfl rfl) ?_
    refine WL.done (hK4 _ _ ?_)
    refine WC.cond rfl (fun hc5 => ?_) (fun hc5 => ?_)
    · replace hc5 := of_decide_eq_true hc5
      refine WC.region fun K6 hK6 => ?_
      refine WL.yld (by decide) (Yld.move rfl) ?_
      refine WL.yld (by decide) (Yld.sliceH sty_23 rfl rfl (by omega)) ?_
      refine WL.yld (by decide) (Yld.assign rfl) ?_
      refine WL.done (hK6 _ _ ?_)
      refine QK.thenN (hK3 _ _ _ ?_ (Sub.cons rfl (Sub.cons rfl (Sub.cons rfl (Sub.cons rfl (Sub.nil _))))) (Sub.nil _))
      exact ⟨by omega, by omega⟩
    · replace hc5 := of_decide_eq_false hc5
      refine WC.skip ?_
      refine QK.thenN (hK3 _ _ _ ?_ (Sub.cons rfl (Sub.cons rfl (Sub.cons rfl (Sub.cons rfl (Sub.nil _))))) (Sub.nil _))
      exact ⟨by omega, by omega⟩
  · rintro m ⟨hm1, hm⟩
    refine WC.seqRegion fun K7 hK7 => ?_
    refine WL.yld (by decide) (Yld.move rfl) ?_
    refine WL.eff (by decide) (Eff.call 101 rfl Try.func20 nm_20 rfl rfl rfl (fun w hb hh => law14_cut w ((RdH.old s0) w hb hh))) ?_
    rintro _ _ ⟨_, ⟨rfl, rfl⟩, rfl⟩
    refine WL.eff (by decide) (Eff.call 110 rfl Try.func19 nm_19 rfl rfl rfl (fun w hb hh => r14_Encode w ((RdH.take1 (RdH.old s0) (Nat.min_le_left _ 60)) w hb hh) (by omega))) ?_
    rintro _ _ ⟨_, ⟨A9, c9, rfl, rfl⟩, rfl⟩
    refine WL.yld (by decide) (Yld.assign rfl) ?_
    refine WL.done (hK7 _ _ ?_)
    refine WC.seq fun K10 hK10 => ?_
    refine WC.seqRegionD (n := 7) [(110, _)] rfl mixed (Sub.cons rfl (Sub.nil _)) fun K12 hK12 => ?_
    refine WD.take 0 rfl (by kernel_rfl) (by kernel_rfl) (by kernel_rfl) (by decide) (Yld.move rfl) ?_
    refine WD.take 4 rfl (by kernel_rfl) (by kernel_rfl) (by kernel_rfl) (by decide) (Yld.move rfl) ?_
    refine WD.take 5 rfl (by kernel_rfl) (by kernel_rfl) (by kernel_rfl) (by decide) (Yld.b2s und_23 und_5 und_9 rfl (RdH.own (k := 110) rfl)) ?_
    refine WD.one 1 (by kernel_rfl) ?_
    refine WS.eff rfl (by decide) (Eff.call 119 rfl Try.func20 nm_20 rfl rfl rfl (fun w hb hh => law14_cut w ((RdH.old s0) w hb hh))) ?_
    rintro _ _ ⟨_, ⟨rfl, rfl⟩, rfl⟩
    refine ⟨(Sub.cons rfl (Sub.nil _)), ?_⟩
    refine WD.one 2 (by kernel_rfl) ?_
    refine WS.eff rfl (by decide) (Eff.call 128 rfl Try.func21 nm_21 rfl rfl rfl (fun w hb hh => j_Encode w ((RdH.take1 (RdH.old s0) (Nat.min_le_left _ 60)) w hb hh) (by omega))) ?_
    rintro _ _ ⟨_, ⟨A14, c14, rfl, rfl⟩, rfl⟩
    refine ⟨(Sub.cons rfl (Sub.nil _)), ?_⟩
    refine WD.one 3 (by kernel_rfl) ?_
    refine WS.yld rfl (by decide) (Yld.b2s und_23 und_5 und_9 rfl (RdH.own (k := 128) rfl)) ?_
    refine WD.take 6 rfl (by kernel_rfl) (by kernel_rfl) (by kernel_rfl) (by decide) (Yld.neqStr rfl rfl) ?_
    refine WD.new (v' := .bool false) (congrArg Value.bool (by simp)) ?_
    refine WD.done (by kernel_rfl) (hK12 _ _ ?_)
    refine WC.condF rfl ?_
    refine WC.skip ?_
    refine QK.thenN (hK10 _ _ ?_)
    refine WC.seqRegion fun K15 hK15 => ?_
    refine WL.eff (by decide) (Eff.buildSliceM U8 137 [] sty_23 rfl rfl rfl rfl rfl (by decide)) ?_
    rintro _ _ ⟨g137, rfl, rfl⟩
    refine WL.yld (by decide) (Yld.move rfl) ?_
    refine WL.eff (by decide) (Eff.appendM (f := U8) 137 sty_23 rfl rfl rfl (RdH.own (k := 110) rfl) (by omega)) ?_
    rintro _ _ ⟨A17, c17, rfl, rfl⟩
    refine WL.yld (by decide) (Yld.assign rfl) ?_
    refine WL.done (hK15 _ _ ?_)
    refine WC.seqCut (σ := List (BitVec 8)) (fun sp => [(1, .slice A1 m c1), (9, .slice A9 (12 * min n0 60) c9), (10, .slice A17 (0 + 12 * min n0 60) c17)]) (fun sp => [(110, .own 5 1 A9 (12 * min n0 60) c9 ((jenc (xs0.take (min n0 60))).map U8)), (137, .own 5 1 A17 (0 + 12 * min n0 60) c17 (sp.map U8))]) (fun sp => sp.length = 12 * min n0 60) (fun K19 hK19 => ?_) ?_
    · skip
      refine WC.seqRegion fun K20 hK20 => ?_
      refine WL.yld (by decide) (Yld.move rfl) ?_
      refine WL.yld (by decide) (Yld.len und_23 rfl) ?_
      refine WL.yld (by decide) (Yld.assign rfl) ?_
      refine WL.done (hK20 _ _ ?_)
      have hjl : (jenc (xs0.take (min n0 60))).length = 12 * min n0 60 := by rw [jenc_length, List.length_take]; omega
      refine WC.seqRegion fun K21 hK21 => ?_
      refine WL.yld (by decide) (Yld.move rfl) ?_
      refine WL.yld (by decide) (Yld.gtr rfl rfl) ?_
      refine WL.done (hK21 _ _ ?_)
      refine WC.cond rfl (fun hc22 => ?_) (fun hc22 => ?_)
      · replace hc22 := of_decide_eq_true hc22
        obtain ⟨i, hi, hin⟩ := idx_mod a2 (12 * min n0 60) (by omega)
        have htm := tmod_bd a2 ((12 * min n0 60 : Nat) : Int) (by omega)
        refine WC.region fun K23 hK23 => ?_
        refine WL.yld (by decide) (Yld.move rfl) ?_
        refine WL.yld (by decide) (Yld.move rfl) ?_
        refine WL.yld (by decide) (Yld.move rfl) ?_
        refine WL.yld (by decide) (Yld.remT rfl rfl (by omega)) ?_
        refine WL.yld (by decide) (Yld.move rfl) ?_
        refine WL.yld (by decide) (Yld.add rfl rfl (by omega)) ?_
        refine WL.yld (by decide) (Yld.move rfl) ?_
        refine WL.yld (by decide) (Yld.rem rfl rfl (by omega)) ?_
        refine WL.new (v' := I64 (i : Nat)) (congrArg I64 hi) ?_
        refine WL.yld (by decide) (Yld.move rfl) ?_
        refine WL.yld (by decide) (Yld.idxAddr1 sty_23 rfl rfl (RdH.own (k := 137) rfl) (by omega)) ?_
        refine WL.eff0 (Eff0.storeOM U8 137 siz_5 rfl rfl rfl (by first | omega | (simp; omega))) ?_
        refine WL.done (hK23 _ _ ?_)
        refine QK.thenN (hK19 _ _ _ ?_ (Sub.cons rfl (Sub.cons rfl (Sub.cons rfl (Sub.nil _)))) (Sub.cons rfl (Sub.cons rfl (Sub.nil _))))
        first | exact hjl | exact (List.length_set).trans hjl | (rw [List.length_set]; exact hjl)
      · replace hc22 := of_decide_eq_false hc22
        refine WC.skip ?_
        refine QK.thenN (hK19 _ _ _ ?_ (Sub.cons rfl (Sub.cons rfl (Sub.cons rfl (Sub.nil _)))) (Sub.cons rfl (Sub.cons rfl (Sub.nil _))))
        first | exact hjl | exact (List.length_set).trans hjl | (rw [List.length_set]; exact hjl)
    · rintro sp hsp
      refine WC.seq fun K24 hK24 => ?_
      refine WC.seqRegion fun K25 hK25 => ?_
      refine WL.yld (by decide) (Yld.move rfl) ?_
      refine WL.yld (by decide) (Yld.move rfl) ?_
      refine WL.yld (by decide) (Yld.move rfl) ?_
      refine WL.eff (by decide) (Eff.buildSliceM U8 138 [] sty_23 rfl rfl rfl rfl rfl (by decide)) ?_
      rintro _ _ ⟨g138, rfl, rfl⟩
      refine WL.yld (by decide) (Yld.move rfl) ?_
      refine WL.eff (by decide) (Eff.appendM (f := U8) 138 sty_23 rfl rfl rfl (RdH.own (k := 110) rfl) (by omega)) ?_
      rintro _ _ ⟨A27, c27, rfl, rfl⟩
      refine WL.yld (by decide) (Yld.move rfl) ?_
      refine WL.eff (by decide) (Eff.appendM (f := U8) 138 sty_23 rfl rfl rfl (RdH.take1 (RdH.old s1) (by omega : m ≤ n1)) (by omega)) ?_
      rintro _ _ ⟨A28, c28, rfl, rfl⟩
      refine WL.eff (by decide) (Eff.buildSliceM SV 139 [(_, _, _), (_, _, _), (_, _, _), (_, _, _)] sty_26 rfl rfl rfl rfl rfl (by decide)) ?_
      rintro _ _ ⟨g139, rfl, rfl⟩
      refine WL.yld (by decide) (Yld.len und_26 rfl) ?_
      refine WL.yld (by decide) (Yld.move rfl) ?_
      refine WL.done (hK25 _ _ ?_)
      refine WC.block ?_
      refine WC.loop (σ := Nat) (fun k => [(58, .slice (some ⟨g139, 0, none⟩) 4 4), (59, I64 ((4 : Nat) : Int)), (60, I64 (k : Nat))]) (fun k => [(110, .own 5 1 A9 (12 * min n0 60) c9 ((jenc (xs0.take (min n0 60))).map U8)), (137, .own 5 1 A17 (0 + 12 * min n0 60) c17 (sp.map U8)), (138, .own 5 1 A28 (0 + 12 * min n0 60 + m) c28 (([] ++ jenc (xs0.take (min n0 60)) ++ xs1.take m).map U8)), (139, .own 23 1 (some ⟨g139, 0, none⟩) 4 4 ([(A1, m, c1), (A9, (12 * min n0 60), c9), (A17, (0 + 12 * min n0 60), c17), (A28, (0 + 12 * min n0 60 + m), c28)].map SV))]) (fun k => k ≤ 4) (fun k => 4 - k) 0 ?_ (Sub.cons rfl (Sub.cons rfl (Sub.cons rfl (Sub.nil _)))) (Sub.cons rfl (Sub.cons rfl (Sub.cons rfl (Sub.cons rfl (Sub.nil _))))) ?_
      · exact Nat.zero_le _
      rintro k hk K30 hK30
      rcases (by omega : k = 0 ∨ k = 1 ∨ k = 2 ∨ k = 3 ∨ k = 4) with rfl | rfl | rfl | rfl | rfl
      · skip
        refine WC.seqRegion fun K31 hK31 => ?_
        refine WL.yld (by decide) (Yld.lss rfl rfl) ?_
        refine WL.done (hK31 _ _ ?_)
        refine WC.seq fun K32 hK32 => ?_
        refine WC.cond rfl (fun hc33 => ?_) (fun hc33 => ?_)
        · replace hc33 := of_decide_eq_true hc33
          refine WC.skip ?_
          refine QK.thenN (hK32 _ _ ?_)
          refine WC.seq fun K34 hK34 => ?_
          refine WC.block ?_
          refine WC.seqRegion fun K35 hK35 => ?_
          refine WL.yld (by decide) (Yld.idxAddr1 sty_26 rfl rfl (RdH.own (k := 139) rfl) (by omega)) ?_
          refine WL.yld (by decide) (Yld.loadR scal_23 rfl (RdH.own (k := 139) rfl) (getElem?_map1 _ _ (none, 0, 0) (by simp))) ?_
          refine WL.new (v' := .slice A1 m c1) rfl ?_
          refine WL.yld (by decide) (Yld.assign rfl) ?_
          refine WL.done (hK35 _ _ ?_)
          refine WC.seqRegion fun K36 hK36 => ?_
          refine WL.yld (by decide) (Yld.move rfl) ?_
          refine WL.eff (by decide) (Eff.call 140 rfl Try.func22 nm_22 rfl rfl rfl (fun w hb hh => j_Decode w ((RdH.take1 (RdH.old s1) (by omega : m ≤ n1)) w hb hh) (by first | omega | (simp; omega)))) ?_
          rintro _ _ ⟨_, ⟨A37, c37, rfl, rfl⟩, rfl⟩
          refine WL.yld (by decide) (Yld.move rfl) ?_
          refine WL.yld (by decide) (Yld.extract rfl rfl) ?_
          refine WL.yld (by decide) (Yld.extract rfl rfl) ?_
          refine WL.yld (by decide) (Yld.assign rfl) ?_
          refine WL.yld (by decide) (Yld.assign rfl) ?_
          refine WL.done (hK36 _ _ ?_)
          refine WC.seqRegion fun K38 hK38 => ?_
          refine WL.yld (by decide) (Yld.move rfl) ?_
          refine WL.eff (by decide) (Eff.call 149 rfl Try.func23 nm_23 rfl rfl rfl (fun w hb hh => r14_Decode w ((RdH.take1 (RdH.old s1) (by omega : m ≤ n1)) w hb hh) (by first | omega | (simp; omega)))) ?_
          rintro _ _ ⟨_, ⟨A39, c39, rfl, rfl⟩, rfl⟩
          refine WL.yld (by decide) (Yld.move rfl) ?_
          refine WL.yld (by decide) (Yld.extract rfl rfl) ?_
          refine WL.yld (by decide) (Yld.extract rfl rfl) ?_
          refine WL.yld (by decide) (Yld.assign rfl) ?_
          refine WL.yld (by decide) (Yld.assign rfl) ?_
          refine WL.done (hK38 _ _ ?_)
          refine WC.seqRegion fun K40 hK40 => ?_
          refine WL.yld (by decide) (Yld.move rfl) ?_
          refine WL.yld (by decide) (Yld.move rfl) ?_
          refine WL.yld (by decide) (Yld.neq rfl rfl) ?_
          refine WL.new (v' := .bool false) (congrArg Value.bool (by simp)) ?_
          refine WL.yld (by decide) (Yld.move rfl) ?_
          refine WL.yldG (by decide) rfl (Yld.move rfl) ?_
          refine WL.yldG (by decide) rfl (Yld.move rfl) ?_
          refine WL.effG (by decide) rfl (Eff.call 158 rfl Try.func24 nm_24 rfl rfl rfl (fun w hb hh => r14_Same w ((RdH.own (k := 140) rfl) w hb hh) ((RdH.own (k := 149) rfl) w hb hh) rfl)) ?_
          rintro _ _ ⟨_, ⟨rfl, rfl⟩, rfl⟩
          refine WL.yldG (by decide) rfl (Yld.notB rfl) ?_
          refine WL.new (v' := .bool false) rfl ?_
          refine WL.yld (by decide) (Yld.pickF rfl rfl) ?_
          refine WL.done (hK40 _ _ ?_)
          refine WC.condF rfl ?_
          refine WC.skip ?_
          refine QK.blockN ?_
          refine QK.thenN (hK34 _ _ ?_)
          refine WC.region fun K42 hK42 => ?_
          refine WL.yld (by decide) (Yld.add rfl rfl (by omega)) ?_
          refine WL.yld (by decide) (Yld.move rfl) ?_
          refine WL.done (hK42 _ _ ?_)
          refine QK.thenN (hK30 (0 + 1) _ _ ?_ ?_ (Sub.cons rfl (Sub.cons rfl (Sub.cons rfl (Sub.nil _)))) (Sub.cons rfl (Sub.cons rfl (Sub.cons rfl (Sub.cons rfl (Sub.nil _))))))
          · show _ ≤ 4; omega
          · show 4 - _ < 4 - _; omega
        · replace hc33 := of_decide_eq_false hc33
          exfalso; omega
      · skip
        refine WC.seqRegion fun K43 hK43 => ?_
        refine WL.yld (by decide) (Yld.lss rfl rfl) ?_
        refine WL.done (hK43 _ _ ?_)
        refine WC.seq fun K44 hK44 => ?_
        refine WC.cond rfl (fun hc45 => ?_) (fun hc45 => ?_)
        · replace hc45 := of_decide_eq_true hc45
          refine WC.skip ?_
          refine QK.thenN (hK44 _ _ ?_)
          refine WC.seq fun K46 hK46 => ?_
          refine WC.block ?_
          refine WC.seqRegion fun K47 hK47 => ?_
          refine WL.yld (by decide) (Yld.idxAddr1 sty_26 rfl rfl (RdH.own (k := 139) rfl) (by omega)) ?_
          refine WL.yld (by decide) (Yld.loadR scal_23 rfl (RdH.own (k := 139) rfl) (getElem?_map1 _ _ (none, 0, 0) (by simp))) ?_
          refine WL.new (v' := .slice A9 (12 * min n0 60) c9) rfl ?_
          refine WL.yld (by decide) (Yld.assign rfl) ?_
          refine WL.done (hK47 _ _ ?_)
          refine WC.seqRegion fun K48 hK48 => ?_
          refine WL.yld (by decide) (Yld.move rfl) ?_
          refine WL.eff (by decide) (Eff.call 167 rfl Try.func22 nm_22 rfl rfl rfl (fun w hb hh => j_Decode w ((RdH.own (k := 110) rfl) w hb hh) (by first | omega | (simp; omega)))) ?_
          rintro _ _ ⟨_, ⟨A49, c49, rfl, rfl⟩, rfl⟩
          refine WL.yld (by decide) (Yld.move rfl) ?_
          refine WL.yld (by decide) (Yld.extract rfl rfl) ?_
          refine WL.yld (by decide) (Yld.extract rfl rfl) ?_
          refine WL.yld (by decide) (Yld.assign rfl) ?_
          refine WL.yld (by decide) (Yld.assign rfl) ?_
          refine WL.done (hK48 _ _ ?_)
          refine WC.seqRegion fun K50 hK50 => ?_
          refine WL.yld (by decide) (Yld.move rfl) ?_
          refine WL.eff (by decide) (Eff.call 176 rfl Try.func23 nm_23 rfl rfl rfl (fun w hb hh => r14_Decode w ((RdH.own (k := 110) rfl) w hb hh) (by first | omega | (simp; omega)))) ?_
          rintro _ _ ⟨_, ⟨A51, c51, rfl, rfl⟩, rfl⟩
          refine WL.yld (by decide) (Yld.move rfl) ?_
          refine WL.yld (by decide) (Yld.extract rfl rfl) ?_
          refine WL.yld (by decide) (Yld.extract rfl rfl) ?_
          refine WL.yld (by decide) (Yld.assign rfl) ?_
          refine WL.yld (by decide) (Yld.assign rfl) ?_
          refine WL.done (hK50 _ _ ?_)
          refine WC.seqRegion fun K52 hK52 => ?_
          refine WL.yld (by decide) (Yld.move rfl) ?_
          refine WL.yld (by decide) (Yld.move rfl) ?_
          refine WL.yld (by decide) (Yld.neq rfl rfl) ?_
          refine WL.new (v' := .bool false) (congrArg Value.bool (by simp)) ?_
          refine WL.yld (by decide) (Yld.move rfl) ?_
          refine WL.yldG (by decide) rfl (Yld.move rfl) ?_
          refine WL.yldG (by decide) rfl (Yld.move rfl) ?_
          refine WL.effG (by decide) rfl (Eff.call 185 rfl Try.func24 nm_24 rfl rfl rfl (fun w hb hh => r14_Same w ((RdH.own (k := 167) rfl) w hb hh) ((RdH.own (k := 176) rfl) w hb hh) rfl)) ?_
          rintro _ _ ⟨_, ⟨rfl, rfl⟩, rfl⟩
          refine WL.yldG (by decide) rfl (Yld.notB rfl) ?_
          refine WL.new (v' := .bool false) rfl ?_
          refine WL.yld (by decide) (Yld.pickF rfl rfl) ?_
          refine WL.done (hK52 _ _ ?_)
          refine WC.condF rfl ?_
          refine WC.skip ?_
          refine QK.blockN ?_
          refine QK.thenN (hK46 _ _ ?_)
          refine WC.region fun K54 hK54 => ?_
          refine WL.yld (by decide) (Yld.add rfl rfl (by omega)) ?_
          refine WL.yld (by decide) (Yld.move rfl) ?_
          refine WL.done (hK54 _ _ ?_)
          refine QK.thenN (hK30 (1 + 1) _ _ ?_ ?_ (Sub.cons rfl (Sub.cons rfl (Sub.cons rfl (Sub.nil _)))) (Sub.cons rfl (Sub.cons rfl (Sub.cons rfl (Sub.cons rfl (Sub.nil _))))))
          · show _ ≤ 4; omega
          · show 4 - _ < 4 - _; omega
        · replace hc45 := of_decide_eq_false hc45
          exfalso; omega
      · skip
        refine WC.seqRegion fun K55 hK55 => ?_
        refine WL.yld (by decide) (Yld.lss rfl rfl) ?_
        refine WL.done (hK55 _ _ ?_)
        refine WC.seq fun K56 hK56 => ?_
        refine WC.cond rfl (fun hc57 => ?_) (fun hc57 => ?_)
        · replace hc57 := of_decide_eq_true hc57
          refine WC.skip ?_
          refine QK.thenN (hK56 _ _ ?_)
          refine WC.seq fun K58 hK58 => ?_
          refine WC.block ?_
          refine WC.seqRegion fun K59 hK59 => ?_
          refine WL.yld (by decide) (Yld.idxAddr1 sty_26 rfl rfl (RdH.own (k := 139) rfl) (by omega)) ?_
          refine WL.yld (by decide) (Yld.loadR scal_23 rfl (RdH.own (k := 139) rfl) (getElem?_map1 _ _ (none, 0, 0) (by simp))) ?_
          refine WL.new (v' := .slice A17 (0 + 12 * min n0 60) c17) rfl ?_
          refine WL.yld (by decide) (Yld.assign rfl) ?_
          refine WL.done (hK59 _ _ ?_)
          refine WC.seqRegion fun K60 hK60 => ?_
          refine WL.yld (by decide) (Yld.move rfl) ?_
          refine WL.eff (by decide) (Eff.call 194 rfl Try.func22 nm_22 rfl rfl rfl (fun w hb hh => j_Decode w ((RdH.own (k := 137) rfl) w hb hh) (by first | omega | (simp; omega)))) ?_
          rintro _ _ ⟨_, ⟨A61, c61, rfl, rfl⟩, rfl⟩
          refine WL.yld (by decide) (Yld.move rfl) ?_
          refine WL.yld (by decide) (Yld.extract rfl rfl) ?_
          refine WL.yld (by decide) (Yld.extract rfl rfl) ?_
          refine WL.yld (by decide) (Yld.assign rfl) ?_
          refine WL.yld (by decide) (Yld.assign rfl) ?_
          refine WL.done (hK60 _ _ ?_)
          refine WC.seqRegion fun K62 hK62 => ?_
          refine WL.yld (by decide) (Yld.move rfl) ?_
          refine WL.eff (by decide) (Eff.call 203 rfl Try.func23 nm_23 rfl rfl rfl (fun w hb hh => r14_Decode w ((RdH.own (k := 137) rfl) w hb hh) (by first | omega | (simp; omega)))) ?_
          rintro _ _ ⟨_, ⟨A63, c63, rfl, rfl⟩, rfl⟩
          refine WL.yld (by decide) (Yld.move rfl) ?_
          refine WL.yld (by decide) (Yld.extract rfl rfl) ?_
          refine WL.yld (by decide) (Yld.extract rfl rfl) ?_
          refine WL.yld (by decide) (Yld.assign rfl) ?_
          refine WL.yld (by decide) (Yld.assign rfl) ?_
          refine WL.done (hK62 _ _ ?_)
          refine WC.seqRegion fun K64 hK64 => ?_
          refine WL.yld (by decide) (Yld.move rfl) ?_
          refine WL.yld (by decide) (Yld.move rfl) ?_
          refine WL.yld (by decide) (Yld.neq rfl rfl) ?_
          refine WL.new (v' := .bool false) (congrArg Value.bool (by simp)) ?_
          refine WL.yld (by decide) (Yld.move rfl) ?_
          refine WL.yldG (by decide) rfl (Yld.move rfl) ?_
          refine WL.yldG (by decide) rfl (Yld.move rfl) ?_
          refine WL.effG (by decide) rfl (Eff.call 212 rfl Try.func24 nm_24 rfl rfl rfl (fun w hb hh => r14_Same w ((RdH.own (k := 194) rfl) w hb hh) ((RdH.own (k := 203) rfl) w hb hh) rfl)) ?_
          rintro _ _ ⟨_, ⟨rfl, rfl⟩, rfl⟩
          refine WL.yldG (by decide) rfl (Yld.notB rfl) ?_
          refine WL.new (v' := .bool false) rfl ?_
          refine WL.yld (by decide) (Yld.pickF rfl rfl) ?_
          refine WL.done (hK64 _ _ ?_)
          refine WC.condF rfl ?_
          refine WC.skip ?_
          refine QK.blockN ?_
          refine QK.thenN (hK58 _ _ ?_)
          refine WC.region fun K66 hK66 => ?_
          refine WL.yld (by decide) (Yld.add rfl rfl (by omega)) ?_
          refine WL.yld (by decide) (Yld.move rfl) ?_
          refine WL.done (hK66 _ _ ?_)
          refine QK.thenN (hK30 (2 + 1) _ _ ?_ ?_ (Sub.cons rfl (Sub.cons rfl (Sub.cons rfl (Sub.nil _)))) (Sub.cons rfl (Sub.cons rfl (Sub.cons rfl (Sub.cons rfl (Sub.nil _))))))
          · show _ ≤ 4; omega
          · show 4 - _ < 4 - _; omega
        · replace hc57 := of_decide_eq_false hc57
          exfalso; omega
      · skip
        refine WC.seqRegion fun K67 hK67 => ?_
        refine WL.yld (by decide) (Yld.lss rfl rfl) ?_
        refine WL.done (hK67 _ _ ?_)
        refine WC.seq fun K68 hK68 => ?_
        refine WC.cond rfl (fun hc69 => ?_) (fun hc69 => ?_)
        · replace hc69 := of_decide_eq_true hc69
          refine WC.skip ?_
          refine QK.thenN (hK68 _ _ ?_)
          refine WC.seq fun K70 hK70 => ?_
          refine WC.block ?_
          refine WC.seqRegion fun K71 hK71 => ?_
          refine WL.yld (by decide) (Yld.idxAddr1 sty_26 rfl rfl (RdH.own (k := 139) rfl) (by omega)) ?_
          refine WL.yld (by decide) (Yld.loadR scal_23 rfl (RdH.own (k := 139) rfl) (getElem?_map1 _ _ (none, 0, 0) (by simp))) ?_
          refine WL.new (v' := .slice A28 (0 + 12 * min n0 60 + m) c28) rfl ?_
          refine WL.yld (by decide) (Yld.assign rfl) ?_
          refine WL.done (hK71 _ _ ?_)
          refine WC.seqRegion fun K72 hK72 => ?_
          refine WL.yld (by decide) (Yld.move rfl) ?_
          refine WL.eff (by decide) (Eff.call 221 rfl Try.func22 nm_22 rfl rfl rfl (fun w hb hh => j_Decode w ((RdH.own (k := 138) rfl) w hb hh) (by first | omega | (simp; omega)))) ?_
          rintro _ _ ⟨_, ⟨A73, c73, rfl, rfl⟩, rfl⟩
          refine WL.yld (by decide) (Yld.move rfl) ?_
          refine WL.yld (by decide) (Yld.extract rfl rfl) ?_
          refine WL.yld (by decide) (Yld.extract rfl rfl) ?_
          refine WL.yld (by decide) (Yld.assign rfl) ?_
          refine WL.yld (by decide) (Yld.assign rfl) ?_
          refine WL.done (hK72 _ _ ?_)
          refine WC.seqRegion fun K74 hK74 => ?_
          refine WL.yld (by decide) (Yld.move rfl) ?_
          refine WL.eff (by decide) (Eff.call 230 rfl Try.func23 nm_23 rfl rfl rfl (fun w hb hh => r14_Decode w ((RdH.own (k := 138) rfl) w hb hh) (by first | omega | (simp; omega)))) ?_
          rintro _ _ ⟨_, ⟨A75, c75, rfl, rfl⟩, rfl⟩
          refine WL.yld (by decide) (Yld.move rfl) ?_
          refine WL.yld (by decide) (Yld.extract rfl rfl) ?_
          refine WL.yld (by decide) (Yld.extract rfl rfl) ?_
          refine WL.yld (by decide) (Yld.assign rfl) ?_
          refine WL.yld (by decide) (Yld.assign rfl) ?_
          refine WL.done (hK74 _ _ ?_)
          refine WC.seqRegion fun K76 hK76 => ?_
          refine WL.yld (by decide) (Yld.move rfl) ?_
          refine WL.yld (by decide) (Yld.move rfl) ?_
          refine WL.yld (by decide) (Yld.neq rfl rfl) ?_
          refine WL.new (v' := .bool false) (congrArg Value.bool (by simp)) ?_
          refine WL.yld (by decide) (Yld.move rfl) ?_
          refine WL.yldG (by decide) rfl (Yld.move rfl) ?_
          refine WL.yldG (by decide) rfl (Yld.move rfl) ?_
          refine WL.effG (by decide) rfl (Eff.call 239 rfl Try.func24 nm_24 rfl rfl rfl (fun w hb hh => r14_Same w ((RdH.own (k := 221) rfl) w hb hh) ((RdH.own (k := 230) rfl) w hb hh) rfl)) ?_
          rintro _ _ ⟨_, ⟨rfl, rfl⟩, rfl⟩
          refine WL.yldG (by decide) rfl (Yld.notB rfl) ?_
          refine WL.new (v' := .bool false) rfl ?_
          refine WL.yld (by decide) (Yld.pickF rfl rfl) ?_
          refine WL.done (hK76 _ _ ?_)
          refine WC.condF rfl ?_
          refine WC.skip ?_
          refine QK.blockN ?_
          refine QK.thenN (hK70 _ _ ?_)
          refine WC.region fun K78 hK78 => ?_
          refine WL.yld (by decide) (Yld.add rfl rfl (by omega)) ?_
          refine WL.yld (by decide) (Yld.move rfl) ?_
          refine WL.done (hK78 _ _ ?_)
          refine QK.thenN (hK30 (3 + 1) _ _ ?_ ?_ (Sub.cons rfl (Sub.cons rfl (Sub.cons rfl (Sub.nil _)))) (Sub.cons rfl (Sub.cons rfl (Sub.cons rfl (Sub.cons rfl (Sub.nil _))))))
          · show _ ≤ 4; omega
          · show 4 - _ < 4 - _; omega
        · replace hc69 := of_decide_eq_false hc69
          exfalso; omega
      · skip
        refine WC.seqRegion fun K79 hK79 => ?_
        refine WL.yld (by decide) (Yld.lss rfl rfl) ?_
        refine WL.done (hK79 _ _ ?_)
        refine WC.seq fun K80 hK80 => ?_
        refine WC.cond rfl (fun hc81 => ?_) (fun hc81 => ?_)
        · replace hc81 := of_decide_eq_true hc81
          exfalso; omega
        · replace hc81 := of_decide_eq_false hc81
          refine WC.exit (QK.thenE (QK.thenE (QK.blockX ?_)))
          refine QK.thenN (hK24 _ _ ?_)
          refine WC.seqRegion fun K82 hK82 => ?_
          refine WL.eff (by decide) (Eff.call 248 rfl Try.func25 nm_25 rfl rfl rfl (fun w hb hh => law14_awake w)) ?_
          rintro _ _ ⟨_, ⟨rfl, rfl⟩, rfl⟩
          refine WL.yld (by decide) (Yld.assign rfl) ?_
          refine WL.done (hK82 _ _ ?_)
          refine WC.ret ?_
          exact Ret.fn [] (ResIs.one rfl rfl) rfl (by decide) rfl

end Go.Proofs.Ytibopglhgbbmpaa
