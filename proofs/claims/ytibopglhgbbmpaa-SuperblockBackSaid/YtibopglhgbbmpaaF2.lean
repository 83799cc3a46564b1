/-
  The walks of the references of layers 6 and 14 (numbers, checksums, journals) and of journal.
  Printed by a program of ours (gen.py, spec_jr.py) from the function's operations. Conditions: as each theorem says.
-/
import Derived.Test.YtibopglhgbbmpaaK9
import Derived.Test.YtibopglhgbbmpaaM4
import Derived.Test.YtibopglhgbbmpaaF1
namespace Go.Proofs.Ytibopglhgbbmpaa
open Go Go.RowKit
set_option linter.unusedVariables false

theorem und_22 : Try.prog.underlying 22 = some (.slice 63) := by kernel_rfl
theorem und_5 : Try.prog.underlying 5 = some (.int .u8) := by kernel_rfl
theorem und_63 : Try.prog.underlying 63 = some (.int .u64) := by kernel_rfl
theorem und_9 : Try.prog.underlying 9 = some .string := by kernel_rfl
theorem nm_35 : (Try.f35.name == "runtime.NumGoroutine") = false := by kernel_rfl
theorem nm_36 : (Try.f36.name == "runtime.NumGoroutine") = false := by kernel_rfl
theorem nm_42 : (Try.f42.name == "runtime.NumGoroutine") = false := by kernel_rfl
theorem nm_45 : (Try.f45.name == "runtime.NumGoroutine") = false := by kernel_rfl
theorem nm_46 : (Try.f46.name == "runtime.NumGoroutine") = false := by kernel_rfl
theorem scal_63 : scal Try.prog 63 = true := by kernel_rfl
theorem some_33 : (Try.prog.underlying 33).isSome = true := by kernel_rfl
theorem some_63 : (Try.prog.underlying 63).isSome = true := by kernel_rfl
theorem sty_22 : STy Try.prog 22 63 (U64 0#64) 1 8 := STy.of und_22 (by kernel_rfl) rfl

set_option maxRecDepth 10000 in
theorem r06_Number (w : World) (v : BitVec 64) (n : Nat) (hn : n ≤ 8) :
    Fn Try.prog 45 #[U64 v, I64 (n : Nat)] w fun r es => ∃ A c, r = .slice A n c ∧ es = [.own 5 1 A n c ((be n v).map U8)] := by
  refine Fn.intro (N := 23) Try.func45 rfl rfl (Nat.le_of_ble_eq_true rfl) ?_
  refine WC.seqRegion fun K1 hK1 => ?_
  refine WL.yld (by decide) (Yld.assign rfl) ?_
  refine WL.done (hK1 _ _ ?_)
  refine WC.seqRegion fun K2 hK2 => ?_
  refine WL.yld (by decide) (Yld.assign rfl) ?_
  refine WL.done (hK2 _ _ ?_)
  refine WC.seq fun K3 hK3 => ?_
  refine WC.seqRegion fun K4 hK4 => ?_
  refine WL.yld (by decide) (Yld.move rfl) ?_
  refine WL.yld (by decide) (Yld.sub rfl rfl (by omega)) ?_
  refine WL.new (v' := I64 ((n : Int) - 1 - ((0 : Nat) : Int))) (congrArg I64 (by omega)) ?_
  refine WL.yld (by decide) (Yld.assign rfl) ?_
  refine WL.done (hK4 _ _ ?_)
  refine WC.block ?_
  refine WC.nilOwn 101 5 1 rfl ?_
  refine WC.loop (σ := Nat × Option Addr × Nat × List (BitVec 8)) (fun ⟨k, A, c, ys⟩ => [(0, U64 v), (5, .slice A k c), (6, I64 ((n : Int) - 1 - (k : Nat)))]) (fun ⟨k, A, c, ys⟩ => [(101, .own 5 1 A k c (ys.map U8))]) (fun ⟨k, A, c, ys⟩ => k ≤ n ∧ ys = (be n v).take k) (fun ⟨k, A, c, ys⟩ => n - k) (0, none, 0, []) ?_ (Sub.cons rfl (Sub.cons rfl (Sub.cons rfl (Sub.nil _)))) (Sub.cons rfl (Sub.nil _)) ?_
  · exact ⟨by omega, rfl⟩
  rintro ⟨k, A, c, ys⟩ ⟨hk, hy⟩ K5 hK5
  refine WC.seq fun K6 hK6 => ?_
  refine WC.seqRegion fun K7 hK7 => ?_
  refine WL.yld (by decide) (Yld.move rfl) ?_
  refine WL.yld (by decide) (Yld.geq rfl rfl) ?_
  refine WL.done (hK7 _ _ ?_)
  refine WC.cond rfl (fun hc8 => ?_) (fun hc8 => ?_)
  · replace hc8 := of_decide_eq_true hc8
    refine WC.skip ?_
    refine QK.thenN (hK6 _ _ ?_)
    refine WC.seq fun K9 hK9 => ?_
    refine WC.block ?_
    refine WC.region fun K10 hK10 => ?_
    refine WL.yld (by decide) (Yld.move rfl) ?_
    refine WL.yld (by decide) (Yld.move rfl) ?_
    refine WL.yld (by decide) (Yld.move rfl) ?_
    refine WL.yld (by decide) (Yld.mul rfl rfl (by omega)) ?_
    refine WL.yld (by decide) (Yld.conv_i64_uint some_3 und_34 rfl (by omega)) ?_
    refine WL.yld (by decide) (Yld.shr_u64 rfl rfl (by omega)) ?_
    refine WL.new (v' := U64 (v >>> (8 * (n - 1 - k)))) (congrArg (fun s => U64 (v >>> s)) (by omega)) ?_
    refine WL.yld (by decide) (Yld.conv_u64_u8 some_63 und_5 rfl) ?_
    refine WL.eff (by decide) (Eff.buildSliceM U8 102 [_] sty_23 rfl rfl rfl rfl rfl (by decide)) ?_
    rintro _ _ ⟨g102, rfl, rfl⟩
    refine WL.eff (by decide) (Eff.appendM (f := U8) 101 sty_23 rfl rfl rfl (RdH.own (k := 102) rfl) (by omega)) ?_
    rintro _ _ ⟨A12, c12, rfl, rfl⟩
    refine WL.yld (by decide) (Yld.assign rfl) ?_
    refine WL.done (hK10 _ _ ?_)
    refine QK.blockN ?_
    refine QK.thenN (hK9 _ _ ?_)
    refine WC.region fun K13 hK13 => ?_
    refine WL.yld (by decide) (Yld.move rfl) ?_
    refine WL.yld (by decide) (Yld.sub rfl rfl (by omega)) ?_
    refine WL.new (v' := I64 ((n : Int) - 1 - ((k + 1 : Nat) : Int))) (congrArg I64 (by omega)) ?_
    refine WL.yld (by decide) (Yld.assign rfl) ?_
    refine WL.done (hK13 _ _ ?_)
    refine QK.thenN (hK5 (k + 1, _, _, _) _ _ ?_ ?_ (Sub.cons rfl (Sub.cons rfl (Sub.cons rfl (Sub.nil _)))) (Sub.cons rfl (Sub.nil _)))
    · exact ⟨by omega, by rw [be_take_succ v n k (by omega), ← hy]⟩
    · dsimp only; omega
  · replace hc8 := of_decide_eq_false hc8
    obtain rfl : k = n := by omega
    refine WC.exit (QK.thenE (QK.thenE (QK.blockX ?_)))
    refine QK.thenN (hK3 _ _ ?_)
    refine WC.seqRegion fun K14 hK14 => ?_
    refine WL.yld (by decide) (Yld.move rfl) ?_
    refine WL.yld (by decide) (Yld.assign rfl) ?_
    refine WL.done (hK14 _ _ ?_)
    refine WC.ret ?_
    exact Ret.fn [101] (ResIs.one rfl rfl) rfl (by decide) ⟨_, _, rfl, by rw [hy, List.take_of_length_le (by rw [be_length]; omega)]⟩

set_option maxRecDepth 10000 in
theorem r06_Value (w : World) {Ax : Option Addr} {nx cx : Nat} {xsx : List (BitVec 8)} (hx : SlR w 1 Ax nx cx (xsx.map U8)) :
    Fn Try.prog 46 #[.slice Ax nx cx] w fun r es => r = U64 (val xsx) ∧ es = [] := by
  have hlx := hx.len1
  have hcmx := hx.cm
  have hlex := hx.le
  unfold maxLen at hcmx
  refine Fn.intro (N := 20) Try.func46 rfl rfl (Nat.le_of_ble_eq_true rfl) ?_
  refine WC.seqRegion fun K1 hK1 => ?_
  refine WL.yld (by decide) (Yld.assign (v := U64 0#64) rfl) ?_
  refine WL.done (hK1 _ _ ?_)
  refine WC.seqRegion fun K2 hK2 => ?_
  refine WL.yld (by decide) (Yld.assign (v := U64 0#64) rfl) ?_
  refine WL.done (hK2 _ _ ?_)
  refine WC.seq fun K3 hK3 => ?_
  refine WC.seqRegion fun K4 hK4 => ?_
  refine WL.yld (by decide) (Yld.assign rfl) ?_
  refine WL.done (hK4 _ _ ?_)
  refine WC.block ?_
  refine WC.loop (σ := Nat × BitVec 64) (fun ⟨k, v⟩ => [(0, .slice Ax nx cx), (3, U64 v), (4, I64 (k : Nat))]) (fun ⟨k, v⟩ => []) (fun ⟨k, v⟩ => k ≤ nx ∧ v = val (xsx.take k)) (fun ⟨k, v⟩ => nx - k) (0, 0#64) ?_ (Sub.cons rfl (Sub.cons rfl (Sub.cons rfl (Sub.nil _)))) (Sub.nil _) ?_
  · exact ⟨by omega, rfl⟩
  rintro ⟨k, v⟩ ⟨hk, hv⟩ K5 hK5
  refine WC.seq fun K6 hK6 => ?_
  refine WC.seqRegion fun K7 hK7 => ?_
  refine WL.yld (by decide) (Yld.move rfl) ?_
  refine WL.yld (by decide) (Yld.move rfl) ?_
  refine WL.yld (by decide) (Yld.len und_23 rfl) ?_
  refine WL.yld (by decide) (Yld.lss rfl rfl) ?_
  refine WL.done (hK7 _ _ ?_)
  refine WC.cond rfl (fun hc8 => ?_) (fun hc8 => ?_)
  · replace hc8 := of_decide_eq_true hc8
    refine WC.skip ?_
    refine QK.thenN (hK6 _ _ ?_)
    refine WC.seq fun K9 hK9 => ?_
    refine WC.block ?_
    refine WC.region fun K10 hK10 => ?_
    refine WL.yld (by decide) (Yld.move rfl) ?_
    refine WL.yld (by decide) (Yld.shl_u64 rfl rfl (by omega)) ?_
    refine WL.yld (by decide) (Yld.move rfl) ?_
    refine WL.yld (by decide) (Yld.move rfl) ?_
    refine WL.yld (by decide) (Yld.idxAddr1 sty_23 rfl rfl (RdH.old hx) (by omega)) ?_
    refine WL.yld (by decide) (Yld.loadR scal_5 rfl (RdH.old hx) (getElem?_map1 _ _ 0 (by omega))) ?_
    refine WL.yld (by decide) (Yld.conv_u8_u64 some_5 und_63 rfl) ?_
    refine WL.yld (by decide) (Yld.or_u64 rfl rfl) ?_
    refine WL.yld (by decide) (Yld.assign rfl) ?_
    refine WL.done (hK10 _ _ ?_)
    refine QK.blockN ?_
    refine QK.thenN (hK9 _ _ ?_)
    refine WC.region fun K11 hK11 => ?_
    refine WL.yld (by decide) (Yld.move rfl) ?_
    refine WL.yld (by decide) (Yld.add rfl rfl (by omega)) ?_
    refine WL.yld (by decide) (Yld.assign rfl) ?_
    refine WL.done (hK11 _ _ ?_)
    refine QK.thenN (hK5 (k + 1, _) _ _ ?_ ?_ (Sub.cons rfl (Sub.cons rfl (Sub.cons rfl (Sub.nil _)))) (Sub.nil _))
    · exact ⟨by omega, by rw [val_take_succ _ _ (by omega), ← hv]; rfl⟩
    · dsimp only; omega
  · replace hc8 := of_decide_eq_false hc8
    obtain rfl : k = nx := by omega
    refine WC.exit (QK.thenE (QK.thenE (QK.blockX ?_)))
    refine QK.thenN (hK3 _ _ ?_)
    refine WC.seqRegion fun K12 hK12 => ?_
    refine WL.yld (by decide) (Yld.move rfl) ?_
    refine WL.yld (by decide) (Yld.assign rfl) ?_
    refine WL.done (hK12 _ _ ?_)
    refine WC.ret ?_
    exact Ret.fn [] (ResIs.one rfl rfl) rfl (by decide) ⟨by rw [hv, List.take_of_length_le (by omega)], rfl⟩

set_option maxRecDepth 10000 in
theorem r06_Check (w : World) {Ax : Option Addr} {nx cx : Nat} {xsx : List (BitVec 8)} (hx : SlR w 1 Ax nx cx (xsx.map U8)) :
    Fn Try.prog 42 #[.slice Ax nx cx] w fun r es => ∃ A c, r = .slice A 4 c ∧ es = [.own 5 1 A 4 c ((le4 (crcSum xsx)).map U8)] := by
  have hlx := hx.len1
  have hcmx := hx.cm
  have hlex := hx.le
  unfold maxLen at hcmx
  refine Fn.intro (N := 18) Try.func42 rfl rfl (Nat.le_of_ble_eq_true rfl) ?_
  refine WC.seqRegion fun K1 hK1 => ?_
  refine WL.yld (by decide) (Yld.assign rfl) ?_
  refine WL.done (hK1 _ _ ?_)
  refine WC.seqRegion fun K2 hK2 => ?_
  refine WL.yld (by decide) (Yld.move rfl) ?_
  refine WL.eff (by decide) (Eff.call 101 rfl Try.func36 nm_36 rfl rfl rfl (fun w hb hh => ref_Sum w ((RdH.old hx) w hb hh))) ?_
  rintro _ _ ⟨_, ⟨rfl, rfl⟩, rfl⟩
  refine WL.yld (by decide) (Yld.assign rfl) ?_
  refine WL.done (hK2 _ _ ?_)
  refine WC.seqRegion fun K4 hK4 => ?_
  refine WL.yld (by decide) (Yld.move rfl) ?_
  refine WL.yld (by decide) (Yld.conv_u32_u8 some_33 und_5 rfl) ?_
  refine WL.yld (by decide) (Yld.move rfl) ?_
  refine WL.yld (by decide) (Yld.shr_u32 rfl rfl (by omega)) ?_
  refine WL.yld (by decide) (Yld.conv_u32_u8 some_33 und_5 rfl) ?_
  refine WL.yld (by decide) (Yld.move rfl) ?_
  refine WL.yld (by decide) (Yld.shr_u32 rfl rfl (by omega)) ?_
  refine WL.yld (by decide) (Yld.conv_u32_u8 some_33 und_5 rfl) ?_
  refine WL.yld (by decide) (Yld.move rfl) ?_
  refine WL.yld (by decide) (Yld.shr_u32 rfl rfl (by omega)) ?_
  refine WL.yld (by decide) (Yld.conv_u32_u8 some_33 und_5 rfl) ?_
  refine WL.eff (by decide) (Eff.buildSliceM U8 110 [_, _, _, _] sty_23 rfl rfl rfl rfl rfl (by decide)) ?_
  rintro _ _ ⟨g110, rfl, rfl⟩
  refine WL.yld (by decide) (Yld.assign rfl) ?_
  refine WL.done (hK4 _ _ ?_)
  refine WC.ret ?_
  exact Ret.fn [110] (ResIs.one rfl rfl) rfl (by decide) ⟨_, _, rfl, rfl⟩

set_option maxRecDepth 10000 in
theorem r14_Encode (w : World) {Ak : Option Addr} {nk ck : Nat} {xsk : List (BitVec 64)} (hk : SlR w 1 Ak nk ck (xsk.map U64)) (hn : nk ≤ 60) :
    Fn Try.prog 19 #[.slice Ak nk ck] w fun r es => ∃ A c, r = .slice A (12 * nk) c ∧ es = [.own 5 1 A (12 * nk) c ((jenc xsk).map U8)] := by
  have hlk := hk.len1
  have hcmk := hk.cm
  have hlek := hk.le
  unfold maxLen at hcmk
  refine Fn.intro (N := 24) Try.func19 rfl rfl (Nat.le_of_ble_eq_true rfl) ?_
  refine WC.seqRegion fun K1 hK1 => ?_
  refine WL.yld (by decide) (Yld.assign rfl) ?_
  refine WL.done (hK1 _ _ ?_)
  refine WC.seqRegion fun K2 hK2 => ?_
  refine WL.yld (by decide) (Yld.assign rfl) ?_
  refine WL.done (hK2 _ _ ?_)
  refine WC.seq fun K3 hK3 => ?_
  refine WC.seqRegion fun K4 hK4 => ?_
  refine WL.yld (by decide) (Yld.assign rfl) ?_
  refine WL.done (hK4 _ _ ?_)
  refine WC.block ?_
  refine WC.nilOwn 101 5 1 rfl ?_
  refine WC.loop (σ := Nat × Nat × Option Addr × Nat × List (BitVec 8)) (fun ⟨k, m, A, c, ys⟩ => [(0, .slice Ak nk ck), (3, .slice A m c), (4, I64 (k : Nat))]) (fun ⟨k, m, A, c, ys⟩ => [(101, .own 5 1 A m c (ys.map U8))]) (fun ⟨k, m, A, c, ys⟩ => k ≤ nk ∧ m = 12 * k ∧ ys = jenc (xsk.take k)) (fun ⟨k, m, A, c, ys⟩ => nk - k) (0, 0, none, 0, []) ?_ (Sub.cons rfl (Sub.cons rfl (Sub.cons rfl (Sub.nil _)))) (Sub.cons rfl (Sub.nil _)) ?_
  · exact ⟨by omega, rfl, rfl⟩
  rintro ⟨k, m, A, c, ys⟩ ⟨hkn, hm, hy⟩ K5 hK5
  refine WC.seq fun K6 hK6 => ?_
  refine WC.seqRegion fun K7 hK7 => ?_
  refine WL.yld (by decide) (Yld.move rfl) ?_
  refine WL.yld (by decide) (Yld.move rfl) ?_
  refine WL.yld (by decide) (Yld.len und_22 rfl) ?_
  refine WL.yld (by decide) (Yld.lss rfl rfl) ?_
  refine WL.done (hK7 _ _ ?_)
  refine WC.cond rfl (fun hc8 => ?_) (fun hc8 => ?_)
  · replace hc8 := of_decide_eq_true hc8
    refine WC.skip ?_
    refine QK.thenN (hK6 _ _ ?_)
    refine WC.seq fun K9 hK9 => ?_
    refine WC.block ?_
    refine WC.seqRegion fun K10 hK10 => ?_
    refine WL.yld (by decide) (Yld.move rfl) ?_
    refine WL.yld (by decide) (Yld.move rfl) ?_
    refine WL.yld (by decide) (Yld.idxAddr1 sty_22 rfl rfl (RdH.old hk) (by omega)) ?_
    refine WL.yld (by decide) (Yld.loadR scal_63 rfl (RdH.old hk) (getElem?_map1 _ _ 0 (by omega))) ?_
    refine WL.eff (by decide) (Eff.call 102 rfl Try.func45 nm_45 rfl rfl rfl (fun w hb hh => r06_Number w _ 8 (by omega))) ?_
    rintro _ _ ⟨_, ⟨A11, c11, rfl, rfl⟩, rfl⟩
    refine WL.yld (by decide) (Yld.assign rfl) ?_
    refine WL.done (hK10 _ _ ?_)
    refine WC.region fun K12 hK12 => ?_
    refine WL.yld (by decide) (Yld.move rfl) ?_
    refine WL.yld (by decide) (Yld.move rfl) ?_
    refine WL.eff (by decide) (Eff.appendM (f := U8) 101 sty_23 rfl rfl rfl (RdH.own (k := 102) rfl) (by omega)) ?_
    rintro _ _ ⟨A13, c13, rfl, rfl⟩
    refine WL.yld (by decide) (Yld.move rfl) ?_
    refine WL.eff (by decide) (Eff.call 111 rfl Try.func42 nm_42 rfl rfl rfl (fun w hb hh => r06_Check w ((RdH.own (k := 102) rfl) w hb hh))) ?_
    rintro _ _ ⟨_, ⟨A14, c14, rfl, rfl⟩, rfl⟩
    refine WL.eff (by decide) (Eff.appendM (f := U8) 101 sty_23 rfl rfl rfl (RdH.own (k := 111) rfl) (by omega)) ?_
    rintro _ _ ⟨A15, c15, rfl, rfl⟩
    refine WL.yld (by decide) (Yld.assign rfl) ?_
    refine WL.done (hK12 _ _ ?_)
    refine QK.blockN ?_
    refine QK.thenN (hK9 _ _ ?_)
    refine WC.region fun K16 hK16 => ?_
    refine WL.yld (by decide) (Yld.move rfl) ?_
    refine WL.yld (by decide) (Yld.add rfl rfl (by omega)) ?_
    refine WL.yld (by decide) (Yld.assign rfl) ?_
    refine WL.done (hK16 _ _ ?_)
    refine QK.thenN (hK5 (k + 1, _, _, _, _) _ _ ?_ ?_ (Sub.cons rfl (Sub.cons rfl (Sub.cons rfl (Sub.nil _)))) (Sub.cons rfl (Sub.nil _)))
    · exact ⟨by omega, by omega, by rw [jenc_take_succ _ _ (by omega), ← hy, entry, List.append_assoc]; rfl⟩
    · dsimp only; omega
  · replace hc8 := of_decide_eq_false hc8
    obtain rfl : k = nk := by omega
    subst hm
    refine WC.exit (QK.thenE (QK.thenE (QK.blockX ?_)))
    refine QK.thenN (hK3 _ _ ?_)
    refine WC.seqRegion fun K17 hK17 => ?_
    refine WL.yld (by decide) (Yld.move rfl) ?_
    refine WL.yld (by decide) (Yld.assign rfl) ?_
    refine WL.done (hK17 _ _ ?_)
    refine WC.ret ?_
    exact Ret.fn [101] (ResIs.one rfl rfl) rfl (by decide) ⟨_, _, rfl, by rw [hy, List.take_of_length_le (by omega)]⟩

set_option maxRecDepth 10000 in
theorem r14_Decode (w : World) {Ax : Option Addr} {nx cx : Nat} {xsx : List (BitVec 8)} (hx : SlR w 1 Ax nx cx (xsx.map U8)) (hn : nx ≤ 4096) :
    Fn Try.prog 23 #[.slice Ax nx cx] w fun r es => ∃ A c, r = .tuple #[.slice A (jd xsx).length c, I64 ((12 * (jd xsx).length : Nat) : Int)] ∧ es = [.own 63 1 A (jd xsx).length c ((jd xsx).map U64)] := by
  have hlx := hx.len1
  have hcmx := hx.cm
  have hlex := hx.le
  unfold maxLen at hcmx
  refine Fn.intro (N := 41) Try.func23 rfl rfl (Nat.le_of_ble_eq_true rfl) ?_
  refine WC.seqRegion fun K1 hK1 => ?_
  refine WL.yld (by decide) (Yld.assign rfl) ?_
  refine WL.yld (by decide) (Yld.assign rfl) ?_
  refine WL.done (hK1 _ _ ?_)
  refine WC.seqRegion fun K2 hK2 => ?_
  refine WL.yld (by decide) (Yld.assign rfl) ?_
  refine WL.done (hK2 _ _ ?_)
  refine WC.seqRegion fun K3 hK3 => ?_
  refine WL.yld (by decide) (Yld.assign rfl) ?_
  refine WL.done (hK3 _ _ ?_)
  refine WC.seq fun K4 hK4 => ?_
  refine WC.block ?_
  refine WC.nilOwn 101 63 1 rfl ?_
  refine WC.loop (σ := Nat × Nat × Option Addr × Nat × List (BitVec 64)) (fun ⟨a, m, A, c, ks⟩ => [(0, .slice Ax nx cx), (4, .slice A m c), (5, I64 (a : Nat))]) (fun ⟨a, m, A, c, ks⟩ => [(101, .own 63 1 A m c (ks.map U64))]) (fun ⟨a, m, A, c, ks⟩ => a = 12 * m ∧ m = ks.length ∧ a ≤ nx ∧ ks ++ jd (xsx.drop a) = jd xsx) (fun ⟨a, m, A, c, ks⟩ => nx - a) (0, 0, none, 0, []) ?_ (Sub.cons rfl (Sub.cons rfl (Sub.cons rfl (Sub.nil _)))) (Sub.cons rfl (Sub.nil _)) ?_
  · exact ⟨rfl, rfl, by omega, rfl⟩
  rintro ⟨a, m, A, c, ks⟩ ⟨ha, hm, han, hj⟩ K5 hK5
  refine WC.seq fun K6 hK6 => ?_
  have hdl : (xsx.drop a).length = nx - a := by rw [List.length_drop]; omega
  refine WC.seqRegionD (n := 22) [(101, _)] rfl mixed (Sub.cons rfl (Sub.nil _)) fun K8 hK8 => ?_
  refine WD.take 0 rfl (by kernel_rfl) (by kernel_rfl) (by kernel_rfl) (by decide) (Yld.move rfl) ?_
  refine WD.take 1 rfl (by kernel_rfl) (by kernel_rfl) (by kernel_rfl) (by decide) (Yld.add rfl rfl (by omega)) ?_
  refine WD.take 2 rfl (by kernel_rfl) (by kernel_rfl) (by kernel_rfl) (by decide) (Yld.move rfl) ?_
  refine WD.take 3 rfl (by kernel_rfl) (by kernel_rfl) (by kernel_rfl) (by decide) (Yld.len und_23 rfl) ?_
  refine WD.take 4 rfl (by kernel_rfl) (by kernel_rfl) (by kernel_rfl) (by decide) (Yld.leq rfl rfl) ?_
  refine WD.take 5 rfl (by kernel_rfl) (by kernel_rfl) (by kernel_rfl) (by decide) (Yld.move rfl) ?_
  refine WD.bool (fun hb9 => ?_) (fun hb9 => ?_)
  · replace hb9 := of_decide_eq_true hb9
    refine WD.takeG 6 rfl (by kernel_rfl) (by kernel_rfl) (by kernel_rfl) (by decide) rfl (Yld.move rfl) ?_
    refine WD.takeG 7 rfl (by kernel_rfl) (by kernel_rfl) (by kernel_rfl) (by decide) rfl (Yld.move rfl) ?_
    refine WD.takeG 8 rfl (by kernel_rfl) (by kernel_rfl) (by kernel_rfl) (by decide) rfl (Yld.move rfl) ?_
    refine WD.takeG 9 rfl (by kernel_rfl) (by kernel_rfl) (by kernel_rfl) (by decide) rfl (Yld.add rfl rfl (by omega)) ?_
    refine WD.takeG 10 rfl (by kernel_rfl) (by kernel_rfl) (by kernel_rfl) (by decide) rfl (Yld.sliceLH sty_23 rfl rfl rfl (by omega)) ?_
    refine WD.takeG 13 rfl (by kernel_rfl) (by kernel_rfl) (by kernel_rfl) (by decide) rfl (Yld.move rfl) ?_
    refine WD.takeG 14 rfl (by kernel_rfl) (by kernel_rfl) (by kernel_rfl) (by decide) rfl (Yld.move rfl) ?_
    refine WD.takeG 15 rfl (by kernel_rfl) (by kernel_rfl) (by kernel_rfl) (by decide) rfl (Yld.add rfl rfl (by omega)) ?_
    refine WD.takeG 16 rfl (by kernel_rfl) (by kernel_rfl) (by kernel_rfl) (by decide) rfl (Yld.move rfl) ?_
    refine WD.takeG 17 rfl (by kernel_rfl) (by kernel_rfl) (by kernel_rfl) (by decide) rfl (Yld.add rfl rfl (by omega)) ?_
    refine WD.takeG 18 rfl (by kernel_rfl) (by kernel_rfl) (by kernel_rfl) (by decide) rfl (Yld.sliceLH sty_23 rfl rfl rfl (by omega)) ?_
    refine WD.takeG 19 rfl (by kernel_rfl) (by kernel_rfl) (by kernel_rfl) (by decide) rfl (Yld.b2s und_23 und_5 und_9 rfl (RdH.cut1 (RdH.old hx) (by omega) (by omega))) ?_
    refine WD.one 11 (by kernel_rfl) ?_
    refine WS.effG rfl (by decide) rfl (Eff.call 102 rfl Try.func42 nm_42 rfl rfl rfl (fun w hb hh => r06_Check w ((RdH.cut1 (RdH.old hx) (by omega) (by omega)) w hb hh))) ?_
    rintro _ _ ⟨_, ⟨A10, c10, rfl, rfl⟩, rfl⟩
    refine ⟨(Sub.cons rfl (Sub.nil _)), ?_⟩
    refine WD.one 12 (by kernel_rfl) ?_
    refine WS.yldG rfl (by decide) rfl (Yld.b2s und_23 und_5 und_9 rfl (RdH.own (k := 102) rfl)) ?_
    refine WD.takeG 20 rfl (by kernel_rfl) (by kernel_rfl) (by kernel_rfl) (by decide) rfl (Yld.eqlStr rfl rfl) ?_
    refine WD.take 21 rfl (by kernel_rfl) (by kernel_rfl) (by kernel_rfl) (by decide) (Yld.pickT rfl rfl) ?_
    refine WD.done (by kernel_rfl) (hK8 _ _ ?_)
    refine WC.cond rfl (fun hc11 => ?_) (fun hc11 => ?_)
    · replace hc11 := eq_of_beq hc11
      have hok : jok (xsx.drop a) = true := jok_of (by rw [hdl]; omega) (by rw [List.drop_drop]; simpa only [Int.toNat_natCast, show ((a : Int) + 8).toNat = a + 8 by omega, show ((a : Int) + 12).toNat = a + 12 by omega, Nat.add_sub_cancel_left, Nat.add_sub_add_left] using hc11)
      refine WC.skip ?_
      refine QK.thenN (hK6 _ _ ?_)
      refine WC.block ?_
      refine WC.seqRegion fun K12 hK12 => ?_
      refine WL.yld (by decide) (Yld.move rfl) ?_
      refine WL.yld (by decide) (Yld.move rfl) ?_
      refine WL.yld (by decide) (Yld.move rfl) ?_
      refine WL.yld (by decide) (Yld.move rfl) ?_
      refine WL.yld (by decide) (Yld.add rfl rfl (by omega)) ?_
      refine WL.yld (by decide) (Yld.sliceLH sty_23 rfl rfl rfl (by omega)) ?_
      refine WL.eff (by decide) (Eff.call 111 rfl Try.func46 nm_46 rfl rfl rfl (fun w hb hh => r06_Value w ((RdH.cut1 (RdH.old hx) (by omega) (by omega)) w hb hh))) ?_
      rintro _ _ ⟨_, ⟨rfl, rfl⟩, rfl⟩
      refine WL.new (v' := U64 (val ((xsx.drop a).take 8))) (by simp only [Int.toNat_natCast, show ((a : Int) + 8).toNat = a + 8 by omega, Nat.add_sub_cancel_left]) ?_
      refine WL.eff (by decide) (Eff.buildSliceM U64 120 [_] sty_22 rfl rfl rfl rfl rfl (by decide)) ?_
      rintro _ _ ⟨g120, rfl, rfl⟩
      refine WL.eff (by decide) (Eff.appendM (f := U64) 101 sty_22 rfl rfl rfl (RdH.own (k := 120) rfl) (by omega)) ?_
      rintro _ _ ⟨A15, c15, rfl, rfl⟩
      refine WL.yld (by decide) (Yld.assign rfl) ?_
      refine WL.done (hK12 _ _ ?_)
      refine WC.region fun K16 hK16 => ?_
      refine WL.yld (by decide) (Yld.move rfl) ?_
      refine WL.yld (by decide) (Yld.add rfl rfl (by omega)) ?_
      refine WL.new (v' := I64 ((a + 12 : Nat) : Int)) (congrArg I64 (by omega)) ?_
      refine WL.yld (by decide) (Yld.assign rfl) ?_
      refine WL.done (hK16 _ _ ?_)
      refine QK.blockN ?_
      refine QK.thenN (hK5 (a + 12, _, _, _, _) _ _ ?_ ?_ (Sub.cons rfl (Sub.cons rfl (Sub.cons rfl (Sub.nil _)))) (Sub.cons rfl (Sub.nil _)))
      · exact ⟨by omega, by simp [hm], by omega, by rw [← hj, jd_ok hok, List.append_assoc, List.drop_drop]; rfl⟩
      · dsimp only; omega
    · replace hc11 := ne_of_beq_false hc11
      have hno : ¬ jok (xsx.drop a) = true := jok_not (by rintro ⟨h1, h2⟩; rw [List.drop_drop] at h2; exact hc11 (by simpa only [Int.toNat_natCast, show ((a : Int) + 8).toNat = a + 8 by omega, show ((a : Int) + 12).toNat = a + 12 by omega, Nat.add_sub_cancel_left, Nat.add_sub_add_left] using h2))
      refine WC.exit (QK.thenE (QK.thenE (QK.blockX ?_)))
      refine QK.thenN (hK4 _ _ ?_)
      refine WC.seqRegion fun K17 hK17 => ?_
      refine WL.yld (by decide) (Yld.move rfl) ?_
      refine WL.yld (by decide) (Yld.move rfl) ?_
      refine WL.yld (by decide) (Yld.assign rfl) ?_
      refine WL.yld (by decide) (Yld.assign rfl) ?_
      refine WL.done (hK17 _ _ ?_)
      refine WC.ret ?_
      rw [jd_no hno, List.append_nil] at hj
      subst ha
      subst hm
      subst hj
      exact Ret.fn [101] (ResIs.two rfl rfl rfl) rfl (by decide) ⟨_, _, rfl, rfl⟩
  · replace hb9 := of_decide_eq_false hb9
    have hno : ¬ jok (xsx.drop a) = true := jok_not (by rintro ⟨h1, h2⟩; rw [hdl] at h1; omega)
    refine WD.takeS 6 rfl (by kernel_rfl) (by kernel_rfl) (by kernel_rfl) (by decide) rfl rfl ?_
    refine WD.takeS 7 rfl (by kernel_rfl) (by kernel_rfl) (by kernel_rfl) (by decide) rfl rfl ?_
    refine WD.takeS 8 rfl (by kernel_rfl) (by kernel_rfl) (by kernel_rfl) (by decide) rfl rfl ?_
    refine WD.takeS 9 rfl (by kernel_rfl) (by kernel_rfl) (by kernel_rfl) (by decide) rfl rfl ?_
    refine WD.takeS 10 rfl (by kernel_rfl) (by kernel_rfl) (by kernel_rfl) (by decide) rfl rfl ?_
    refine WD.takeS 11 rfl (by kernel_rfl) (by kernel_rfl) (by kernel_rfl) (by decide) rfl rfl ?_
    refine WD.takeS 12 rfl (by kernel_rfl) (by kernel_rfl) (by kernel_rfl) (by decide) rfl rfl ?_
    refine WD.takeS 13 rfl (by kernel_rfl) (by kernel_rfl) (by kernel_rfl) (by decide) rfl rfl ?_
    refine WD.takeS 14 rfl (by kernel_rfl) (by kernel_rfl) (by kernel_rfl) (by decide) rfl rfl ?_
    refine WD.takeS 15 rfl (by kernel_rfl) (by kernel_rfl) (by kernel_rfl) (by decide) rfl rfl ?_
    refine WD.takeS 16 rfl (by kernel_rfl) (by kernel_rfl) (by kernel_rfl) (by decide) rfl rfl ?_
    refine WD.takeS 17 rfl (by kernel_rfl) (by kernel_rfl) (by kernel_rfl) (by decide) rfl rfl ?_
    refine WD.takeS 18 rfl (by kernel_rfl) (by kernel_rfl) (by kernel_rfl) (by decide) rfl rfl ?_
    refine WD.takeS 19 rfl (by kernel_rfl) (by kernel_rfl) (by kernel_rfl) (by decide) rfl rfl ?_
    refine WD.takeS 20 rfl (by kernel_rfl) (by kernel_rfl) (by kernel_rfl) (by decide) rfl rfl ?_
    refine WD.take 21 rfl (by kernel_rfl) (by kernel_rfl) (by kernel_rfl) (by decide) (Yld.pickF rfl rfl) ?_
    refine WD.done (by kernel_rfl) (hK8 _ _ ?_)
    refine WC.condF rfl ?_
    refine WC.exit (QK.thenE (QK.thenE (QK.blockX ?_)))
    refine QK.thenN (hK4 _ _ ?_)
    refine WC.seqRegion fun K18 hK18 => ?_
    refine WL.yld (by decide) (Yld.move rfl) ?_
    refine WL.yld (by decide) (Yld.move rfl) ?_
    refine WL.yld (by decide) (Yld.assign rfl) ?_
    refine WL.yld (by decide) (Yld.assign rfl) ?_
    refine WL.done (hK18 _ _ ?_)
    refine WC.ret ?_
    rw [jd_no hno, List.append_nil] at hj
    subst ha
    subst hm
    subst hj
    exact Ret.fn [101] (ResIs.two rfl rfl rfl) rfl (by decide) ⟨_, _, rfl, rfl⟩

set_option maxRecDepth 10000 in
theorem r14_Same (w : World) {Ax : Option Addr} {nx cx : Nat} {xsx : List (BitVec 64)} (hx : SlR w 1 Ax nx cx (xsx.map U64)) {Ay : Option Addr} {ny cy : Nat} {xsy : List (BitVec 64)} (hy : SlR w 1 Ay ny cy (xsy.map U64)) (he : xsx = xsy) :
    Fn Try.prog 24 #[.slice Ax nx cx, .slice Ay ny cy] w fun r es => r = .bool true ∧ es = [] := by
  have hlx := hx.len1
  have hcmx := hx.cm
  have hlex := hx.le
  unfold maxLen at hcmx
  have hly := hy.len1
  have hcmy := hy.cm
  have hley := hy.le
  unfold maxLen at hcmy
  subst he
  obtain rfl : nx = ny := by omega
  refine Fn.intro (N := 26) Try.func24 rfl rfl (Nat.le_of_ble_eq_true rfl) ?_
  refine WC.seqRegion fun K1 hK1 => ?_
  refine WL.yld (by decide) (Yld.assign rfl) ?_
  refine WL.done (hK1 _ _ ?_)
  refine WC.seq fun K2 hK2 => ?_
  refine WC.seqRegion fun K3 hK3 => ?_
  refine WL.yld (by decide) (Yld.move rfl) ?_
  refine WL.yld (by decide) (Yld.len und_22 rfl) ?_
  refine WL.yld (by decide) (Yld.move rfl) ?_
  refine WL.yld (by decide) (Yld.len und_22 rfl) ?_
  refine WL.yld (by decide) (Yld.neq rfl rfl) ?_
  refine WL.done (hK3 _ _ ?_)
  refine WC.cond rfl (fun hc4 => ?_) (fun hc4 => ?_)
  · replace hc4 := bne_iff_ne.1 hc4
    exfalso; omega
  · replace hc4 := bne_eq_false_iff_eq.1 hc4
    refine WC.skip ?_
    refine QK.thenN (hK2 _ _ ?_)
    refine WC.seq fun K5 hK5 => ?_
    refine WC.seqRegion fun K6 hK6 => ?_
    refine WL.yld (by decide) (Yld.assign rfl) ?_
    refine WL.done (hK6 _ _ ?_)
    refine WC.block ?_
    refine WC.loop (σ := Nat) (fun k => [(0, .slice Ax nx cx), (1, .slice Ay nx cy), (5, I64 (k : Nat))]) (fun k => []) (fun k => k ≤ nx) (fun k => nx - k) 0 ?_ (Sub.cons rfl (Sub.cons rfl (Sub.cons rfl (Sub.nil _)))) (Sub.nil _) ?_
    · exact Nat.zero_le _
    rintro k hk K7 hK7
    refine WC.seq fun K8 hK8 => ?_
    refine WC.seqRegion fun K9 hK9 => ?_
    refine WL.yld (by decide) (Yld.move rfl) ?_
    refine WL.yld (by decide) (Yld.move rfl) ?_
    refine WL.yld (by decide) (Yld.len und_22 rfl) ?_
    refine WL.yld (by decide) (Yld.lss rfl rfl) ?_
    refine WL.done (hK9 _ _ ?_)
    refine WC.cond rfl (fun hc10 => ?_) (fun hc10 => ?_)
    · replace hc10 := of_decide_eq_true hc10
      refine WC.skip ?_
      refine QK.thenN (hK8 _ _ ?_)
      refine WC.seq fun K11 hK11 => ?_
      refine WC.block ?_
      refine WC.seqRegionD (n := 9) [] rfl mixed (Sub.nil _) fun K13 hK13 => ?_
      refine WD.take 0 rfl (by kernel_rfl) (by kernel_rfl) (by kernel_rfl) (by decide) (Yld.move rfl) ?_
      refine WD.take 1 rfl (by kernel_rfl) (by kernel_rfl) (by kernel_rfl) (by decide) (Yld.move rfl) ?_
      refine WD.take 2 rfl (by kernel_rfl) (by kernel_rfl) (by kernel_rfl) (by decide) (Yld.idxAddr1 sty_22 rfl rfl (RdH.old hx) (by omega)) ?_
      refine WD.take 3 rfl (by kernel_rfl) (by kernel_rfl) (by kernel_rfl) (by decide) (Yld.loadR scal_63 rfl (RdH.old hx) (getElem?_map1 _ _ 0 (by omega))) ?_
      refine WD.take 4 rfl (by kernel_rfl) (by kernel_rfl) (by kernel_rfl) (by decide) (Yld.move rfl) ?_
      refine WD.take 5 rfl (by kernel_rfl) (by kernel_rfl) (by kernel_rfl) (by decide) (Yld.move rfl) ?_
      refine WD.take 6 rfl (by kernel_rfl) (by kernel_rfl) (by kernel_rfl) (by decide) (Yld.idxAddr1 sty_22 rfl rfl (RdH.old hy) (by omega)) ?_
      refine WD.take 7 rfl (by kernel_rfl) (by kernel_rfl) (by kernel_rfl) (by decide) (Yld.loadR scal_63 rfl (RdH.old hy) (getElem?_map1 _ _ 0 (by omega))) ?_
      refine WD.take 8 rfl (by kernel_rfl) (by kernel_rfl) (by kernel_rfl) (by decide) (Yld.neq_u64 rfl rfl) ?_
      refine WD.done (by kernel_rfl) (hK13 _ _ ?_)
      refine WC.cond rfl (fun hc14 => ?_) (fun hc14 => ?_)
      · replace hc14 := bne_iff_ne.1 hc14
        exfalso; exact absurd rfl (by assumption)
      · replace hc14 := bne_eq_false_iff_eq.1 hc14
        refine WC.skip ?_
        refine QK.blockN ?_
        refine QK.thenN (hK11 _ _ ?_)
        refine WC.region fun K15 hK15 => ?_
        refine WL.yld (by decide) (Yld.move rfl) ?_
        refine WL.yld (by decide) (Yld.add rfl rfl (by omega)) ?_
        refine WL.yld (by decide) (Yld.assign rfl) ?_
        refine WL.done (hK15 _ _ ?_)
        refine QK.thenN (hK7 (k + 1) _ _ ?_ ?_ (Sub.cons rfl (Sub.cons rfl (Sub.cons rfl (Sub.nil _)))) (Sub.nil _))
        · show k + 1 ≤ nx; omega
        · show nx - (k + 1) < nx - k; omega
    · replace hc10 := of_decide_eq_false hc10
      refine WC.exit (QK.thenE (QK.thenE (QK.blockX ?_)))
      refine QK.thenN (hK5 _ _ ?_)
      refine WC.seqRegion fun K16 hK16 => ?_
      refine WL.yld (by decide) (Yld.assign rfl) ?_
      refine WL.done (hK16 _ _ ?_)
      refine WC.ret ?_
      exact Ret.fn [] (ResIs.one rfl rfl) rfl (by decide) ⟨rfl, rfl⟩

set_option maxRecDepth 10000 in
theorem j_Encode (w : World) {Ak : Option Addr} {nk ck : Nat} {xsk : List (BitVec 64)} (hk : SlR w 1 Ak nk ck (xsk.map U64)) (hn : nk ≤ 60) :
    Fn Try.prog 21 #[.slice Ak nk ck] w fun r es => ∃ A c, r = .slice A (12 * nk) c ∧ es = [.own 5 1 A (12 * nk) c ((jenc xsk).map U8)] := by
  have hlk := hk.len1
  have hcmk := hk.cm
  have hlek := hk.le
  unfold maxLen at hcmk
  refine Fn.intro (N := 48) Try.func21 rfl rfl (Nat.le_of_ble_eq_true rfl) ?_
  refine WC.seqRegion fun K1 hK1 => ?_
  refine WL.yld (by decide) (Yld.assign rfl) ?_
  refine WL.done (hK1 _ _ ?_)
  refine WC.seqRegion fun K2 hK2 => ?_
  refine WL.yld (by decide) (Yld.assign rfl) ?_
  refine WL.done (hK2 _ _ ?_)
  refine WC.seq fun K3 hK3 => ?_
  refine WC.seqRegion fun K4 hK4 => ?_
  refine WL.yld (by decide) (Yld.move rfl) ?_
  refine WL.yld (by decide) (Yld.len und_22 rfl) ?_
  refine WL.yld (by decide) (Yld.move rfl) ?_
  refine WL.done (hK4 _ _ ?_)
  refine WC.block ?_
  refine WC.nilOwn 101 5 1 rfl ?_
  refine WC.loop (σ := Nat × Nat × Option Addr × Nat × List (BitVec 8)) (fun ⟨k, m, A, c, ys⟩ => [(3, .slice A m c), (10, .slice Ak nk ck), (11, I64 (nk : Nat)), (12, I64 (k : Nat))]) (fun ⟨k, m, A, c, ys⟩ => [(101, .own 5 1 A m c (ys.map U8))]) (fun ⟨k, m, A, c, ys⟩ => k ≤ nk ∧ m = 12 * k ∧ ys = jenc (xsk.take k)) (fun ⟨k, m, A, c, ys⟩ => nk - k) (0, 0, none, 0, []) ?_ (Sub.cons rfl (Sub.cons rfl (Sub.cons rfl (Sub.cons rfl (Sub.nil _))))) (Sub.cons rfl (Sub.nil _)) ?_
  · exact ⟨by omega, rfl, rfl⟩
  rintro ⟨k, m, A, c, ys⟩ ⟨hkn, hm, hy⟩ K5 hK5
  refine WC.seqRegion fun K6 hK6 => ?_
  refine WL.yld (by decide) (Yld.lss rfl rfl) ?_
  refine WL.done (hK6 _ _ ?_)
  refine WC.seq fun K7 hK7 => ?_
  refine WC.cond rfl (fun hc8 => ?_) (fun hc8 => ?_)
  · replace hc8 := of_decide_eq_true hc8
    refine WC.skip ?_
    refine QK.thenN (hK7 _ _ ?_)
    refine WC.seq fun K9 hK9 => ?_
    refine WC.block ?_
    refine WC.seqRegion fun K10 hK10 => ?_
    refine WL.yld (by decide) (Yld.idxAddr1 sty_22 rfl rfl (RdH.old hk) (by omega)) ?_
    refine WL.yld (by decide) (Yld.loadR scal_63 rfl (RdH.old hk) (getElem?_map1 _ _ 0 (by omega))) ?_
    refine WL.yld (by decide) (Yld.assign rfl) ?_
    refine WL.done (hK10 _ _ ?_)
    refine WC.seqRegion fun K11 hK11 => ?_
    refine WL.yld (by decide) (Yld.assign rfl) ?_
    refine WL.done (hK11 _ _ ?_)
    refine WC.seq fun K12 hK12 => ?_
    refine WC.seqRegion fun K13 hK13 => ?_
    refine WL.yld (by decide) (Yld.move rfl) ?_
    refine WL.done (hK13 _ _ ?_)
    refine WC.block ?_
    refine WC.nilOwn 102 5 1 rfl ?_
    refine WC.loop (σ := Nat × Option Addr × Nat × List (BitVec 8)) (fun ⟨i, A1, c1, bs⟩ => [(3, .slice A m c), (10, .slice Ak nk ck), (11, I64 (nk : Nat)), (12, I64 (k : Nat)), (5, U64 (xsk.getD k 0)), (6, .slice A1 i c1), (16, I64 (i : Nat))]) (fun ⟨i, A1, c1, bs⟩ => [(101, .own 5 1 A m c (ys.map U8)), (102, .own 5 1 A1 i c1 (bs.map U8))]) (fun ⟨i, A1, c1, bs⟩ => i ≤ 8 ∧ bs = (be 8 (xsk.getD k 0)).take i) (fun ⟨i, A1, c1, bs⟩ => 8 - i) (0, none, 0, []) ?_ (Sub.cons rfl (Sub.cons rfl (Sub.cons rfl (Sub.cons rfl (Sub.cons rfl (Sub.cons rfl (Sub.cons rfl (Sub.nil _)))))))) (Sub.cons rfl (Sub.cons rfl (Sub.nil _))) ?_
    · exact ⟨by omega, rfl⟩
    rintro ⟨i, A1, c1, bs⟩ ⟨hi, hb⟩ K14 hK14
    refine WC.seqRegion fun K15 hK15 => ?_
    refine WL.yld (by decide) (Yld.lss rfl rfl) ?_
    refine WL.done (hK15 _ _ ?_)
    refine WC.seq fun K16 hK16 => ?_
    refine WC.cond rfl (fun hc17 => ?_) (fun hc17 => ?_)
    · replace hc17 := of_decide_eq_true hc17
      refine WC.skip ?_
      refine QK.thenN (hK16 _ _ ?_)
      refine WC.seq fun K18 hK18 => ?_
      refine WC.block ?_
      refine WC.seqRegion fun K19 hK19 => ?_
      refine WL.yld (by decide) (Yld.move rfl) ?_
      refine WL.yld (by decide) (Yld.assign rfl) ?_
      refine WL.done (hK19 _ _ ?_)
      refine WC.region fun K20 hK20 => ?_
      refine WL.yld (by decide) (Yld.move rfl) ?_
      refine WL.yld (by decide) (Yld.move rfl) ?_
      refine WL.yld (by decide) (Yld.move rfl) ?_
      refine WL.yld (by decide) (Yld.sub rfl rfl (by omega)) ?_
      refine WL.yld (by decide) (Yld.mul rfl rfl (by omega)) ?_
      refine WL.yld (by decide) (Yld.shr_u64 rfl rfl (by omega)) ?_
      refine WL.new (v' := U64 ((xsk.getD k 0) >>> (8 * (8 - 1 - i)))) (congrArg (fun s => U64 ((xsk.getD k 0) >>> s)) (by omega)) ?_
      refine WL.yld (by decide) (Yld.conv_u64_u8 some_63 und_5 rfl) ?_
      refine WL.eff (by decide) (Eff.buildSliceM U8 103 [_] sty_23 rfl rfl rfl rfl rfl (by decide)) ?_
      rintro _ _ ⟨g103, rfl, rfl⟩
      refine WL.eff (by decide) (Eff.appendM (f := U8) 102 sty_23 rfl rfl rfl (RdH.own (k := 103) rfl) (by omega)) ?_
      rintro _ _ ⟨A22, c22, rfl, rfl⟩
      refine WL.yld (by decide) (Yld.assign rfl) ?_
      refine WL.done (hK20 _ _ ?_)
      refine QK.blockN ?_
      refine QK.thenN (hK18 _ _ ?_)
      refine WC.region fun K23 hK23 => ?_
      refine WL.yld (by decide) (Yld.add rfl rfl (by omega)) ?_
      refine WL.yld (by decide) (Yld.move rfl) ?_
      refine WL.done (hK23 _ _ ?_)
      refine QK.thenN (hK14 (i + 1, _, _, _) _ _ ?_ ?_ (Sub.cons rfl (Sub.cons rfl (Sub.cons rfl (Sub.cons rfl (Sub.cons rfl (Sub.cons rfl (Sub.cons rfl (Sub.nil _)))))))) (Sub.cons rfl (Sub.cons rfl (Sub.nil _))))
      · exact ⟨by omega, by rw [be_take_succ _ 8 i (by omega), ← hb]⟩
      · dsimp only; omega
    · replace hc17 := of_decide_eq_false hc17
      obtain rfl : i = 8 := by omega
      rw [List.take_of_length_le (by rw [be_length]; omega)] at hb
      subst hb
      refine WC.exit (QK.thenE (QK.thenE (QK.blockX ?_)))
      refine QK.thenN (hK12 _ _ ?_)
      refine WC.seqRegion fun K24 hK24 => ?_
      refine WL.yld (by decide) (Yld.move rfl) ?_
      refine WL.eff (by decide) (Eff.call 104 rfl Try.func35 nm_35 rfl rfl rfl (fun w hb hh => crc_Sum w ((RdH.own (k := 102) rfl) w hb hh))) ?_
      rintro _ _ ⟨_, ⟨rfl, rfl⟩, rfl⟩
      refine WL.yld (by decide) (Yld.assign rfl) ?_
      refine WL.done (hK24 _ _ ?_)
      refine WC.seq fun K26 hK26 => ?_
      refine WC.seqRegion fun K27 hK27 => ?_
      refine WL.yld (by decide) (Yld.move rfl) ?_
      refine WL.done (hK27 _ _ ?_)
      refine WC.block ?_
      refine WC.loop (σ := Nat × Nat × Option Addr × Nat × List (BitVec 8)) (fun ⟨j, l, A2, c2, bs2⟩ => [(3, .slice A m c), (10, .slice Ak nk ck), (11, I64 (nk : Nat)), (12, I64 (k : Nat)), (8, U32 (crcSum (be 8 (xsk.getD k 0)))), (6, .slice A2 l c2), (31, I64 (j : Nat))]) (fun ⟨j, l, A2, c2, bs2⟩ => [(101, .own 5 1 A m c (ys.map U8)), (102, .own 5 1 A2 l c2 (bs2.map U8))]) (fun ⟨j, l, A2, c2, bs2⟩ => j ≤ 4 ∧ l = 8 + j ∧ bs2 = be 8 (xsk.getD k 0) ++ (le4 (crcSum (be 8 (xsk.getD k 0)))).take j) (fun ⟨j, l, A2, c2, bs2⟩ => 4 - j) (0, _, _, _, _) ?_ (Sub.cons rfl (Sub.cons rfl (Sub.cons rfl (Sub.cons rfl (Sub.cons rfl (Sub.cons rfl (Sub.cons rfl (Sub.nil _)))))))) (Sub.cons rfl (Sub.cons rfl (Sub.nil _))) ?_
      · exact ⟨by omega, rfl, by simp⟩
      rintro ⟨j, l, A2, c2, bs2⟩ ⟨hj, hl, hb2⟩ K28 hK28
      refine WC.seqRegion fun K29 hK29 => ?_
      refine WL.yld (by decide) (Yld.lss rfl rfl) ?_
      refine WL.done (hK29 _ _ ?_)
      refine WC.seq fun K30 hK30 => ?_
      refine WC.cond rfl (fun hc31 => ?_) (fun hc31 => ?_)
      · replace hc31 := of_decide_eq_true hc31
        refine WC.skip ?_
        refine QK.thenN (hK30 _ _ ?_)
        refine WC.seq fun K32 hK32 => ?_
        refine WC.block ?_
        refine WC.seqRegion fun K33 hK33 => ?_
        refine WL.yld (by decide) (Yld.move rfl) ?_
        refine WL.yld (by decide) (Yld.assign rfl) ?_
        refine WL.done (hK33 _ _ ?_)
        refine WC.region fun K34 hK34 => ?_
        refine WL.yld (by decide) (Yld.move rfl) ?_
        refine WL.yld (by decide) (Yld.move rfl) ?_
        refine WL.yld (by decide) (Yld.move rfl) ?_
        refine WL.yld (by decide) (Yld.mul rfl rfl (by omega)) ?_
        refine WL.yld (by decide) (Yld.shr_u32 rfl rfl (by omega)) ?_
        refine WL.new (v' := U32 ((crcSum (be 8 (xsk.getD k 0))) >>> (8 * j))) (congrArg (fun s => U32 ((crcSum (be 8 (xsk.getD k 0))) >>> s)) (by omega)) ?_
        refine WL.yld (by decide) (Yld.conv_u32_u8 some_33 und_5 rfl) ?_
        refine WL.eff (by decide) (Eff.buildSliceM U8 113 [_] sty_23 rfl rfl rfl rfl rfl (by decide)) ?_
        rintro _ _ ⟨g113, rfl, rfl⟩
        refine WL.eff (by decide) (Eff.appendM (f := U8) 102 sty_23 rfl rfl rfl (RdH.own (k := 113) rfl) (by omega)) ?_
        rintro _ _ ⟨A36, c36, rfl, rfl⟩
        refine WL.yld (by decide) (Yld.assign rfl) ?_
        refine WL.done (hK34 _ _ ?_)
        refine QK.blockN ?_
        refine QK.thenN (hK32 _ _ ?_)
        refine WC.region fun K37 hK37 => ?_
        refine WL.yld (by decide) (Yld.add rfl rfl (by omega)) ?_
        refine WL.yld (by decide) (Yld.move rfl) ?_
        refine WL.done (hK37 _ _ ?_)
        refine QK.thenN (hK28 (j + 1, _, _, _, _) _ _ ?_ ?_ (Sub.cons rfl (Sub.cons rfl (Sub.cons rfl (Sub.cons rfl (Sub.cons rfl (Sub.cons rfl (Sub.cons rfl (Sub.nil _)))))))) (Sub.cons rfl (Sub.cons rfl (Sub.nil _))))
        · exact ⟨by omega, by omega, by rw [le4_take_succ _ j (by omega), ← List.append_assoc, ← hb2]⟩
        · dsimp only; omega
      · replace hc31 := of_decide_eq_false hc31
        obtain rfl : j = 4 := by omega
        refine WC.exit (QK.thenE (QK.thenE (QK.blockX ?_)))
        refine QK.thenN (hK26 _ _ ?_)
        refine WC.region fun K38 hK38 => ?_
        refine WL.yld (by decide) (Yld.move rfl) ?_
        refine WL.yld (by decide) (Yld.move rfl) ?_
        refine WL.eff (by decide) (Eff.appendM (f := U8) 101 sty_23 rfl rfl rfl (RdH.own (k := 102) rfl) (by omega)) ?_
        rintro _ _ ⟨A39, c39, rfl, rfl⟩
        refine WL.yld (by decide) (Yld.assign rfl) ?_
        refine WL.done (hK38 _ _ ?_)
        refine QK.blockN ?_
        refine QK.thenN (hK9 _ _ ?_)
        refine WC.region fun K40 hK40 => ?_
        refine WL.yld (by decide) (Yld.add rfl rfl (by omega)) ?_
        refine WL.yld (by decide) (Yld.move rfl) ?_
        refine WL.done (hK40 _ _ ?_)
        refine QK.thenN (hK5 (k + 1, _, _, _, _) _ _ ?_ ?_ (Sub.cons rfl (Sub.cons rfl (Sub.cons rfl (Sub.cons rfl (Sub.nil _))))) (Sub.cons rfl (Sub.nil _)))
        · exact ⟨by omega, by omega, by rw [jenc_take_succ _ _ (by omega), ← hy, entry, hb2, List.take_of_length_le (by simp [le4])]⟩
        · dsimp only; omega
  · replace hc8 := of_decide_eq_false hc8
    obtain rfl : k = nk := by omega
    subst hm
    refine WC.exit (QK.thenE (QK.thenE (QK.blockX ?_)))
    refine QK.thenN (hK3 _ _ ?_)
    refine WC.seqRegion fun K41 hK41 => ?_
    refine WL.yld (by decide) (Yld.move rfl) ?_
    refine WL.yld (by decide) (Yld.assign rfl) ?_
    refine WL.done (hK41 _ _ ?_)
    refine WC.ret ?_
    exact Ret.fn [101] (ResIs.one rfl rfl) rfl (by decide) ⟨_, _, rfl, by rw [hy, List.take_of_length_le (by omega)]⟩

set_option maxRecDepth 10000 in
theorem j_Decode (w : World) {Ax : Option Addr} {nx cx : Nat} {xsx : List (BitVec 8)} (hx : SlR w 1 Ax nx cx (xsx.map U8)) (hn : nx ≤ 4096) :
    Fn Try.prog 22 #[.slice Ax nx cx] w fun r es => ∃ A c, r = .tuple #[.slice A (jd xsx).length c, I64 ((12 * (jd xsx).length : Nat) : Int)] ∧ es = [.own 63 1 A (jd xsx).length c ((jd xsx).map U64)] := by
  have hlx := hx.len1
  have hcmx := hx.cm
  have hlex := hx.le
  unfold maxLen at hcmx
  refine Fn.intro (N := 53) Try.func22 rfl rfl (Nat.le_of_ble_eq_true rfl) ?_
  refine WC.seqRegion fun K1 hK1 => ?_
  refine WL.yld (by decide) (Yld.assign rfl) ?_
  refine WL.yld (by decide) (Yld.assign rfl) ?_
  refine WL.done (hK1 _ _ ?_)
  refine WC.seq fun K2 hK2 => ?_
  refine WC.block ?_
  refine WC.nilOwn 101 63 1 rfl ?_
  refine WC.loop (σ := Option Addr × Nat × Nat × List (BitVec 8) × Nat × Nat × Option Addr × Nat × List (BitVec 64)) (fun ⟨B, nb, cb, zs, a, m, A, c, ks⟩ => [(0, .slice B nb cb), (2, .slice A m c), (3, I64 (a : Nat))]) (fun ⟨B, nb, cb, zs, a, m, A, c, ks⟩ => [(101, .own 63 1 A m c (ks.map U64))]) (fun ⟨B, nb, cb, zs, a, m, A, c, ks⟩ => SlR w 1 B nb cb (zs.map U8) ∧ zs = xsx.drop a ∧ nb = nx - a ∧ a = 12 * m ∧ m = ks.length ∧ a ≤ nx ∧ ks ++ jd (xsx.drop a) = jd xsx) (fun ⟨B, nb, cb, zs, a, m, A, c, ks⟩ => nb) (Ax, nx, cx, xsx, 0, 0, none, 0, []) ?_ (Sub.cons rfl (Sub.cons rfl (Sub.cons rfl (Sub.nil _)))) (Sub.cons rfl (Sub.nil _)) ?_
  · exact ⟨hx, rfl, rfl, rfl, rfl, by omega, rfl⟩
  rintro ⟨B, nb, cb, zs, a, m, A, c, ks⟩ ⟨hz, hzs, hnb, ha, hm, han, hj⟩ K3 hK3
  have hlz := hz.len1
  have hcmz := hz.cm
  have hlez := hz.le
  unfold maxLen at hcmz
  refine WC.seq fun K4 hK4 => ?_
  refine WC.seqRegion fun K5 hK5 => ?_
  refine WL.yld (by decide) (Yld.move rfl) ?_
  refine WL.yld (by decide) (Yld.len und_23 rfl) ?_
  refine WL.yld (by decide) (Yld.geq rfl rfl) ?_
  refine WL.done (hK5 _ _ ?_)
  refine WC.cond rfl (fun hc6 => ?_) (fun hc6 => ?_)
  · replace hc6 := of_decide_eq_true hc6
    refine WC.skip ?_
    refine QK.thenN (hK4 _ _ ?_)
    refine WC.seq fun K7 hK7 => ?_
    refine WC.block ?_
    refine WC.seqRegion fun K8 hK8 => ?_
    refine WL.yld (by decide) (Yld.assign (v := U64 0#64) rfl) ?_
    refine WL.yld (by decide) (Yld.assign (v := U32 0#32) rfl) ?_
    refine WL.done (hK8 _ _ ?_)
    refine WC.seq fun K9 hK9 => ?_
    refine WC.seqRegion fun K10 hK10 => ?_
    refine WL.yld (by decide) (Yld.move rfl) ?_
    refine WL.done (hK10 _ _ ?_)
    refine WC.block ?_
    refine WC.loop (σ := Nat × BitVec 64) (fun ⟨i, v⟩ => [(0, .slice B nb cb), (2, .slice A m c), (3, I64 (a : Nat)), (4, U64 v), (5, U32 0#32), (13, I64 (i : Nat))]) (fun ⟨i, v⟩ => [(101, .own 63 1 A m c (ks.map U64))]) (fun ⟨i, v⟩ => i ≤ 8 ∧ v = val (zs.take i)) (fun ⟨i, v⟩ => 8 - i) (0, 0#64) ?_ (Sub.cons rfl (Sub.cons rfl (Sub.cons rfl (Sub.cons rfl (Sub.cons rfl (Sub.cons rfl (Sub.nil _))))))) (Sub.cons rfl (Sub.nil _)) ?_
    · exact ⟨by omega, rfl⟩
    rintro ⟨i, v⟩ ⟨hi, hv⟩ K11 hK11
    refine WC.seqRegion fun K12 hK12 => ?_
    refine WL.yld (by decide) (Yld.lss rfl rfl) ?_
    refine WL.done (hK12 _ _ ?_)
    refine WC.seq fun K13 hK13 => ?_
    refine WC.cond rfl (fun hc14 => ?_) (fun hc14 => ?_)
    · replace hc14 := of_decide_eq_true hc14
      refine WC.skip ?_
      refine QK.thenN (hK13 _ _ ?_)
      refine WC.seq fun K15 hK15 => ?_
      refine WC.block ?_
      refine WC.seqRegion fun K16 hK16 => ?_
      refine WL.yld (by decide) (Yld.move rfl) ?_
      refine WL.yld (by decide) (Yld.assign rfl) ?_
      refine WL.done (hK16 _ _ ?_)
      refine WC.region fun K17 hK17 => ?_
      refine WL.yld (by decide) (Yld.move rfl) ?_
      refine WL.yld (by decide) (Yld.shl_u64 rfl rfl (by omega)) ?_
      refine WL.yld (by decide) (Yld.move rfl) ?_
      refine WL.yld (by decide) (Yld.move rfl) ?_
      refine WL.yld (by decide) (Yld.idxAddr1 sty_23 rfl rfl (RdH.old hz) (by omega)) ?_
      refine WL.yld (by decide) (Yld.loadR scal_5 rfl (RdH.old hz) (getElem?_map1 _ _ 0 (by omega))) ?_
      refine WL.yld (by decide) (Yld.conv_u8_u64 some_5 und_63 rfl) ?_
      refine WL.yld (by decide) (Yld.or_u64 rfl rfl) ?_
      refine WL.yld (by decide) (Yld.assign rfl) ?_
      refine WL.done (hK17 _ _ ?_)
      refine QK.blockN ?_
      refine QK.thenN (hK15 _ _ ?_)
      refine WC.region fun K18 hK18 => ?_
      refine WL.yld (by decide) (Yld.add rfl rfl (by omega)) ?_
      refine WL.yld (by decide) (Yld.move rfl) ?_
      refine WL.done (hK18 _ _ ?_)
      refine QK.thenN (hK11 (i + 1, _) _ _ ?_ ?_ (Sub.cons rfl (Sub.cons rfl (Sub.cons rfl (Sub.cons rfl (Sub.cons rfl (Sub.cons rfl (Sub.nil _))))))) (Sub.cons rfl (Sub.nil _)))
      · exact ⟨by omega, by rw [val_take_succ _ _ (by omega), ← hv]; rfl⟩
      · dsimp only; omega
    · replace hc14 := of_decide_eq_false hc14
      obtain rfl : i = 8 := by omega
      subst hv
      refine WC.exit (QK.thenE (QK.thenE (QK.blockX ?_)))
      refine QK.thenN (hK9 _ _ ?_)
      refine WC.seq fun K19 hK19 => ?_
      refine WC.seqRegion fun K20 hK20 => ?_
      refine WL.yld (by decide) (Yld.move rfl) ?_
      refine WL.done (hK20 _ _ ?_)
      refine WC.block ?_
      refine WC.loop (σ := Nat × BitVec 32) (fun ⟨j, s⟩ => [(0, .slice B nb cb), (2, .slice A m c), (3, I64 (a : Nat)), (4, U64 (val (zs.take 8))), (5, U32 s), (25, I64 (j : Nat))]) (fun ⟨j, s⟩ => [(101, .own 63 1 A m c (ks.map U64))]) (fun ⟨j, s⟩ => j ≤ 4 ∧ s = leTo (zs.drop 8) j) (fun ⟨j, s⟩ => 4 - j) (0, 0#32) ?_ (Sub.cons rfl (Sub.cons rfl (Sub.cons rfl (Sub.cons rfl (Sub.cons rfl (Sub.cons rfl (Sub.nil _))))))) (Sub.cons rfl (Sub.nil _)) ?_
      · exact ⟨by omega, rfl⟩
      rintro ⟨j, s⟩ ⟨hj4, hs⟩ K21 hK21
      refine WC.seqRegion fun K22 hK22 => ?_
      refine WL.yld (by decide) (Yld.lss rfl rfl) ?_
      refine WL.done (hK22 _ _ ?_)
      refine WC.seq fun K23 hK23 => ?_
      refine WC.cond rfl (fun hc24 => ?_) (fun hc24 => ?_)
      · replace hc24 := of_decide_eq_true hc24
        refine WC.skip ?_
        refine QK.thenN (hK23 _ _ ?_)
        refine WC.seq fun K25 hK25 => ?_
        refine WC.block ?_
        refine WC.seqRegion fun K26 hK26 => ?_
        refine WL.yld (by decide) (Yld.move rfl) ?_
        refine WL.yld (by decide) (Yld.assign rfl) ?_
        refine WL.done (hK26 _ _ ?_)
        refine WC.region fun K27 hK27 => ?_
        refine WL.yld (by decide) (Yld.move rfl) ?_
        refine WL.yld (by decide) (Yld.move rfl) ?_
        refine WL.yld (by decide) (Yld.move rfl) ?_
        refine WL.yld (by decide) (Yld.add rfl rfl (by omega)) ?_
        refine WL.new (v' := I64 ((8 + j : Nat) : Int)) (congrArg I64 (by omega)) ?_
        refine WL.yld (by decide) (Yld.idxAddr1 sty_23 rfl rfl (RdH.old hz) (by omega)) ?_
        refine WL.yld (by decide) (Yld.loadR scal_5 rfl (RdH.old hz) (getElem?_map1 _ _ 0 (by omega))) ?_
        refine WL.yld (by decide) (Yld.conv_u8_u32 some_5 und_33 rfl) ?_
        refine WL.yld (by decide) (Yld.move rfl) ?_
        refine WL.yld (by decide) (Yld.mul rfl rfl (by omega)) ?_
        refine WL.yld (by decide) (Yld.shl_u32 rfl rfl (by omega)) ?_
        refine WL.new (v' := U32 ((zs.getD (8 + j) 0).setWidth 32 <<< (8 * j))) (congrArg (fun s => U32 ((zs.getD (8 + j) 0).setWidth 32 <<< s)) (by omega)) ?_
        refine WL.yld (by decide) (Yld.or_u32 rfl rfl) ?_
        refine WL.yld (by decide) (Yld.assign rfl) ?_
        refine WL.done (hK27 _ _ ?_)
        refine QK.blockN ?_
        refine QK.thenN (hK25 _ _ ?_)
        refine WC.region fun K28 hK28 => ?_
        refine WL.yld (by decide) (Yld.add rfl rfl (by omega)) ?_
        refine WL.yld (by decide) (Yld.move rfl) ?_
        refine WL.done (hK28 _ _ ?_)
        refine QK.thenN (hK21 (j + 1, _) _ _ ?_ ?_ (Sub.cons rfl (Sub.cons rfl (Sub.cons rfl (Sub.cons rfl (Sub.cons rfl (Sub.cons rfl (Sub.nil _))))))) (Sub.cons rfl (Sub.nil _)))
        · exact ⟨by omega, by rw [leTo, getD_drop', ← hs]⟩
        · dsimp only; omega
      · replace hc24 := of_decide_eq_false hc24
        obtain rfl : j = 4 := by omega
        refine WC.exit (QK.thenE (QK.thenE (QK.blockX ?_)))
        refine QK.thenN (hK19 _ _ ?_)
        refine WC.seq fun K29 hK29 => ?_
        refine WC.seqRegion fun K30 hK30 => ?_
        refine WL.yld (by decide) (Yld.move rfl) ?_
        refine WL.yld (by decide) (Yld.move rfl) ?_
        refine WL.yld (by decide) (Yld.sliceH sty_23 rfl rfl (by omega)) ?_
        refine WL.eff (by decide) (Eff.call 102 rfl Try.func35 nm_35 rfl rfl rfl (fun w hb hh => crc_Sum w ((RdH.take1 (RdH.old hz) (by omega)) w hb hh))) ?_
        rintro _ _ ⟨_, ⟨rfl, rfl⟩, rfl⟩
        refine WL.new (v' := U32 (crcSum (zs.take 8))) rfl ?_
        refine WL.yld (by decide) (Yld.neq_u32 rfl rfl) ?_
        refine WL.done (hK30 _ _ ?_)
        refine WC.cond rfl (fun hc32 => ?_) (fun hc32 => ?_)
        · replace hc32 := bne_iff_ne.1 hc32
          have hno : ¬ jok (xsx.drop a) = true := by
            rw [← hzs]; exact jok_not (by rintro ⟨h1, h2⟩; exact hc32 (by rw [hs]; exact (leTo_iff _ _ (by simp; omega)).2 h2))
          refine WC.exit (QK.thenE (QK.blockO rfl (QK.thenE (QK.thenE (QK.blockX ?_)))))
          refine QK.thenN (hK2 _ _ ?_)
          refine WC.seqRegion fun K33 hK33 => ?_
          refine WL.yld (by decide) (Yld.move rfl) ?_
          refine WL.yld (by decide) (Yld.move rfl) ?_
          refine WL.yld (by decide) (Yld.assign rfl) ?_
          refine WL.yld (by decide) (Yld.assign rfl) ?_
          refine WL.done (hK33 _ _ ?_)
          refine WC.ret ?_
          rw [jd_no hno, List.append_nil] at hj
          subst ha
          subst hm
          subst hj
          exact Ret.fn [101] (ResIs.two rfl rfl rfl) rfl (by decide) ⟨_, _, rfl, rfl⟩
        · replace hc32 := bne_eq_false_iff_eq.1 hc32
          have hok : jok zs = true := jok_of (by omega) ((leTo_iff _ _ (by simp; omega)).1 (by rw [← hs]; exact hc32))
          refine WC.skip ?_
          refine QK.thenN (hK29 _ _ ?_)
          refine WC.seqRegion fun K34 hK34 => ?_
          refine WL.yld (by decide) (Yld.move rfl) ?_
          refine WL.yld (by decide) (Yld.move rfl) ?_
          refine WL.eff (by decide) (Eff.buildSliceM U64 111 [_] sty_22 rfl rfl rfl rfl rfl (by decide)) ?_
          rintro _ _ ⟨g111, rfl, rfl⟩
          refine WL.eff (by decide) (Eff.appendM (f := U64) 101 sty_22 rfl rfl rfl (RdH.own (k := 111) rfl) (by omega)) ?_
          rintro _ _ ⟨A36, c36, rfl, rfl⟩
          refine WL.yld (by decide) (Yld.assign rfl) ?_
          refine WL.done (hK34 _ _ ?_)
          refine WC.region fun K37 hK37 => ?_
          refine WL.yld (by decide) (Yld.move rfl) ?_
          refine WL.yld (by decide) (Yld.add rfl rfl (by omega)) ?_
          refine WL.yld (by decide) (Yld.assign rfl) ?_
          refine WL.done (hK37 _ _ ?_)
          refine QK.blockN ?_
          refine QK.thenN (hK7 _ _ ?_)
          refine WC.region fun K38 hK38 => ?_
          refine WL.yld (by decide) (Yld.move rfl) ?_
          refine WL.yld (by decide) (Yld.sliceL sty_23 rfl rfl (by omega)) ?_
          refine WL.yld (by decide) (Yld.assign rfl) ?_
          refine WL.done (hK38 _ _ ?_)
          refine QK.thenN (hK3 (_, _, _, zs.drop 12, a + 12, _, _, _, _) _ _ ?_ ?_ (Sub.cons rfl (Sub.cons rfl (Sub.cons rfl (Sub.nil _)))) (Sub.cons rfl (Sub.nil _)))
          · exact ⟨hz.drop1 (by omega), by rw [hzs, List.drop_drop], by omega, by omega, by simp [hm], by omega, by rw [← hj, ← hzs, jd_ok hok, List.append_assoc, hzs, List.drop_drop]; rfl⟩
          · show nb - 12 < nb; omega
  · replace hc6 := of_decide_eq_false hc6
    have hno : ¬ jok (xsx.drop a) = true := by
      rw [← hzs]; exact jok_not (by rintro ⟨h1, h2⟩; omega)
    refine WC.exit (QK.thenE (QK.thenE (QK.blockX ?_)))
    refine QK.thenN (hK2 _ _ ?_)
    refine WC.seqRegion fun K39 hK39 => ?_
    refine WL.yld (by decide) (Yld.move rfl) ?_
    refine WL.yld (by decide) (Yld.move rfl) ?_
    refine WL.yld (by decide) (Yld.assign rfl) ?_
    refine WL.yld (by decide) (Yld.assign rfl) ?_
    refine WL.done (hK39 _ _ ?_)
    refine WC.ret ?_
    rw [jd_no hno, List.append_nil] at hj
    subst ha
    subst hm
    subst hj
    exact Ret.fn [101] (ResIs.two rfl rfl rfl) rfl (by decide) ⟨_, _, rfl, rfl⟩

end Go.Proofs.Ytibopglhgbbmpaa
