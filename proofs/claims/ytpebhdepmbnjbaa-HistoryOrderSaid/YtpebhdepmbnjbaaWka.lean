/-
 Walks (a): what a function's model gives, the function returns. Printed by a program of ours (vcm.py) from the function's operations. Conditions: as each theorem says.
-/
import Derived.Test.YtpebhdepmbnjbaaZ2
import Derived.Test.YtpebhdepmbnjbaaProg
import Derived.Test.YtpebhdepmbnjbaaMda
namespace Go.Proofs.Ytpebhdepmbnjbaa
open Go Go.RowKit
set_option linter.unusedVariables false

theorem und_27 : Try.prog.underlying 27 = some (.slice 42) := by kernel_rfl
theorem und_31 : Try.prog.underlying 31 = some (.slice 45) := by kernel_rfl
theorem und_40 : Try.prog.underlying 40 = some (.slice 5) := by kernel_rfl
theorem und_52 : Try.prog.underlying 52 = some (.pointer 42) := by kernel_rfl
theorem agg_42 : Agg Try.prog 42 10 := ⟨⟨_, Try.underlying42, rfl⟩, by kernel_rfl⟩
theorem agg_45 : Agg Try.prog 45 7 := ⟨⟨_, Try.underlying45, rfl⟩, by kernel_rfl⟩
theorem bu_42_0_1_2_3_6_7_8 : ∀ (a0 : Int) (a1 : Int) (a2 : BitVec 64) (a3 : BitVec 32) (a6 : Int) (a7 : Int) (a8 : Int), Try.prog.built 42 [(0, I64 a0), (1, I64 a1), (2, U64 a2), (3, U32 a3), (6, I64 a6), (7, I64 a7), (8, I64 a8)] = some ([I64 a0, I64 a1, U64 a2, U32 a3, .slice none 0 0, .slice none 0 0, I64 a6, I64 a7, I64 a8, I64 (0 : Int)] : List Value).toArray := fun a0 a1 a2 a3 a6 a7 a8 => by kernel_rfl
theorem mixed : Try.prog.follows .mixedOrders = true := by kernel_rfl
theorem nm_19 : (Try.f19.name == "runtime.NumGoroutine") = false := by kernel_rfl
theorem nm_20 : (Try.f20.name == "runtime.NumGoroutine") = false := by kernel_rfl
theorem nm_21 : (Try.f21.name == "runtime.NumGoroutine") = false := by kernel_rfl
theorem nm_22 : (Try.f22.name == "runtime.NumGoroutine") = false := by kernel_rfl
theorem nm_30 : (Try.f30.name == "runtime.NumGoroutine") = false := by kernel_rfl
theorem nm_34 : (Try.f34.name == "runtime.NumGoroutine") = false := by kernel_rfl
theorem nz_28 : (Try.prog.info? 28).map (fun i => decide (i.size = 0)) = some false := by kernel_rfl
theorem nz_3 : (Try.prog.info? 3).map (fun i => decide (i.size = 0)) = some false := by kernel_rfl
theorem nz_38 : (Try.prog.info? 38).map (fun i => decide (i.size = 0)) = some false := by kernel_rfl
theorem nz_39 : (Try.prog.info? 39).map (fun i => decide (i.size = 0)) = some false := by kernel_rfl
theorem nz_40 : (Try.prog.info? 40).map (fun i => decide (i.size = 0)) = some false := by kernel_rfl
theorem scal_27 : scal Try.prog 27 = true := by kernel_rfl
theorem scal_28 : scal Try.prog 28 = true := by kernel_rfl
theorem scal_3 : scal Try.prog 3 = true := by kernel_rfl
theorem scal_38 : scal Try.prog 38 = true := by kernel_rfl
theorem scal_39 : scal Try.prog 39 = true := by kernel_rfl
theorem scal_40 : scal Try.prog 40 = true := by kernel_rfl
theorem scal_52 : scal Try.prog 52 = true := by kernel_rfl
theorem siz_28 : (Try.prog.info? 28).map (·.size) = some 1 := by kernel_rfl
theorem siz_3 : (Try.prog.info? 3).map (·.size) = some 1 := by kernel_rfl
theorem siz_40 : (Try.prog.info? 40).map (·.size) = some 1 := by kernel_rfl
theorem siz_52 : (Try.prog.info? 52).map (·.size) = some 1 := by kernel_rfl
theorem sty_27 : STy Try.prog 27 42 (.agg #[(I64 0), (I64 0), (U64 0#64), (U32 0#32), (.slice none 0 0), (.slice none 0 0), (I64 0), (I64 0), (I64 0), (I64 0)]) 10 112 := STy.of und_27 (by kernel_rfl) rfl
theorem sty_31 : STy Try.prog 31 45 (.agg #[(I64 0), (I64 0), (I64 0), (U64 0#64), (U32 0#32), (.slice none 0 0), (I64 0)]) 7 72 := STy.of und_31 (by kernel_rfl) rfl
theorem sty_40 : STy Try.prog 40 5 (U8 0#8) 1 1 := STy.of und_40 (by kernel_rfl) rfl
theorem zr_42 : (Try.prog.info? 42).map (fun i => i.zero.map (·.cells)) = some (some ([I64 (0 : Int), I64 (0 : Int), U64 0#64, U32 0#32, .slice none 0 0, .slice none 0 0, I64 (0 : Int), I64 (0 : Int), I64 (0 : Int), I64 (0 : Int)] : List Value).toArray) := by kernel_rfl
theorem zr_45 : (Try.prog.info? 45).map (fun i => i.zero.map (·.cells)) = some (some ([I64 (0 : Int), I64 (0 : Int), I64 (0 : Int), U64 0#64, U32 0#32, .slice none 0 0, I64 (0 : Int)] : List Value).toArray) := by kernel_rfl
theorem zr_52 : (Try.prog.info? 52).map (fun i => i.zero.map (·.cells)) = some (some ([.pointer none] : List Value).toArray) := by kernel_rfl

structure Rhistory_Op where
 x : Shistory_Op
 h0 : Hdr
 h1 : Hdr
instance : Lay Rhistory_Op := ⟨10, fun r => [I64 r.x.fClient, I64 r.x.fKind, U64 r.x.fKey, U32 r.x.fCookie, .slice r.h0.A r.h0.n r.h0.c, .slice r.h1.A r.h1.n r.h1.c, I64 r.x.fCall, I64 r.x.fReturn, I64 r.x.fClosed, I64 r.x.fResult], fun _ => rfl, fun _ u h => by simp only [List.mem_cons, List.not_mem_nil, or_false] at h; rcases h with rfl | rfl | rfl | rfl | rfl | rfl | rfl | rfl | rfl | rfl <;> rfl, by decide⟩
def rel_history_Op (M : Mem) (r : Rhistory_Op) (x : Shistory_Op) : Prop := x = r.x ∧ (RelB (α := BitVec 8)) M r.h0 x.fData ∧ (RelB (α := BitVec 8)) M r.h1 x.fGot
instance : Mono rel_history_Op := ⟨fun ⟨h0, h1, h2⟩ hm => ⟨h0, Mono.mono h1 hm, Mono.mono h2 hm⟩⟩
structure Rhistory_Event where
 x : Shistory_Event
 h0 : Hdr
instance : Lay Rhistory_Event := ⟨7, fun r => [I64 r.x.fKind, I64 r.x.fClient, I64 r.x.fOp, U64 r.x.fKey, U32 r.x.fCookie, .slice r.h0.A r.h0.n r.h0.c, I64 r.x.fResult], fun _ => rfl, fun _ u h => by simp only [List.mem_cons, List.not_mem_nil, or_false] at h; rcases h with rfl | rfl | rfl | rfl | rfl | rfl | rfl <;> rfl, by decide⟩
def rel_history_Event (M : Mem) (r : Rhistory_Event) (x : Shistory_Event) : Prop := x = r.x ∧ (RelB (α := BitVec 8)) M r.h0 x.fData
instance : Mono rel_history_Event := ⟨fun ⟨h0, h1⟩ hm => ⟨h0, Mono.mono h1 hm⟩⟩

set_option maxRecDepth 10000 in
theorem w_history_Op_open (M0 : Mem) (x00_0 : Int) (x00_1 : Int) (x00_2 : BitVec 64) (x00_3 : BitVec 32) (A00_4 : Option Addr) (n00_4 c00_4 : Nat) (x00_4 : List (BitVec 8)) (hf00_4 : SlT M0 A00_4 n00_4 c00_4 x00_4) (A00_5 : Option Addr) (n00_5 c00_5 : Nat) (x00_5 : List (BitVec 8)) (hf00_5 : SlT M0 A00_5 n00_5 c00_5 x00_5) (x00_6 : Int) (x00_7 : Int) (x00_8 : Int) (x00_9 : Int) {res : Bool} (h : m_history_Op_open x00_0 x00_1 x00_2 x00_3 x00_4 x00_5 x00_6 x00_7 x00_8 x00_9 = some res) :
  Fn Try.prog 22 #[.agg ([I64 x00_0, I64 x00_1, U64 x00_2, U32 x00_3, .slice A00_4 n00_4 c00_4, .slice A00_5 n00_5 c00_5, I64 x00_6, I64 x00_7, I64 x00_8, I64 x00_9] : List Value).toArray] M0 fun r M' es => r = .bool res ∧ es = [] := by
 refine Fn.intro (N := 11) Try.func22 rfl rfl (Nat.le_of_ble_eq_true rfl) fun w0 => ?_
 unfold m_history_Op_open at h
 refine WC.seqRegion fun K1 hK1 => ?_
 refine WL.eff (by decide) (Eff.box 102 (us := [I64 x00_0, I64 x00_1, U64 x00_2, U32 x00_3, .slice A00_4 n00_4 c00_4, .slice A00_5 n00_5 c00_5, I64 x00_6, I64 x00_7, I64 x00_8, I64 x00_9]) rfl rfl rfl) ?_
 rintro _ _ ⟨g2, rfl, rfl⟩
 refine WL.yld (by decide) (Yld.assign rfl) ?_
 refine WL.done (hK1 _ _ ?_)
 refine WC.seqRegion fun K3 hK3 => ?_
 by_cases hc4 : x00_7 = (-1 : Int)
 ·
  replace h := of_t hc4 h
  refine WL.yld (by decide) (Yld.fieldAddr Try.underlying42 rfl nz_3 rfl rfl) ?_
  refine WL.yld (by decide) (Yld.loadB (k := 102) scal_3 rfl rfl rfl) ?_
  refine WL.yld (by decide) (Yld.eqlI rfl rfl) ?_
  refine WL.yld (by decide) (Yld.move rfl) ?_
  refine WL.new (v' := .bool true) (congrArg Value.bool (beq_iff_eq.2 hc4)) ?_
  refine WL.yldG (by decide) rfl (Yld.fieldAddr Try.underlying42 rfl nz_3 rfl rfl) ?_
  refine WL.yldG (by decide) rfl (Yld.loadB (k := 102) scal_3 rfl rfl rfl) ?_
  refine WL.yldG (by decide) rfl (Yld.eqlI rfl rfl) ?_
  refine WL.yld (by decide) (Yld.pickT rfl rfl) ?_
  refine WL.yld (by decide) (Yld.assign rfl) ?_
  refine WL.done (hK3 _ _ ?_)
  refine WC.ret ?_
  injection h with h; subst h
  exact Ret.fn [] (ResIs.one rfl rfl) rfl (Ext.refl _ _) rfl (by decide) rfl rfl ⟨rfl, rfl⟩
 ·
  replace h := of_f hc4 h
  refine WL.yld (by decide) (Yld.fieldAddr Try.underlying42 rfl nz_3 rfl rfl) ?_
  refine WL.yld (by decide) (Yld.loadB (k := 102) scal_3 rfl rfl rfl) ?_
  refine WL.yld (by decide) (Yld.eqlI rfl rfl) ?_
  refine WL.yld (by decide) (Yld.move rfl) ?_
  refine WL.new (v' := .bool false) (congrArg Value.bool (beq_eq_false_iff_ne.2 hc4)) ?_
  refine WL.skip (by decide) rfl rfl ?_
  refine WL.skip (by decide) rfl rfl ?_
  refine WL.skip (by decide) rfl rfl ?_
  refine WL.yld (by decide) (Yld.pickF rfl rfl) ?_
  refine WL.yld (by decide) (Yld.assign rfl) ?_
  refine WL.done (hK3 _ _ ?_)
  refine WC.ret ?_
  injection h with h; subst h
  exact Ret.fn [] (ResIs.one rfl rfl) rfl (Ext.refl _ _) rfl (by decide) rfl rfl ⟨rfl, rfl⟩

namespace Z
set_option maxRecDepth 10000 in
theorem _root_.Go.Proofs.Ytpebhdepmbnjbaa.w_history_last (M0 : Mem) (A00 : Option Addr) (n00 c00 : Nat) (rs00 : List Rhistory_Op) (x00 : List (Shistory_Op)) (hf00 : SlT M0 A00 n00 c00 rs00) (hq00 : Rels (rel_history_Op M0) rs00 x00) (x01 : Int) {res : Int} (h : m_history_last x00 x01 = some res) :
  Fn Try.prog 19 #[.slice A00 n00 c00, I64 x01] M0 fun r M' es => r = .pointer (optp A00 res (Lay.sz Rhistory_Op)) ∧ es = [] := by
 refine Fn.intro (N := 27) Try.func19 rfl rfl (Nat.le_of_ble_eq_true rfl) fun w0 => ?_
 unfold m_history_last at h
 refine WC.seqRegion fun K1 hK1 => ?_
 refine WL.eff (by decide) (Eff.box 102 (us := [.slice A00 n00 c00]) rfl rfl rfl) ?_
 rintro _ _ ⟨g2, rfl, rfl⟩
 refine WL.eff (by decide) (Eff.box 103 (us := [I64 x01]) rfl rfl rfl) ?_
 rintro _ _ ⟨g3, rfl, rfl⟩
 refine WL.eff (by decide) (Eff.alloc 104 rfl zr_52) ?_
 rintro _ _ ⟨g4, rfl, rfl⟩
 refine WL.done (hK1 _ _ ?_)
 refine WC.seq fun K5 hK5 => ?_
 refine WC.seqRegion fun K6 hK6 => ?_
 refine WL.yld (by decide) (Yld.loadB (k := 102) scal_27 rfl rfl rfl) ?_
 refine WL.inl (by decide) Try.func30 nm_30 rfl rfl (Tri.intro (N := 4) Try.func30 rfl rfl (Nat.le_of_ble_eq_true rfl) ?_)
 refine WC.seqRegion fun K7 hK7 => ?_
 refine WL.eff (by decide) (Eff.box 108 (us := [.slice A00 n00 c00]) rfl rfl rfl) ?_
 rintro _ _ ⟨g8, rfl, rfl⟩
 refine WL.yld (by decide) (Yld.assign rfl) ?_
 refine WL.done (hK7 _ _ ?_)
 refine WC.seqRegion fun K9 hK9 => ?_
 refine WL.yld (by decide) (Yld.makeFunc rfl rfl) ?_
 refine WL.yld (by decide) (Yld.assign rfl) ?_
 refine WL.done (hK9 _ _ ?_)
 refine WC.ret ?_
 refine Ret.go (ResIs.one rfl rfl) ?_
 refine WL.done (hK6 _ _ ?_)
 refine WC.block ?_
 refine WC.rangeFunc 98 97 rfl Try.func34 nm_34 rfl rfl rfl rfl fun D10 l11 rc12 hrc13 => ?_
 refine Tri.intro (N := 19) Try.func34 rfl rfl (Nat.le_of_ble_eq_true rfl) ?_
 refine WC.seqRegion fun K14 hK14 => ?_
 obtain ⟨x15, hx15, h⟩ := bnd h
 refine WL.yld (by decide) (Yld.loadB (k := 108) scal_27 rfl rfl rfl) ?_
 refine WL.yld (by decide) (Yld.lenD (rs := rs00) (xs := x00) (Rels.len hq00) und_27 rfl (RdH.memM (k := 0) rfl hf00)) ?_
 refine WL.yld (by decide) (Yld.subC rfl rfl hx15) ?_
 refine WL.yld (by decide) (Yld.assign rfl) ?_
 refine WL.done (hK14 _ _ ?_)
 refine WC.block ?_
 refine WC.loop (σ := Nat × Int) (fun ⟨q17, x16⟩ => [(0, .func (.yield l11) #[] #[]), (1, .pointer (some ⟨g8, 0, none⟩)), (3, I64 x16)]) (fun ⟨q17, x16⟩ => [(0, .mem M0), (97, .obj l11 (.loop (Rc .ready none rc12))), (98, .obj D10 (.deferred (some []))), (102, .blk g2 27 [.slice A00 n00 c00]), (103, .blk g3 3 [I64 x01]), (104, .blk g4 52 [.pointer none]), (108, .blk g8 27 [.slice A00 n00 c00])]) (fun ⟨q17, x16⟩ => m_history_last_l0 x00 x01 q17 x16 = some res) (fun ⟨q17, x16⟩ => q17) ⟨forever, x15⟩ ?_ (Sub.cons rfl (Sub.cons rfl (Sub.cons rfl (Sub.nil _)))) (Sub.cons rfl (Sub.cons rfl (Sub.cons rfl (Sub.cons rfl (Sub.cons rfl (Sub.cons rfl (Sub.cons rfl (Sub.nil _)))))))) ?_
 ·
  exact h
 rintro ⟨q17, x16⟩ h K18 hK18
 cases q17 with
 | zero => exact absurd h (by simp [m_history_last_l0])
 | succ q17 =>
  unfold m_history_last_l0 at h
  refine WC.seq fun K19 hK19 => ?_
  refine WC.seqRegion fun K20 hK20 => ?_
  refine WL.yld (by decide) (Yld.move rfl) ?_
  refine WL.yld (by decide) (Yld.geq rfl rfl) ?_
  refine WL.done (hK20 _ _ ?_)
  by_cases hc21 : (0 : Int) ≤ x16
  ·
   replace h := of_t hc21 h
   refine WC.condTe rfl (decide_eq_true hc21) ?_
   refine WC.skip ?_
   refine QK.thenN (hK19 _ _ ?_)
   refine WC.seq fun K22 hK22 => ?_
   refine WC.block ?_
   refine WC.seqRegion fun K23 hK23 => ?_
   obtain ⟨x24, hx24, h⟩ := bnd h
   refine WL.yld (by decide) (Yld.move rfl) ?_
   refine WL.yld (by decide) (Yld.move rfl) ?_
   refine WL.yld (by decide) (Yld.loadB (k := 108) scal_27 rfl rfl rfl) ?_
   refine WL.yld (by decide) (Yld.move rfl) ?_
   obtain ⟨⟨_, r_25_0, r_25_1⟩, hr26, rfl, hq27_0, hq27_1⟩ := Rels.idx hq00 hx24
   refine WL.yld (by decide) (Yld.idxC (xs := rs00) sty_27 rfl rfl (RdH.memM (k := 0) rfl hf00) hr26) ?_
   refine WL.yld (by decide) (Yld.loadA (xs := rs00) agg_42 rfl (RdH.memM (k := 0) rfl hf00) hr26 rfl) ?_
   refine WL.round 97 (by decide) rfl rfl rfl hrc13 rfl rfl fun RQ28 hN29 hR30 hX31 KA32 hKA33 => ?_
   refine WC.region fun K34 hK34 => ?_
   refine WL.yld (by decide) (Yld.assign rfl) ?_
   refine WL.done (hK34 _ _ ?_)
   refine QK.thenN (hKA33 _ _ rfl ?_)
   refine WC.block ?_
   refine WC.seqRegionD (n := 14) [(0, _), (97, _), (98, _), (102, _), (103, _), (104, _), (108, _)] rfl mixed (Sub.cons rfl (Sub.cons rfl (Sub.cons rfl (Sub.cons rfl (Sub.cons rfl (Sub.cons rfl (Sub.cons rfl (Sub.nil _)))))))) fun K35 hK35 => ?_
   obtain ⟨x36, hx36, h⟩ := bnd h
   by_cases hc40 : x36.fClient = x01
   ·
    replace h := of_t hc40 h
    obtain ⟨x41, hx41, h⟩ := bnd h
    obtain ⟨x45, hx45, h⟩ := bnd h
    refine WD.take 0 rfl (by kernel_rfl) (by kernel_rfl) (by kernel_rfl) (by decide) (Yld.loadB (k := 102) scal_27 rfl rfl rfl) ?_
    refine WD.take 1 rfl (by kernel_rfl) (by kernel_rfl) (by kernel_rfl) (by decide) (Yld.move rfl) ?_
    obtain ⟨⟨_, r_37_0, r_37_1⟩, hr38, rfl, hq39_0, hq39_1⟩ := Rels.idx hq00 hx36
    refine WD.take 2 rfl (by kernel_rfl) (by kernel_rfl) (by kernel_rfl) (by decide) (Yld.idxC (xs := rs00) sty_27 rfl rfl (RdH.memM (k := 0) rfl hf00) hr38) ?_
    refine WD.take 3 rfl (by kernel_rfl) (by kernel_rfl) (by kernel_rfl) (by decide) (Yld.fieldAddrC Try.underlying42 rfl nz_3 rfl rfl) ?_
    refine WD.take 4 rfl (by kernel_rfl) (by kernel_rfl) (by kernel_rfl) (by decide) (Yld.loadC (xs := rs00) (j := 0) scal_3 rfl (RdH.memM (k := 0) rfl hf00) hr38 rfl rfl) ?_
    refine WD.take 5 rfl (by kernel_rfl) (by kernel_rfl) (by kernel_rfl) (by decide) (Yld.loadB (k := 103) scal_3 rfl rfl rfl) ?_
    refine WD.take 6 rfl (by kernel_rfl) (by kernel_rfl) (by kernel_rfl) (by decide) (Yld.eqlI rfl rfl) ?_
    refine WD.take 7 rfl (by kernel_rfl) (by kernel_rfl) (by kernel_rfl) (by decide) (Yld.move rfl) ?_
    refine WD.new (v' := .bool true) (congrArg Value.bool (beq_iff_eq.2 hc40)) ?_
    refine WD.takeG 8 rfl (by kernel_rfl) (by kernel_rfl) (by kernel_rfl) (by decide) rfl (Yld.loadB (k := 102) scal_27 rfl rfl rfl) ?_
    refine WD.takeG 9 rfl (by kernel_rfl) (by kernel_rfl) (by kernel_rfl) (by decide) rfl (Yld.move rfl) ?_
    obtain ⟨⟨_, r_42_0, r_42_1⟩, hr43, rfl, hq44_0, hq44_1⟩ := Rels.idx hq00 hx41
    refine WD.takeG 10 rfl (by kernel_rfl) (by kernel_rfl) (by kernel_rfl) (by decide) rfl (Yld.idxC (xs := rs00) sty_27 rfl rfl (RdH.memM (k := 0) rfl hf00) hr43) ?_
    refine WD.takeG 11 rfl (by kernel_rfl) (by kernel_rfl) (by kernel_rfl) (by decide) rfl (Yld.loadA (xs := rs00) agg_42 rfl (RdH.memM (k := 0) rfl hf00) hr43 rfl) ?_
    refine WD.one 12 (by kernel_rfl) ?_
    refine WS.effG rfl (by decide) rfl (Eff.callS 146 rfl Try.func22 nm_22 rfl rfl (fun w hb hh => w_history_Op_open (Mem.snap w) x41.fClient x41.fKind x41.fKey x41.fCookie r_42_0.A r_42_0.n r_42_0.c _ (RdH.sn (RdH.memM (k := 0) rfl hq44_0) w hb hh) r_42_1.A r_42_1.n r_42_1.c _ (RdH.sn (RdH.memM (k := 0) rfl hq44_1) w hb hh) x41.fCall x41.fReturn x41.fClosed x41.fResult hx45)) ?_
    rintro _ _ ⟨_, ⟨rfl, rfl⟩, rfl⟩
    refine ⟨(Sub.cons rfl (Sub.cons rfl (Sub.cons rfl (Sub.cons rfl (Sub.cons rfl (Sub.cons rfl (Sub.cons rfl (Sub.nil _)))))))), ?_⟩
    refine WD.take 13 rfl (by kernel_rfl) (by kernel_rfl) (by kernel_rfl) (by decide) (Yld.pickT rfl rfl) ?_
    refine WD.done (by kernel_rfl) (hK35 _ _ ?_)
    by_cases hc47 : x45 = true
    ·
     replace h := of_t hc47 h
     refine WC.condTe rfl hc47 ?_
     refine WC.seqRegion fun K48 hK48 => ?_
     obtain ⟨x49, hx49, h⟩ := bnd h
     refine WL.yld (by decide) (Yld.loadB (k := 102) scal_27 rfl rfl rfl) ?_
     refine WL.yld (by decide) (Yld.move rfl) ?_
     obtain ⟨⟨_, r_50_0, r_50_1⟩, hr51, rfl, hq52_0, hq52_1⟩ := Rels.idx hq00 hx49
     refine WL.yld (by decide) (Yld.idxC (xs := rs00) sty_27 rfl rfl (RdH.memM (k := 0) rfl hf00) hr51) ?_
     refine WL.eff0 (Eff0.storeB 104 siz_52 rfl rfl rfl rfl (Nat.le_of_ble_eq_true rfl)) ?_
     refine WL.done (hK48 _ _ ?_)
     refine WC.ret (QK.blockR ?_)
     refine hR30 _ _ rfl ?_
     refine WL.yld (by decide) (Yld.notB rfl) ?_
     refine WL.done (hK23 _ _ ?_)
     refine WC.condT rfl ?_
     refine WC.ret (QK.blockR (QK.thenR (QK.thenR (QK.blockR ?_))))
     refine Ret.go (ResIs.zero rfl) ?_
     refine After.ret 97 rfl ?_
     refine (QK.blockR (QK.thenR ?_))
     refine QK.unmark 98 rfl ?_
     injection h with h; subst h
     exact Ret.fn [] (ResIs.cellS (k := 104) rfl scal_52 rfl rfl rfl) rfl (Ext.refl _ _) rfl (by decide) rfl rfl ⟨(optp_some (idx_some hx49).1), rfl⟩
    ·
     replace h := of_f hc47 h
     refine WC.condFe rfl (Bool.eq_false_iff.2 hc47) ?_
     refine WC.skip ?_
     refine QK.blockN ?_
     refine hN29 _ _ rfl ?_
     refine WL.yld (by decide) (Yld.notB rfl) ?_
     refine WL.done (hK23 _ _ ?_)
     refine WC.condF rfl ?_
     refine WC.skip ?_
     refine QK.blockN ?_
     refine QK.thenN (hK22 _ _ ?_)
     refine WC.region fun K53 hK53 => ?_
     obtain ⟨x54, hx54, h⟩ := bnd h
     refine WL.yld (by decide) (Yld.move rfl) ?_
     refine WL.yld (by decide) (Yld.subC rfl rfl hx54) ?_
     refine WL.yld (by decide) (Yld.assign rfl) ?_
     refine WL.done (hK53 _ _ ?_)
     refine QK.thenN ?_
     refine hK18 ⟨q17, x54⟩ _ _ ?_ (Nat.lt_succ_self _) (Sub.cons rfl (Sub.cons rfl (Sub.cons rfl (Sub.nil _)))) (Sub.cons rfl (Sub.cons rfl (Sub.cons rfl (Sub.cons rfl (Sub.cons rfl (Sub.cons rfl (Sub.cons rfl (Sub.nil _))))))))
     exact h
   ·
    replace h := of_f hc40 h
    refine WD.take 0 rfl (by kernel_rfl) (by kernel_rfl) (by kernel_rfl) (by decide) (Yld.loadB (k := 102) scal_27 rfl rfl rfl) ?_
    refine WD.take 1 rfl (by kernel_rfl) (by kernel_rfl) (by kernel_rfl) (by decide) (Yld.move rfl) ?_
    obtain ⟨⟨_, r_37_0, r_37_1⟩, hr38, rfl, hq39_0, hq39_1⟩ := Rels.idx hq00 hx36
    refine WD.take 2 rfl (by kernel_rfl) (by kernel_rfl) (by kernel_rfl) (by decide) (Yld.idxC (xs := rs00) sty_27 rfl rfl (RdH.memM (k := 0) rfl hf00) hr38) ?_
    refine WD.take 3 rfl (by kernel_rfl) (by kernel_rfl) (by kernel_rfl) (by decide) (Yld.fieldAddrC Try.underlying42 rfl nz_3 rfl rfl) ?_
    refine WD.take 4 rfl (by kernel_rfl) (by kernel_rfl) (by kernel_rfl) (by decide) (Yld.loadC (xs := rs00) (j := 0) scal_3 rfl (RdH.memM (k := 0) rfl hf00) hr38 rfl rfl) ?_
    refine WD.take 5 rfl (by kernel_rfl) (by kernel_rfl) (by kernel_rfl) (by decide) (Yld.loadB (k := 103) scal_3 rfl rfl rfl) ?_
    refine WD.take 6 rfl (by kernel_rfl) (by kernel_rfl) (by kernel_rfl) (by decide) (Yld.eqlI rfl rfl) ?_
    refine WD.take 7 rfl (by kernel_rfl) (by kernel_rfl) (by kernel_rfl) (by decide) (Yld.move rfl) ?_
    refine WD.new (v' := .bool false) (congrArg Value.bool (beq_eq_false_iff_ne.2 hc40)) ?_
    refine WD.takeS 8 rfl (by kernel_rfl) (by kernel_rfl) (by kernel_rfl) (by decide) rfl rfl ?_
    refine WD.takeS 9 rfl (by kernel_rfl) (by kernel_rfl) (by kernel_rfl) (by decide) rfl rfl ?_
    refine WD.takeS 10 rfl (by kernel_rfl) (by kernel_rfl) (by kernel_rfl) (by decide) rfl rfl ?_
    refine WD.takeS 11 rfl (by kernel_rfl) (by kernel_rfl) (by kernel_rfl) (by decide) rfl rfl ?_
    refine WD.takeS 12 rfl (by kernel_rfl) (by kernel_rfl) (by kernel_rfl) (by decide) rfl rfl ?_
    refine WD.take 13 rfl (by kernel_rfl) (by kernel_rfl) (by kernel_rfl) (by decide) (Yld.pickF rfl rfl) ?_
    refine WD.done (by kernel_rfl) (hK35 _ _ ?_)
    refine WC.condF rfl ?_
    refine WC.skip ?_
    refine QK.blockN ?_
    refine hN29 _ _ rfl ?_
    refine WL.yld (by decide) (Yld.notB rfl) ?_
    refine WL.done (hK23 _ _ ?_)
    refine WC.condF rfl ?_
    refine WC.skip ?_
    refine QK.blockN ?_
    refine QK.thenN (hK22 _ _ ?_)
    refine WC.region fun K55 hK55 => ?_
    obtain ⟨x56, hx56, h⟩ := bnd h
    refine WL.yld (by decide) (Yld.move rfl) ?_
    refine WL.yld (by decide) (Yld.subC rfl rfl hx56) ?_
    refine WL.yld (by decide) (Yld.assign rfl) ?_
    refine WL.done (hK55 _ _ ?_)
    refine QK.thenN ?_
    refine hK18 ⟨q17, x56⟩ _ _ ?_ (Nat.lt_succ_self _) (Sub.cons rfl (Sub.cons rfl (Sub.cons rfl (Sub.nil _)))) (Sub.cons rfl (Sub.cons rfl (Sub.cons rfl (Sub.cons rfl (Sub.cons rfl (Sub.cons rfl (Sub.cons rfl (Sub.nil _))))))))
    exact h
  ·
   replace h := of_f hc21 h
   refine WC.condFe rfl (decide_eq_false hc21) ?_
   refine WC.exit (QK.thenE (QK.thenE (QK.blockX ?_)))
   refine Ret.goN (ResIs.zero rfl) ?_
   refine After.go 97 rfl ?_
   refine QK.blockN ?_
   refine QK.thenN (hK5 _ _ ?_)
   refine WC.seqRegion fun K57 hK57 => ?_
   refine WL.eff0 (Eff0.storeB 104 siz_52 rfl rfl rfl rfl (Nat.le_of_ble_eq_true rfl)) ?_
   refine WL.done (hK57 _ _ ?_)
   refine WC.ret ?_
   refine QK.unmark 98 rfl ?_
   injection h with h; subst h
   exact Ret.fn [] (ResIs.cellS (k := 104) rfl scal_52 rfl rfl rfl) rfl (Ext.refl _ _) rfl (by decide) rfl rfl ⟨rfl, rfl⟩
end Z

set_option maxRecDepth 10000 in
theorem w_history_known (M0 : Mem) (x00 : Int) {res : Bool} (h : m_history_known x00 = some res) :
  Fn Try.prog 20 #[I64 x00] M0 fun r M' es => r = .bool res ∧ es = [] := by
 refine Fn.intro (N := 9) Try.func20 rfl rfl (Nat.le_of_ble_eq_true rfl) fun w0 => ?_
 unfold m_history_known at h
 refine WC.seqRegion fun K1 hK1 => ?_
 refine WL.yld (by decide) (Yld.assign rfl) ?_
 refine WL.done (hK1 _ _ ?_)
 refine WC.seqRegion fun K2 hK2 => ?_
 by_cases hc3 : (1 : Int) ≤ x00
 ·
  replace h := of_t hc3 h
  refine WL.yld (by decide) (Yld.move rfl) ?_
  refine WL.yld (by decide) (Yld.geq rfl rfl) ?_
  refine WL.yld (by decide) (Yld.move rfl) ?_
  refine WL.new (v' := .bool true) (congrArg Value.bool (decide_eq_true hc3)) ?_
  refine WL.yldG (by decide) rfl (Yld.move rfl) ?_
  refine WL.yldG (by decide) rfl (Yld.leq rfl rfl) ?_
  refine WL.yld (by decide) (Yld.pickT rfl rfl) ?_
  refine WL.yld (by decide) (Yld.assign rfl) ?_
  refine WL.done (hK2 _ _ ?_)
  refine WC.ret ?_
  injection h with h; subst h
  exact Ret.fn [] (ResIs.one rfl rfl) rfl (Ext.refl _ _) rfl (by decide) rfl rfl ⟨rfl, rfl⟩
 ·
  replace h := of_f hc3 h
  refine WL.yld (by decide) (Yld.move rfl) ?_
  refine WL.yld (by decide) (Yld.geq rfl rfl) ?_
  refine WL.yld (by decide) (Yld.move rfl) ?_
  refine WL.new (v' := .bool false) (congrArg Value.bool (decide_eq_false hc3)) ?_
  refine WL.skip (by decide) rfl rfl ?_
  refine WL.skip (by decide) rfl rfl ?_
  refine WL.yld (by decide) (Yld.pickF rfl rfl) ?_
  refine WL.yld (by decide) (Yld.assign rfl) ?_
  refine WL.done (hK2 _ _ ?_)
  refine WC.ret ?_
  injection h with h; subst h
  exact Ret.fn [] (ResIs.one rfl rfl) rfl (Ext.refl _ _) rfl (by decide) rfl rfl ⟨rfl, rfl⟩

set_option maxRecDepth 10000 in
theorem w_bytes_Clone (M0 : Mem) (A00 : Option Addr) (n00 c00 : Nat) (x00 : List (BitVec 8)) (hf00 : SlT M0 A00 n00 c00 x00) {res : (List (BitVec 8))} (h : m_bytes_Clone x00 = some res) :
  Fn Try.prog 21 #[.slice A00 n00 c00] M0 fun r M' es => ∃ (A1 : Option Addr) (n1 c1 : Nat), r = .slice A1 n1 c1 ∧ es = [.own 5 (Lay.sz (BitVec 8)) A1 n1 c1 (cel res)] := by
 refine Fn.intro (N := 8) Try.func21 rfl rfl (Nat.le_of_ble_eq_true rfl) fun w0 => ?_
 unfold m_bytes_Clone at h
 refine WC.seqRegion fun K1 hK1 => ?_
 refine WL.yld (by decide) (Yld.assign rfl) ?_
 refine WL.done (hK1 _ _ ?_)
 refine WC.seq fun K2 hK2 => ?_
 refine WC.seqRegion fun K3 hK3 => ?_
 refine WL.yld (by decide) (Yld.move rfl) ?_
 refine WL.yld (by decide) (Yld.eqlNil und_40 rfl rfl) ?_
 refine WL.done (hK3 _ _ ?_)
 by_cases hA4 : A00 = none
 ·
  have hz := nil_of hf00 hA4
  subst hz
  replace h : some ([] : List (BitVec 8)) = some res := h
  refine WC.condTe rfl (by rw [hA4]; rfl) ?_
  refine WC.seqRegion fun K5 hK5 => ?_
  refine WL.yld (by decide) (Yld.assign rfl) ?_
  refine WL.done (hK5 _ _ ?_)
  refine WC.ret (QK.thenR ?_)
  refine QK.nilOwn 106 5 (Lay.sz (BitVec 8)) none ?_
  injection h with h; subst h
  exact Ret.fn [106] (ResIs.one rfl rfl) rfl (Ext.refl _ _) rfl (by decide) rfl rfl ⟨none, 0, 0, rfl, rfl⟩
 ·
  skip
  refine WC.condFe rfl (isNone_ne hA4) ?_
  refine WC.skip ?_
  refine QK.thenN (hK2 _ _ ?_)
  refine WC.seqRegion fun K7 hK7 => ?_
  obtain ⟨x9, hx9, h⟩ := bnd h
  refine WL.eff (by decide) (Eff.buildC 108 ([] : List (BitVec 8)) sty_40 rfl rfl rfl rfl rfl (by decide)) ?_
  rintro _ _ ⟨g8, rfl, rfl⟩
  refine WL.yld (by decide) (Yld.move rfl) ?_
  refine WL.eff (by decide) (Eff.appendC 108 (xs := ([] : List (BitVec 8))) (ys := x00) sty_40 rfl rfl rfl (RdH.memM (k := 0) rfl hf00) hx9) ?_
  rintro _ _ ⟨A10, c11, rfl, rfl⟩
  refine WL.yld (by decide) (Yld.assign rfl) ?_
  refine WL.done (hK7 _ _ ?_)
  refine WC.ret ?_
  injection h with h; subst h
  exact Ret.fn [108] (ResIs.one rfl rfl) rfl (Ext.refl _ _) rfl (by decide) rfl rfl ⟨A10, x9.length, c11, rfl, rfl⟩

set_option maxRecDepth 10000 in
theorem w_history_Build (M0 : Mem) (A00 : Option Addr) (n00 c00 : Nat) (rs00 : List Rhistory_Event) (x00 : List (Shistory_Event)) (hf00 : SlT M0 A00 n00 c00 rs00) (hq00 : Rels (rel_history_Event M0) rs00 x00) {res : (List (Shistory_Op)) × Int} (h : m_history_Build x00 = some res) :
  Fn Try.prog 10 #[.slice A00 n00 c00] M0 fun r M' es => ∃ (A1 : Option Addr) (n1 c1 : Nat), ∃ rs1 : List Rhistory_Op, r = .tuple #[.slice A1 n1 c1, I64 res.2] ∧ es = [.own 42 (Lay.sz Rhistory_Op) A1 n1 c1 (cel rs1)] ∧ Rels (rel_history_Op M') rs1 res.1 := by
 refine Fn.intro (N := 110) Try.func10 rfl rfl (Nat.le_of_ble_eq_true rfl) fun w0 => ?_
 unfold m_history_Build at h
 refine WC.seqRegion fun K1 hK1 => ?_
 refine WL.yld (by decide) (Yld.assign rfl) ?_
 refine WL.yld (by decide) (Yld.assign rfl) ?_
 refine WL.done (hK1 _ _ ?_)
 refine WC.seqRegion fun K2 hK2 => ?_
 refine WL.yld (by decide) (Yld.assign rfl) ?_
 refine WL.done (hK2 _ _ ?_)
 refine WC.seqCut (σ := Mem × (Option Addr) × Nat × Nat × (List (Shistory_Op)) × (List Rhistory_Op)) (fun ⟨M3, A6, n7, c8, x9, rs10⟩ => [(4, .slice A6 n7 c8)]) (fun ⟨M3, A6, n7, c8, x9, rs10⟩ => [(0, .mem M3), (105, .own 42 (Lay.sz Rhistory_Op) A6 n7 c8 (cel rs10))]) (fun ⟨M3, A6, n7, c8, x9, rs10⟩ => m_history_Build_j0 x9 = some res ∧ Ext w0.heap.size M0 M3 ∧ Rels (rel_history_Op M3) rs10 x9) (fun K12 hK12 => ?_) ?_
 ·
  skip
  refine WC.seqRegion fun K13 hK13 => ?_
  refine WL.yld (by decide) (Yld.move rfl) ?_
  refine WL.yld (by decide) (Yld.lenD (rs := rs00) (xs := x00) (Rels.len hq00) und_31 rfl (RdH.memM (k := 0) rfl hf00)) ?_
  refine WL.yld (by decide) (Yld.move rfl) ?_
  refine WL.done (hK13 _ _ ?_)
  refine WC.block ?_
  refine WC.nilOwn 116 42 (Lay.sz Rhistory_Op) none ?_
  refine WC.loop (σ := Nat × Mem × (Option Addr) × Nat × Nat × (List (Shistory_Op)) × (List Rhistory_Op) × Int) (fun ⟨q24, M14, A17, n18, c19, x20, rs21, x23⟩ => [(4, .slice A17 n18 c19), (10, .slice A00 n00 c00), (11, I64 (x00.length : Int)), (12, I64 x23)]) (fun ⟨q24, M14, A17, n18, c19, x20, rs21, x23⟩ => [(0, .mem M14), (116, .own 42 (Lay.sz Rhistory_Op) A17 n18 c19 (cel rs21))]) (fun ⟨q24, M14, A17, n18, c19, x20, rs21, x23⟩ => m_history_Build_l1 x00 q24 x20 x23 = some res ∧ Ext w0.heap.size M0 M14 ∧ Rels (rel_history_Op M14) rs21 x20) (fun ⟨q24, M14, A17, n18, c19, x20, rs21, x23⟩ => q24) ⟨forever, M0, none, 0, 0, ([] : List (Shistory_Op)), ([] : List Rhistory_Op), (0 : Int)⟩ ?_ (Sub.cons rfl (Sub.cons rfl (Sub.cons rfl (Sub.cons rfl (Sub.nil _))))) (Sub.cons rfl (Sub.cons rfl (Sub.nil _))) ?_
  ·
   exact ⟨h, (Ext.refl _ _), (Rels.nil (R := rel_history_Op M0))⟩
  rintro ⟨q24, M14, A17, n18, c19, x20, rs21, x23⟩ ⟨h, hm_M14, hq22⟩ K25 hK25
  cases q24 with
  | zero => exact absurd h (by simp [m_history_Build_l1])
  | succ q24 =>
   unfold m_history_Build_l1 at h
   refine WC.seqRegion fun K26 hK26 => ?_
   refine WL.yld (by decide) (Yld.lss rfl rfl) ?_
   refine WL.done (hK26 _ _ ?_)
   refine WC.seq fun K27 hK27 => ?_
   by_cases hc28 : x23 < (x00.length : Int)
   ·
    replace h := of_t hc28 h
    refine WC.condTe rfl (decide_eq_true hc28) ?_
    refine WC.skip ?_
    refine QK.thenN (hK27 _ _ ?_)
    refine WC.seqCut (σ := Mem × (Option Addr) × Nat × Nat × (List (Shistory_Op)) × (List Rhistory_Op)) (fun ⟨M29, A30, n31, c32, x33, rs34⟩ => [(4, .slice A30 n31 c32), (10, .slice A00 n00 c00), (11, I64 (x00.length : Int)), (12, I64 x23)]) (fun ⟨M29, A30, n31, c32, x33, rs34⟩ => [(0, .mem M29), (116, .own 42 (Lay.sz Rhistory_Op) A30 n31 c32 (cel rs34))]) (fun ⟨M29, A30, n31, c32, x33, rs34⟩ => m_history_Build_j2 x23 (m_history_Build_l1 x00 q24) x33 = some res ∧ Ext w0.heap.size M14 M29 ∧ Rels (rel_history_Op M29) rs34 x33) (fun K36 hK36 => ?_) ?_
    ·
     skip
     refine WC.block ?_
     refine WC.seqRegion fun K37 hK37 => ?_
     obtain ⟨x38, hx38, h⟩ := bnd h
     refine WL.yld (by decide) (Yld.move rfl) ?_
     obtain ⟨⟨_, r_39_0⟩, hr40, rfl, hq41_0⟩ := Rels.idx (Rels.lift hq00 hm_M14) hx38
     refine WL.yld (by decide) (Yld.idxC (xs := rs00) sty_31 rfl rfl (RdH.memM (k := 0) rfl (SlRc.lift hf00 hm_M14)) hr40) ?_
     refine WL.yld (by decide) (Yld.loadA (xs := rs00) agg_45 rfl (RdH.memM (k := 0) rfl (SlRc.lift hf00 hm_M14)) hr40 rfl) ?_
     refine WL.eff (by decide) (Eff.alloc 142 rfl zr_45) ?_
     rintro _ _ ⟨g42, rfl, rfl⟩
     refine WL.yld (by decide) (Yld.assign rfl) ?_
     refine WL.eff0 (Eff0.storeBAM 142 agg_45 rfl rfl rfl ⟨rfl, rfl⟩ rfl) ?_
     refine WL.done (hK37 _ _ ?_)
     refine WC.seqRegion fun K43 hK43 => ?_
     obtain ⟨x44, hx44, h⟩ := bnd h
     refine WL.yld (by decide) (Yld.move rfl) ?_
     refine WL.yld (by decide) (Yld.fieldAddr Try.underlying45 rfl nz_3 rfl rfl) ?_
     refine WL.yld (by decide) (Yld.loadB (k := 142) scal_3 rfl rfl rfl) ?_
     refine WL.eff (by decide) (Eff.callS 145 rfl Try.func19 nm_19 rfl rfl (fun w hb hh => w_history_last (Mem.snap w) A17 n18 c19 rs21 _ (RdH.sn (RdH.own (k := 116) rfl) w hb hh) (Rels.sn hq22 (hh.sat 0 _ rfl)) x38.fClient hx44)) ?_
     rintro _ _ ⟨_, ⟨rfl, rfl⟩, rfl⟩
     refine WL.yld (by decide) (Yld.assign rfl) ?_
     refine WL.done (hK43 _ _ ?_)
     refine WC.block ?_
     refine WC.seqRegionCut (σ := Bool) (fun x46 => [(4, .slice A17 n18 c19), (5, I64 x23), (6, .pointer (some ⟨g42, 0, none⟩)), (7, .pointer (optp A17 x44 (Lay.sz Rhistory_Op))), (10, .slice A00 n00 c00), (11, I64 (x00.length : Int)), (12, I64 x23), (21, .bool x46)]) (fun x46 => [(0, .mem M14), (116, .own 42 (Lay.sz Rhistory_Op) A17 n18 c19 (cel rs21)), (142, .blk g42 45 [I64 x38.fKind, I64 x38.fClient, I64 x38.fOp, U64 x38.fKey, U32 x38.fCookie, .slice r_39_0.A r_39_0.n r_39_0.c, I64 x38.fResult])]) (fun x46 => m_history_Build_j3 x20 x23 x38 x44 (m_history_Build_l1 x00 q24) x46 = some res) (fun K47 hK47 => ?_) ?_
     ·
      skip
      by_cases hc49 : x38.fKind = (1 : Int)
      ·
       replace h := of_t hc49 h
       obtain ⟨x50, hx50, h⟩ := bnd h
       by_cases hc52 : x50 = true
       ·
        replace h := of_t hc52 h
        refine WL.yld (by decide) (Yld.fieldAddr Try.underlying45 rfl nz_3 rfl rfl) ?_
        refine WL.yld (by decide) (Yld.loadB (k := 142) scal_3 rfl rfl rfl) ?_
        refine WL.yld (by decide) (Yld.eqlI rfl rfl) ?_
        refine WL.yld (by decide) (Yld.move rfl) ?_
        refine WL.new (v' := .bool true) (congrArg Value.bool (beq_iff_eq.2 hc49)) ?_
        refine WL.yldG (by decide) rfl (Yld.fieldAddr Try.underlying45 rfl nz_3 rfl rfl) ?_
        refine WL.yldG (by decide) rfl (Yld.loadB (k := 142) scal_3 rfl rfl rfl) ?_
        refine WL.effG (by decide) rfl (Eff.callS 151 rfl Try.func20 nm_20 rfl rfl (fun w hb hh => w_history_known (Mem.snap w) x38.fOp hx50)) ?_
        rintro _ _ ⟨_, ⟨rfl, rfl⟩, rfl⟩
        refine WL.yld (by decide) (Yld.pickT rfl rfl) ?_
        refine WL.yld (by decide) (Yld.move rfl) ?_
        refine WL.new (v' := .bool true) (congrArg Value.bool hc52) ?_
        refine WL.yldG (by decide) rfl (Yld.move rfl) ?_
        refine WL.yldG (by decide) rfl (Yld.eqlPN und_52 rfl rfl) ?_
        refine WL.yld (by decide) (Yld.pickT rfl rfl) ?_
        refine WL.yld (by decide) (Yld.assign rfl) ?_
        refine WL.done ?_
        refine hK47 (decide (x44 < 0)) _ _ ?_ (Sub.cons rfl (Sub.cons rfl (Sub.cons rfl (Sub.cons rfl (Sub.cons rfl (Sub.cons rfl (Sub.cons rfl (Sub.cons rfl (Sub.nil _))))))))) (Sub.cons rfl (Sub.cons rfl (Sub.cons rfl (Sub.nil _))))
        exact h
       ·
        replace h := of_f hc52 h
        refine WL.yld (by decide) (Yld.fieldAddr Try.underlying45 rfl nz_3 rfl rfl) ?_
        refine WL.yld (by decide) (Yld.loadB (k := 142) scal_3 rfl rfl rfl) ?_
        refine WL.yld (by decide) (Yld.eqlI rfl rfl) ?_
        refine WL.yld (by decide) (Yld.move rfl) ?_
        refine WL.new (v' := .bool true) (congrArg Value.bool (beq_iff_eq.2 hc49)) ?_
        refine WL.yldG (by decide) rfl (Yld.fieldAddr Try.underlying45 rfl nz_3 rfl rfl) ?_
        refine WL.yldG (by decide) rfl (Yld.loadB (k := 142) scal_3 rfl rfl rfl) ?_
        refine WL.effG (by decide) rfl (Eff.callS 151 rfl Try.func20 nm_20 rfl rfl (fun w hb hh => w_history_known (Mem.snap w) x38.fOp hx50)) ?_
        rintro _ _ ⟨_, ⟨rfl, rfl⟩, rfl⟩
        refine WL.yld (by decide) (Yld.pickT rfl rfl) ?_
        refine WL.yld (by decide) (Yld.move rfl) ?_
        refine WL.new (v' := .bool false) (congrArg Value.bool (Bool.eq_false_iff.2 hc52)) ?_
        refine WL.skip (by decide) rfl rfl ?_
        refine WL.skip (by decide) rfl rfl ?_
        refine WL.yld (by decide) (Yld.pickF rfl rfl) ?_
        refine WL.yld (by decide) (Yld.assign rfl) ?_
        refine WL.done ?_
        refine hK47 false _ _ ?_ (Sub.cons rfl (Sub.cons rfl (Sub.cons rfl (Sub.cons rfl (Sub.cons rfl (Sub.cons rfl (Sub.cons rfl (Sub.cons rfl (Sub.nil _))))))))) (Sub.cons rfl (Sub.cons rfl (Sub.cons rfl (Sub.nil _))))
        exact h
      ·
       replace h := of_f hc49 h
       refine WL.yld (by decide) (Yld.fieldAddr Try.underlying45 rfl nz_3 rfl rfl) ?_
       refine WL.yld (by decide) (Yld.loadB (k := 142) scal_3 rfl rfl rfl) ?_
       refine WL.yld (by decide) (Yld.eqlI rfl rfl) ?_
       refine WL.yld (by decide) (Yld.move rfl) ?_
       refine WL.new (v' := .bool false) (congrArg Value.bool (beq_eq_false_iff_ne.2 hc49)) ?_
       refine WL.skip (by decide) rfl rfl ?_
       refine WL.skip (by decide) rfl rfl ?_
       refine WL.skip (by decide) rfl rfl ?_
       refine WL.yld (by decide) (Yld.pickF rfl rfl) ?_
       refine WL.yld (by decide) (Yld.move rfl) ?_
       refine WL.skip (by decide) rfl rfl ?_
       refine WL.skip (by decide) rfl rfl ?_
       refine WL.yld (by decide) (Yld.pickF rfl rfl) ?_
       refine WL.yld (by decide) (Yld.assign rfl) ?_
       refine WL.done ?_
       refine hK47 false _ _ ?_ (Sub.cons rfl (Sub.cons rfl (Sub.cons rfl (Sub.cons rfl (Sub.cons rfl (Sub.cons rfl (Sub.cons rfl (Sub.cons rfl (Sub.nil _))))))))) (Sub.cons rfl (Sub.cons rfl (Sub.cons rfl (Sub.nil _))))
       exact h
     ·
      rintro x46 h
      unfold m_history_Build_j3 at h
      by_cases hc53 : x46 = true
      ·
       replace h := of_t hc53 h
       refine WC.condTe rfl hc53 ?_
       refine WC.seqRegion fun K54 hK54 => ?_
       refine WL.yld (by decide) (Yld.fieldAddr Try.underlying45 rfl nz_3 rfl rfl) ?_
       refine WL.yld (by decide) (Yld.loadB (k := 142) scal_3 rfl rfl rfl) ?_
       refine WL.yld (by decide) (Yld.fieldAddr Try.underlying45 rfl nz_3 rfl rfl) ?_
       refine WL.yld (by decide) (Yld.loadB (k := 142) scal_3 rfl rfl rfl) ?_
       refine WL.yld (by decide) (Yld.fieldAddr Try.underlying45 rfl nz_38 rfl rfl) ?_
       refine WL.yld (by decide) (Yld.loadB (k := 142) scal_38 rfl rfl rfl) ?_
       refine WL.yld (by decide) (Yld.fieldAddr Try.underlying45 rfl nz_39 rfl rfl) ?_
       refine WL.yld (by decide) (Yld.loadB (k := 142) scal_39 rfl rfl rfl) ?_
       refine WL.yld (by decide) (Yld.move rfl) ?_
       refine WL.yld (by decide) (Yld.build rfl (bu_42_0_1_2_3_6_7_8 x38.fClient x38.fOp x38.fKey x38.fCookie x23 (-1 : Int) (-1 : Int))) ?_
       refine WL.eff (by decide) (Eff.alloc 155 rfl zr_42) ?_
       rintro _ _ ⟨g55, rfl, rfl⟩
       refine WL.eff0 (Eff0.storeBAM 155 agg_42 rfl rfl rfl ⟨rfl, rfl⟩ rfl) ?_
       refine WL.done (hK54 _ _ ?_)
       refine WC.seq fun K56 hK56 => ?_
       refine WC.seqRegion fun K57 hK57 => ?_
       refine WL.yld (by decide) (Yld.fieldAddr Try.underlying45 rfl nz_3 rfl rfl) ?_
       refine WL.yld (by decide) (Yld.loadB (k := 142) scal_3 rfl rfl rfl) ?_
       refine WL.yld (by decide) (Yld.eqlI rfl rfl) ?_
       refine WL.done (hK57 _ _ ?_)
       by_cases hc58 : x38.fOp = (1 : Int)
       ·
        replace h := of_t hc58 h
        refine WC.condTe rfl (beq_iff_eq.2 hc58) ?_
        refine WC.region fun K59 hK59 => ?_
        obtain ⟨x60, hx60, h⟩ := bnd h
        refine WL.yld (by decide) (Yld.fieldAddr Try.underlying45 rfl nz_40 rfl rfl) ?_
        refine WL.yld (by decide) (Yld.loadB (k := 142) scal_40 rfl rfl rfl) ?_
        refine WL.eff (by decide) (Eff.callS 164 rfl Try.func21 nm_21 rfl rfl (fun w hb hh => w_bytes_Clone (Mem.snap w) r_39_0.A r_39_0.n r_39_0.c _ (RdH.sn (RdH.memM (k := 0) rfl hq41_0) w hb hh) hx60)) ?_
        rintro _ _ ⟨_, ⟨A65, n66, c67, rfl, rfl⟩, rfl⟩
        refine WL.yld (by decide) (Yld.fieldAddr Try.underlying42 rfl nz_40 rfl rfl) ?_
        refine WL.eff0 (Eff0.storeB 155 siz_40 rfl rfl rfl rfl (Nat.le_of_ble_eq_true rfl)) ?_
        refine WL.done (hK59 _ _ ?_)
        refine QK.thenN (hK56 _ _ ?_)
        refine WC.region fun K68 hK68 => ?_
        obtain ⟨x73, hx73, h⟩ := bnd h
        refine WL.yld (by decide) (Yld.move rfl) ?_
        refine WL.yld (by decide) (Yld.loadBM (k := 155) agg_42 rfl rfl rfl) ?_
        refine WL.freeze 164 rfl rfl rfl fun M70 hm_M70 hf71 => ?_
        have hq72 : Rels (rel_history_Op M70) ([(Rhistory_Op.mk (Shistory_Op.mk x38.fClient x38.fOp x38.fKey x38.fCookie x60 ([] : List (BitVec 8)) x23 (-1 : Int) (-1 : Int) (0 : Int)) (⟨A65, n66, c67⟩ : Hdr) (⟨none, 0, 0⟩ : Hdr))] : List Rhistory_Op) ([(Shistory_Op.mk x38.fClient x38.fOp x38.fKey x38.fCookie x60 ([] : List (BitVec 8)) x23 (-1 : Int) (-1 : Int) (0 : Int))] : List (Shistory_Op)) := (Rels.cons ⟨rfl, hf71, SlT.nil⟩ Rels.nil)
        refine WL.eff (by decide) (Eff.buildCA 169 ([(Rhistory_Op.mk (Shistory_Op.mk x38.fClient x38.fOp x38.fKey x38.fCookie x60 ([] : List (BitVec 8)) x23 (-1 : Int) (-1 : Int) (0 : Int)) (⟨A65, n66, c67⟩ : Hdr) (⟨none, 0, 0⟩ : Hdr))] : List Rhistory_Op) sty_27 rfl rfl rfl (by decide)) ?_
        rintro _ _ ⟨g69, rfl, rfl⟩
        obtain ⟨hu76, hq77⟩ := Rels.apd (Rels.lift hq22 hm_M70) hq72 hx73
        refine WL.eff (by decide) (Eff.appendC 116 (xs := rs21) (ys := ([(Rhistory_Op.mk (Shistory_Op.mk x38.fClient x38.fOp x38.fKey x38.fCookie x60 ([] : List (BitVec 8)) x23 (-1 : Int) (-1 : Int) (0 : Int)) (⟨A65, n66, c67⟩ : Hdr) (⟨none, 0, 0⟩ : Hdr))] : List Rhistory_Op)) sty_27 rfl rfl rfl (RdH.own (k := 169) rfl) hu76) ?_
        rintro _ _ ⟨A74, c75, rfl, rfl⟩
        refine WL.yld (by decide) (Yld.assign rfl) ?_
        refine WL.done (hK68 _ _ ?_)
        refine QK.blockN ?_
        refine QK.blockN ?_
        refine QK.thenN ?_
        refine hK36 ⟨M70, A74, (rs21 ++ ([(Rhistory_Op.mk (Shistory_Op.mk x38.fClient x38.fOp x38.fKey x38.fCookie x60 ([] : List (BitVec 8)) x23 (-1 : Int) (-1 : Int) (0 : Int)) (⟨A65, n66, c67⟩ : Hdr) (⟨none, 0, 0⟩ : Hdr))] : List Rhistory_Op)).length, c75, x73, (rs21 ++ ([(Rhistory_Op.mk (Shistory_Op.mk x38.fClient x38.fOp x38.fKey x38.fCookie x60 ([] : List (BitVec 8)) x23 (-1 : Int) (-1 : Int) (0 : Int)) (⟨A65, n66, c67⟩ : Hdr) (⟨none, 0, 0⟩ : Hdr))] : List Rhistory_Op))⟩ _ _ ?_ (Sub.cons rfl (Sub.cons rfl (Sub.cons rfl (Sub.cons rfl (Sub.nil _))))) (Sub.cons rfl (Sub.cons rfl (Sub.nil _)))
        exact ⟨h, hm_M70, hq77⟩
       ·
        replace h := of_f hc58 h
        refine WC.condFe rfl (beq_eq_false_iff_ne.2 hc58) ?_
        refine WC.skip ?_
        refine QK.thenN (hK56 _ _ ?_)
        refine WC.region fun K78 hK78 => ?_
        obtain ⟨x81, hx81, h⟩ := bnd h
        refine WL.yld (by decide) (Yld.move rfl) ?_
        refine WL.yld (by decide) (Yld.loadBM (k := 155) agg_42 rfl rfl rfl) ?_
        have hq80 : Rels (rel_history_Op M14) ([(Rhistory_Op.mk (Shistory_Op.mk x38.fClient x38.fOp x38.fKey x38.fCookie ([] : List (BitVec 8)) ([] : List (BitVec 8)) x23 (-1 : Int) (-1 : Int) (0 : Int)) (⟨none, 0, 0⟩ : Hdr) (⟨none, 0, 0⟩ : Hdr))] : List Rhistory_Op) ([(Shistory_Op.mk x38.fClient x38.fOp x38.fKey x38.fCookie ([] : List (BitVec 8)) ([] : List (BitVec 8)) x23 (-1 : Int) (-1 : Int) (0 : Int))] : List (Shistory_Op)) := (Rels.cons ⟨rfl, SlT.nil, SlT.nil⟩ Rels.nil)
        refine WL.eff (by decide) (Eff.buildCA 179 ([(Rhistory_Op.mk (Shistory_Op.mk x38.fClient x38.fOp x38.fKey x38.fCookie ([] : List (BitVec 8)) ([] : List (BitVec 8)) x23 (-1 : Int) (-1 : Int) (0 : Int)) (⟨none, 0, 0⟩ : Hdr) (⟨none, 0, 0⟩ : Hdr))] : List Rhistory_Op) sty_27 rfl rfl rfl (by decide)) ?_
        rintro _ _ ⟨g79, rfl, rfl⟩
        obtain ⟨hu84, hq85⟩ := Rels.apd hq22 hq80 hx81
        refine WL.eff (by decide) (Eff.appendC 116 (xs := rs21) (ys := ([(Rhistory_Op.mk (Shistory_Op.mk x38.fClient x38.fOp x38.fKey x38.fCookie ([] : List (BitVec 8)) ([] : List (BitVec 8)) x23 (-1 : Int) (-1 : Int) (0 : Int)) (⟨none, 0, 0⟩ : Hdr) (⟨none, 0, 0⟩ : Hdr))] : List Rhistory_Op)) sty_27 rfl rfl rfl (RdH.own (k := 179) rfl) hu84) ?_
        rintro _ _ ⟨A82, c83, rfl, rfl⟩
        refine WL.yld (by decide) (Yld.assign rfl) ?_
        refine WL.done (hK78 _ _ ?_)
        refine QK.blockN ?_
        refine QK.blockN ?_
        refine QK.thenN ?_
        refine hK36 ⟨M14, A82, (rs21 ++ ([(Rhistory_Op.mk (Shistory_Op.mk x38.fClient x38.fOp x38.fKey x38.fCookie ([] : List (BitVec 8)) ([] : List (BitVec 8)) x23 (-1 : Int) (-1 : Int) (0 : Int)) (⟨none, 0, 0⟩ : Hdr) (⟨none, 0, 0⟩ : Hdr))] : List Rhistory_Op)).length, c83, x81, (rs21 ++ ([(Rhistory_Op.mk (Shistory_Op.mk x38.fClient x38.fOp x38.fKey x38.fCookie ([] : List (BitVec 8)) ([] : List (BitVec 8)) x23 (-1 : Int) (-1 : Int) (0 : Int)) (⟨none, 0, 0⟩ : Hdr) (⟨none, 0, 0⟩ : Hdr))] : List Rhistory_Op))⟩ _ _ ?_ (Sub.cons rfl (Sub.cons rfl (Sub.cons rfl (Sub.cons rfl (Sub.nil _))))) (Sub.cons rfl (Sub.cons rfl (Sub.nil _)))
        exact ⟨h, (Ext.refl _ _), hq85⟩
      ·
       replace h := of_f hc53 h
       refine WC.condFe rfl (Bool.eq_false_iff.2 hc53) ?_
       refine WC.seqRegionCut (σ := Bool) (fun x86 => [(4, .slice A17 n18 c19), (5, I64 x23), (6, .pointer (some ⟨g42, 0, none⟩)), (7, .pointer (optp A17 x44 (Lay.sz Rhistory_Op))), (10, .slice A00 n00 c00), (11, I64 (x00.length : Int)), (12, I64 x23), (55, .bool x86)]) (fun x86 => [(0, .mem M14), (116, .own 42 (Lay.sz Rhistory_Op) A17 n18 c19 (cel rs21)), (142, .blk g42 45 [I64 x38.fKind, I64 x38.fClient, I64 x38.fOp, U64 x38.fKey, U32 x38.fCookie, .slice r_39_0.A r_39_0.n r_39_0.c, I64 x38.fResult])]) (fun x86 => m_history_Build_j4 x20 x23 x38 x44 (m_history_Build_l1 x00 q24) x86 = some res) (fun K87 hK87 => ?_) ?_
       ·
        skip
        by_cases hc89 : x38.fKind = (2 : Int)
        ·
         replace h := of_t hc89 h
         refine WL.yld (by decide) (Yld.fieldAddr Try.underlying45 rfl nz_3 rfl rfl) ?_
         refine WL.yld (by decide) (Yld.loadB (k := 142) scal_3 rfl rfl rfl) ?_
         refine WL.yld (by decide) (Yld.eqlI rfl rfl) ?_
         refine WL.yld (by decide) (Yld.move rfl) ?_
         refine WL.new (v' := .bool true) (congrArg Value.bool (beq_iff_eq.2 hc89)) ?_
         refine WL.yldG (by decide) rfl (Yld.move rfl) ?_
         refine WL.yldG (by decide) rfl (Yld.neqPN und_52 rfl rfl) ?_
         refine WL.yld (by decide) (Yld.pickT rfl rfl) ?_
         refine WL.yld (by decide) (Yld.assign rfl) ?_
         refine WL.done ?_
         refine hK87 (decide (0 ≤ x44)) _ _ ?_ (Sub.cons rfl (Sub.cons rfl (Sub.cons rfl (Sub.cons rfl (Sub.cons rfl (Sub.cons rfl (Sub.cons rfl (Sub.cons rfl (Sub.nil _))))))))) (Sub.cons rfl (Sub.cons rfl (Sub.cons rfl (Sub.nil _))))
         exact h
        ·
         replace h := of_f hc89 h
         refine WL.yld (by decide) (Yld.fieldAddr Try.underlying45 rfl nz_3 rfl rfl) ?_
         refine WL.yld (by decide) (Yld.loadB (k := 142) scal_3 rfl rfl rfl) ?_
         refine WL.yld (by decide) (Yld.eqlI rfl rfl) ?_
         refine WL.yld (by decide) (Yld.move rfl) ?_
         refine WL.new (v' := .bool false) (congrArg Value.bool (beq_eq_false_iff_ne.2 hc89)) ?_
         refine WL.skip (by decide) rfl rfl ?_
         refine WL.skip (by decide) rfl rfl ?_
         refine WL.yld (by decide) (Yld.pickF rfl rfl) ?_
         refine WL.yld (by decide) (Yld.assign rfl) ?_
         refine WL.done ?_
         refine hK87 false _ _ ?_ (Sub.cons rfl (Sub.cons rfl (Sub.cons rfl (Sub.cons rfl (Sub.cons rfl (Sub.cons rfl (Sub.cons rfl (Sub.cons rfl (Sub.nil _))))))))) (Sub.cons rfl (Sub.cons rfl (Sub.cons rfl (Sub.nil _))))
         exact h
       ·
        rintro x86 h
        unfold m_history_Build_j4 at h
        by_cases hc90 : x86 = true
        ·
         replace h := of_t hc90 h
         refine WC.condTe rfl hc90 ?_
         refine WC.seqRegionD (n := 11) [(0, _), (142, _)] rfl mixed (Sub.cons rfl (Sub.cons rfl (Sub.nil _))) fun K91 hK91 => ?_
         obtain ⟨x92, hx92, h⟩ := bnd h
         obtain ⟨x96, hx96, h⟩ := bnd h
         obtain ⟨x97, hx97, h⟩ := bnd h
         obtain ⟨x103, hx103, h⟩ := bnd h
         obtain ⟨x107, hx107, h⟩ := bnd h
         obtain ⟨x108, hx108, h⟩ := bnd h
         refine WD.take 0 rfl (by kernel_rfl) (by kernel_rfl) (by kernel_rfl) (by decide) (Yld.move rfl) ?_
         refine WD.take 1 rfl (by kernel_rfl) (by kernel_rfl) (by kernel_rfl) (by decide) (Yld.move rfl) ?_
         refine WD.take 2 rfl (by kernel_rfl) (by kernel_rfl) (by kernel_rfl) (by decide) (Yld.move rfl) ?_
         refine WD.take 3 rfl (by kernel_rfl) (by kernel_rfl) (by kernel_rfl) (by decide) (Yld.fieldAddr Try.underlying45 rfl nz_28 rfl rfl) ?_
         refine WD.take 4 rfl (by kernel_rfl) (by kernel_rfl) (by kernel_rfl) (by decide) (Yld.loadB (k := 142) scal_28 rfl rfl rfl) ?_
         refine WD.one 5 (by kernel_rfl) ?_
         obtain ⟨⟨_, r_93_0, r_93_1⟩, hr94, rfl, hq95_0, hq95_1⟩ := Rels.idx hq22 hx92
         refine WS.yld rfl (by decide) (Yld.nilCheckQ (bs := x20) rfl hx92) ?_
         refine WD.take 6 rfl (by kernel_rfl) (by kernel_rfl) (by kernel_rfl) (by decide) (Yld.fieldAddrC Try.underlying42 rfl nz_3 rfl rfl) ?_
         refine WD.one 7 (by kernel_rfl) ?_
         obtain ⟨⟨_, r_98_0, r_98_1⟩, hr99, rfl, hq100_0, hq100_1⟩ := Rels.idx hq22 hx96
         obtain ⟨hu101, hq102⟩ := Rels.upd (r := (Rhistory_Op.mk ({ x96 with fReturn := x23 } : Shistory_Op) r_98_0 r_98_1)) hq22 hx97 ⟨rfl, hq100_0, hq100_1⟩
         refine WS.eff0 rfl (Eff0.storeC 116 (xs := rs21) (j := 7) (a := (Rhistory_Op.mk x96 r_98_0 r_98_1)) (a' := (Rhistory_Op.mk ({ x96 with fReturn := x23 } : Shistory_Op) r_98_0 r_98_1)) siz_3 rfl rfl rfl rfl hr99 rfl rfl hu101) (Sub.cons rfl (Sub.cons rfl (Sub.nil _))) ?_
         refine WD.one 8 (by kernel_rfl) ?_
         obtain ⟨⟨_, r_104_0, r_104_1⟩, hr105, rfl, hq106_0, hq106_1⟩ := Rels.idx hq102 hx103
         refine WS.yld rfl (by decide) (Yld.nilCheckQ (bs := x97) rfl hx103) ?_
         refine WD.take 9 rfl (by kernel_rfl) (by kernel_rfl) (by kernel_rfl) (by decide) (Yld.fieldAddrC Try.underlying42 rfl nz_28 rfl rfl) ?_
         refine WD.one 10 (by kernel_rfl) ?_
         obtain ⟨⟨_, r_109_0, r_109_1⟩, hr110, rfl, hq111_0, hq111_1⟩ := Rels.idx hq102 hx107
         obtain ⟨hu112, hq113⟩ := Rels.upd (r := (Rhistory_Op.mk ({ x107 with fResult := x38.fResult } : Shistory_Op) r_109_0 r_109_1)) hq102 hx108 ⟨rfl, hq111_0, hq111_1⟩
         refine WS.eff0 rfl (Eff0.storeC 116 (xs := (rs21.set (x44).toNat (Rhistory_Op.mk ({ x96 with fReturn := x23 } : Shistory_Op) r_98_0 r_98_1))) (j := 9) (a := (Rhistory_Op.mk x107 r_109_0 r_109_1)) (a' := (Rhistory_Op.mk ({ x107 with fResult := x38.fResult } : Shistory_Op) r_109_0 r_109_1)) siz_28 rfl rfl rfl rfl hr110 rfl rfl hu112) (Sub.cons rfl (Sub.cons rfl (Sub.nil _))) ?_
         refine WD.done (by kernel_rfl) (hK91 _ _ ?_)
         refine WC.seqRegion fun K114 hK114 => ?_
         obtain ⟨x115, hx115, h⟩ := bnd h
         by_cases hc119 : x115.fKind = (3 : Int)
         ·
          replace h := of_t hc119 h
          refine WL.yld (by decide) (Yld.move rfl) ?_
          obtain ⟨⟨_, r_116_0, r_116_1⟩, hr117, rfl, hq118_0, hq118_1⟩ := Rels.idx hq113 hx115
          refine WL.yld (by decide) (Yld.nilCheckQ (bs := x108) rfl hx115) ?_
          refine WL.yld (by decide) (Yld.fieldAddrC Try.underlying42 rfl nz_3 rfl rfl) ?_
          refine WL.yld (by decide) (Yld.loadC (xs := ((rs21.set (x44).toNat (Rhistory_Op.mk ({ x96 with fReturn := x23 } : Shistory_Op) r_98_0 r_98_1)).set (x44).toNat (Rhistory_Op.mk ({ x107 with fResult := x38.fResult } : Shistory_Op) r_109_0 r_109_1))) (j := 1) scal_3 rfl (RdH.own (k := 116) rfl) hr117 rfl rfl) ?_
          refine WL.yld (by decide) (Yld.eqlI rfl rfl) ?_
          refine WL.yld (by decide) (Yld.move rfl) ?_
          refine WL.new (v' := .bool true) (congrArg Value.bool (beq_iff_eq.2 hc119)) ?_
          refine WL.yldG (by decide) rfl (Yld.fieldAddr Try.underlying45 rfl nz_28 rfl rfl) ?_
          refine WL.yldG (by decide) rfl (Yld.loadB (k := 142) scal_28 rfl rfl rfl) ?_
          refine WL.yldG (by decide) rfl (Yld.eqlI rfl rfl) ?_
          refine WL.yld (by decide) (Yld.pickT rfl rfl) ?_
          refine WL.done (hK114 _ _ ?_)
          by_cases hc120 : x38.fResult = (0 : Int)
          ·
           replace h := of_t hc120 h
           refine WC.condTe rfl (beq_iff_eq.2 hc120) ?_
           refine WC.region fun K121 hK121 => ?_
           obtain ⟨x122, hx122, h⟩ := bnd h
           obtain ⟨x130, hx130, h⟩ := bnd h
           obtain ⟨x134, hx134, h⟩ := bnd h
           obtain ⟨x135, hx135, h⟩ := bnd h
           refine WL.yld (by decide) (Yld.move rfl) ?_
           refine WL.yld (by decide) (Yld.fieldAddr Try.underlying45 rfl nz_40 rfl rfl) ?_
           refine WL.yld (by decide) (Yld.loadB (k := 142) scal_40 rfl rfl rfl) ?_
           refine WL.eff (by decide) (Eff.callS 226 rfl Try.func21 nm_21 rfl rfl (fun w hb hh => w_bytes_Clone (Mem.snap w) r_39_0.A r_39_0.n r_39_0.c _ (RdH.sn (RdH.memM (k := 0) rfl hq41_0) w hb hh) hx122)) ?_
           rintro _ _ ⟨_, ⟨A127, n128, c129, rfl, rfl⟩, rfl⟩
           obtain ⟨⟨_, r_131_0, r_131_1⟩, hr132, rfl, hq133_0, hq133_1⟩ := Rels.idx hq113 hx130
           refine WL.yld (by decide) (Yld.nilCheckQ (bs := x108) rfl hx130) ?_
           refine WL.yld (by decide) (Yld.fieldAddrC Try.underlying42 rfl nz_40 rfl rfl) ?_
           refine WL.freeze 226 rfl rfl rfl fun M136 hm_M136 hf137 => ?_
           obtain ⟨⟨_, r_138_0, r_138_1⟩, hr139, rfl, hq140_0, hq140_1⟩ := Rels.idx (Rels.lift hq113 hm_M136) hx134
           obtain ⟨hu141, hq142⟩ := Rels.upd (r := (Rhistory_Op.mk ({ x134 with fGot := x122 } : Shistory_Op) r_138_0 (⟨A127, n128, c129⟩ : Hdr))) (Rels.lift hq113 hm_M136) hx135 ⟨rfl, hq140_0, hf137⟩
           refine WL.eff0 (Eff0.storeC 116 (xs := ((rs21.set (x44).toNat (Rhistory_Op.mk ({ x96 with fReturn := x23 } : Shistory_Op) r_98_0 r_98_1)).set (x44).toNat (Rhistory_Op.mk ({ x107 with fResult := x38.fResult } : Shistory_Op) r_109_0 r_109_1))) (j := 5) (a := (Rhistory_Op.mk x134 r_138_0 r_138_1)) (a' := (Rhistory_Op.mk ({ x134 with fGot := x122 } : Shistory_Op) r_138_0 (⟨A127, n128, c129⟩ : Hdr))) siz_40 rfl rfl rfl rfl hr139 rfl rfl hu141) ?_
           refine WL.done (hK121 _ _ ?_)
           refine QK.blockN ?_
           refine QK.blockN ?_
           refine QK.thenN ?_
           refine hK36 ⟨M136, A17, n18, c19, x135, (((rs21.set (x44).toNat (Rhistory_Op.mk ({ x96 with fReturn := x23 } : Shistory_Op) r_98_0 r_98_1)).set (x44).toNat (Rhistory_Op.mk ({ x107 with fResult := x38.fResult } : Shistory_Op) r_109_0 r_109_1)).set (x44).toNat (Rhistory_Op.mk ({ x134 with fGot := x122 } : Shistory_Op) r_138_0 (⟨A127, n128, c129⟩ : Hdr)))⟩ _ _ ?_ (Sub.cons rfl (Sub.cons rfl (Sub.cons rfl (Sub.cons rfl (Sub.nil _))))) (Sub.cons rfl (Sub.cons rfl (Sub.nil _)))
           exact ⟨h, hm_M136, hq142⟩
          ·
           replace h := of_f hc120 h
           refine WC.condFe rfl (beq_eq_false_iff_ne.2 hc120) ?_
           refine WC.skip ?_
           refine QK.blockN ?_
           refine QK.blockN ?_
           refine QK.thenN ?_
           refine hK36 ⟨M14, A17, n18, c19, x108, ((rs21.set (x44).toNat (Rhistory_Op.mk ({ x96 with fReturn := x23 } : Shistory_Op) r_98_0 r_98_1)).set (x44).toNat (Rhistory_Op.mk ({ x107 with fResult := x38.fResult } : Shistory_Op) r_109_0 r_109_1))⟩ _ _ ?_ (Sub.cons rfl (Sub.cons rfl (Sub.cons rfl (Sub.cons rfl (Sub.nil _))))) (Sub.cons rfl (Sub.cons rfl (Sub.nil _)))
           exact ⟨h, (Ext.refl _ _), hq113⟩
         ·
          replace h := of_f hc119 h
          refine WL.yld (by decide) (Yld.move rfl) ?_
          obtain ⟨⟨_, r_116_0, r_116_1⟩, hr117, rfl, hq118_0, hq118_1⟩ := Rels.idx hq113 hx115
          refine WL.yld (by decide) (Yld.nilCheckQ (bs := x108) rfl hx115) ?_
          refine WL.yld (by decide) (Yld.fieldAddrC Try.underlying42 rfl nz_3 rfl rfl) ?_
          refine WL.yld (by decide) (Yld.loadC (xs := ((rs21.set (x44).toNat (Rhistory_Op.mk ({ x96 with fReturn := x23 } : Shistory_Op) r_98_0 r_98_1)).set (x44).toNat (Rhistory_Op.mk ({ x107 with fResult := x38.fResult } : Shistory_Op) r_109_0 r_109_1))) (j := 1) scal_3 rfl (RdH.own (k := 116) rfl) hr117 rfl rfl) ?_
          refine WL.yld (by decide) (Yld.eqlI rfl rfl) ?_
          refine WL.yld (by decide) (Yld.move rfl) ?_
          refine WL.new (v' := .bool false) (congrArg Value.bool (beq_eq_false_iff_ne.2 hc119)) ?_
          refine WL.skip (by decide) rfl rfl ?_
          refine WL.skip (by decide) rfl rfl ?_
          refine WL.skip (by decide) rfl rfl ?_
          refine WL.yld (by decide) (Yld.pickF rfl rfl) ?_
          refine WL.done (hK114 _ _ ?_)
          refine WC.condF rfl ?_
          refine WC.skip ?_
          refine QK.blockN ?_
          refine QK.blockN ?_
          refine QK.thenN ?_
          refine hK36 ⟨M14, A17, n18, c19, x108, ((rs21.set (x44).toNat (Rhistory_Op.mk ({ x96 with fReturn := x23 } : Shistory_Op) r_98_0 r_98_1)).set (x44).toNat (Rhistory_Op.mk ({ x107 with fResult := x38.fResult } : Shistory_Op) r_109_0 r_109_1))⟩ _ _ ?_ (Sub.cons rfl (Sub.cons rfl (Sub.cons rfl (Sub.cons rfl (Sub.nil _))))) (Sub.cons rfl (Sub.cons rfl (Sub.nil _)))
          exact ⟨h, (Ext.refl _ _), hq113⟩
        ·
         replace h := of_f hc90 h
         refine WC.condFe rfl (Bool.eq_false_iff.2 hc90) ?_
         refine WC.seqRegion fun K143 hK143 => ?_
         refine WL.yld (by decide) (Yld.fieldAddr Try.underlying45 rfl nz_3 rfl rfl) ?_
         refine WL.yld (by decide) (Yld.loadB (k := 142) scal_3 rfl rfl rfl) ?_
         refine WL.yld (by decide) (Yld.eqlI rfl rfl) ?_
         refine WL.yld (by decide) (Yld.assign rfl) ?_
         refine WL.done (hK143 _ _ ?_)
         by_cases hc144 : x38.fKind = (3 : Int)
         ·
          replace h := of_t hc144 h
          refine WC.condTe rfl (beq_iff_eq.2 hc144) ?_
          refine WC.seqRegion fun K145 hK145 => ?_
          refine WL.yld (by decide) (Yld.move rfl) ?_
          refine WL.yld (by decide) (Yld.lenD (rs := rs21) (xs := x20) (Rels.len hq22) und_27 rfl (RdH.own (k := 116) rfl)) ?_
          refine WL.yld (by decide) (Yld.move rfl) ?_
          refine WL.done (hK145 _ _ ?_)
          refine WC.block ?_
          refine WC.loop (σ := Nat × (List (Shistory_Op)) × (List Rhistory_Op) × Int) (fun ⟨q150, x146, rs147, x149⟩ => [(4, .slice A17 n18 c19), (5, I64 x23), (10, .slice A00 n00 c00), (11, I64 (x00.length : Int)), (12, I64 x23), (93, I64 (x20.length : Int)), (94, I64 x149)]) (fun ⟨q150, x146, rs147, x149⟩ => [(0, .mem M14), (116, .own 42 (Lay.sz Rhistory_Op) A17 n18 c19 (cel rs147))]) (fun ⟨q150, x146, rs147, x149⟩ => m_history_Build_l5 x20 x23 (m_history_Build_l1 x00 q24) q150 x146 x149 = some res ∧ Rels (rel_history_Op M14) rs147 x146) (fun ⟨q150, x146, rs147, x149⟩ => q150) ⟨forever, x20, rs21, (0 : Int)⟩ ?_ (Sub.cons rfl (Sub.cons rfl (Sub.cons rfl (Sub.cons rfl (Sub.cons rfl (Sub.cons rfl (Sub.cons rfl (Sub.nil _)))))))) (Sub.cons rfl (Sub.cons rfl (Sub.nil _))) ?_
          ·
           exact ⟨h, hq22⟩
          rintro ⟨q150, x146, rs147, x149⟩ ⟨h, hq148⟩ K151 hK151
          cases q150 with
          | zero => exact absurd h (by simp [m_history_Build_l5])
          | succ q150 =>
           unfold m_history_Build_l5 at h
           refine WC.seqRegion fun K152 hK152 => ?_
           refine WL.yld (by decide) (Yld.lss rfl rfl) ?_
           refine WL.done (hK152 _ _ ?_)
           refine WC.seq fun K153 hK153 => ?_
           by_cases hc154 : x149 < (x20.length : Int)
           ·
            replace h := of_t hc154 h
            refine WC.condTe rfl (decide_eq_true hc154) ?_
            refine WC.skip ?_
            refine QK.thenN (hK153 _ _ ?_)
            refine WC.seq fun K155 hK155 => ?_
            refine WC.block ?_
            refine WC.seqRegion fun K156 hK156 => ?_
            refine WL.yld (by decide) (Yld.move rfl) ?_
            refine WL.yld (by decide) (Yld.assign rfl) ?_
            refine WL.done (hK156 _ _ ?_)
            refine WC.seqRegion fun K157 hK157 => ?_
            obtain ⟨x158, hx158, h⟩ := bnd h
            obtain ⟨x162, hx162, h⟩ := bnd h
            refine WL.yld (by decide) (Yld.move rfl) ?_
            refine WL.yld (by decide) (Yld.move rfl) ?_
            obtain ⟨⟨_, r_159_0, r_159_1⟩, hr160, rfl, hq161_0, hq161_1⟩ := Rels.idx hq148 hx158
            refine WL.yld (by decide) (Yld.idxC (xs := rs147) sty_27 rfl rfl (RdH.own (k := 116) rfl) hr160) ?_
            refine WL.yld (by decide) (Yld.loadA (xs := rs147) agg_42 rfl (RdH.own (k := 116) rfl) hr160 rfl) ?_
            refine WL.eff (by decide) (Eff.callS 263 rfl Try.func22 nm_22 rfl rfl (fun w hb hh => w_history_Op_open (Mem.snap w) x158.fClient x158.fKind x158.fKey x158.fCookie r_159_0.A r_159_0.n r_159_0.c _ (RdH.sn (RdH.memM (k := 0) rfl hq161_0) w hb hh) r_159_1.A r_159_1.n r_159_1.c _ (RdH.sn (RdH.memM (k := 0) rfl hq161_1) w hb hh) x158.fCall x158.fReturn x158.fClosed x158.fResult hx162)) ?_
            rintro _ _ ⟨_, ⟨rfl, rfl⟩, rfl⟩
            refine WL.done (hK157 _ _ ?_)
            by_cases hc164 : x162 = true
            ·
             replace h := of_t hc164 h
             refine WC.condTe rfl hc164 ?_
             refine WC.region fun K165 hK165 => ?_
             obtain ⟨x166, hx166, h⟩ := bnd h
             obtain ⟨x170, hx170, h⟩ := bnd h
             obtain ⟨x171, hx171, h⟩ := bnd h
             refine WL.yld (by decide) (Yld.move rfl) ?_
             refine WL.yld (by decide) (Yld.move rfl) ?_
             refine WL.yld (by decide) (Yld.move rfl) ?_
             obtain ⟨⟨_, r_167_0, r_167_1⟩, hr168, rfl, hq169_0, hq169_1⟩ := Rels.idx hq148 hx166
             refine WL.yld (by decide) (Yld.idxC (xs := rs147) sty_27 rfl rfl (RdH.own (k := 116) rfl) hr168) ?_
             refine WL.yld (by decide) (Yld.fieldAddrC Try.underlying42 rfl nz_3 rfl rfl) ?_
             obtain ⟨⟨_, r_172_0, r_172_1⟩, hr173, rfl, hq174_0, hq174_1⟩ := Rels.idx hq148 hx170
             obtain ⟨hu175, hq176⟩ := Rels.upd (r := (Rhistory_Op.mk ({ x170 with fClosed := x23 } : Shistory_Op) r_172_0 r_172_1)) hq148 hx171 ⟨rfl, hq174_0, hq174_1⟩
             refine WL.eff0 (Eff0.storeC 116 (xs := rs147) (j := 8) (a := (Rhistory_Op.mk x170 r_172_0 r_172_1)) (a' := (Rhistory_Op.mk ({ x170 with fClosed := x23 } : Shistory_Op) r_172_0 r_172_1)) siz_3 rfl rfl rfl rfl hr173 rfl rfl hu175) ?_
             refine WL.done (hK165 _ _ ?_)
             refine QK.blockN ?_
             refine QK.thenN (hK155 _ _ ?_)
             refine WC.region fun K177 hK177 => ?_
             obtain ⟨x178, hx178, h⟩ := bnd h
             refine WL.yld (by decide) (Yld.addC rfl rfl hx178) ?_
             refine WL.yld (by decide) (Yld.move rfl) ?_
             refine WL.done (hK177 _ _ ?_)
             refine QK.thenN ?_
             refine hK151 ⟨q150, x171, (rs147.set (x149).toNat (Rhistory_Op.mk ({ x170 with fClosed := x23 } : Shistory_Op) r_172_0 r_172_1)), x178⟩ _ _ ?_ (Nat.lt_succ_self _) (Sub.cons rfl (Sub.cons rfl (Sub.cons rfl (Sub.cons rfl (Sub.cons rfl (Sub.cons rfl (Sub.cons rfl (Sub.nil _)))))))) (Sub.cons rfl (Sub.cons rfl (Sub.nil _)))
             exact ⟨h, hq176⟩
            ·
             replace h := of_f hc164 h
             refine WC.condFe rfl (Bool.eq_false_iff.2 hc164) ?_
             refine WC.skip ?_
             refine QK.blockN ?_
             refine QK.thenN (hK155 _ _ ?_)
             refine WC.region fun K179 hK179 => ?_
             obtain ⟨x180, hx180, h⟩ := bnd h
             refine WL.yld (by decide) (Yld.addC rfl rfl hx180) ?_
             refine WL.yld (by decide) (Yld.move rfl) ?_
             refine WL.done (hK179 _ _ ?_)
             refine QK.thenN ?_
             refine hK151 ⟨q150, x146, rs147, x180⟩ _ _ ?_ (Nat.lt_succ_self _) (Sub.cons rfl (Sub.cons rfl (Sub.cons rfl (Sub.cons rfl (Sub.cons rfl (Sub.cons rfl (Sub.cons rfl (Sub.nil _)))))))) (Sub.cons rfl (Sub.cons rfl (Sub.nil _)))
             exact ⟨h, hq148⟩
           ·
            replace h := of_f hc154 h
            refine WC.condFe rfl (decide_eq_false hc154) ?_
            refine WC.exit (QK.thenE (QK.thenE (QK.blockX ?_)))
            refine QK.blockN ?_
            refine QK.blockN ?_
            refine QK.thenN ?_
            refine hK36 ⟨M14, A17, n18, c19, x146, rs147⟩ _ _ ?_ (Sub.cons rfl (Sub.cons rfl (Sub.cons rfl (Sub.cons rfl (Sub.nil _))))) (Sub.cons rfl (Sub.cons rfl (Sub.nil _)))
            exact ⟨h, (Ext.refl _ _), hq148⟩
         ·
          replace h := of_f hc144 h
          refine WC.condFe rfl (beq_eq_false_iff_ne.2 hc144) ?_
          refine WC.seqRegion fun K181 hK181 => ?_
          refine WL.yld (by decide) (Yld.assign rfl) ?_
          refine WL.yld (by decide) (Yld.assign rfl) ?_
          refine WL.done (hK181 _ _ ?_)
          refine WC.ret (QK.blockR (QK.blockR (QK.thenR (QK.thenR (QK.blockR (QK.thenR ?_))))))
          refine QK.nilOwn 282 42 (Lay.sz Rhistory_Op) none ?_
          injection h with h; subst h
          exact Ret.fn [282] (ResIs.two rfl rfl rfl) rfl hm_M14 rfl (by decide) rfl rfl ⟨none, 0, 0, ([] : List Rhistory_Op), rfl, rfl, (Rels.nil (R := rel_history_Op M14))⟩
    ·
     rintro ⟨M29, A30, n31, c32, x33, rs34⟩ ⟨h, hm_M29, hq35⟩
     unfold m_history_Build_j2 at h
     refine WC.region fun K183 hK183 => ?_
     obtain ⟨x184, hx184, h⟩ := bnd h
     refine WL.yld (by decide) (Yld.addC rfl rfl hx184) ?_
     refine WL.yld (by decide) (Yld.move rfl) ?_
     refine WL.done (hK183 _ _ ?_)
     refine QK.thenN ?_
     refine hK25 ⟨q24, M29, A30, n31, c32, x33, rs34, x184⟩ _ _ ?_ (Nat.lt_succ_self _) (Sub.cons rfl (Sub.cons rfl (Sub.cons rfl (Sub.cons rfl (Sub.nil _))))) (Sub.cons rfl (Sub.cons rfl (Sub.nil _)))
     exact ⟨h, (Ext.trans hm_M14 hm_M29), hq35⟩
   ·
    replace h := of_f hc28 h
    refine WC.condFe rfl (decide_eq_false hc28) ?_
    refine WC.exit (QK.thenE (QK.thenE (QK.blockX ?_)))
    refine QK.thenN ?_
    refine KK.move 116 105 rfl rfl ?_
    refine hK12 ⟨M14, A17, n18, c19, x20, rs21⟩ _ _ ?_ (Sub.cons rfl (Sub.nil _)) (Sub.cons rfl (Sub.cons rfl (Sub.nil _)))
    exact ⟨h, hm_M14, hq22⟩
 ·
  rintro ⟨M3, A6, n7, c8, x9, rs10⟩ ⟨h, hm_M3, hq11⟩
  unfold m_history_Build_j0 at h
  refine WC.seqRegion fun K185 hK185 => ?_
  refine WL.yld (by decide) (Yld.move rfl) ?_
  refine WL.yld (by decide) (Yld.assign rfl) ?_
  refine WL.yld (by decide) (Yld.assign rfl) ?_
  refine WL.done (hK185 _ _ ?_)
  refine WC.ret ?_
  injection h with h; subst h
  exact Ret.fn [105] (ResIs.two rfl rfl rfl) rfl hm_M3 rfl (by decide) rfl rfl ⟨A6, n7, c8, rs10, rfl, rfl, hq11⟩

end Go.Proofs.Ytpebhdepmbnjbaa
