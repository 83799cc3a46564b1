/-
 Walks (g5): what a function's model gives, the function returns. Printed by a program of ours (vcm.py) from the function's operations. Conditions: as each theorem says.
-/
import Derived.Test.YtnbcphofimicdaaWkf
import Derived.Test.YtnbcphofimicdaaMdg5
namespace Go.Proofs.Ytnbcphofimicdaa
open Go Go.RowKit
set_option linter.unusedVariables false

theorem nm_15 : (Try.f15.name == "runtime.NumGoroutine") = false := by kernel_rfl
theorem nm_16 : (Try.f16.name == "runtime.NumGoroutine") = false := by kernel_rfl
theorem nm_22 : (Try.f22.name == "runtime.NumGoroutine") = false := by kernel_rfl

set_option maxRecDepth 10000 in
theorem w_law04_RsAnyFour (M0 : Mem) (A00 : Option Addr) (n00 c00 : Nat) (x00 : List (BitVec 8)) (hf00 : SlT M0 A00 n00 c00 x00) (x01 : Int) (x02 : Int) (x03 : Int) (A04 : Option Addr) (n04 c04 : Nat) (rs04 : List Hdr) (x04 : List (List (BitVec 8))) (hf04 : SlT M0 A04 n04 c04 rs04) (hq04 : Rels ((RelB (α := BitVec 8)) M0) rs04 x04) {res : Bool} (h : m_law04_RsAnyFour x00 x01 x02 x03 x04 = some res) :
  Fn Try.prog 8 #[.slice A00 n00 c00, I64 x01, I64 x02, I64 x03, .slice A04 n04 c04] M0 fun r M' es => r = .bool res ∧ es = [] := by
 refine Fn.intro (N := 101) Try.func8 rfl rfl (Nat.le_of_ble_eq_true rfl) fun w0 => ?_
 unfold m_law04_RsAnyFour at h
 refine WC.seqRegion fun K1 hK1 => ?_
 refine WL.yld (by decide) (Yld.assign rfl) ?_
 refine WL.done (hK1 _ _ ?_)
 refine WC.seqRegion fun K2 hK2 => ?_
 obtain ⟨x3, hx3, h⟩ := bnd h
 refine WL.yld (by decide) (Yld.move rfl) ?_
 refine WL.yld (by decide) (Yld.move rfl) ?_
 refine WL.eff (by decide) (Eff.callM 109 rfl Try.func22 nm_22 rfl rfl rfl (w_law04_full _ A00 n00 c00 _ hf00 x01 hx3)) ?_
 rintro _ _ ⟨M15, _, ⟨A16, n17, c18, rs19, rfl, rfl, hq20⟩, hm_M15, rfl⟩
 refine WL.yld (by decide) (Yld.move rfl) ?_
 refine WL.yld (by decide) (Yld.extract rfl rfl) ?_
 refine WL.yld (by decide) (Yld.extract rfl rfl) ?_
 refine WL.yld (by decide) (Yld.assign rfl) ?_
 refine WL.yld (by decide) (Yld.assign rfl) ?_
 refine WL.done (hK2 _ _ ?_)
 refine WC.seqCut (σ := Unit) (fun _ => [(2, I64 x02), (3, I64 x03), (4, .slice A04 n04 c04), (11, .slice A16 n17 c18)]) (fun _ => [(0, .mem M15), (109, .own 22 (Lay.sz Hdr) A16 n17 c18 (cel rs19))]) (fun _ => m_law04_RsAnyFour_j0 x02 x03 x04 x3 = some res) (fun K21 hK21 => ?_) ?_
 ·
  skip
  refine WC.seqRegion fun K22 hK22 => ?_
  by_cases hc23 : x3.2 = true
  ·
   replace h := of_t hc23 h
   obtain ⟨x24, hx24, h⟩ := bnd h
   refine WL.yld (by decide) (Yld.move rfl) ?_
   refine WL.yld (by decide) (Yld.notB rfl) ?_
   refine WL.yld (by decide) (Yld.move rfl) ?_
   refine WL.new (v' := .bool false) (congrArg Value.bool (not_f hc23)) ?_
   refine WL.yldG (by decide) rfl (Yld.move rfl) ?_
   refine WL.effG (by decide) rfl (Eff.callS 125 rfl Try.func16 nm_16 rfl rfl (fun w hb hh => w_law04_light (Mem.snap w) A04 n04 c04 rs04 _ (RdH.sn (RdH.memM (k := 0) rfl (SlRc.lift hf04 hm_M15)) w hb hh) (Rels.sn (Rels.lift hq04 hm_M15) (hh.sat 0 _ rfl)) hx24)) ?_
   rintro _ _ ⟨_, ⟨rfl, rfl⟩, rfl⟩
   refine WL.yldG (by decide) rfl (Yld.notB rfl) ?_
   refine WL.yld (by decide) (Yld.pickF rfl rfl) ?_
   refine WL.done (hK22 _ _ ?_)
   by_cases hc26 : x24 = true
   ·
    replace h := of_t hc26 h
    refine WC.condFe rfl (not_f hc26) ?_
    refine WC.skip ?_
    refine QK.thenN ?_
    refine hK21 () _ _ ?_ (Sub.cons rfl (Sub.cons rfl (Sub.cons rfl (Sub.cons rfl (Sub.nil _))))) (Sub.cons rfl (Sub.cons rfl (Sub.nil _)))
    exact h
   ·
    replace h := of_f hc26 h
    refine WC.condTe rfl (not_t (Bool.eq_false_iff.2 hc26)) ?_
    refine WC.seqRegion fun K27 hK27 => ?_
    obtain ⟨x28, hx28, h⟩ := bnd h
    by_cases hc30 : x28 = true
    ·
     replace h := of_t hc30 h
     refine WL.yld (by decide) (Yld.move rfl) ?_
     refine WL.eff (by decide) (Eff.callS 129 rfl Try.func16 nm_16 rfl rfl (fun w hb hh => w_law04_light (Mem.snap w) A04 n04 c04 rs04 _ (RdH.sn (RdH.memM (k := 0) rfl (SlRc.lift hf04 hm_M15)) w hb hh) (Rels.sn (Rels.lift hq04 hm_M15) (hh.sat 0 _ rfl)) hx28)) ?_
     rintro _ _ ⟨_, ⟨rfl, rfl⟩, rfl⟩
     refine WL.yld (by decide) (Yld.notB rfl) ?_
     refine WL.yld (by decide) (Yld.move rfl) ?_
     refine WL.new (v' := .bool false) (congrArg Value.bool (not_f hc30)) ?_
     refine WL.skip (by decide) rfl rfl ?_
     refine WL.yld (by decide) (Yld.pickF rfl rfl) ?_
     refine WL.yld (by decide) (Yld.assign rfl) ?_
     refine WL.done (hK27 _ _ ?_)
     refine WC.ret (QK.thenR ?_)
     injection h with h; subst h
     exact Ret.fn [] (ResIs.one rfl rfl) rfl hm_M15 rfl (by decide) rfl rfl ⟨rfl, rfl⟩
    ·
     replace h := of_f hc30 h
     obtain ⟨x31, hx31, h⟩ := bnd h
     refine WL.yld (by decide) (Yld.move rfl) ?_
     refine WL.eff (by decide) (Eff.callS 129 rfl Try.func16 nm_16 rfl rfl (fun w hb hh => w_law04_light (Mem.snap w) A04 n04 c04 rs04 _ (RdH.sn (RdH.memM (k := 0) rfl (SlRc.lift hf04 hm_M15)) w hb hh) (Rels.sn (Rels.lift hq04 hm_M15) (hh.sat 0 _ rfl)) hx28)) ?_
     rintro _ _ ⟨_, ⟨rfl, rfl⟩, rfl⟩
     refine WL.yld (by decide) (Yld.notB rfl) ?_
     refine WL.yld (by decide) (Yld.move rfl) ?_
     refine WL.new (v' := .bool true) (congrArg Value.bool (not_t (Bool.eq_false_iff.2 hc30))) ?_
     refine WL.effG (by decide) rfl (Eff.callS 132 rfl Try.func15 nm_15 rfl rfl (fun w hb hh => w_law04_awake (Mem.snap w) hx31)) ?_
     rintro _ _ ⟨_, ⟨rfl, rfl⟩, rfl⟩
     refine WL.yld (by decide) (Yld.pickT rfl rfl) ?_
     refine WL.yld (by decide) (Yld.assign rfl) ?_
     refine WL.done (hK27 _ _ ?_)
     refine WC.ret (QK.thenR ?_)
     injection h with h; subst h
     exact Ret.fn [] (ResIs.one rfl rfl) rfl hm_M15 rfl (by decide) rfl rfl ⟨rfl, rfl⟩
  ·
   replace h := of_f hc23 h
   refine WL.yld (by decide) (Yld.move rfl) ?_
   refine WL.yld (by decide) (Yld.notB rfl) ?_
   refine WL.yld (by decide) (Yld.move rfl) ?_
   refine WL.new (v' := .bool true) (congrArg Value.bool (not_t (Bool.eq_false_iff.2 hc23))) ?_
   refine WL.skip (by decide) rfl rfl ?_
   refine WL.skip (by decide) rfl rfl ?_
   refine WL.skip (by decide) rfl rfl ?_
   refine WL.yld (by decide) (Yld.pickT rfl rfl) ?_
   refine WL.done (hK22 _ _ ?_)
   refine WC.condT rfl ?_
   refine WC.seqRegion fun K33 hK33 => ?_
   obtain ⟨x34, hx34, h⟩ := bnd h
   by_cases hc36 : x34 = true
   ·
    replace h := of_t hc36 h
    refine WL.yld (by decide) (Yld.move rfl) ?_
    refine WL.eff (by decide) (Eff.callS 135 rfl Try.func16 nm_16 rfl rfl (fun w hb hh => w_law04_light (Mem.snap w) A04 n04 c04 rs04 _ (RdH.sn (RdH.memM (k := 0) rfl (SlRc.lift hf04 hm_M15)) w hb hh) (Rels.sn (Rels.lift hq04 hm_M15) (hh.sat 0 _ rfl)) hx34)) ?_
    rintro _ _ ⟨_, ⟨rfl, rfl⟩, rfl⟩
    refine WL.yld (by decide) (Yld.notB rfl) ?_
    refine WL.yld (by decide) (Yld.move rfl) ?_
    refine WL.new (v' := .bool false) (congrArg Value.bool (not_f hc36)) ?_
    refine WL.skip (by decide) rfl rfl ?_
    refine WL.yld (by decide) (Yld.pickF rfl rfl) ?_
    refine WL.yld (by decide) (Yld.assign rfl) ?_
    refine WL.done (hK33 _ _ ?_)
    refine WC.ret (QK.thenR ?_)
    injection h with h; subst h
    exact Ret.fn [] (ResIs.one rfl rfl) rfl hm_M15 rfl (by decide) rfl rfl ⟨rfl, rfl⟩
   ·
    replace h := of_f hc36 h
    obtain ⟨x37, hx37, h⟩ := bnd h
    refine WL.yld (by decide) (Yld.move rfl) ?_
    refine WL.eff (by decide) (Eff.callS 135 rfl Try.func16 nm_16 rfl rfl (fun w hb hh => w_law04_light (Mem.snap w) A04 n04 c04 rs04 _ (RdH.sn (RdH.memM (k := 0) rfl (SlRc.lift hf04 hm_M15)) w hb hh) (Rels.sn (Rels.lift hq04 hm_M15) (hh.sat 0 _ rfl)) hx34)) ?_
    rintro _ _ ⟨_, ⟨rfl, rfl⟩, rfl⟩
    refine WL.yld (by decide) (Yld.notB rfl) ?_
    refine WL.yld (by decide) (Yld.move rfl) ?_
    refine WL.new (v' := .bool true) (congrArg Value.bool (not_t (Bool.eq_false_iff.2 hc36))) ?_
    refine WL.effG (by decide) rfl (Eff.callS 138 rfl Try.func15 nm_15 rfl rfl (fun w hb hh => w_law04_awake (Mem.snap w) hx37)) ?_
    rintro _ _ ⟨_, ⟨rfl, rfl⟩, rfl⟩
    refine WL.yld (by decide) (Yld.pickT rfl rfl) ?_
    refine WL.yld (by decide) (Yld.assign rfl) ?_
    refine WL.done (hK33 _ _ ?_)
    refine WC.ret (QK.thenR ?_)
    injection h with h; subst h
    exact Ret.fn [] (ResIs.one rfl rfl) rfl hm_M15 rfl (by decide) rfl rfl ⟨rfl, rfl⟩
 ·
  rintro _ h
  unfold m_law04_RsAnyFour_j0 at h
  refine WC.seqRegion fun K39 hK39 => ?_
  obtain ⟨x40, hx40, h⟩ := bnd h
  obtain ⟨x41, hx41, h⟩ := bnd h
  obtain ⟨x42, hx42, h⟩ := bnd h
  refine WL.yld (by decide) (Yld.move rfl) ?_
  refine WL.yld (by decide) (Yld.remC rfl rfl hx40) ?_
  refine WL.yld (by decide) (Yld.addC rfl rfl hx41) ?_
  refine WL.yld (by decide) (Yld.remC rfl rfl hx42) ?_
  refine WL.yld (by decide) (Yld.assign rfl) ?_
  refine WL.done (hK39 _ _ ?_)
  refine WC.seqRegion fun K43 hK43 => ?_
  obtain ⟨x44, hx44, h⟩ := bnd h
  obtain ⟨x45, hx45, h⟩ := bnd h
  obtain ⟨x46, hx46, h⟩ := bnd h
  obtain ⟨x47, hx47, h⟩ := bnd h
  obtain ⟨x48, hx48, h⟩ := bnd h
  obtain ⟨x49, hx49, h⟩ := bnd h
  refine WL.yld (by decide) (Yld.move rfl) ?_
  refine WL.yld (by decide) (Yld.addC rfl rfl hx44) ?_
  refine WL.yld (by decide) (Yld.move rfl) ?_
  refine WL.yld (by decide) (Yld.remC rfl rfl hx45) ?_
  refine WL.yld (by decide) (Yld.addC rfl rfl hx46) ?_
  refine WL.yld (by decide) (Yld.remC rfl rfl hx47) ?_
  refine WL.yld (by decide) (Yld.addC rfl rfl hx48) ?_
  refine WL.yld (by decide) (Yld.remC rfl rfl hx49) ?_
  refine WL.yld (by decide) (Yld.assign rfl) ?_
  refine WL.done (hK43 _ _ ?_)
  refine WC.seqRegion fun K50 hK50 => ?_
  refine WL.eff (by decide) (Eff.buildC 151 ([true, true, true, true, true, true] : List (Bool)) sty_36 rfl rfl rfl rfl rfl (by decide)) ?_
  rintro _ _ ⟨g51, rfl, rfl⟩
  refine WL.yld (by decide) (Yld.assign rfl) ?_
  refine WL.done (hK50 _ _ ?_)
  refine WC.seqRegion fun K52 hK52 => ?_
  obtain ⟨x53, hx53, h⟩ := bnd h
  obtain ⟨x54, hx54, h⟩ := bnd h
  obtain ⟨x55, hx55, h⟩ := bnd h
  obtain ⟨x56, hx56, h⟩ := bnd h
  refine WL.yld (by decide) (Yld.move rfl) ?_
  refine WL.yld (by decide) (Yld.move rfl) ?_
  refine WL.yld (by decide) (Yld.move rfl) ?_
  refine WL.yld (by decide) (Yld.move rfl) ?_
  refine WL.yld (by decide) (Yld.idxC (xs := ([true, true, true, true, true, true] : List (Bool))) sty_36 rfl rfl (RdH.own (k := 151) rfl) hx53) ?_
  refine WL.eff0 (Eff0.storeC1 151 (xs := ([true, true, true, true, true, true] : List (Bool))) (a' := false) siz_4 rfl rfl rfl rfl rfl rfl hx54) ?_
  refine WL.yld (by decide) (Yld.idxC (xs := x54) sty_36 rfl rfl (RdH.own (k := 151) rfl) hx55) ?_
  refine WL.eff0 (Eff0.storeC1 151 (xs := x54) (a' := false) siz_4 rfl rfl rfl rfl rfl rfl hx56) ?_
  refine WL.done (hK52 _ _ ?_)
  refine WC.seqRegion fun K57 hK57 => ?_
  obtain ⟨x60, hx60, h⟩ := bnd h
  have hq59 : Rels ((RelB (α := BitVec 8)) M15) ([] : List Hdr) ([] : List (List (BitVec 8))) := Rels.nil
  refine WL.eff (by decide) (Eff.buildC 158 ([] : List Hdr) sty_35 rfl rfl rfl rfl rfl (by decide)) ?_
  rintro _ _ ⟨g58, rfl, rfl⟩
  refine WL.yld (by decide) (Yld.move rfl) ?_
  obtain ⟨hu63, hq64⟩ := Rels.apd hq59 hq20 hx60
  refine WL.eff (by decide) (Eff.appendC 158 (xs := ([] : List Hdr)) (ys := rs19) sty_35 rfl rfl rfl (RdH.own (k := 109) rfl) hu63) ?_
  rintro _ _ ⟨A61, c62, rfl, rfl⟩
  refine WL.yld (by decide) (Yld.assign rfl) ?_
  refine WL.done (hK57 _ _ ?_)
  refine WC.seqRegion fun K65 hK65 => ?_
  obtain ⟨x66, hx66, h⟩ := bnd h
  obtain ⟨x70, hx70, h⟩ := bnd h
  obtain ⟨x73, hx73, h⟩ := bnd h
  obtain ⟨x77, hx77, h⟩ := bnd h
  refine WL.yld (by decide) (Yld.move rfl) ?_
  refine WL.yld (by decide) (Yld.move rfl) ?_
  refine WL.yld (by decide) (Yld.move rfl) ?_
  refine WL.yld (by decide) (Yld.move rfl) ?_
  obtain ⟨r_67, hr68, hq69⟩ := Rels.idx hq64 hx66
  refine WL.yld (by decide) (Yld.idxC (xs := (([] : List Hdr) ++ rs19)) sty_35 rfl rfl (RdH.own (k := 158) rfl) hr68) ?_
  obtain ⟨hu71, hq72⟩ := Rels.upd (r := (⟨none, 0, 0⟩ : Hdr)) hq64 hx70 SlT.nil
  refine WL.eff0 (Eff0.storeC1 158 (xs := (([] : List Hdr) ++ rs19)) (a' := (⟨none, 0, 0⟩ : Hdr)) siz_22 rfl rfl rfl rfl rfl rfl hu71) ?_
  obtain ⟨r_74, hr75, hq76⟩ := Rels.idx hq72 hx73
  refine WL.yld (by decide) (Yld.idxC (xs := ((([] : List Hdr) ++ rs19).set (x42).toNat (⟨none, 0, 0⟩ : Hdr))) sty_35 rfl rfl (RdH.own (k := 158) rfl) hr75) ?_
  obtain ⟨hu78, hq79⟩ := Rels.upd (r := (⟨none, 0, 0⟩ : Hdr)) hq72 hx77 SlT.nil
  refine WL.eff0 (Eff0.storeC1 158 (xs := ((([] : List Hdr) ++ rs19).set (x42).toNat (⟨none, 0, 0⟩ : Hdr))) (a' := (⟨none, 0, 0⟩ : Hdr)) siz_22 rfl rfl rfl rfl rfl rfl hu78) ?_
  refine WL.done (hK65 _ _ ?_)
  refine WC.seq fun K80 hK80 => ?_
  refine WC.seqRegion fun K81 hK81 => ?_
  refine WL.yld (by decide) (Yld.move rfl) ?_
  refine WL.yld (by decide) (Yld.lenD (rs := rs04) (xs := x04) (Rels.len (Rels.lift hq04 hm_M15)) und_35 rfl (RdH.memM (k := 0) rfl (SlRc.lift hf04 hm_M15))) ?_
  refine WL.yld (by decide) (Yld.gtr rfl rfl) ?_
  refine WL.done (hK81 _ _ ?_)
  by_cases hc82 : (1 : Int) < (x04.length : Int)
  ·
   replace h := of_t hc82 h
   refine WC.condTe rfl (decide_eq_true hc82) ?_
   refine WC.regionD (n := 14) [(109, _), (151, _)] rfl mixed (Sub.cons rfl (Sub.cons rfl (Sub.nil _))) fun K83 hK83 => ?_
   obtain ⟨x84, hx84, h⟩ := bnd h
   obtain ⟨x88, hx88, h⟩ := bnd h
   obtain ⟨x92, hx92, h⟩ := bnd h
   obtain ⟨x96, hx96, h⟩ := bnd h
   obtain ⟨x99, hx99, h⟩ := bnd h
   obtain ⟨x103, hx103, h⟩ := bnd h
   refine WD.take 0 rfl (by kernel_rfl) (by kernel_rfl) (by kernel_rfl) (by decide) (Yld.move rfl) ?_
   refine WD.take 1 rfl (by kernel_rfl) (by kernel_rfl) (by kernel_rfl) (by decide) (Yld.move rfl) ?_
   refine WD.take 2 rfl (by kernel_rfl) (by kernel_rfl) (by kernel_rfl) (by decide) (Yld.move rfl) ?_
   refine WD.take 3 rfl (by kernel_rfl) (by kernel_rfl) (by kernel_rfl) (by decide) (Yld.move rfl) ?_
   refine WD.take 4 rfl (by kernel_rfl) (by kernel_rfl) (by kernel_rfl) (by decide) (Yld.move rfl) ?_
   refine WD.take 7 rfl (by kernel_rfl) (by kernel_rfl) (by kernel_rfl) (by decide) (Yld.move rfl) ?_
   refine WD.two 5 8 (by kernel_rfl) ?_ ?_
   ·
    skip
    obtain ⟨r_85, hr86, hq87⟩ := Rels.idx (Rels.lift hq04 hm_M15) hx84
    refine WS.yld rfl (by decide) (Yld.idxC (xs := rs04) sty_35 rfl rfl (RdH.memM (k := 0) rfl (SlRc.lift hf04 hm_M15)) hr86) ?_
    refine WD.two 6 8 (by kernel_rfl) ?_ ?_
    ·
     skip
     refine WS.yld rfl (by decide) (Yld.loadC0 (xs := rs04) scal_22 rfl (RdH.memM (k := 0) rfl (SlRc.lift hf04 hm_M15)) hr86 rfl) ?_
     refine WD.one 8 (by kernel_rfl) ?_
     obtain ⟨r_89, hr90, hq91⟩ := Rels.idx (Rels.lift hq04 hm_M15) hx88
     refine WS.yld rfl (by decide) (Yld.idxC (xs := rs04) sty_35 rfl rfl (RdH.memM (k := 0) rfl (SlRc.lift hf04 hm_M15)) hr90) ?_
     refine WD.one 9 (by kernel_rfl) ?_
     refine WS.yld rfl (by decide) (Yld.loadC0 (xs := rs04) scal_22 rfl (RdH.memM (k := 0) rfl (SlRc.lift hf04 hm_M15)) hr90 rfl) ?_
     refine WD.one 10 (by kernel_rfl) ?_
     obtain ⟨r_93, hr94, hq95⟩ := Rels.idx hq79 hx92
     refine WS.yld rfl (by decide) (Yld.idxC (xs := (((([] : List Hdr) ++ rs19).set (x42).toNat (⟨none, 0, 0⟩ : Hdr)).set (x49).toNat (⟨none, 0, 0⟩ : Hdr))) sty_35 rfl rfl (RdH.own (k := 158) rfl) hr94) ?_
     refine WD.one 11 (by kernel_rfl) ?_
     obtain ⟨hu97, hq98⟩ := Rels.upd (r := (⟨r_85.A, r_85.n, r_85.c⟩ : Hdr)) hq79 hx96 hq87
     refine WS.eff0 rfl (Eff0.storeC1 158 (xs := (((([] : List Hdr) ++ rs19).set (x42).toNat (⟨none, 0, 0⟩ : Hdr)).set (x49).toNat (⟨none, 0, 0⟩ : Hdr))) (a' := (⟨r_85.A, r_85.n, r_85.c⟩ : Hdr)) siz_22 rfl rfl rfl rfl rfl rfl hu97) (Sub.cons rfl (Sub.cons rfl (Sub.nil _))) ?_
     refine WD.one 12 (by kernel_rfl) ?_
     obtain ⟨r_100, hr101, hq102⟩ := Rels.idx hq98 hx99
     refine WS.yld rfl (by decide) (Yld.idxC (xs := ((((([] : List Hdr) ++ rs19).set (x42).toNat (⟨none, 0, 0⟩ : Hdr)).set (x49).toNat (⟨none, 0, 0⟩ : Hdr)).set (x42).toNat (⟨r_85.A, r_85.n, r_85.c⟩ : Hdr))) sty_35 rfl rfl (RdH.own (k := 158) rfl) hr101) ?_
     refine WD.one 13 (by kernel_rfl) ?_
     obtain ⟨hu104, hq105⟩ := Rels.upd (r := (⟨r_89.A, r_89.n, r_89.c⟩ : Hdr)) hq98 hx103 hq91
     refine WS.eff0 rfl (Eff0.storeC1 158 (xs := ((((([] : List Hdr) ++ rs19).set (x42).toNat (⟨none, 0, 0⟩ : Hdr)).set (x49).toNat (⟨none, 0, 0⟩ : Hdr)).set (x42).toNat (⟨r_85.A, r_85.n, r_85.c⟩ : Hdr))) (a' := (⟨r_89.A, r_89.n, r_89.c⟩ : Hdr)) siz_22 rfl rfl rfl rfl rfl rfl hu104) (Sub.cons rfl (Sub.cons rfl (Sub.nil _))) ?_
     refine WD.done (by kernel_rfl) (hK83 _ _ ?_)
     refine QK.thenN (hK80 _ _ ?_)
     refine WC.seqRegion fun K106 hK106 => ?_
     obtain ⟨x107, hx107, h⟩ := bnd h
     refine WL.yld (by decide) (Yld.move rfl) ?_
     refine WL.yld (by decide) (Yld.move rfl) ?_
     refine WL.freeze 158 rfl rfl rfl fun M119 hm_M119 hf120 => ?_
     refine WL.freeze 151 rfl rfl rfl fun M121 hm_M121 hf122 => ?_
     refine WL.eff (by decide) (Eff.callM 213 rfl Try.func19 nm_19 rfl rfl rfl (w_rs_Restore _ A61 ((([] : List Hdr) ++ rs19).length) c62 (((((([] : List Hdr) ++ rs19).set (x42).toNat (⟨none, 0, 0⟩ : Hdr)).set (x49).toNat (⟨none, 0, 0⟩ : Hdr)).set (x42).toNat (⟨r_85.A, r_85.n, r_85.c⟩ : Hdr)).set (x49).toNat (⟨r_89.A, r_89.n, r_89.c⟩ : Hdr)) _ (SlRc.lift hf120 hm_M121) (Rels.lift (Rels.lift hq105 hm_M119) hm_M121) (some ⟨g51, 0, none⟩) (([true, true, true, true, true, true] : List (Bool)).length) (([true, true, true, true, true, true] : List (Bool)).length) _ hf122 hx107)) ?_
     rintro _ _ ⟨M123, _, ⟨A124, n125, c126, rs127, rfl, rfl, hq128⟩, hm_M123, rfl⟩
     refine WL.yld (by decide) (Yld.move rfl) ?_
     refine WL.yld (by decide) (Yld.extract rfl rfl) ?_
     refine WL.yld (by decide) (Yld.extract rfl rfl) ?_
     refine WL.yld (by decide) (Yld.assign rfl) ?_
     refine WL.yld (by decide) (Yld.assign rfl) ?_
     refine WL.done (hK106 _ _ ?_)
     refine WC.seqRegion fun K129 hK129 => ?_
     by_cases hc130 : x107.2 = (0 : Int)
     ·
      replace h := of_t hc130 h
      obtain ⟨x131, hx131, h⟩ := bnd h
      by_cases hc133 : x131 = true
      ·
       replace h := of_t hc133 h
       obtain ⟨x134, hx134, h⟩ := bnd h
       by_cases hc136 : x134 = true
       ·
        replace h := of_t hc136 h
        obtain ⟨x137, hx137, h⟩ := bnd h
        refine WL.yld (by decide) (Yld.move rfl) ?_
        refine WL.yld (by decide) (Yld.eqlI rfl rfl) ?_
        refine WL.yld (by decide) (Yld.move rfl) ?_
        refine WL.new (v' := .bool true) (congrArg Value.bool (beq_iff_eq.2 hc130)) ?_
        refine WL.yldG (by decide) rfl (Yld.move rfl) ?_
        refine WL.yldG (by decide) rfl (Yld.move rfl) ?_
        refine WL.effG (by decide) rfl (Eff.callS 232 rfl Try.func21 nm_21 rfl rfl (fun w hb hh => w_r03_SameRows (Mem.snap w) A124 n125 c126 rs127 _ (RdH.sn (RdH.own (k := 213) rfl) w hb hh) (Rels.sn hq128 (hh.sat 0 _ rfl)) A16 n17 c18 rs19 _ (RdH.sn (RdH.own (k := 109) rfl) w hb hh) (Rels.sn (Rels.lift (Rels.lift (Rels.lift hq20 hm_M119) hm_M121) hm_M123) (hh.sat 0 _ rfl)) hx131)) ?_
        rintro _ _ ⟨_, ⟨rfl, rfl⟩, rfl⟩
        refine WL.yld (by decide) (Yld.pickT rfl rfl) ?_
        refine WL.yld (by decide) (Yld.move rfl) ?_
        refine WL.new (v' := .bool true) (congrArg Value.bool hc133) ?_
        refine WL.yldG (by decide) rfl (Yld.move rfl) ?_
        refine WL.effG (by decide) rfl (Eff.callS 235 rfl Try.func24 nm_24 rfl rfl (fun w hb hh => w_rs_Verify (Mem.snap w) A124 n125 c126 rs127 _ (RdH.sn (RdH.own (k := 213) rfl) w hb hh) (Rels.sn hq128 (hh.sat 0 _ rfl)) hx134)) ?_
        rintro _ _ ⟨_, ⟨rfl, rfl⟩, rfl⟩
        refine WL.yld (by decide) (Yld.pickT rfl rfl) ?_
        refine WL.yld (by decide) (Yld.move rfl) ?_
        refine WL.new (v' := .bool true) (congrArg Value.bool hc136) ?_
        refine WL.effG (by decide) rfl (Eff.callS 238 rfl Try.func15 nm_15 rfl rfl (fun w hb hh => w_law04_awake (Mem.snap w) hx137)) ?_
        rintro _ _ ⟨_, ⟨rfl, rfl⟩, rfl⟩
        refine WL.yld (by decide) (Yld.pickT rfl rfl) ?_
        refine WL.yld (by decide) (Yld.assign rfl) ?_
        refine WL.done (hK129 _ _ ?_)
        refine WC.ret ?_
        injection h with h; subst h
        exact Ret.fn [] (ResIs.one rfl rfl) rfl (Ext.trans (Ext.trans (Ext.trans hm_M15 hm_M119) hm_M121) hm_M123) rfl (by decide) rfl rfl ⟨rfl, rfl⟩
       ·
        replace h := of_f hc136 h
        refine WL.yld (by decide) (Yld.move rfl) ?_
        refine WL.yld (by decide) (Yld.eqlI rfl rfl) ?_
        refine WL.yld (by decide) (Yld.move rfl) ?_
        refine WL.new (v' := .bool true) (congrArg Value.bool (beq_iff_eq.2 hc130)) ?_
        refine WL.yldG (by decide) rfl (Yld.move rfl) ?_
        refine WL.yldG (by decide) rfl (Yld.move rfl) ?_
        refine WL.effG (by decide) rfl (Eff.callS 232 rfl Try.func21 nm_21 rfl rfl (fun w hb hh => w_r03_SameRows (Mem.snap w) A124 n125 c126 rs127 _ (RdH.sn (RdH.own (k := 213) rfl) w hb hh) (Rels.sn hq128 (hh.sat 0 _ rfl)) A16 n17 c18 rs19 _ (RdH.sn (RdH.own (k := 109) rfl) w hb hh) (Rels.sn (Rels.lift (Rels.lift (Rels.lift hq20 hm_M119) hm_M121) hm_M123) (hh.sat 0 _ rfl)) hx131)) ?_
        rintro _ _ ⟨_, ⟨rfl, rfl⟩, rfl⟩
        refine WL.yld (by decide) (Yld.pickT rfl rfl) ?_
        refine WL.yld (by decide) (Yld.move rfl) ?_
        refine WL.new (v' := .bool true) (congrArg Value.bool hc133) ?_
        refine WL.yldG (by decide) rfl (Yld.move rfl) ?_
        refine WL.effG (by decide) rfl (Eff.callS 235 rfl Try.func24 nm_24 rfl rfl (fun w hb hh => w_rs_Verify (Mem.snap w) A124 n125 c126 rs127 _ (RdH.sn (RdH.own (k := 213) rfl) w hb hh) (Rels.sn hq128 (hh.sat 0 _ rfl)) hx134)) ?_
        rintro _ _ ⟨_, ⟨rfl, rfl⟩, rfl⟩
        refine WL.yld (by decide) (Yld.pickT rfl rfl) ?_
        refine WL.yld (by decide) (Yld.move rfl) ?_
        refine WL.new (v' := .bool false) (congrArg Value.bool (Bool.eq_false_iff.2 hc136)) ?_
        refine WL.skip (by decide) rfl rfl ?_
        refine WL.yld (by decide) (Yld.pickF rfl rfl) ?_
        refine WL.yld (by decide) (Yld.assign rfl) ?_
        refine WL.done (hK129 _ _ ?_)
        refine WC.ret ?_
        injection h with h; subst h
        exact Ret.fn [] (ResIs.one rfl rfl) rfl (Ext.trans (Ext.trans (Ext.trans hm_M15 hm_M119) hm_M121) hm_M123) rfl (by decide) rfl rfl ⟨rfl, rfl⟩
      ·
       replace h := of_f hc133 h
       refine WL.yld (by decide) (Yld.move rfl) ?_
       refine WL.yld (by decide) (Yld.eqlI rfl rfl) ?_
       refine WL.yld (by decide) (Yld.move rfl) ?_
       refine WL.new (v' := .bool true) (congrArg Value.bool (beq_iff_eq.2 hc130)) ?_
       refine WL.yldG (by decide) rfl (Yld.move rfl) ?_
       refine WL.yldG (by decide) rfl (Yld.move rfl) ?_
       refine WL.effG (by decide) rfl (Eff.callS 232 rfl Try.func21 nm_21 rfl rfl (fun w hb hh => w_r03_SameRows (Mem.snap w) A124 n125 c126 rs127 _ (RdH.sn (RdH.own (k := 213) rfl) w hb hh) (Rels.sn hq128 (hh.sat 0 _ rfl)) A16 n17 c18 rs19 _ (RdH.sn (RdH.own (k := 109) rfl) w hb hh) (Rels.sn (Rels.lift (Rels.lift (Rels.lift hq20 hm_M119) hm_M121) hm_M123) (hh.sat 0 _ rfl)) hx131)) ?_
       rintro _ _ ⟨_, ⟨rfl, rfl⟩, rfl⟩
       refine WL.yld (by decide) (Yld.pickT rfl rfl) ?_
       refine WL.yld (by decide) (Yld.move rfl) ?_
       refine WL.new (v' := .bool false) (congrArg Value.bool (Bool.eq_false_iff.2 hc133)) ?_
       refine WL.skip (by decide) rfl rfl ?_
       refine WL.skip (by decide) rfl rfl ?_
       refine WL.yld (by decide) (Yld.pickF rfl rfl) ?_
       refine WL.yld (by decide) (Yld.move rfl) ?_
       refine WL.skip (by decide) rfl rfl ?_
       refine WL.yld (by decide) (Yld.pickF rfl rfl) ?_
       refine WL.yld (by decide) (Yld.assign rfl) ?_
       refine WL.done (hK129 _ _ ?_)
       refine WC.ret ?_
       injection h with h; subst h
       exact Ret.fn [] (ResIs.one rfl rfl) rfl (Ext.trans (Ext.trans (Ext.trans hm_M15 hm_M119) hm_M121) hm_M123) rfl (by decide) rfl rfl ⟨rfl, rfl⟩
     ·
      replace h := of_f hc130 h
      refine WL.yld (by decide) (Yld.move rfl) ?_
      refine WL.yld (by decide) (Yld.eqlI rfl rfl) ?_
      refine WL.yld (by decide) (Yld.move rfl) ?_
      refine WL.new (v' := .bool false) (congrArg Value.bool (beq_eq_false_iff_ne.2 hc130)) ?_
      refine WL.skip (by decide) rfl rfl ?_
      refine WL.skip (by decide) rfl rfl ?_
      refine WL.skip (by decide) rfl rfl ?_
      refine WL.yld (by decide) (Yld.pickF rfl rfl) ?_
      refine WL.yld (by decide) (Yld.move rfl) ?_
      refine WL.skip (by decide) rfl rfl ?_
      refine WL.skip (by decide) rfl rfl ?_
      refine WL.yld (by decide) (Yld.pickF rfl rfl) ?_
      refine WL.yld (by decide) (Yld.move rfl) ?_
      refine WL.skip (by decide) rfl rfl ?_
      refine WL.yld (by decide) (Yld.pickF rfl rfl) ?_
      refine WL.yld (by decide) (Yld.assign rfl) ?_
      refine WL.done (hK129 _ _ ?_)
      refine WC.ret ?_
      injection h with h; subst h
      exact Ret.fn [] (ResIs.one rfl rfl) rfl (Ext.trans (Ext.trans (Ext.trans hm_M15 hm_M119) hm_M121) hm_M123) rfl (by decide) rfl rfl ⟨rfl, rfl⟩
    ·
     skip
     obtain ⟨r_89, hr90, hq91⟩ := Rels.idx (Rels.lift hq04 hm_M15) hx88
     refine WS.yld rfl (by decide) (Yld.idxC (xs := rs04) sty_35 rfl rfl (RdH.memM (k := 0) rfl (SlRc.lift hf04 hm_M15)) hr90) ?_
     refine WD.two 6 9 (by kernel_rfl) ?_ ?_
     ·
      skip
      refine WS.yld rfl (by decide) (Yld.loadC0 (xs := rs04) scal_22 rfl (RdH.memM (k := 0) rfl (SlRc.lift hf04 hm_M15)) hr86 rfl) ?_
      refine WD.one 9 (by kernel_rfl) ?_
      refine WS.yld rfl (by decide) (Yld.loadC0 (xs := rs04) scal_22 rfl (RdH.memM (k := 0) rfl (SlRc.lift hf04 hm_M15)) hr90 rfl) ?_
      refine WD.one 10 (by kernel_rfl) ?_
      obtain ⟨r_93, hr94, hq95⟩ := Rels.idx hq79 hx92
      refine WS.yld rfl (by decide) (Yld.idxC (xs := (((([] : List Hdr) ++ rs19).set (x42).toNat (⟨none, 0, 0⟩ : Hdr)).set (x49).toNat (⟨none, 0, 0⟩ : Hdr))) sty_35 rfl rfl (RdH.own (k := 158) rfl) hr94) ?_
      refine WD.one 11 (by kernel_rfl) ?_
      obtain ⟨hu97, hq98⟩ := Rels.upd (r := (⟨r_85.A, r_85.n, r_85.c⟩ : Hdr)) hq79 hx96 hq87
      refine WS.eff0 rfl (Eff0.storeC1 158 (xs := (((([] : List Hdr) ++ rs19).set (x42).toNat (⟨none, 0, 0⟩ : Hdr)).set (x49).toNat (⟨none, 0, 0⟩ : Hdr))) (a' := (⟨r_85.A, r_85.n, r_85.c⟩ : Hdr)) siz_22 rfl rfl rfl rfl rfl rfl hu97) (Sub.cons rfl (Sub.cons rfl (Sub.nil _))) ?_
      refine WD.one 12 (by kernel_rfl) ?_
      obtain ⟨r_100, hr101, hq102⟩ := Rels.idx hq98 hx99
      refine WS.yld rfl (by decide) (Yld.idxC (xs := ((((([] : List Hdr) ++ rs19).set (x42).toNat (⟨none, 0, 0⟩ : Hdr)).set (x49).toNat (⟨none, 0, 0⟩ : Hdr)).set (x42).toNat (⟨r_85.A, r_85.n, r_85.c⟩ : Hdr))) sty_35 rfl rfl (RdH.own (k := 158) rfl) hr101) ?_
      refine WD.one 13 (by kernel_rfl) ?_
      obtain ⟨hu104, hq105⟩ := Rels.upd (r := (⟨r_89.A, r_89.n, r_89.c⟩ : Hdr)) hq98 hx103 hq91
      refine WS.eff0 rfl (Eff0.storeC1 158 (xs := ((((([] : List Hdr) ++ rs19).set (x42).toNat (⟨none, 0, 0⟩ : Hdr)).set (x49).toNat (⟨none, 0, 0⟩ : Hdr)).set (x42).toNat (⟨r_85.A, r_85.n, r_85.c⟩ : Hdr))) (a' := (⟨r_89.A, r_89.n, r_89.c⟩ : Hdr)) siz_22 rfl rfl rfl rfl rfl rfl hu104) (Sub.cons rfl (Sub.cons rfl (Sub.nil _))) ?_
      refine WD.done (by kernel_rfl) (hK83 _ _ ?_)
      refine QK.thenN (hK80 _ _ ?_)
      refine WC.seqRegion fun K139 hK139 => ?_
      obtain ⟨x140, hx140, h⟩ := bnd h
      refine WL.yld (by decide) (Yld.move rfl) ?_
      refine WL.yld (by decide) (Yld.move rfl) ?_
      refine WL.freeze 158 rfl rfl rfl fun M152 hm_M152 hf153 => ?_
      refine WL.freeze 151 rfl rfl rfl fun M154 hm_M154 hf155 => ?_
      refine WL.eff (by decide) (Eff.callM 246 rfl Try.func19 nm_19 rfl rfl rfl (w_rs_Restore _ A61 ((([] : List Hdr) ++ rs19).length) c62 (((((([] : List Hdr) ++ rs19).set (x42).toNat (⟨none, 0, 0⟩ : Hdr)).set (x49).toNat (⟨none, 0, 0⟩ : Hdr)).set (x42).toNat (⟨r_85.A, r_85.n, r_85.c⟩ : Hdr)).set (x49).toNat (⟨r_89.A, r_89.n, r_89.c⟩ : Hdr)) _ (SlRc.lift hf153 hm_M154) (Rels.lift (Rels.lift hq105 hm_M152) hm_M154) (some ⟨g51, 0, none⟩) (([true, true, true, true, true, true] : List (Bool)).length) (([true, true, true, true, true, true] : List (Bool)).length) _ hf155 hx140)) ?_
      rintro _ _ ⟨M156, _, ⟨A157, n158, c159, rs160, rfl, rfl, hq161⟩, hm_M156, rfl⟩
      refine WL.yld (by decide) (Yld.move rfl) ?_
      refine WL.yld (by decide) (Yld.extract rfl rfl) ?_
      refine WL.yld (by decide) (Yld.extract rfl rfl) ?_
      refine WL.yld (by decide) (Yld.assign rfl) ?_
      refine WL.yld (by decide) (Yld.assign rfl) ?_
      refine WL.done (hK139 _ _ ?_)
      refine WC.seqRegion fun K162 hK162 => ?_
      by_cases hc163 : x140.2 = (0 : Int)
      ·
       replace h := of_t hc163 h
       obtain ⟨x164, hx164, h⟩ := bnd h
       by_cases hc166 : x164 = true
       ·
        replace h := of_t hc166 h
        obtain ⟨x167, hx167, h⟩ := bnd h
        by_cases hc169 : x167 = true
        ·
         replace h := of_t hc169 h
         obtain ⟨x170, hx170, h⟩ := bnd h
         refine WL.yld (by decide) (Yld.move rfl) ?_
         refine WL.yld (by decide) (Yld.eqlI rfl rfl) ?_
         refine WL.yld (by decide) (Yld.move rfl) ?_
         refine WL.new (v' := .bool true) (congrArg Value.bool (beq_iff_eq.2 hc163)) ?_
         refine WL.yldG (by decide) rfl (Yld.move rfl) ?_
         refine WL.yldG (by decide) rfl (Yld.move rfl) ?_
         refine WL.effG (by decide) rfl (Eff.callS 265 rfl Try.func21 nm_21 rfl rfl (fun w hb hh => w_r03_SameRows (Mem.snap w) A157 n158 c159 rs160 _ (RdH.sn (RdH.own (k := 246) rfl) w hb hh) (Rels.sn hq161 (hh.sat 0 _ rfl)) A16 n17 c18 rs19 _ (RdH.sn (RdH.own (k := 109) rfl) w hb hh) (Rels.sn (Rels.lift (Rels.lift (Rels.lift hq20 hm_M152) hm_M154) hm_M156) (hh.sat 0 _ rfl)) hx164)) ?_
         rintro _ _ ⟨_, ⟨rfl, rfl⟩, rfl⟩
         refine WL.yld (by decide) (Yld.pickT rfl rfl) ?_
         refine WL.yld (by decide) (Yld.move rfl) ?_
         refine WL.new (v' := .bool true) (congrArg Value.bool hc166) ?_
         refine WL.yldG (by decide) rfl (Yld.move rfl) ?_
         refine WL.effG (by decide) rfl (Eff.callS 268 rfl Try.func24 nm_24 rfl rfl (fun w hb hh => w_rs_Verify (Mem.snap w) A157 n158 c159 rs160 _ (RdH.sn (RdH.own (k := 246) rfl) w hb hh) (Rels.sn hq161 (hh.sat 0 _ rfl)) hx167)) ?_
         rintro _ _ ⟨_, ⟨rfl, rfl⟩, rfl⟩
         refine WL.yld (by decide) (Yld.pickT rfl rfl) ?_
         refine WL.yld (by decide) (Yld.move rfl) ?_
         refine WL.new (v' := .bool true) (congrArg Value.bool hc169) ?_
         refine WL.effG (by decide) rfl (Eff.callS 271 rfl Try.func15 nm_15 rfl rfl (fun w hb hh => w_law04_awake (Mem.snap w) hx170)) ?_
         rintro _ _ ⟨_, ⟨rfl, rfl⟩, rfl⟩
         refine WL.yld (by decide) (Yld.pickT rfl rfl) ?_
         refine WL.yld (by decide) (Yld.assign rfl) ?_
         refine WL.done (hK162 _ _ ?_)
         refine WC.ret ?_
         injection h with h; subst h
         exact Ret.fn [] (ResIs.one rfl rfl) rfl (Ext.trans (Ext.trans (Ext.trans hm_M15 hm_M152) hm_M154) hm_M156) rfl (by decide) rfl rfl ⟨rfl, rfl⟩
        ·
         replace h := of_f hc169 h
         refine WL.yld (by decide) (Yld.move rfl) ?_
         refine WL.yld (by decide) (Yld.eqlI rfl rfl) ?_
         refine WL.yld (by decide) (Yld.move rfl) ?_
         refine WL.new (v' := .bool true) (congrArg Value.bool (beq_iff_eq.2 hc163)) ?_
         refine WL.yldG (by decide) rfl (Yld.move rfl) ?_
         refine WL.yldG (by decide) rfl (Yld.move rfl) ?_
         refine WL.effG (by decide) rfl (Eff.callS 265 rfl Try.func21 nm_21 rfl rfl (fun w hb hh => w_r03_SameRows (Mem.snap w) A157 n158 c159 rs160 _ (RdH.sn (RdH.own (k := 246) rfl) w hb hh) (Rels.sn hq161 (hh.sat 0 _ rfl)) A16 n17 c18 rs19 _ (RdH.sn (RdH.own (k := 109) rfl) w hb hh) (Rels.sn (Rels.lift (Rels.lift (Rels.lift hq20 hm_M152) hm_M154) hm_M156) (hh.sat 0 _ rfl)) hx164)) ?_
         rintro _ _ ⟨_, ⟨rfl, rfl⟩, rfl⟩
         refine WL.yld (by decide) (Yld.pickT rfl rfl) ?_
         refine WL.yld (by decide) (Yld.move rfl) ?_
         refine WL.new (v' := .bool true) (congrArg Value.bool hc166) ?_
         refine WL.yldG (by decide) rfl (Yld.move rfl) ?_
         refine WL.effG (by decide) rfl (Eff.callS 268 rfl Try.func24 nm_24 rfl rfl (fun w hb hh => w_rs_Verify (Mem.snap w) A157 n158 c159 rs160 _ (RdH.sn (RdH.own (k := 246) rfl) w hb hh) (Rels.sn hq161 (hh.sat 0 _ rfl)) hx167)) ?_
         rintro _ _ ⟨_, ⟨rfl, rfl⟩, rfl⟩
         refine WL.yld (by decide) (Yld.pickT rfl rfl) ?_
         refine WL.yld (by decide) (Yld.move rfl) ?_
         refine WL.new (v' := .bool false) (congrArg Value.bool (Bool.eq_false_iff.2 hc169)) ?_
         refine WL.skip (by decide) rfl rfl ?_
         refine WL.yld (by decide) (Yld.pickF rfl rfl) ?_
         refine WL.yld (by decide) (Yld.assign rfl) ?_
         refine WL.done (hK162 _ _ ?_)
         refine WC.ret ?_
         injection h with h; subst h
         exact Ret.fn [] (ResIs.one rfl rfl) rfl (Ext.trans (Ext.trans (Ext.trans hm_M15 hm_M152) hm_M154) hm_M156) rfl (by decide) rfl rfl ⟨rfl, rfl⟩
       ·
        replace h := of_f hc166 h
        refine WL.yld (by decide) (Yld.move rfl) ?_
        refine WL.yld (by decide) (Yld.eqlI rfl rfl) ?_
        refine WL.yld (by decide) (Yld.move rfl) ?_
        refine WL.new (v' := .bool true) (congrArg Value.bool (beq_iff_eq.2 hc163)) ?_
        refine WL.yldG (by decide) rfl (Yld.move rfl) ?_
        refine WL.yldG (by decide) rfl (Yld.move rfl) ?_
        refine WL.effG (by decide) rfl (Eff.callS 265 rfl Try.func21 nm_21 rfl rfl (fun w hb hh => w_r03_SameRows (Mem.snap w) A157 n158 c159 rs160 _ (RdH.sn (RdH.own (k := 246) rfl) w hb hh) (Rels.sn hq161 (hh.sat 0 _ rfl)) A16 n17 c18 rs19 _ (RdH.sn (RdH.own (k := 109) rfl) w hb hh) (Rels.sn (Rels.lift (Rels.lift (Rels.lift hq20 hm_M152) hm_M154) hm_M156) (hh.sat 0 _ rfl)) hx164)) ?_
        rintro _ _ ⟨_, ⟨rfl, rfl⟩, rfl⟩
        refine WL.yld (by decide) (Yld.pickT rfl rfl) ?_
        refine WL.yld (by decide) (Yld.move rfl) ?_
        refine WL.new (v' := .bool false) (congrArg Value.bool (Bool.eq_false_iff.2 hc166)) ?_
        refine WL.skip (by decide) rfl rfl ?_
        refine WL.skip (by decide) rfl rfl ?_
        refine WL.yld (by decide) (Yld.pickF rfl rfl) ?_
        refine WL.yld (by decide) (Yld.move rfl) ?_
        refine WL.skip (by decide) rfl rfl ?_
        refine WL.yld (by decide) (Yld.pickF rfl rfl) ?_
        refine WL.yld (by decide) (Yld.assign rfl) ?_
        refine WL.done (hK162 _ _ ?_)
        refine WC.ret ?_
        injection h with h; subst h
        exact Ret.fn [] (ResIs.one rfl rfl) rfl (Ext.trans (Ext.trans (Ext.trans hm_M15 hm_M152) hm_M154) hm_M156) rfl (by decide) rfl rfl ⟨rfl, rfl⟩
      ·
       replace h := of_f hc163 h
       refine WL.yld (by decide) (Yld.move rfl) ?_
       refine WL.yld (by decide) (Yld.eqlI rfl rfl) ?_
       refine WL.yld (by decide) (Yld.move rfl) ?_
       refine WL.new (v' := .bool false) (congrArg Value.bool (beq_eq_false_iff_ne.2 hc163)) ?_
       refine WL.skip (by decide) rfl rfl ?_
       refine WL.skip (by decide) rfl rfl ?_
       refine WL.skip (by decide) rfl rfl ?_
       refine WL.yld (by decide) (Yld.pickF rfl rfl) ?_
       refine WL.yld (by decide) (Yld.move rfl) ?_
       refine WL.skip (by decide) rfl rfl ?_
       refine WL.skip (by decide) rfl rfl ?_
       refine WL.yld (by decide) (Yld.pickF rfl rfl) ?_
       refine WL.yld (by decide) (Yld.move rfl) ?_
       refine WL.skip (by decide) rfl rfl ?_
       refine WL.yld (by decide) (Yld.pickF rfl rfl) ?_
       refine WL.yld (by decide) (Yld.assign rfl) ?_
       refine WL.done (hK162 _ _ ?_)
       refine WC.ret ?_
       injection h with h; subst h
       exact Ret.fn [] (ResIs.one rfl rfl) rfl (Ext.trans (Ext.trans (Ext.trans hm_M15 hm_M152) hm_M154) hm_M156) rfl (by decide) rfl rfl ⟨rfl, rfl⟩
     ·
      skip
      refine WS.yld rfl (by decide) (Yld.loadC0 (xs := rs04) scal_22 rfl (RdH.memM (k := 0) rfl (SlRc.lift hf04 hm_M15)) hr90 rfl) ?_
      refine WD.one 6 (by kernel_rfl) ?_
      refine WS.yld rfl (by decide) (Yld.loadC0 (xs := rs04) scal_22 rfl (RdH.memM (k := 0) rfl (SlRc.lift hf04 hm_M15)) hr86 rfl) ?_
      refine WD.one 10 (by kernel_rfl) ?_
      obtain ⟨r_93, hr94, hq95⟩ := Rels.idx hq79 hx92
      refine WS.yld rfl (by decide) (Yld.idxC (xs := (((([] : List Hdr) ++ rs19).set (x42).toNat (⟨none, 0, 0⟩ : Hdr)).set (x49).toNat (⟨none, 0, 0⟩ : Hdr))) sty_35 rfl rfl (RdH.own (k := 158) rfl) hr94) ?_
      refine WD.one 11 (by kernel_rfl) ?_
      obtain ⟨hu97, hq98⟩ := Rels.upd (r := (⟨r_85.A, r_85.n, r_85.c⟩ : Hdr)) hq79 hx96 hq87
      refine WS.eff0 rfl (Eff0.storeC1 158 (xs := (((([] : List Hdr) ++ rs19).set (x42).toNat (⟨none, 0, 0⟩ : Hdr)).set (x49).toNat (⟨none, 0, 0⟩ : Hdr))) (a' := (⟨r_85.A, r_85.n, r_85.c⟩ : Hdr)) siz_22 rfl rfl rfl rfl rfl rfl hu97) (Sub.cons rfl (Sub.cons rfl (Sub.nil _))) ?_
      refine WD.one 12 (by kernel_rfl) ?_
      obtain ⟨r_100, hr101, hq102⟩ := Rels.idx hq98 hx99
      refine WS.yld rfl (by decide) (Yld.idxC (xs := ((((([] : List Hdr) ++ rs19).set (x42).toNat (⟨none, 0, 0⟩ : Hdr)).set (x49).toNat (⟨none, 0, 0⟩ : Hdr)).set (x42).toNat (⟨r_85.A, r_85.n, r_85.c⟩ : Hdr))) sty_35 rfl rfl (RdH.own (k := 158) rfl) hr101) ?_
      refine WD.one 13 (by kernel_rfl) ?_
      obtain ⟨hu104, hq105⟩ := Rels.upd (r := (⟨r_89.A, r_89.n, r_89.c⟩ : Hdr)) hq98 hx103 hq91
      refine WS.eff0 rfl (Eff0.storeC1 158 (xs := ((((([] : List Hdr) ++ rs19).set (x42).toNat (⟨none, 0, 0⟩ : Hdr)).set (x49).toNat (⟨none, 0, 0⟩ : Hdr)).set (x42).toNat (⟨r_85.A, r_85.n, r_85.c⟩ : Hdr))) (a' := (⟨r_89.A, r_89.n, r_89.c⟩ : Hdr)) siz_22 rfl rfl rfl rfl rfl rfl hu104) (Sub.cons rfl (Sub.cons rfl (Sub.nil _))) ?_
      refine WD.done (by kernel_rfl) (hK83 _ _ ?_)
      refine QK.thenN (hK80 _ _ ?_)
      refine WC.seqRegion fun K172 hK172 => ?_
      obtain ⟨x173, hx173, h⟩ := bnd h
      refine WL.yld (by decide) (Yld.move rfl) ?_
      refine WL.yld (by decide) (Yld.move rfl) ?_
      refine WL.freeze 158 rfl rfl rfl fun M185 hm_M185 hf186 => ?_
      refine WL.freeze 151 rfl rfl rfl fun M187 hm_M187 hf188 => ?_
      refine WL.eff (by decide) (Eff.callM 279 rfl Try.func19 nm_19 rfl rfl rfl (w_rs_Restore _ A61 ((([] : List Hdr) ++ rs19).length) c62 (((((([] : List Hdr) ++ rs19).set (x42).toNat (⟨none, 0, 0⟩ : Hdr)).set (x49).toNat (⟨none, 0, 0⟩ : Hdr)).set (x42).toNat (⟨r_85.A, r_85.n, r_85.c⟩ : Hdr)).set (x49).toNat (⟨r_89.A, r_89.n, r_89.c⟩ : Hdr)) _ (SlRc.lift hf186 hm_M187) (Rels.lift (Rels.lift hq105 hm_M185) hm_M187) (some ⟨g51, 0, none⟩) (([true, true, true, true, true, true] : List (Bool)).length) (([true, true, true, true, true, true] : List (Bool)).length) _ hf188 hx173)) ?_
      rintro _ _ ⟨M189, _, ⟨A190, n191, c192, rs193, rfl, rfl, hq194⟩, hm_M189, rfl⟩
      refine WL.yld (by decide) (Yld.move rfl) ?_
      refine WL.yld (by decide) (Yld.extract rfl rfl) ?_
      refine WL.yld (by decide) (Yld.extract rfl rfl) ?_
      refine WL.yld (by decide) (Yld.assign rfl) ?_
      refine WL.yld (by decide) (Yld.assign rfl) ?_
      refine WL.done (hK172 _ _ ?_)
      refine WC.seqRegion fun K195 hK195 => ?_
      by_cases hc196 : x173.2 = (0 : Int)
      ·
       replace h := of_t hc196 h
       obtain ⟨x197, hx197, h⟩ := bnd h
       by_cases hc199 : x197 = true
       ·
        replace h := of_t hc199 h
        obtain ⟨x200, hx200, h⟩ := bnd h
        by_cases hc202 : x200 = true
        ·
         replace h := of_t hc202 h
         obtain ⟨x203, hx203, h⟩ := bnd h
         refine WL.yld (by decide) (Yld.move rfl) ?_
         refine WL.yld (by decide) (Yld.eqlI rfl rfl) ?_
         refine WL.yld (by decide) (Yld.move rfl) ?_
         refine WL.new (v' := .bool true) (congrArg Value.bool (beq_iff_eq.2 hc196)) ?_
         refine WL.yldG (by decide) rfl (Yld.move rfl) ?_
         refine WL.yldG (by decide) rfl (Yld.move rfl) ?_
         refine WL.effG (by decide) rfl (Eff.callS 298 rfl Try.func21 nm_21 rfl rfl (fun w hb hh => w_r03_SameRows (Mem.snap w) A190 n191 c192 rs193 _ (RdH.sn (RdH.own (k := 279) rfl) w hb hh) (Rels.sn hq194 (hh.sat 0 _ rfl)) A16 n17 c18 rs19 _ (RdH.sn (RdH.own (k := 109) rfl) w hb hh) (Rels.sn (Rels.lift (Rels.lift (Rels.lift hq20 hm_M185) hm_M187) hm_M189) (hh.sat 0 _ rfl)) hx197)) ?_
         rintro _ _ ⟨_, ⟨rfl, rfl⟩, rfl⟩
         refine WL.yld (by decide) (Yld.pickT rfl rfl) ?_
         refine WL.yld (by decide) (Yld.move rfl) ?_
         refine WL.new (v' := .bool true) (congrArg Value.bool hc199) ?_
         refine WL.yldG (by decide) rfl (Yld.move rfl) ?_
         refine WL.effG (by decide) rfl (Eff.callS 301 rfl Try.func24 nm_24 rfl rfl (fun w hb hh => w_rs_Verify (Mem.snap w) A190 n191 c192 rs193 _ (RdH.sn (RdH.own (k := 279) rfl) w hb hh) (Rels.sn hq194 (hh.sat 0 _ rfl)) hx200)) ?_
         rintro _ _ ⟨_, ⟨rfl, rfl⟩, rfl⟩
         refine WL.yld (by decide) (Yld.pickT rfl rfl) ?_
         refine WL.yld (by decide) (Yld.move rfl) ?_
         refine WL.new (v' := .bool true) (congrArg Value.bool hc202) ?_
         refine WL.effG (by decide) rfl (Eff.callS 304 rfl Try.func15 nm_15 rfl rfl (fun w hb hh => w_law04_awake (Mem.snap w) hx203)) ?_
         rintro _ _ ⟨_, ⟨rfl, rfl⟩, rfl⟩
         refine WL.yld (by decide) (Yld.pickT rfl rfl) ?_
         refine WL.yld (by decide) (Yld.assign rfl) ?_
         refine WL.done (hK195 _ _ ?_)
         refine WC.ret ?_
         injection h with h; subst h
         exact Ret.fn [] (ResIs.one rfl rfl) rfl (Ext.trans (Ext.trans (Ext.trans hm_M15 hm_M185) hm_M187) hm_M189) rfl (by decide) rfl rfl ⟨rfl, rfl⟩
        ·
         replace h := of_f hc202 h
         refine WL.yld (by decide) (Yld.move rfl) ?_
         refine WL.yld (by decide) (Yld.eqlI rfl rfl) ?_
         refine WL.yld (by decide) (Yld.move rfl) ?_
         refine WL.new (v' := .bool true) (congrArg Value.bool (beq_iff_eq.2 hc196)) ?_
         refine WL.yldG (by decide) rfl (Yld.move rfl) ?_
         refine WL.yldG (by decide) rfl (Yld.move rfl) ?_
         refine WL.effG (by decide) rfl (Eff.callS 298 rfl Try.func21 nm_21 rfl rfl (fun w hb hh => w_r03_SameRows (Mem.snap w) A190 n191 c192 rs193 _ (RdH.sn (RdH.own (k := 279) rfl) w hb hh) (Rels.sn hq194 (hh.sat 0 _ rfl)) A16 n17 c18 rs19 _ (RdH.sn (RdH.own (k := 109) rfl) w hb hh) (Rels.sn (Rels.lift (Rels.lift (Rels.lift hq20 hm_M185) hm_M187) hm_M189) (hh.sat 0 _ rfl)) hx197)) ?_
         rintro _ _ ⟨_, ⟨rfl, rfl⟩, rfl⟩
         refine WL.yld (by decide) (Yld.pickT rfl rfl) ?_
         refine WL.yld (by decide) (Yld.move rfl) ?_
         refine WL.new (v' := .bool true) (congrArg Value.bool hc199) ?_
         refine WL.yldG (by decide) rfl (Yld.move rfl) ?_
         refine WL.effG (by decide) rfl (Eff.callS 301 rfl Try.func24 nm_24 rfl rfl (fun w hb hh => w_rs_Verify (Mem.snap w) A190 n191 c192 rs193 _ (RdH.sn (RdH.own (k := 279) rfl) w hb hh) (Rels.sn hq194 (hh.sat 0 _ rfl)) hx200)) ?_
         rintro _ _ ⟨_, ⟨rfl, rfl⟩, rfl⟩
         refine WL.yld (by decide) (Yld.pickT rfl rfl) ?_
         refine WL.yld (by decide) (Yld.move rfl) ?_
         refine WL.new (v' := .bool false) (congrArg Value.bool (Bool.eq_false_iff.2 hc202)) ?_
         refine WL.skip (by decide) rfl rfl ?_
         refine WL.yld (by decide) (Yld.pickF rfl rfl) ?_
         refine WL.yld (by decide) (Yld.assign rfl) ?_
         refine WL.done (hK195 _ _ ?_)
         refine WC.ret ?_
         injection h with h; subst h
         exact Ret.fn [] (ResIs.one rfl rfl) rfl (Ext.trans (Ext.trans (Ext.trans hm_M15 hm_M185) hm_M187) hm_M189) rfl (by decide) rfl rfl ⟨rfl, rfl⟩
       ·
        replace h := of_f hc199 h
        refine WL.yld (by decide) (Yld.move rfl) ?_
        refine WL.yld (by decide) (Yld.eqlI rfl rfl) ?_
        refine WL.yld (by decide) (Yld.move rfl) ?_
        refine WL.new (v' := .bool true) (congrArg Value.bool (beq_iff_eq.2 hc196)) ?_
        refine WL.yldG (by decide) rfl (Yld.move rfl) ?_
        refine WL.yldG (by decide) rfl (Yld.move rfl) ?_
        refine WL.effG (by decide) rfl (Eff.callS 298 rfl Try.func21 nm_21 rfl rfl (fun w hb hh => w_r03_SameRows (Mem.snap w) A190 n191 c192 rs193 _ (RdH.sn (RdH.own (k := 279) rfl) w hb hh) (Rels.sn hq194 (hh.sat 0 _ rfl)) A16 n17 c18 rs19 _ (RdH.sn (RdH.own (k := 109) rfl) w hb hh) (Rels.sn (Rels.lift (Rels.lift (Rels.lift hq20 hm_M185) hm_M187) hm_M189) (hh.sat 0 _ rfl)) hx197)) ?_
        rintro _ _ ⟨_, ⟨rfl, rfl⟩, rfl⟩
        refine WL.yld (by decide) (Yld.pickT rfl rfl) ?_
        refine WL.yld (by decide) (Yld.move rfl) ?_
        refine WL.new (v' := .bool false) (congrArg Value.bool (Bool.eq_false_iff.2 hc199)) ?_
        refine WL.skip (by decide) rfl rfl ?_
        refine WL.skip (by decide) rfl rfl ?_
        refine WL.yld (by decide) (Yld.pickF rfl rfl) ?_
        refine WL.yld (by decide) (Yld.move rfl) ?_
        refine WL.skip (by decide) rfl rfl ?_
        refine WL.yld (by decide) (Yld.pickF rfl rfl) ?_
        refine WL.yld (by decide) (Yld.assign rfl) ?_
        refine WL.done (hK195 _ _ ?_)
        refine WC.ret ?_
        injection h with h; subst h
        exact Ret.fn [] (ResIs.one rfl rfl) rfl (Ext.trans (Ext.trans (Ext.trans hm_M15 hm_M185) hm_M187) hm_M189) rfl (by decide) rfl rfl ⟨rfl, rfl⟩
      ·
       replace h := of_f hc196 h
       refine WL.yld (by decide) (Yld.move rfl) ?_
       refine WL.yld (by decide) (Yld.eqlI rfl rfl) ?_
       refine WL.yld (by decide) (Yld.move rfl) ?_
       refine WL.new (v' := .bool false) (congrArg Value.bool (beq_eq_false_iff_ne.2 hc196)) ?_
       refine WL.skip (by decide) rfl rfl ?_
       refine WL.skip (by decide) rfl rfl ?_
       refine WL.skip (by decide) rfl rfl ?_
       refine WL.yld (by decide) (Yld.pickF rfl rfl) ?_
       refine WL.yld (by decide) (Yld.move rfl) ?_
       refine WL.skip (by decide) rfl rfl ?_
       refine WL.skip (by decide) rfl rfl ?_
       refine WL.yld (by decide) (Yld.pickF rfl rfl) ?_
       refine WL.yld (by decide) (Yld.move rfl) ?_
       refine WL.skip (by decide) rfl rfl ?_
       refine WL.yld (by decide) (Yld.pickF rfl rfl) ?_
       refine WL.yld (by decide) (Yld.assign rfl) ?_
       refine WL.done (hK195 _ _ ?_)
       refine WC.ret ?_
       injection h with h; subst h
       exact Ret.fn [] (ResIs.one rfl rfl) rfl (Ext.trans (Ext.trans (Ext.trans hm_M15 hm_M185) hm_M187) hm_M189) rfl (by decide) rfl rfl ⟨rfl, rfl⟩
   ·
    skip
    obtain ⟨r_89, hr90, hq91⟩ := Rels.idx (Rels.lift hq04 hm_M15) hx88
    refine WS.yld rfl (by decide) (Yld.idxC (xs := rs04) sty_35 rfl rfl (RdH.memM (k := 0) rfl (SlRc.lift hf04 hm_M15)) hr90) ?_
    refine WD.two 5 9 (by kernel_rfl) ?_ ?_
    ·
     skip
     obtain ⟨r_85, hr86, hq87⟩ := Rels.idx (Rels.lift hq04 hm_M15) hx84
     refine WS.yld rfl (by decide) (Yld.idxC (xs := rs04) sty_35 rfl rfl (RdH.memM (k := 0) rfl (SlRc.lift hf04 hm_M15)) hr86) ?_
     refine WD.two 6 9 (by kernel_rfl) ?_ ?_
     ·
      skip
      refine WS.yld rfl (by decide) (Yld.loadC0 (xs := rs04) scal_22 rfl (RdH.memM (k := 0) rfl (SlRc.lift hf04 hm_M15)) hr86 rfl) ?_
      refine WD.one 9 (by kernel_rfl) ?_
      refine WS.yld rfl (by decide) (Yld.loadC0 (xs := rs04) scal_22 rfl (RdH.memM (k := 0) rfl (SlRc.lift hf04 hm_M15)) hr90 rfl) ?_
      refine WD.one 10 (by kernel_rfl) ?_
      obtain ⟨r_93, hr94, hq95⟩ := Rels.idx hq79 hx92
      refine WS.yld rfl (by decide) (Yld.idxC (xs := (((([] : List Hdr) ++ rs19).set (x42).toNat (⟨none, 0, 0⟩ : Hdr)).set (x49).toNat (⟨none, 0, 0⟩ : Hdr))) sty_35 rfl rfl (RdH.own (k := 158) rfl) hr94) ?_
      refine WD.one 11 (by kernel_rfl) ?_
      obtain ⟨hu97, hq98⟩ := Rels.upd (r := (⟨r_85.A, r_85.n, r_85.c⟩ : Hdr)) hq79 hx96 hq87
      refine WS.eff0 rfl (Eff0.storeC1 158 (xs := (((([] : List Hdr) ++ rs19).set (x42).toNat (⟨none, 0, 0⟩ : Hdr)).set (x49).toNat (⟨none, 0, 0⟩ : Hdr))) (a' := (⟨r_85.A, r_85.n, r_85.c⟩ : Hdr)) siz_22 rfl rfl rfl rfl rfl rfl hu97) (Sub.cons rfl (Sub.cons rfl (Sub.nil _))) ?_
      refine WD.one 12 (by kernel_rfl) ?_
      obtain ⟨r_100, hr101, hq102⟩ := Rels.idx hq98 hx99
      refine WS.yld rfl (by decide) (Yld.idxC (xs := ((((([] : List Hdr) ++ rs19).set (x42).toNat (⟨none, 0, 0⟩ : Hdr)).set (x49).toNat (⟨none, 0, 0⟩ : Hdr)).set (x42).toNat (⟨r_85.A, r_85.n, r_85.c⟩ : Hdr))) sty_35 rfl rfl (RdH.own (k := 158) rfl) hr101) ?_
      refine WD.one 13 (by kernel_rfl) ?_
      obtain ⟨hu104, hq105⟩ := Rels.upd (r := (⟨r_89.A, r_89.n, r_89.c⟩ : Hdr)) hq98 hx103 hq91
      refine WS.eff0 rfl (Eff0.storeC1 158 (xs := ((((([] : List Hdr) ++ rs19).set (x42).toNat (⟨none, 0, 0⟩ : Hdr)).set (x49).toNat (⟨none, 0, 0⟩ : Hdr)).set (x42).toNat (⟨r_85.A, r_85.n, r_85.c⟩ : Hdr))) (a' := (⟨r_89.A, r_89.n, r_89.c⟩ : Hdr)) siz_22 rfl rfl rfl rfl rfl rfl hu104) (Sub.cons rfl (Sub.cons rfl (Sub.nil _))) ?_
      refine WD.done (by kernel_rfl) (hK83 _ _ ?_)
      refine QK.thenN (hK80 _ _ ?_)
      refine WC.seqRegion fun K205 hK205 => ?_
      obtain ⟨x206, hx206, h⟩ := bnd h
      refine WL.yld (by decide) (Yld.move rfl) ?_
      refine WL.yld (by decide) (Yld.move rfl) ?_
      refine WL.freeze 158 rfl rfl rfl fun M218 hm_M218 hf219 => ?_
      refine WL.freeze 151 rfl rfl rfl fun M220 hm_M220 hf221 => ?_
      refine WL.eff (by decide) (Eff.callM 312 rfl Try.func19 nm_19 rfl rfl rfl (w_rs_Restore _ A61 ((([] : List Hdr) ++ rs19).length) c62 (((((([] : List Hdr) ++ rs19).set (x42).toNat (⟨none, 0, 0⟩ : Hdr)).set (x49).toNat (⟨none, 0, 0⟩ : Hdr)).set (x42).toNat (⟨r_85.A, r_85.n, r_85.c⟩ : Hdr)).set (x49).toNat (⟨r_89.A, r_89.n, r_89.c⟩ : Hdr)) _ (SlRc.lift hf219 hm_M220) (Rels.lift (Rels.lift hq105 hm_M218) hm_M220) (some ⟨g51, 0, none⟩) (([true, true, true, true, true, true] : List (Bool)).length) (([true, true, true, true, true, true] : List (Bool)).length) _ hf221 hx206)) ?_
      rintro _ _ ⟨M222, _, ⟨A223, n224, c225, rs226, rfl, rfl, hq227⟩, hm_M222, rfl⟩
      refine WL.yld (by decide) (Yld.move rfl) ?_
      refine WL.yld (by decide) (Yld.extract rfl rfl) ?_
      refine WL.yld (by decide) (Yld.extract rfl rfl) ?_
      refine WL.yld (by decide) (Yld.assign rfl) ?_
      refine WL.yld (by decide) (Yld.assign rfl) ?_
      refine WL.done (hK205 _ _ ?_)
      refine WC.seqRegion fun K228 hK228 => ?_
      by_cases hc229 : x206.2 = (0 : Int)
      ·
       replace h := of_t hc229 h
       obtain ⟨x230, hx230, h⟩ := bnd h
       by_cases hc232 : x230 = true
       ·
        replace h := of_t hc232 h
        obtain ⟨x233, hx233, h⟩ := bnd h
        by_cases hc235 : x233 = true
        ·
         replace h := of_t hc235 h
         obtain ⟨x236, hx236, h⟩ := bnd h
         refine WL.yld (by decide) (Yld.move rfl) ?_
         refine WL.yld (by decide) (Yld.eqlI rfl rfl) ?_
         refine WL.yld (by decide) (Yld.move rfl) ?_
         refine WL.new (v' := .bool true) (congrArg Value.bool (beq_iff_eq.2 hc229)) ?_
         refine WL.yldG (by decide) rfl (Yld.move rfl) ?_
         refine WL.yldG (by decide) rfl (Yld.move rfl) ?_
         refine WL.effG (by decide) rfl (Eff.callS 331 rfl Try.func21 nm_21 rfl rfl (fun w hb hh => w_r03_SameRows (Mem.snap w) A223 n224 c225 rs226 _ (RdH.sn (RdH.own (k := 312) rfl) w hb hh) (Rels.sn hq227 (hh.sat 0 _ rfl)) A16 n17 c18 rs19 _ (RdH.sn (RdH.own (k := 109) rfl) w hb hh) (Rels.sn (Rels.lift (Rels.lift (Rels.lift hq20 hm_M218) hm_M220) hm_M222) (hh.sat 0 _ rfl)) hx230)) ?_
         rintro _ _ ⟨_, ⟨rfl, rfl⟩, rfl⟩
         refine WL.yld (by decide) (Yld.pickT rfl rfl) ?_
         refine WL.yld (by decide) (Yld.move rfl) ?_
         refine WL.new (v' := .bool true) (congrArg Value.bool hc232) ?_
         refine WL.yldG (by decide) rfl (Yld.move rfl) ?_
         refine WL.effG (by decide) rfl (Eff.callS 334 rfl Try.func24 nm_24 rfl rfl (fun w hb hh => w_rs_Verify (Mem.snap w) A223 n224 c225 rs226 _ (RdH.sn (RdH.own (k := 312) rfl) w hb hh) (Rels.sn hq227 (hh.sat 0 _ rfl)) hx233)) ?_
         rintro _ _ ⟨_, ⟨rfl, rfl⟩, rfl⟩
         refine WL.yld (by decide) (Yld.pickT rfl rfl) ?_
         refine WL.yld (by decide) (Yld.move rfl) ?_
         refine WL.new (v' := .bool true) (congrArg Value.bool hc235) ?_
         refine WL.effG (by decide) rfl (Eff.callS 337 rfl Try.func15 nm_15 rfl rfl (fun w hb hh => w_law04_awake (Mem.snap w) hx236)) ?_
         rintro _ _ ⟨_, ⟨rfl, rfl⟩, rfl⟩
         refine WL.yld (by decide) (Yld.pickT rfl rfl) ?_
         refine WL.yld (by decide) (Yld.assign rfl) ?_
         refine WL.done (hK228 _ _ ?_)
         refine WC.ret ?_
         injection h with h; subst h
         exact Ret.fn [] (ResIs.one rfl rfl) rfl (Ext.trans (Ext.trans (Ext.trans hm_M15 hm_M218) hm_M220) hm_M222) rfl (by decide) rfl rfl ⟨rfl, rfl⟩
        ·
         replace h := of_f hc235 h
         refine WL.yld (by decide) (Yld.move rfl) ?_
         refine WL.yld (by decide) (Yld.eqlI rfl rfl) ?_
         refine WL.yld (by decide) (Yld.move rfl) ?_
         refine WL.new (v' := .bool true) (congrArg Value.bool (beq_iff_eq.2 hc229)) ?_
         refine WL.yldG (by decide) rfl (Yld.move rfl) ?_
         refine WL.yldG (by decide) rfl (Yld.move rfl) ?_
         refine WL.effG (by decide) rfl (Eff.callS 331 rfl Try.func21 nm_21 rfl rfl (fun w hb hh => w_r03_SameRows (Mem.snap w) A223 n224 c225 rs226 _ (RdH.sn (RdH.own (k := 312) rfl) w hb hh) (Rels.sn hq227 (hh.sat 0 _ rfl)) A16 n17 c18 rs19 _ (RdH.sn (RdH.own (k := 109) rfl) w hb hh) (Rels.sn (Rels.lift (Rels.lift (Rels.lift hq20 hm_M218) hm_M220) hm_M222) (hh.sat 0 _ rfl)) hx230)) ?_
         rintro _ _ ⟨_, ⟨rfl, rfl⟩, rfl⟩
         refine WL.yld (by decide) (Yld.pickT rfl rfl) ?_
         refine WL.yld (by decide) (Yld.move rfl) ?_
         refine WL.new (v' := .bool true) (congrArg Value.bool hc232) ?_
         refine WL.yldG (by decide) rfl (Yld.move rfl) ?_
         refine WL.effG (by decide) rfl (Eff.callS 334 rfl Try.func24 nm_24 rfl rfl (fun w hb hh => w_rs_Verify (Mem.snap w) A223 n224 c225 rs226 _ (RdH.sn (RdH.own (k := 312) rfl) w hb hh) (Rels.sn hq227 (hh.sat 0 _ rfl)) hx233)) ?_
         rintro _ _ ⟨_, ⟨rfl, rfl⟩, rfl⟩
         refine WL.yld (by decide) (Yld.pickT rfl rfl) ?_
         refine WL.yld (by decide) (Yld.move rfl) ?_
         refine WL.new (v' := .bool false) (congrArg Value.bool (Bool.eq_false_iff.2 hc235)) ?_
         refine WL.skip (by decide) rfl rfl ?_
         refine WL.yld (by decide) (Yld.pickF rfl rfl) ?_
         refine WL.yld (by decide) (Yld.assign rfl) ?_
         refine WL.done (hK228 _ _ ?_)
         refine WC.ret ?_
         injection h with h; subst h
         exact Ret.fn [] (ResIs.one rfl rfl) rfl (Ext.trans (Ext.trans (Ext.trans hm_M15 hm_M218) hm_M220) hm_M222) rfl (by decide) rfl rfl ⟨rfl, rfl⟩
       ·
        replace h := of_f hc232 h
        refine WL.yld (by decide) (Yld.move rfl) ?_
        refine WL.yld (by decide) (Yld.eqlI rfl rfl) ?_
        refine WL.yld (by decide) (Yld.move rfl) ?_
        refine WL.new (v' := .bool true) (congrArg Value.bool (beq_iff_eq.2 hc229)) ?_
        refine WL.yldG (by decide) rfl (Yld.move rfl) ?_
        refine WL.yldG (by decide) rfl (Yld.move rfl) ?_
        refine WL.effG (by decide) rfl (Eff.callS 331 rfl Try.func21 nm_21 rfl rfl (fun w hb hh => w_r03_SameRows (Mem.snap w) A223 n224 c225 rs226 _ (RdH.sn (RdH.own (k := 312) rfl) w hb hh) (Rels.sn hq227 (hh.sat 0 _ rfl)) A16 n17 c18 rs19 _ (RdH.sn (RdH.own (k := 109) rfl) w hb hh) (Rels.sn (Rels.lift (Rels.lift (Rels.lift hq20 hm_M218) hm_M220) hm_M222) (hh.sat 0 _ rfl)) hx230)) ?_
        rintro _ _ ⟨_, ⟨rfl, rfl⟩, rfl⟩
        refine WL.yld (by decide) (Yld.pickT rfl rfl) ?_
        refine WL.yld (by decide) (Yld.move rfl) ?_
        refine WL.new (v' := .bool false) (congrArg Value.bool (Bool.eq_false_iff.2 hc232)) ?_
        refine WL.skip (by decide) rfl rfl ?_
        refine WL.skip (by decide) rfl rfl ?_
        refine WL.yld (by decide) (Yld.pickF rfl rfl) ?_
        refine WL.yld (by decide) (Yld.move rfl) ?_
        refine WL.skip (by decide) rfl rfl ?_
        refine WL.yld (by decide) (Yld.pickF rfl rfl) ?_
        refine WL.yld (by decide) (Yld.assign rfl) ?_
        refine WL.done (hK228 _ _ ?_)
        refine WC.ret ?_
        injection h with h; subst h
        exact Ret.fn [] (ResIs.one rfl rfl) rfl (Ext.trans (Ext.trans (Ext.trans hm_M15 hm_M218) hm_M220) hm_M222) rfl (by decide) rfl rfl ⟨rfl, rfl⟩
      ·
       replace h := of_f hc229 h
       refine WL.yld (by decide) (Yld.move rfl) ?_
       refine WL.yld (by decide) (Yld.eqlI rfl rfl) ?_
       refine WL.yld (by decide) (Yld.move rfl) ?_
       refine WL.new (v' := .bool false) (congrArg Value.bool (beq_eq_false_iff_ne.2 hc229)) ?_
       refine WL.skip (by decide) rfl rfl ?_
       refine WL.skip (by decide) rfl rfl ?_
       refine WL.skip (by decide) rfl rfl ?_
       refine WL.yld (by decide) (Yld.pickF rfl rfl) ?_
       refine WL.yld (by decide) (Yld.move rfl) ?_
       refine WL.skip (by decide) rfl rfl ?_
       refine WL.skip (by decide) rfl rfl ?_
       refine WL.yld (by decide) (Yld.pickF rfl rfl) ?_
       refine WL.yld (by decide) (Yld.move rfl) ?_
       refine WL.skip (by decide) rfl rfl ?_
       refine WL.yld (by decide) (Yld.pickF rfl rfl) ?_
       refine WL.yld (by decide) (Yld.assign rfl) ?_
       refine WL.done (hK228 _ _ ?_)
       refine WC.ret ?_
       injection h with h; subst h
       exact Ret.fn [] (ResIs.one rfl rfl) rfl (Ext.trans (Ext.trans (Ext.trans hm_M15 hm_M218) hm_M220) hm_M222) rfl (by decide) rfl rfl ⟨rfl, rfl⟩
     ·
      skip
      refine WS.yld rfl (by decide) (Yld.loadC0 (xs := rs04) scal_22 rfl (RdH.memM (k := 0) rfl (SlRc.lift hf04 hm_M15)) hr90 rfl) ?_
      refine WD.one 6 (by kernel_rfl) ?_
      refine WS.yld rfl (by decide) (Yld.loadC0 (xs := rs04) scal_22 rfl (RdH.memM (k := 0) rfl (SlRc.lift hf04 hm_M15)) hr86 rfl) ?_
      refine WD.one 10 (by kernel_rfl) ?_
      obtain ⟨r_93, hr94, hq95⟩ := Rels.idx hq79 hx92
      refine WS.yld rfl (by decide) (Yld.idxC (xs := (((([] : List Hdr) ++ rs19).set (x42).toNat (⟨none, 0, 0⟩ : Hdr)).set (x49).toNat (⟨none, 0, 0⟩ : Hdr))) sty_35 rfl rfl (RdH.own (k := 158) rfl) hr94) ?_
      refine WD.one 11 (by kernel_rfl) ?_
      obtain ⟨hu97, hq98⟩ := Rels.upd (r := (⟨r_85.A, r_85.n, r_85.c⟩ : Hdr)) hq79 hx96 hq87
      refine WS.eff0 rfl (Eff0.storeC1 158 (xs := (((([] : List Hdr) ++ rs19).set (x42).toNat (⟨none, 0, 0⟩ : Hdr)).set (x49).toNat (⟨none, 0, 0⟩ : Hdr))) (a' := (⟨r_85.A, r_85.n, r_85.c⟩ : Hdr)) siz_22 rfl rfl rfl rfl rfl rfl hu97) (Sub.cons rfl (Sub.cons rfl (Sub.nil _))) ?_
      refine WD.one 12 (by kernel_rfl) ?_
      obtain ⟨r_100, hr101, hq102⟩ := Rels.idx hq98 hx99
      refine WS.yld rfl (by decide) (Yld.idxC (xs := ((((([] : List Hdr) ++ rs19).set (x42).toNat (⟨none, 0, 0⟩ : Hdr)).set (x49).toNat (⟨none, 0, 0⟩ : Hdr)).set (x42).toNat (⟨r_85.A, r_85.n, r_85.c⟩ : Hdr))) sty_35 rfl rfl (RdH.own (k := 158) rfl) hr101) ?_
      refine WD.one 13 (by kernel_rfl) ?_
      obtain ⟨hu104, hq105⟩ := Rels.upd (r := (⟨r_89.A, r_89.n, r_89.c⟩ : Hdr)) hq98 hx103 hq91
      refine WS.eff0 rfl (Eff0.storeC1 158 (xs := ((((([] : List Hdr) ++ rs19).set (x42).toNat (⟨none, 0, 0⟩ : Hdr)).set (x49).toNat (⟨none, 0, 0⟩ : Hdr)).set (x42).toNat (⟨r_85.A, r_85.n, r_85.c⟩ : Hdr))) (a' := (⟨r_89.A, r_89.n, r_89.c⟩ : Hdr)) siz_22 rfl rfl rfl rfl rfl rfl hu104) (Sub.cons rfl (Sub.cons rfl (Sub.nil _))) ?_
      refine WD.done (by kernel_rfl) (hK83 _ _ ?_)
      refine QK.thenN (hK80 _ _ ?_)
      refine WC.seqRegion fun K238 hK238 => ?_
      obtain ⟨x239, hx239, h⟩ := bnd h
      refine WL.yld (by decide) (Yld.move rfl) ?_
      refine WL.yld (by decide) (Yld.move rfl) ?_
      refine WL.freeze 158 rfl rfl rfl fun M251 hm_M251 hf252 => ?_
      refine WL.freeze 151 rfl rfl rfl fun M253 hm_M253 hf254 => ?_
      refine WL.eff (by decide) (Eff.callM 345 rfl Try.func19 nm_19 rfl rfl rfl (w_rs_Restore _ A61 ((([] : List Hdr) ++ rs19).length) c62 (((((([] : List Hdr) ++ rs19).set (x42).toNat (⟨none, 0, 0⟩ : Hdr)).set (x49).toNat (⟨none, 0, 0⟩ : Hdr)).set (x42).toNat (⟨r_85.A, r_85.n, r_85.c⟩ : Hdr)).set (x49).toNat (⟨r_89.A, r_89.n, r_89.c⟩ : Hdr)) _ (SlRc.lift hf252 hm_M253) (Rels.lift (Rels.lift hq105 hm_M251) hm_M253) (some ⟨g51, 0, none⟩) (([true, true, true, true, true, true] : List (Bool)).length) (([true, true, true, true, true, true] : List (Bool)).length) _ hf254 hx239)) ?_
      rintro _ _ ⟨M255, _, ⟨A256, n257, c258, rs259, rfl, rfl, hq260⟩, hm_M255, rfl⟩
      refine WL.yld (by decide) (Yld.move rfl) ?_
      refine WL.yld (by decide) (Yld.extract rfl rfl) ?_
      refine WL.yld (by decide) (Yld.extract rfl rfl) ?_
      refine WL.yld (by decide) (Yld.assign rfl) ?_
      refine WL.yld (by decide) (Yld.assign rfl) ?_
      refine WL.done (hK238 _ _ ?_)
      refine WC.seqRegion fun K261 hK261 => ?_
      by_cases hc262 : x239.2 = (0 : Int)
      ·
       replace h := of_t hc262 h
       obtain ⟨x263, hx263, h⟩ := bnd h
       by_cases hc265 : x263 = true
       ·
        replace h := of_t hc265 h
        obtain ⟨x266, hx266, h⟩ := bnd h
        by_cases hc268 : x266 = true
        ·
         replace h := of_t hc268 h
         obtain ⟨x269, hx269, h⟩ := bnd h
         refine WL.yld (by decide) (Yld.move rfl) ?_
         refine WL.yld (by decide) (Yld.eqlI rfl rfl) ?_
         refine WL.yld (by decide) (Yld.move rfl) ?_
         refine WL.new (v' := .bool true) (congrArg Value.bool (beq_iff_eq.2 hc262)) ?_
         refine WL.yldG (by decide) rfl (Yld.move rfl) ?_
         refine WL.yldG (by decide) rfl (Yld.move rfl) ?_
         refine WL.effG (by decide) rfl (Eff.callS 364 rfl Try.func21 nm_21 rfl rfl (fun w hb hh => w_r03_SameRows (Mem.snap w) A256 n257 c258 rs259 _ (RdH.sn (RdH.own (k := 345) rfl) w hb hh) (Rels.sn hq260 (hh.sat 0 _ rfl)) A16 n17 c18 rs19 _ (RdH.sn (RdH.own (k := 109) rfl) w hb hh) (Rels.sn (Rels.lift (Rels.lift (Rels.lift hq20 hm_M251) hm_M253) hm_M255) (hh.sat 0 _ rfl)) hx263)) ?_
         rintro _ _ ⟨_, ⟨rfl, rfl⟩, rfl⟩
         refine WL.yld (by decide) (Yld.pickT rfl rfl) ?_
         refine WL.yld (by decide) (Yld.move rfl) ?_
         refine WL.new (v' := .bool true) (congrArg Value.bool hc265) ?_
         refine WL.yldG (by decide) rfl (Yld.move rfl) ?_
         refine WL.effG (by decide) rfl (Eff.callS 367 rfl Try.func24 nm_24 rfl rfl (fun w hb hh => w_rs_Verify (Mem.snap w) A256 n257 c258 rs259 _ (RdH.sn (RdH.own (k := 345) rfl) w hb hh) (Rels.sn hq260 (hh.sat 0 _ rfl)) hx266)) ?_
         rintro _ _ ⟨_, ⟨rfl, rfl⟩, rfl⟩
         refine WL.yld (by decide) (Yld.pickT rfl rfl) ?_
         refine WL.yld (by decide) (Yld.move rfl) ?_
         refine WL.new (v' := .bool true) (congrArg Value.bool hc268) ?_
         refine WL.effG (by decide) rfl (Eff.callS 370 rfl Try.func15 nm_15 rfl rfl (fun w hb hh => w_law04_awake (Mem.snap w) hx269)) ?_
         rintro _ _ ⟨_, ⟨rfl, rfl⟩, rfl⟩
         refine WL.yld (by decide) (Yld.pickT rfl rfl) ?_
         refine WL.yld (by decide) (Yld.assign rfl) ?_
         refine WL.done (hK261 _ _ ?_)
         refine WC.ret ?_
         injection h with h; subst h
         exact Ret.fn [] (ResIs.one rfl rfl) rfl (Ext.trans (Ext.trans (Ext.trans hm_M15 hm_M251) hm_M253) hm_M255) rfl (by decide) rfl rfl ⟨rfl, rfl⟩
        ·
         replace h := of_f hc268 h
         refine WL.yld (by decide) (Yld.move rfl) ?_
         refine WL.yld (by decide) (Yld.eqlI rfl rfl) ?_
         refine WL.yld (by decide) (Yld.move rfl) ?_
         refine WL.new (v' := .bool true) (congrArg Value.bool (beq_iff_eq.2 hc262)) ?_
         refine WL.yldG (by decide) rfl (Yld.move rfl) ?_
         refine WL.yldG (by decide) rfl (Yld.move rfl) ?_
         refine WL.effG (by decide) rfl (Eff.callS 364 rfl Try.func21 nm_21 rfl rfl (fun w hb hh => w_r03_SameRows (Mem.snap w) A256 n257 c258 rs259 _ (RdH.sn (RdH.own (k := 345) rfl) w hb hh) (Rels.sn hq260 (hh.sat 0 _ rfl)) A16 n17 c18 rs19 _ (RdH.sn (RdH.own (k := 109) rfl) w hb hh) (Rels.sn (Rels.lift (Rels.lift (Rels.lift hq20 hm_M251) hm_M253) hm_M255) (hh.sat 0 _ rfl)) hx263)) ?_
         rintro _ _ ⟨_, ⟨rfl, rfl⟩, rfl⟩
         refine WL.yld (by decide) (Yld.pickT rfl rfl) ?_
         refine WL.yld (by decide) (Yld.move rfl) ?_
         refine WL.new (v' := .bool true) (congrArg Value.bool hc265) ?_
         refine WL.yldG (by decide) rfl (Yld.move rfl) ?_
         refine WL.effG (by decide) rfl (Eff.callS 367 rfl Try.func24 nm_24 rfl rfl (fun w hb hh => w_rs_Verify (Mem.snap w) A256 n257 c258 rs259 _ (RdH.sn (RdH.own (k := 345) rfl) w hb hh) (Rels.sn hq260 (hh.sat 0 _ rfl)) hx266)) ?_
         rintro _ _ ⟨_, ⟨rfl, rfl⟩, rfl⟩
         refine WL.yld (by decide) (Yld.pickT rfl rfl) ?_
         refine WL.yld (by decide) (Yld.move rfl) ?_
         refine WL.new (v' := .bool false) (congrArg Value.bool (Bool.eq_false_iff.2 hc268)) ?_
         refine WL.skip (by decide) rfl rfl ?_
         refine WL.yld (by decide) (Yld.pickF rfl rfl) ?_
         refine WL.yld (by decide) (Yld.assign rfl) ?_
         refine WL.done (hK261 _ _ ?_)
         refine WC.ret ?_
         injection h with h; subst h
         exact Ret.fn [] (ResIs.one rfl rfl) rfl (Ext.trans (Ext.trans (Ext.trans hm_M15 hm_M251) hm_M253) hm_M255) rfl (by decide) rfl rfl ⟨rfl, rfl⟩
       ·
        replace h := of_f hc265 h
        refine WL.yld (by decide) (Yld.move rfl) ?_
        refine WL.yld (by decide) (Yld.eqlI rfl rfl) ?_
        refine WL.yld (by decide) (Yld.move rfl) ?_
        refine WL.new (v' := .bool true) (congrArg Value.bool (beq_iff_eq.2 hc262)) ?_
        refine WL.yldG (by decide) rfl (Yld.move rfl) ?_
        refine WL.yldG (by decide) rfl (Yld.move rfl) ?_
        refine WL.effG (by decide) rfl (Eff.callS 364 rfl Try.func21 nm_21 rfl rfl (fun w hb hh => w_r03_SameRows (Mem.snap w) A256 n257 c258 rs259 _ (RdH.sn (RdH.own (k := 345) rfl) w hb hh) (Rels.sn hq260 (hh.sat 0 _ rfl)) A16 n17 c18 rs19 _ (RdH.sn (RdH.own (k := 109) rfl) w hb hh) (Rels.sn (Rels.lift (Rels.lift (Rels.lift hq20 hm_M251) hm_M253) hm_M255) (hh.sat 0 _ rfl)) hx263)) ?_
        rintro _ _ ⟨_, ⟨rfl, rfl⟩, rfl⟩
        refine WL.yld (by decide) (Yld.pickT rfl rfl) ?_
        refine WL.yld (by decide) (Yld.move rfl) ?_
        refine WL.new (v' := .bool false) (congrArg Value.bool (Bool.eq_false_iff.2 hc265)) ?_
        refine WL.skip (by decide) rfl rfl ?_
        refine WL.skip (by decide) rfl rfl ?_
        refine WL.yld (by decide) (Yld.pickF rfl rfl) ?_
        refine WL.yld (by decide) (Yld.move rfl) ?_
        refine WL.skip (by decide) rfl rfl ?_
        refine WL.yld (by decide) (Yld.pickF rfl rfl) ?_
        refine WL.yld (by decide) (Yld.assign rfl) ?_
        refine WL.done (hK261 _ _ ?_)
        refine WC.ret ?_
        injection h with h; subst h
        exact Ret.fn [] (ResIs.one rfl rfl) rfl (Ext.trans (Ext.trans (Ext.trans hm_M15 hm_M251) hm_M253) hm_M255) rfl (by decide) rfl rfl ⟨rfl, rfl⟩
      ·
       replace h := of_f hc262 h
       refine WL.yld (by decide) (Yld.move rfl) ?_
       refine WL.yld (by decide) (Yld.eqlI rfl rfl) ?_
       refine WL.yld (by decide) (Yld.move rfl) ?_
       refine WL.new (v' := .bool false) (congrArg Value.bool (beq_eq_false_iff_ne.2 hc262)) ?_
       refine WL.skip (by decide) rfl rfl ?_
       refine WL.skip (by decide) rfl rfl ?_
       refine WL.skip (by decide) rfl rfl ?_
       refine WL.yld (by decide) (Yld.pickF rfl rfl) ?_
       refine WL.yld (by decide) (Yld.move rfl) ?_
       refine WL.skip (by decide) rfl rfl ?_
       refine WL.skip (by decide) rfl rfl ?_
       refine WL.yld (by decide) (Yld.pickF rfl rfl) ?_
       refine WL.yld (by decide) (Yld.move rfl) ?_
       refine WL.skip (by decide) rfl rfl ?_
       refine WL.yld (by decide) (Yld.pickF rfl rfl) ?_
       refine WL.yld (by decide) (Yld.assign rfl) ?_
       refine WL.done (hK261 _ _ ?_)
       refine WC.ret ?_
       injection h with h; subst h
       exact Ret.fn [] (ResIs.one rfl rfl) rfl (Ext.trans (Ext.trans (Ext.trans hm_M15 hm_M251) hm_M253) hm_M255) rfl (by decide) rfl rfl ⟨rfl, rfl⟩
    ·
     skip
     refine WS.yld rfl (by decide) (Yld.loadC0 (xs := rs04) scal_22 rfl (RdH.memM (k := 0) rfl (SlRc.lift hf04 hm_M15)) hr90 rfl) ?_
     refine WD.one 5 (by kernel_rfl) ?_
     obtain ⟨r_85, hr86, hq87⟩ := Rels.idx (Rels.lift hq04 hm_M15) hx84
     refine WS.yld rfl (by decide) (Yld.idxC (xs := rs04) sty_35 rfl rfl (RdH.memM (k := 0) rfl (SlRc.lift hf04 hm_M15)) hr86) ?_
     refine WD.one 6 (by kernel_rfl) ?_
     refine WS.yld rfl (by decide) (Yld.loadC0 (xs := rs04) scal_22 rfl (RdH.memM (k := 0) rfl (SlRc.lift hf04 hm_M15)) hr86 rfl) ?_
     refine WD.one 10 (by kernel_rfl) ?_
     obtain ⟨r_93, hr94, hq95⟩ := Rels.idx hq79 hx92
     refine WS.yld rfl (by decide) (Yld.idxC (xs := (((([] : List Hdr) ++ rs19).set (x42).toNat (⟨none, 0, 0⟩ : Hdr)).set (x49).toNat (⟨none, 0, 0⟩ : Hdr))) sty_35 rfl rfl (RdH.own (k := 158) rfl) hr94) ?_
     refine WD.one 11 (by kernel_rfl) ?_
     obtain ⟨hu97, hq98⟩ := Rels.upd (r := (⟨r_85.A, r_85.n, r_85.c⟩ : Hdr)) hq79 hx96 hq87
     refine WS.eff0 rfl (Eff0.storeC1 158 (xs := (((([] : List Hdr) ++ rs19).set (x42).toNat (⟨none, 0, 0⟩ : Hdr)).set (x49).toNat (⟨none, 0, 0⟩ : Hdr))) (a' := (⟨r_85.A, r_85.n, r_85.c⟩ : Hdr)) siz_22 rfl rfl rfl rfl rfl rfl hu97) (Sub.cons rfl (Sub.cons rfl (Sub.nil _))) ?_
     refine WD.one 12 (by kernel_rfl) ?_
     obtain ⟨r_100, hr101, hq102⟩ := Rels.idx hq98 hx99
     refine WS.yld rfl (by decide) (Yld.idxC (xs := ((((([] : List Hdr) ++ rs19).set (x42).toNat (⟨none, 0, 0⟩ : Hdr)).set (x49).toNat (⟨none, 0, 0⟩ : Hdr)).set (x42).toNat (⟨r_85.A, r_85.n, r_85.c⟩ : Hdr))) sty_35 rfl rfl (RdH.own (k := 158) rfl) hr101) ?_
     refine WD.one 13 (by kernel_rfl) ?_
     obtain ⟨hu104, hq105⟩ := Rels.upd (r := (⟨r_89.A, r_89.n, r_89.c⟩ : Hdr)) hq98 hx103 hq91
     refine WS.eff0 rfl (Eff0.storeC1 158 (xs := ((((([] : List Hdr) ++ rs19).set (x42).toNat (⟨none, 0, 0⟩ : Hdr)).set (x49).toNat (⟨none, 0, 0⟩ : Hdr)).set (x42).toNat (⟨r_85.A, r_85.n, r_85.c⟩ : Hdr))) (a' := (⟨r_89.A, r_89.n, r_89.c⟩ : Hdr)) siz_22 rfl rfl rfl rfl rfl rfl hu104) (Sub.cons rfl (Sub.cons rfl (Sub.nil _))) ?_
     refine WD.done (by kernel_rfl) (hK83 _ _ ?_)
     refine QK.thenN (hK80 _ _ ?_)
     refine WC.seqRegion fun K271 hK271 => ?_
     obtain ⟨x272, hx272, h⟩ := bnd h
     refine WL.yld (by decide) (Yld.move rfl) ?_
     refine WL.yld (by decide) (Yld.move rfl) ?_
     refine WL.freeze 158 rfl rfl rfl fun M284 hm_M284 hf285 => ?_
     refine WL.freeze 151 rfl rfl rfl fun M286 hm_M286 hf287 => ?_
     refine WL.eff (by decide) (Eff.callM 378 rfl Try.func19 nm_19 rfl rfl rfl (w_rs_Restore _ A61 ((([] : List Hdr) ++ rs19).length) c62 (((((([] : List Hdr) ++ rs19).set (x42).toNat (⟨none, 0, 0⟩ : Hdr)).set (x49).toNat (⟨none, 0, 0⟩ : Hdr)).set (x42).toNat (⟨r_85.A, r_85.n, r_85.c⟩ : Hdr)).set (x49).toNat (⟨r_89.A, r_89.n, r_89.c⟩ : Hdr)) _ (SlRc.lift hf285 hm_M286) (Rels.lift (Rels.lift hq105 hm_M284) hm_M286) (some ⟨g51, 0, none⟩) (([true, true, true, true, true, true] : List (Bool)).length) (([true, true, true, true, true, true] : List (Bool)).length) _ hf287 hx272)) ?_
     rintro _ _ ⟨M288, _, ⟨A289, n290, c291, rs292, rfl, rfl, hq293⟩, hm_M288, rfl⟩
     refine WL.yld (by decide) (Yld.move rfl) ?_
     refine WL.yld (by decide) (Yld.extract rfl rfl) ?_
     refine WL.yld (by decide) (Yld.extract rfl rfl) ?_
     refine WL.yld (by decide) (Yld.assign rfl) ?_
     refine WL.yld (by decide) (Yld.assign rfl) ?_
     refine WL.done (hK271 _ _ ?_)
     refine WC.seqRegion fun K294 hK294 => ?_
     by_cases hc295 : x272.2 = (0 : Int)
     ·
      replace h := of_t hc295 h
      obtain ⟨x296, hx296, h⟩ := bnd h
      by_cases hc298 : x296 = true
      ·
       replace h := of_t hc298 h
       obtain ⟨x299, hx299, h⟩ := bnd h
       by_cases hc301 : x299 = true
       ·
        replace h := of_t hc301 h
        obtain ⟨x302, hx302, h⟩ := bnd h
        refine WL.yld (by decide) (Yld.move rfl) ?_
        refine WL.yld (by decide) (Yld.eqlI rfl rfl) ?_
        refine WL.yld (by decide) (Yld.move rfl) ?_
        refine WL.new (v' := .bool true) (congrArg Value.bool (beq_iff_eq.2 hc295)) ?_
        refine WL.yldG (by decide) rfl (Yld.move rfl) ?_
        refine WL.yldG (by decide) rfl (Yld.move rfl) ?_
        refine WL.effG (by decide) rfl (Eff.callS 397 rfl Try.func21 nm_21 rfl rfl (fun w hb hh => w_r03_SameRows (Mem.snap w) A289 n290 c291 rs292 _ (RdH.sn (RdH.own (k := 378) rfl) w hb hh) (Rels.sn hq293 (hh.sat 0 _ rfl)) A16 n17 c18 rs19 _ (RdH.sn (RdH.own (k := 109) rfl) w hb hh) (Rels.sn (Rels.lift (Rels.lift (Rels.lift hq20 hm_M284) hm_M286) hm_M288) (hh.sat 0 _ rfl)) hx296)) ?_
        rintro _ _ ⟨_, ⟨rfl, rfl⟩, rfl⟩
        refine WL.yld (by decide) (Yld.pickT rfl rfl) ?_
        refine WL.yld (by decide) (Yld.move rfl) ?_
        refine WL.new (v' := .bool true) (congrArg Value.bool hc298) ?_
        refine WL.yldG (by decide) rfl (Yld.move rfl) ?_
        refine WL.effG (by decide) rfl (Eff.callS 400 rfl Try.func24 nm_24 rfl rfl (fun w hb hh => w_rs_Verify (Mem.snap w) A289 n290 c291 rs292 _ (RdH.sn (RdH.own (k := 378) rfl) w hb hh) (Rels.sn hq293 (hh.sat 0 _ rfl)) hx299)) ?_
        rintro _ _ ⟨_, ⟨rfl, rfl⟩, rfl⟩
        refine WL.yld (by decide) (Yld.pickT rfl rfl) ?_
        refine WL.yld (by decide) (Yld.move rfl) ?_
        refine WL.new (v' := .bool true) (congrArg Value.bool hc301) ?_
        refine WL.effG (by decide) rfl (Eff.callS 403 rfl Try.func15 nm_15 rfl rfl (fun w hb hh => w_law04_awake (Mem.snap w) hx302)) ?_
        rintro _ _ ⟨_, ⟨rfl, rfl⟩, rfl⟩
        refine WL.yld (by decide) (Yld.pickT rfl rfl) ?_
        refine WL.yld (by decide) (Yld.assign rfl) ?_
        refine WL.done (hK294 _ _ ?_)
        refine WC.ret ?_
        injection h with h; subst h
        exact Ret.fn [] (ResIs.one rfl rfl) rfl (Ext.trans (Ext.trans (Ext.trans hm_M15 hm_M284) hm_M286) hm_M288) rfl (by decide) rfl rfl ⟨rfl, rfl⟩
       ·
        replace h := of_f hc301 h
        refine WL.yld (by decide) (Yld.move rfl) ?_
        refine WL.yld (by decide) (Yld.eqlI rfl rfl) ?_
        refine WL.yld (by decide) (Yld.move rfl) ?_
        refine WL.new (v' := .bool true) (congrArg Value.bool (beq_iff_eq.2 hc295)) ?_
        refine WL.yldG (by decide) rfl (Yld.move rfl) ?_
        refine WL.yldG (by decide) rfl (Yld.move rfl) ?_
        refine WL.effG (by decide) rfl (Eff.callS 397 rfl Try.func21 nm_21 rfl rfl (fun w hb hh => w_r03_SameRows (Mem.snap w) A289 n290 c291 rs292 _ (RdH.sn (RdH.own (k := 378) rfl) w hb hh) (Rels.sn hq293 (hh.sat 0 _ rfl)) A16 n17 c18 rs19 _ (RdH.sn (RdH.own (k := 109) rfl) w hb hh) (Rels.sn (Rels.lift (Rels.lift (Rels.lift hq20 hm_M284) hm_M286) hm_M288) (hh.sat 0 _ rfl)) hx296)) ?_
        rintro _ _ ⟨_, ⟨rfl, rfl⟩, rfl⟩
        refine WL.yld (by decide) (Yld.pickT rfl rfl) ?_
        refine WL.yld (by decide) (Yld.move rfl) ?_
        refine WL.new (v' := .bool true) (congrArg Value.bool hc298) ?_
        refine WL.yldG (by decide) rfl (Yld.move rfl) ?_
        refine WL.effG (by decide) rfl (Eff.callS 400 rfl Try.func24 nm_24 rfl rfl (fun w hb hh => w_rs_Verify (Mem.snap w) A289 n290 c291 rs292 _ (RdH.sn (RdH.own (k := 378) rfl) w hb hh) (Rels.sn hq293 (hh.sat 0 _ rfl)) hx299)) ?_
        rintro _ _ ⟨_, ⟨rfl, rfl⟩, rfl⟩
        refine WL.yld (by decide) (Yld.pickT rfl rfl) ?_
        refine WL.yld (by decide) (Yld.move rfl) ?_
        refine WL.new (v' := .bool false) (congrArg Value.bool (Bool.eq_false_iff.2 hc301)) ?_
        refine WL.skip (by decide) rfl rfl ?_
        refine WL.yld (by decide) (Yld.pickF rfl rfl) ?_
        refine WL.yld (by decide) (Yld.assign rfl) ?_
        refine WL.done (hK294 _ _ ?_)
        refine WC.ret ?_
        injection h with h; subst h
        exact Ret.fn [] (ResIs.one rfl rfl) rfl (Ext.trans (Ext.trans (Ext.trans hm_M15 hm_M284) hm_M286) hm_M288) rfl (by decide) rfl rfl ⟨rfl, rfl⟩
      ·
       replace h := of_f hc298 h
       refine WL.yld (by decide) (Yld.move rfl) ?_
       refine WL.yld (by decide) (Yld.eqlI rfl rfl) ?_
       refine WL.yld (by decide) (Yld.move rfl) ?_
       refine WL.new (v' := .bool true) (congrArg Value.bool (beq_iff_eq.2 hc295)) ?_
       refine WL.yldG (by decide) rfl (Yld.move rfl) ?_
       refine WL.yldG (by decide) rfl (Yld.move rfl) ?_
       refine WL.effG (by decide) rfl (Eff.callS 397 rfl Try.func21 nm_21 rfl rfl (fun w hb hh => w_r03_SameRows (Mem.snap w) A289 n290 c291 rs292 _ (RdH.sn (RdH.own (k := 378) rfl) w hb hh) (Rels.sn hq293 (hh.sat 0 _ rfl)) A16 n17 c18 rs19 _ (RdH.sn (RdH.own (k := 109) rfl) w hb hh) (Rels.sn (Rels.lift (Rels.lift (Rels.lift hq20 hm_M284) hm_M286) hm_M288) (hh.sat 0 _ rfl)) hx296)) ?_
       rintro _ _ ⟨_, ⟨rfl, rfl⟩, rfl⟩
       refine WL.yld (by decide) (Yld.pickT rfl rfl) ?_
       refine WL.yld (by decide) (Yld.move rfl) ?_
       refine WL.new (v' := .bool false) (congrArg Value.bool (Bool.eq_false_iff.2 hc298)) ?_
       refine WL.skip (by decide) rfl rfl ?_
       refine WL.skip (by decide) rfl rfl ?_
       refine WL.yld (by decide) (Yld.pickF rfl rfl) ?_
       refine WL.yld (by decide) (Yld.move rfl) ?_
       refine WL.skip (by decide) rfl rfl ?_
       refine WL.yld (by decide) (Yld.pickF rfl rfl) ?_
       refine WL.yld (by decide) (Yld.assign rfl) ?_
       refine WL.done (hK294 _ _ ?_)
       refine WC.ret ?_
       injection h with h; subst h
       exact Ret.fn [] (ResIs.one rfl rfl) rfl (Ext.trans (Ext.trans (Ext.trans hm_M15 hm_M284) hm_M286) hm_M288) rfl (by decide) rfl rfl ⟨rfl, rfl⟩
     ·
      replace h := of_f hc295 h
      refine WL.yld (by decide) (Yld.move rfl) ?_
      refine WL.yld (by decide) (Yld.eqlI rfl rfl) ?_
      refine WL.yld (by decide) (Yld.move rfl) ?_
      refine WL.new (v' := .bool false) (congrArg Value.bool (beq_eq_false_iff_ne.2 hc295)) ?_
      refine WL.skip (by decide) rfl rfl ?_
      refine WL.skip (by decide) rfl rfl ?_
      refine WL.skip (by decide) rfl rfl ?_
      refine WL.yld (by decide) (Yld.pickF rfl rfl) ?_
      refine WL.yld (by decide) (Yld.move rfl) ?_
      refine WL.skip (by decide) rfl rfl ?_
      refine WL.skip (by decide) rfl rfl ?_
      refine WL.yld (by decide) (Yld.pickF rfl rfl) ?_
      refine WL.yld (by decide) (Yld.move rfl) ?_
      refine WL.skip (by decide) rfl rfl ?_
      refine WL.yld (by decide) (Yld.pickF rfl rfl) ?_
      refine WL.yld (by decide) (Yld.assign rfl) ?_
      refine WL.done (hK294 _ _ ?_)
      refine WC.ret ?_
      injection h with h; subst h
      exact Ret.fn [] (ResIs.one rfl rfl) rfl (Ext.trans (Ext.trans (Ext.trans hm_M15 hm_M284) hm_M286) hm_M288) rfl (by decide) rfl rfl ⟨rfl, rfl⟩
  ·
   replace h := of_f hc82 h
   refine WC.condFe rfl (decide_eq_false hc82) ?_
   refine WC.skip ?_
   refine QK.thenN (hK80 _ _ ?_)
   refine WC.seqRegion fun K304 hK304 => ?_
   obtain ⟨x305, hx305, h⟩ := bnd h
   refine WL.yld (by decide) (Yld.move rfl) ?_
   refine WL.yld (by decide) (Yld.move rfl) ?_
   refine WL.freeze 158 rfl rfl rfl fun M317 hm_M317 hf318 => ?_
   refine WL.freeze 151 rfl rfl rfl fun M319 hm_M319 hf320 => ?_
   refine WL.eff (by decide) (Eff.callM 411 rfl Try.func19 nm_19 rfl rfl rfl (w_rs_Restore _ A61 ((([] : List Hdr) ++ rs19).length) c62 (((([] : List Hdr) ++ rs19).set (x42).toNat (⟨none, 0, 0⟩ : Hdr)).set (x49).toNat (⟨none, 0, 0⟩ : Hdr)) _ (SlRc.lift hf318 hm_M319) (Rels.lift (Rels.lift hq79 hm_M317) hm_M319) (some ⟨g51, 0, none⟩) (([true, true, true, true, true, true] : List (Bool)).length) (([true, true, true, true, true, true] : List (Bool)).length) _ hf320 hx305)) ?_
   rintro _ _ ⟨M321, _, ⟨A322, n323, c324, rs325, rfl, rfl, hq326⟩, hm_M321, rfl⟩
   refine WL.yld (by decide) (Yld.move rfl) ?_
   refine WL.yld (by decide) (Yld.extract rfl rfl) ?_
   refine WL.yld (by decide) (Yld.extract rfl rfl) ?_
   refine WL.yld (by decide) (Yld.assign rfl) ?_
   refine WL.yld (by decide) (Yld.assign rfl) ?_
   refine WL.done (hK304 _ _ ?_)
   refine WC.seqRegion fun K327 hK327 => ?_
   by_cases hc328 : x305.2 = (0 : Int)
   ·
    replace h := of_t hc328 h
    obtain ⟨x329, hx329, h⟩ := bnd h
    by_cases hc331 : x329 = true
    ·
     replace h := of_t hc331 h
     obtain ⟨x332, hx332, h⟩ := bnd h
     by_cases hc334 : x332 = true
     ·
      replace h := of_t hc334 h
      obtain ⟨x335, hx335, h⟩ := bnd h
      refine WL.yld (by decide) (Yld.move rfl) ?_
      refine WL.yld (by decide) (Yld.eqlI rfl rfl) ?_
      refine WL.yld (by decide) (Yld.move rfl) ?_
      refine WL.new (v' := .bool true) (congrArg Value.bool (beq_iff_eq.2 hc328)) ?_
      refine WL.yldG (by decide) rfl (Yld.move rfl) ?_
      refine WL.yldG (by decide) rfl (Yld.move rfl) ?_
      refine WL.effG (by decide) rfl (Eff.callS 430 rfl Try.func21 nm_21 rfl rfl (fun w hb hh => w_r03_SameRows (Mem.snap w) A322 n323 c324 rs325 _ (RdH.sn (RdH.own (k := 411) rfl) w hb hh) (Rels.sn hq326 (hh.sat 0 _ rfl)) A16 n17 c18 rs19 _ (RdH.sn (RdH.own (k := 109) rfl) w hb hh) (Rels.sn (Rels.lift (Rels.lift (Rels.lift hq20 hm_M317) hm_M319) hm_M321) (hh.sat 0 _ rfl)) hx329)) ?_
      rintro _ _ ⟨_, ⟨rfl, rfl⟩, rfl⟩
      refine WL.yld (by decide) (Yld.pickT rfl rfl) ?_
      refine WL.yld (by decide) (Yld.move rfl) ?_
      refine WL.new (v' := .bool true) (congrArg Value.bool hc331) ?_
      refine WL.yldG (by decide) rfl (Yld.move rfl) ?_
      refine WL.effG (by decide) rfl (Eff.callS 433 rfl Try.func24 nm_24 rfl rfl (fun w hb hh => w_rs_Verify (Mem.snap w) A322 n323 c324 rs325 _ (RdH.sn (RdH.own (k := 411) rfl) w hb hh) (Rels.sn hq326 (hh.sat 0 _ rfl)) hx332)) ?_
      rintro _ _ ⟨_, ⟨rfl, rfl⟩, rfl⟩
      refine WL.yld (by decide) (Yld.pickT rfl rfl) ?_
      refine WL.yld (by decide) (Yld.move rfl) ?_
      refine WL.new (v' := .bool true) (congrArg Value.bool hc334) ?_
      refine WL.effG (by decide) rfl (Eff.callS 436 rfl Try.func15 nm_15 rfl rfl (fun w hb hh => w_law04_awake (Mem.snap w) hx335)) ?_
      rintro _ _ ⟨_, ⟨rfl, rfl⟩, rfl⟩
      refine WL.yld (by decide) (Yld.pickT rfl rfl) ?_
      refine WL.yld (by decide) (Yld.assign rfl) ?_
      refine WL.done (hK327 _ _ ?_)
      refine WC.ret ?_
      injection h with h; subst h
      exact Ret.fn [] (ResIs.one rfl rfl) rfl (Ext.trans (Ext.trans (Ext.trans hm_M15 hm_M317) hm_M319) hm_M321) rfl (by decide) rfl rfl ⟨rfl, rfl⟩
     ·
      replace h := of_f hc334 h
      refine WL.yld (by decide) (Yld.move rfl) ?_
      refine WL.yld (by decide) (Yld.eqlI rfl rfl) ?_
      refine WL.yld (by decide) (Yld.move rfl) ?_
      refine WL.new (v' := .bool true) (congrArg Value.bool (beq_iff_eq.2 hc328)) ?_
      refine WL.yldG (by decide) rfl (Yld.move rfl) ?_
      refine WL.yldG (by decide) rfl (Yld.move rfl) ?_
      refine WL.effG (by decide) rfl (Eff.callS 430 rfl Try.func21 nm_21 rfl rfl (fun w hb hh => w_r03_SameRows (Mem.snap w) A322 n323 c324 rs325 _ (RdH.sn (RdH.own (k := 411) rfl) w hb hh) (Rels.sn hq326 (hh.sat 0 _ rfl)) A16 n17 c18 rs19 _ (RdH.sn (RdH.own (k := 109) rfl) w hb hh) (Rels.sn (Rels.lift (Rels.lift (Rels.lift hq20 hm_M317) hm_M319) hm_M321) (hh.sat 0 _ rfl)) hx329)) ?_
      rintro _ _ ⟨_, ⟨rfl, rfl⟩, rfl⟩
      refine WL.yld (by decide) (Yld.pickT rfl rfl) ?_
      refine WL.yld (by decide) (Yld.move rfl) ?_
      refine WL.new (v' := .bool true) (congrArg Value.bool hc331) ?_
      refine WL.yldG (by decide) rfl (Yld.move rfl) ?_
      refine WL.effG (by decide) rfl (Eff.callS 433 rfl Try.func24 nm_24 rfl rfl (fun w hb hh => w_rs_Verify (Mem.snap w) A322 n323 c324 rs325 _ (RdH.sn (RdH.own (k := 411) rfl) w hb hh) (Rels.sn hq326 (hh.sat 0 _ rfl)) hx332)) ?_
      rintro _ _ ⟨_, ⟨rfl, rfl⟩, rfl⟩
      refine WL.yld (by decide) (Yld.pickT rfl rfl) ?_
      refine WL.yld (by decide) (Yld.move rfl) ?_
      refine WL.new (v' := .bool false) (congrArg Value.bool (Bool.eq_false_iff.2 hc334)) ?_
      refine WL.skip (by decide) rfl rfl ?_
      refine WL.yld (by decide) (Yld.pickF rfl rfl) ?_
      refine WL.yld (by decide) (Yld.assign rfl) ?_
      refine WL.done (hK327 _ _ ?_)
      refine WC.ret ?_
      injection h with h; subst h
      exact Ret.fn [] (ResIs.one rfl rfl) rfl (Ext.trans (Ext.trans (Ext.trans hm_M15 hm_M317) hm_M319) hm_M321) rfl (by decide) rfl rfl ⟨rfl, rfl⟩
    ·
     replace h := of_f hc331 h
     refine WL.yld (by decide) (Yld.move rfl) ?_
     refine WL.yld (by decide) (Yld.eqlI rfl rfl) ?_
     refine WL.yld (by decide) (Yld.move rfl) ?_
     refine WL.new (v' := .bool true) (congrArg Value.bool (beq_iff_eq.2 hc328)) ?_
     refine WL.yldG (by decide) rfl (Yld.move rfl) ?_
     refine WL.yldG (by decide) rfl (Yld.move rfl) ?_
     refine WL.effG (by decide) rfl (Eff.callS 430 rfl Try.func21 nm_21 rfl rfl (fun w hb hh => w_r03_SameRows (Mem.snap w) A322 n323 c324 rs325 _ (RdH.sn (RdH.own (k := 411) rfl) w hb hh) (Rels.sn hq326 (hh.sat 0 _ rfl)) A16 n17 c18 rs19 _ (RdH.sn (RdH.own (k := 109) rfl) w hb hh) (Rels.sn (Rels.lift (Rels.lift (Rels.lift hq20 hm_M317) hm_M319) hm_M321) (hh.sat 0 _ rfl)) hx329)) ?_
     rintro _ _ ⟨_, ⟨rfl, rfl⟩, rfl⟩
     refine WL.yld (by decide) (Yld.pickT rfl rfl) ?_
     refine WL.yld (by decide) (Yld.move rfl) ?_
     refine WL.new (v' := .bool false) (congrArg Value.bool (Bool.eq_false_iff.2 hc331)) ?_
     refine WL.skip (by decide) rfl rfl ?_
     refine WL.skip (by decide) rfl rfl ?_
     refine WL.yld (by decide) (Yld.pickF rfl rfl) ?_
     refine WL.yld (by decide) (Yld.move rfl) ?_
     refine WL.skip (by decide) rfl rfl ?_
     refine WL.yld (by decide) (Yld.pickF rfl rfl) ?_
     refine WL.yld (by decide) (Yld.assign rfl) ?_
     refine WL.done (hK327 _ _ ?_)
     refine WC.ret ?_
     injection h with h; subst h
     exact Ret.fn [] (ResIs.one rfl rfl) rfl (Ext.trans (Ext.trans (Ext.trans hm_M15 hm_M317) hm_M319) hm_M321) rfl (by decide) rfl rfl ⟨rfl, rfl⟩
   ·
    replace h := of_f hc328 h
    refine WL.yld (by decide) (Yld.move rfl) ?_
    refine WL.yld (by decide) (Yld.eqlI rfl rfl) ?_
    refine WL.yld (by decide) (Yld.move rfl) ?_
    refine WL.new (v' := .bool false) (congrArg Value.bool (beq_eq_false_iff_ne.2 hc328)) ?_
    refine WL.skip (by decide) rfl rfl ?_
    refine WL.skip (by decide) rfl rfl ?_
    refine WL.skip (by decide) rfl rfl ?_
    refine WL.yld (by decide) (Yld.pickF rfl rfl) ?_
    refine WL.yld (by decide) (Yld.move rfl) ?_
    refine WL.skip (by decide) rfl rfl ?_
    refine WL.skip (by decide) rfl rfl ?_
    refine WL.yld (by decide) (Yld.pickF rfl rfl) ?_
    refine WL.yld (by decide) (Yld.move rfl) ?_
    refine WL.skip (by decide) rfl rfl ?_
    refine WL.yld (by decide) (Yld.pickF rfl rfl) ?_
    refine WL.yld (by decide) (Yld.assign rfl) ?_
    refine WL.done (hK327 _ _ ?_)
    refine WC.ret ?_
    injection h with h; subst h
    exact Ret.fn [] (ResIs.one rfl rfl) rfl (Ext.trans (Ext.trans (Ext.trans hm_M15 hm_M317) hm_M319) hm_M321) rfl (by decide) rfl rfl ⟨rfl, rfl⟩

end Go.Proofs.Ytnbcphofimicdaa
