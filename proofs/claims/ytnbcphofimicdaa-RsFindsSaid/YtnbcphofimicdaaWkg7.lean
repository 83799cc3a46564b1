/-
 Walks (g7): what a function's model gives, the function returns. Printed by a program of ours (vcm.py) from the function's operations. Conditions: as each theorem says.
-/
import Derived.Test.YtnbcphofimicdaaWkf
import Derived.Test.YtnbcphofimicdaaMdg7
namespace Go.Proofs.Ytnbcphofimicdaa
open Go Go.RowKit
set_option linter.unusedVariables false

theorem nm_15 : (Try.f15.name == "runtime.NumGoroutine") = false := by kernel_rfl
theorem nm_22 : (Try.f22.name == "runtime.NumGoroutine") = false := by kernel_rfl
theorem nm_26 : (Try.f26.name == "runtime.NumGoroutine") = false := by kernel_rfl

set_option maxRecDepth 10000 in
theorem w_law04_RsFinds (M0 : Mem) (A00 : Option Addr) (n00 c00 : Nat) (x00 : List (BitVec 8)) (hf00 : SlT M0 A00 n00 c00 x00) (x01 : Int) (x02 : Int) (A03 : Option Addr) (n03 c03 : Nat) (x03 : List (BitVec 8)) (hf03 : SlT M0 A03 n03 c03 x03) {res : Bool} (h : m_law04_RsFinds x00 x01 x02 x03 = some res) :
  Fn Try.prog 10 #[.slice A00 n00 c00, I64 x01, I64 x02, .slice A03 n03 c03] M0 fun r M' es => r = .bool res ∧ es = [] := by
 refine Fn.intro (N := 100) Try.func10 rfl rfl (Nat.le_of_ble_eq_true rfl) fun w0 => ?_
 unfold m_law04_RsFinds at h
 refine WC.seqRegion fun K1 hK1 => ?_
 refine WL.yld (by decide) (Yld.assign rfl) ?_
 refine WL.done (hK1 _ _ ?_)
 refine WC.seqRegion fun K2 hK2 => ?_
 obtain ⟨x3, hx3, h⟩ := bnd h
 refine WL.yld (by decide) (Yld.move rfl) ?_
 refine WL.yld (by decide) (Yld.move rfl) ?_
 refine WL.eff (by decide) (Eff.callM 109 rfl Try.func22 nm_22 rfl rfl rfl (w_law04_full _ A00 n00 c00 _ hf00 x01 hx3)) ?_
 rintro _ _ ⟨M15, _, ⟨A16, n17, c18, rs19, rfl, rfl, hq20⟩, hm_M15, rfl⟩
 refine WL.yld (by decide) (Yld.move rfl) ?_
 refine WL.yld (by decide) (Yld.extract rfl rfl) ?_
 refine WL.yld (by decide) (Yld.extract rfl rfl) ?_
 refine WL.yld (by decide) (Yld.assign rfl) ?_
 refine WL.yld (by decide) (Yld.assign rfl) ?_
 refine WL.done (hK2 _ _ ?_)
 refine WC.seq fun K21 hK21 => ?_
 refine WC.seqRegion fun K22 hK22 => ?_
 refine WL.yld (by decide) (Yld.move rfl) ?_
 refine WL.yld (by decide) (Yld.notB rfl) ?_
 refine WL.done (hK22 _ _ ?_)
 by_cases hc23 : x3.2 = true
 ·
  replace h := of_t hc23 h
  refine WC.condFe rfl (not_f hc23) ?_
  refine WC.skip ?_
  refine QK.thenN (hK21 _ _ ?_)
  refine WC.seqRegion fun K24 hK24 => ?_
  obtain ⟨x25, hx25, h⟩ := bnd h
  obtain ⟨x26, hx26, h⟩ := bnd h
  obtain ⟨x27, hx27, h⟩ := bnd h
  refine WL.yld (by decide) (Yld.move rfl) ?_
  refine WL.yld (by decide) (Yld.remC rfl rfl hx25) ?_
  refine WL.yld (by decide) (Yld.addC rfl rfl hx26) ?_
  refine WL.yld (by decide) (Yld.remC rfl rfl hx27) ?_
  refine WL.yld (by decide) (Yld.assign rfl) ?_
  refine WL.done (hK24 _ _ ?_)
  refine WC.seqRegion fun K28 hK28 => ?_
  obtain ⟨x30, hx30, h⟩ := bnd h
  obtain ⟨x34, hx34, h⟩ := bnd h
  refine WL.eff (by decide) (Eff.buildC 129 ([] : List (BitVec 8)) sty_22 rfl rfl rfl rfl rfl (by decide)) ?_
  rintro _ _ ⟨g29, rfl, rfl⟩
  refine WL.yld (by decide) (Yld.move rfl) ?_
  refine WL.yld (by decide) (Yld.move rfl) ?_
  obtain ⟨r_31, hr32, hq33⟩ := Rels.idx hq20 hx30
  refine WL.yld (by decide) (Yld.idxC (xs := rs19) sty_35 rfl rfl (RdH.own (k := 109) rfl) hr32) ?_
  refine WL.yld (by decide) (Yld.loadC0 (xs := rs19) scal_22 rfl (RdH.own (k := 109) rfl) hr32 rfl) ?_
  refine WL.eff (by decide) (Eff.appendC 129 (xs := ([] : List (BitVec 8))) (ys := x30) sty_22 rfl rfl rfl (RdH.memM (k := 0) rfl hq33) hx34) ?_
  rintro _ _ ⟨A35, c36, rfl, rfl⟩
  refine WL.yld (by decide) (Yld.assign rfl) ?_
  refine WL.done (hK28 _ _ ?_)
  refine WC.seqCut (σ := (List (BitVec 8))) (fun x37 => [(9, .slice A16 n17 c18), (11, I64 x27), (12, .slice A35 x34.length c36)]) (fun x37 => [(0, .mem M15), (109, .own 22 (Lay.sz Hdr) A16 n17 c18 (cel rs19)), (129, .own 5 (Lay.sz (BitVec 8)) A35 x34.length c36 (cel x37))]) (fun x37 => m_law04_RsFinds_j0 x3 x27 x37 = some res) (fun K38 hK38 => ?_) ?_
  ·
   skip
   refine WC.seqRegion fun K39 hK39 => ?_
   refine WL.yld (by decide) (Yld.assign rfl) ?_
   refine WL.done (hK39 _ _ ?_)
   refine WC.block ?_
   refine WC.loop (σ := Nat × (List (BitVec 8)) × Int) (fun ⟨q42, x40, x41⟩ => [(3, .slice A03 n03 c03), (9, .slice A16 n17 c18), (11, I64 x27), (12, .slice A35 x34.length c36), (13, I64 x41)]) (fun ⟨q42, x40, x41⟩ => [(0, .mem M15), (109, .own 22 (Lay.sz Hdr) A16 n17 c18 (cel rs19)), (129, .own 5 (Lay.sz (BitVec 8)) A35 x34.length c36 (cel x40))]) (fun ⟨q42, x40, x41⟩ => m_law04_RsFinds_l1 x03 x3 x27 q42 x40 x41 = some res) (fun ⟨q42, x40, x41⟩ => q42) ⟨forever, x34, (0 : Int)⟩ ?_ (Sub.cons rfl (Sub.cons rfl (Sub.cons rfl (Sub.cons rfl (Sub.cons rfl (Sub.nil _)))))) (Sub.cons rfl (Sub.cons rfl (Sub.cons rfl (Sub.nil _)))) ?_
   ·
    exact h
   rintro ⟨q42, x40, x41⟩ h K43 hK43
   cases q42 with
   | zero => exact absurd h (by simp [m_law04_RsFinds_l1])
   | succ q42 =>
    unfold m_law04_RsFinds_l1 at h
    refine WC.seq fun K44 hK44 => ?_
    refine WC.seqRegion fun K45 hK45 => ?_
    by_cases hc46 : x41 < (x40.length : Int)
    ·
     replace h := of_t hc46 h
     refine WL.yld (by decide) (Yld.move rfl) ?_
     refine WL.yld (by decide) (Yld.move rfl) ?_
     refine WL.yld (by decide) (Yld.lenC (xs := x40) und_22 rfl (RdH.own (k := 129) rfl)) ?_
     refine WL.yld (by decide) (Yld.lss rfl rfl) ?_
     refine WL.yld (by decide) (Yld.move rfl) ?_
     refine WL.new (v' := .bool true) (congrArg Value.bool (decide_eq_true hc46)) ?_
     refine WL.yldG (by decide) rfl (Yld.move rfl) ?_
     refine WL.yldG (by decide) rfl (Yld.move rfl) ?_
     refine WL.yldG (by decide) rfl (Yld.lenC (xs := x03) und_22 rfl (RdH.memM (k := 0) rfl (SlRc.lift hf03 hm_M15))) ?_
     refine WL.yldG (by decide) rfl (Yld.lss rfl rfl) ?_
     refine WL.yld (by decide) (Yld.pickT rfl rfl) ?_
     refine WL.done (hK45 _ _ ?_)
     by_cases hc47 : x41 < (x03.length : Int)
     ·
      replace h := of_t hc47 h
      refine WC.condTe rfl (decide_eq_true hc47) ?_
      refine WC.skip ?_
      refine QK.thenN (hK44 _ _ ?_)
      refine WC.seq fun K48 hK48 => ?_
      refine WC.block ?_
      refine WC.regionD (n := 11) [(0, _), (109, _)] rfl mixed (Sub.cons rfl (Sub.cons rfl (Sub.nil _))) fun K49 hK49 => ?_
      obtain ⟨x50, hx50, h⟩ := bnd h
      obtain ⟨x51, hx51, h⟩ := bnd h
      obtain ⟨x52, hx52, h⟩ := bnd h
      obtain ⟨x53, hx53, h⟩ := bnd h
      refine WD.take 0 rfl (by kernel_rfl) (by kernel_rfl) (by kernel_rfl) (by decide) (Yld.move rfl) ?_
      refine WD.take 1 rfl (by kernel_rfl) (by kernel_rfl) (by kernel_rfl) (by decide) (Yld.move rfl) ?_
      refine WD.take 4 rfl (by kernel_rfl) (by kernel_rfl) (by kernel_rfl) (by decide) (Yld.move rfl) ?_
      refine WD.take 5 rfl (by kernel_rfl) (by kernel_rfl) (by kernel_rfl) (by decide) (Yld.move rfl) ?_
      refine WD.take 6 rfl (by kernel_rfl) (by kernel_rfl) (by kernel_rfl) (by decide) (Yld.idxC (xs := x03) sty_22 rfl rfl (RdH.memM (k := 0) rfl (SlRc.lift hf03 hm_M15)) hx51) ?_
      refine WD.take 7 rfl (by kernel_rfl) (by kernel_rfl) (by kernel_rfl) (by decide) (Yld.loadC0 (xs := x03) scal_5 rfl (RdH.memM (k := 0) rfl (SlRc.lift hf03 hm_M15)) hx51 rfl) ?_
      refine WD.one 2 (by kernel_rfl) ?_
      refine WS.yld rfl (by decide) (Yld.idxC (xs := x40) sty_22 rfl rfl (RdH.own (k := 129) rfl) hx50) ?_
      refine WD.one 3 (by kernel_rfl) ?_
      refine WS.yld rfl (by decide) (Yld.loadC0 (xs := x40) scal_5 rfl (RdH.own (k := 129) rfl) hx50 rfl) ?_
      refine WD.take 8 rfl (by kernel_rfl) (by kernel_rfl) (by kernel_rfl) (by decide) (Yld.xor_u8 (a := x50) (b := x51) rfl rfl) ?_
      refine WD.one 9 (by kernel_rfl) ?_
      refine WS.yld rfl (by decide) (Yld.idxC (xs := x40) sty_22 rfl rfl (RdH.own (k := 129) rfl) hx52) ?_
      refine WD.one 10 (by kernel_rfl) ?_
      refine WS.eff0 rfl (Eff0.storeC1 129 (xs := x40) (a' := x50 ^^^ x51) siz_5 rfl rfl rfl rfl rfl rfl hx53) (Sub.cons rfl (Sub.cons rfl (Sub.nil _))) ?_
      refine WD.done (by kernel_rfl) (hK49 _ _ ?_)
      refine QK.blockN ?_
      refine QK.thenN (hK48 _ _ ?_)
      refine WC.region fun K54 hK54 => ?_
      obtain ⟨x55, hx55, h⟩ := bnd h
      refine WL.yld (by decide) (Yld.move rfl) ?_
      refine WL.yld (by decide) (Yld.addC rfl rfl hx55) ?_
      refine WL.yld (by decide) (Yld.assign rfl) ?_
      refine WL.done (hK54 _ _ ?_)
      refine QK.thenN ?_
      refine hK43 ⟨q42, x53, x55⟩ _ _ ?_ (Nat.lt_succ_self _) (Sub.cons rfl (Sub.cons rfl (Sub.cons rfl (Sub.cons rfl (Sub.cons rfl (Sub.nil _)))))) (Sub.cons rfl (Sub.cons rfl (Sub.cons rfl (Sub.nil _))))
      exact h
     ·
      replace h := of_f hc47 h
      refine WC.condFe rfl (decide_eq_false hc47) ?_
      refine WC.exit (QK.thenE (QK.thenE (QK.blockX ?_)))
      refine QK.thenN ?_
      refine hK38 x40 _ _ ?_ (Sub.cons rfl (Sub.cons rfl (Sub.cons rfl (Sub.nil _)))) (Sub.cons rfl (Sub.cons rfl (Sub.cons rfl (Sub.nil _))))
      exact h
    ·
     replace h := of_f hc46 h
     refine WL.yld (by decide) (Yld.move rfl) ?_
     refine WL.yld (by decide) (Yld.move rfl) ?_
     refine WL.yld (by decide) (Yld.lenC (xs := x40) und_22 rfl (RdH.own (k := 129) rfl)) ?_
     refine WL.yld (by decide) (Yld.lss rfl rfl) ?_
     refine WL.yld (by decide) (Yld.move rfl) ?_
     refine WL.new (v' := .bool false) (congrArg Value.bool (decide_eq_false hc46)) ?_
     refine WL.skip (by decide) rfl rfl ?_
     refine WL.skip (by decide) rfl rfl ?_
     refine WL.skip (by decide) rfl rfl ?_
     refine WL.skip (by decide) rfl rfl ?_
     refine WL.yld (by decide) (Yld.pickF rfl rfl) ?_
     refine WL.done (hK45 _ _ ?_)
     refine WC.condF rfl ?_
     refine WC.exit (QK.thenE (QK.thenE (QK.blockX ?_)))
     refine QK.thenN ?_
     refine hK38 x40 _ _ ?_ (Sub.cons rfl (Sub.cons rfl (Sub.cons rfl (Sub.nil _)))) (Sub.cons rfl (Sub.cons rfl (Sub.cons rfl (Sub.nil _))))
     exact h
  ·
   rintro x37 h
   unfold m_law04_RsFinds_j0 at h
   refine WC.seqRegionD (n := 9) [(0, _), (109, _), (129, _)] rfl mixed (Sub.cons rfl (Sub.cons rfl (Sub.cons rfl (Sub.nil _)))) fun K56 hK56 => ?_
   obtain ⟨x57, hx57, h⟩ := bnd h
   refine WD.take 0 rfl (by kernel_rfl) (by kernel_rfl) (by kernel_rfl) (by decide) (Yld.move rfl) ?_
   refine WD.take 1 rfl (by kernel_rfl) (by kernel_rfl) (by kernel_rfl) (by decide) (Yld.b2sC (xs := x37) und_22 und_5 und_9 rfl (RdH.own (k := 129) rfl)) ?_
   refine WD.take 2 rfl (by kernel_rfl) (by kernel_rfl) (by kernel_rfl) (by decide) (Yld.move rfl) ?_
   refine WD.take 3 rfl (by kernel_rfl) (by kernel_rfl) (by kernel_rfl) (by decide) (Yld.move rfl) ?_
   obtain ⟨r_58, hr59, hq60⟩ := Rels.idx hq20 hx57
   refine WD.take 4 rfl (by kernel_rfl) (by kernel_rfl) (by kernel_rfl) (by decide) (Yld.idxC (xs := rs19) sty_35 rfl rfl (RdH.own (k := 109) rfl) hr59) ?_
   refine WD.take 5 rfl (by kernel_rfl) (by kernel_rfl) (by kernel_rfl) (by decide) (Yld.loadC0 (xs := rs19) scal_22 rfl (RdH.own (k := 109) rfl) hr59 rfl) ?_
   refine WD.take 6 rfl (by kernel_rfl) (by kernel_rfl) (by kernel_rfl) (by decide) (Yld.b2sC (xs := x57) und_22 und_5 und_9 rfl (RdH.memM (k := 0) rfl hq60)) ?_
   refine WD.take 7 rfl (by kernel_rfl) (by kernel_rfl) (by kernel_rfl) (by decide) (Yld.neqStr (a := x37) (b := x57) rfl rfl) ?_
   refine WD.take 8 rfl (by kernel_rfl) (by kernel_rfl) (by kernel_rfl) (by decide) (Yld.assign rfl) ?_
   refine WD.done (by kernel_rfl) (hK56 _ _ ?_)
   refine WC.seqRegion fun K61 hK61 => ?_
   obtain ⟨x62, hx62, h⟩ := bnd h
   obtain ⟨x68, hx68, h⟩ := bnd h
   refine WL.yld (by decide) (Yld.move rfl) ?_
   refine WL.yld (by decide) (Yld.move rfl) ?_
   refine WL.yld (by decide) (Yld.move rfl) ?_
   obtain ⟨r_63, hr64, hq65⟩ := Rels.idx hq20 hx62
   refine WL.yld (by decide) (Yld.idxC (xs := rs19) sty_35 rfl rfl (RdH.own (k := 109) rfl) hr64) ?_
   refine WL.freeze 129 rfl rfl rfl fun M66 hm_M66 hf67 => ?_
   obtain ⟨hu69, hq70⟩ := Rels.upd (r := (⟨A35, x34.length, c36⟩ : Hdr)) (Rels.lift hq20 hm_M66) hx68 hf67
   refine WL.eff0 (Eff0.storeC1 109 (xs := rs19) (a' := (⟨A35, x34.length, c36⟩ : Hdr)) siz_22 rfl rfl rfl rfl rfl rfl hu69) ?_
   refine WL.done (hK61 _ _ ?_)
   refine WC.seqRegion fun K71 hK71 => ?_
   obtain ⟨x72, hx72, h⟩ := bnd h
   refine WL.yld (by decide) (Yld.move rfl) ?_
   refine WL.eff (by decide) (Eff.callS 173 rfl Try.func26 nm_26 rfl rfl (fun w hb hh => w_rs_Locate (Mem.snap w) A16 n17 c18 (rs19.set (x27).toNat (⟨A35, x34.length, c36⟩ : Hdr)) _ (RdH.sn (RdH.own (k := 109) rfl) w hb hh) (Rels.sn hq70 (hh.sat 0 _ rfl)) hx72)) ?_
   rintro _ _ ⟨_, ⟨rfl, rfl⟩, rfl⟩
   refine WL.yld (by decide) (Yld.move rfl) ?_
   refine WL.yld (by decide) (Yld.extract rfl rfl) ?_
   refine WL.yld (by decide) (Yld.extract rfl rfl) ?_
   refine WL.yld (by decide) (Yld.assign rfl) ?_
   refine WL.yld (by decide) (Yld.assign rfl) ?_
   refine WL.done (hK71 _ _ ?_)
   refine WC.seq fun K74 hK74 => ?_
   refine WC.seqRegion fun K75 hK75 => ?_
   refine WL.yld (by decide) (Yld.move rfl) ?_
   refine WL.yld (by decide) (Yld.notB rfl) ?_
   refine WL.done (hK75 _ _ ?_)
   by_cases hc76 : x37 = x57
   ·
    replace h := of_t hc76 h
    refine WC.condTe rfl (not_t (neq_of_eq hc76)) ?_
    refine WC.seqRegion fun K77 hK77 => ?_
    by_cases hc78 : x72.1 = (-1 : Int)
    ·
     replace h := of_t hc78 h
     by_cases hc79 : x72.2 = (0 : Int)
     ·
      replace h := of_t hc79 h
      obtain ⟨x80, hx80, h⟩ := bnd h
      refine WL.yld (by decide) (Yld.move rfl) ?_
      refine WL.yld (by decide) (Yld.eqlI rfl rfl) ?_
      refine WL.yld (by decide) (Yld.move rfl) ?_
      refine WL.new (v' := .bool true) (congrArg Value.bool (beq_iff_eq.2 hc78)) ?_
      refine WL.yldG (by decide) rfl (Yld.move rfl) ?_
      refine WL.yldG (by decide) rfl (Yld.eqlI rfl rfl) ?_
      refine WL.yld (by decide) (Yld.pickT rfl rfl) ?_
      refine WL.yld (by decide) (Yld.move rfl) ?_
      refine WL.new (v' := .bool true) (congrArg Value.bool (beq_iff_eq.2 hc79)) ?_
      refine WL.effG (by decide) rfl (Eff.callS 181 rfl Try.func15 nm_15 rfl rfl (fun w hb hh => w_law04_awake (Mem.snap w) hx80)) ?_
      rintro _ _ ⟨_, ⟨rfl, rfl⟩, rfl⟩
      refine WL.yld (by decide) (Yld.pickT rfl rfl) ?_
      refine WL.yld (by decide) (Yld.assign rfl) ?_
      refine WL.done (hK77 _ _ ?_)
      refine WC.ret (QK.thenR ?_)
      injection h with h; subst h
      exact Ret.fn [] (ResIs.one rfl rfl) rfl (Ext.trans hm_M15 hm_M66) rfl (by decide) rfl rfl ⟨rfl, rfl⟩
     ·
      replace h := of_f hc79 h
      refine WL.yld (by decide) (Yld.move rfl) ?_
      refine WL.yld (by decide) (Yld.eqlI rfl rfl) ?_
      refine WL.yld (by decide) (Yld.move rfl) ?_
      refine WL.new (v' := .bool true) (congrArg Value.bool (beq_iff_eq.2 hc78)) ?_
      refine WL.yldG (by decide) rfl (Yld.move rfl) ?_
      refine WL.yldG (by decide) rfl (Yld.eqlI rfl rfl) ?_
      refine WL.yld (by decide) (Yld.pickT rfl rfl) ?_
      refine WL.yld (by decide) (Yld.move rfl) ?_
      refine WL.new (v' := .bool false) (congrArg Value.bool (beq_eq_false_iff_ne.2 hc79)) ?_
      refine WL.skip (by decide) rfl rfl ?_
      refine WL.yld (by decide) (Yld.pickF rfl rfl) ?_
      refine WL.yld (by decide) (Yld.assign rfl) ?_
      refine WL.done (hK77 _ _ ?_)
      refine WC.ret (QK.thenR ?_)
      injection h with h; subst h
      exact Ret.fn [] (ResIs.one rfl rfl) rfl (Ext.trans hm_M15 hm_M66) rfl (by decide) rfl rfl ⟨rfl, rfl⟩
    ·
     replace h := of_f hc78 h
     refine WL.yld (by decide) (Yld.move rfl) ?_
     refine WL.yld (by decide) (Yld.eqlI rfl rfl) ?_
     refine WL.yld (by decide) (Yld.move rfl) ?_
     refine WL.new (v' := .bool false) (congrArg Value.bool (beq_eq_false_iff_ne.2 hc78)) ?_
     refine WL.skip (by decide) rfl rfl ?_
     refine WL.skip (by decide) rfl rfl ?_
     refine WL.yld (by decide) (Yld.pickF rfl rfl) ?_
     refine WL.yld (by decide) (Yld.move rfl) ?_
     refine WL.skip (by decide) rfl rfl ?_
     refine WL.yld (by decide) (Yld.pickF rfl rfl) ?_
     refine WL.yld (by decide) (Yld.assign rfl) ?_
     refine WL.done (hK77 _ _ ?_)
     refine WC.ret (QK.thenR ?_)
     injection h with h; subst h
     exact Ret.fn [] (ResIs.one rfl rfl) rfl (Ext.trans hm_M15 hm_M66) rfl (by decide) rfl rfl ⟨rfl, rfl⟩
   ·
    replace h := of_f hc76 h
    refine WC.condFe rfl (not_f (neq_of_ne hc76)) ?_
    refine WC.skip ?_
    refine QK.thenN (hK74 _ _ ?_)
    refine WC.seqRegion fun K82 hK82 => ?_
    by_cases hc83 : x72.1 = x27
    ·
     replace h := of_t hc83 h
     by_cases hc84 : x72.2 = (0 : Int)
     ·
      replace h := of_t hc84 h
      obtain ⟨x85, hx85, h⟩ := bnd h
      by_cases hc87 : x85 = true
      ·
       replace h := of_t hc87 h
       refine WL.yld (by decide) (Yld.move rfl) ?_
       refine WL.yld (by decide) (Yld.move rfl) ?_
       refine WL.yld (by decide) (Yld.eqlI rfl rfl) ?_
       refine WL.yld (by decide) (Yld.move rfl) ?_
       refine WL.new (v' := .bool true) (congrArg Value.bool (beq_iff_eq.2 hc83)) ?_
       refine WL.yldG (by decide) rfl (Yld.move rfl) ?_
       refine WL.yldG (by decide) rfl (Yld.eqlI rfl rfl) ?_
       refine WL.yld (by decide) (Yld.pickT rfl rfl) ?_
       refine WL.yld (by decide) (Yld.move rfl) ?_
       refine WL.new (v' := .bool true) (congrArg Value.bool (beq_iff_eq.2 hc84)) ?_
       refine WL.yldG (by decide) rfl (Yld.move rfl) ?_
       refine WL.effG (by decide) rfl (Eff.callS 186 rfl Try.func24 nm_24 rfl rfl (fun w hb hh => w_rs_Verify (Mem.snap w) A16 n17 c18 (rs19.set (x27).toNat (⟨A35, x34.length, c36⟩ : Hdr)) _ (RdH.sn (RdH.own (k := 109) rfl) w hb hh) (Rels.sn hq70 (hh.sat 0 _ rfl)) hx85)) ?_
       rintro _ _ ⟨_, ⟨rfl, rfl⟩, rfl⟩
       refine WL.yldG (by decide) rfl (Yld.notB rfl) ?_
       refine WL.yld (by decide) (Yld.pickT rfl rfl) ?_
       refine WL.yld (by decide) (Yld.move rfl) ?_
       refine WL.new (v' := .bool false) (congrArg Value.bool (not_f hc87)) ?_
       refine WL.skip (by decide) rfl rfl ?_
       refine WL.yld (by decide) (Yld.pickF rfl rfl) ?_
       refine WL.yld (by decide) (Yld.assign rfl) ?_
       refine WL.done (hK82 _ _ ?_)
       refine WC.ret ?_
       injection h with h; subst h
       exact Ret.fn [] (ResIs.one rfl rfl) rfl (Ext.trans hm_M15 hm_M66) rfl (by decide) rfl rfl ⟨rfl, rfl⟩
      ·
       replace h := of_f hc87 h
       obtain ⟨x88, hx88, h⟩ := bnd h
       refine WL.yld (by decide) (Yld.move rfl) ?_
       refine WL.yld (by decide) (Yld.move rfl) ?_
       refine WL.yld (by decide) (Yld.eqlI rfl rfl) ?_
       refine WL.yld (by decide) (Yld.move rfl) ?_
       refine WL.new (v' := .bool true) (congrArg Value.bool (beq_iff_eq.2 hc83)) ?_
       refine WL.yldG (by decide) rfl (Yld.move rfl) ?_
       refine WL.yldG (by decide) rfl (Yld.eqlI rfl rfl) ?_
       refine WL.yld (by decide) (Yld.pickT rfl rfl) ?_
       refine WL.yld (by decide) (Yld.move rfl) ?_
       refine WL.new (v' := .bool true) (congrArg Value.bool (beq_iff_eq.2 hc84)) ?_
       refine WL.yldG (by decide) rfl (Yld.move rfl) ?_
       refine WL.effG (by decide) rfl (Eff.callS 186 rfl Try.func24 nm_24 rfl rfl (fun w hb hh => w_rs_Verify (Mem.snap w) A16 n17 c18 (rs19.set (x27).toNat (⟨A35, x34.length, c36⟩ : Hdr)) _ (RdH.sn (RdH.own (k := 109) rfl) w hb hh) (Rels.sn hq70 (hh.sat 0 _ rfl)) hx85)) ?_
       rintro _ _ ⟨_, ⟨rfl, rfl⟩, rfl⟩
       refine WL.yldG (by decide) rfl (Yld.notB rfl) ?_
       refine WL.yld (by decide) (Yld.pickT rfl rfl) ?_
       refine WL.yld (by decide) (Yld.move rfl) ?_
       refine WL.new (v' := .bool true) (congrArg Value.bool (not_t (Bool.eq_false_iff.2 hc87))) ?_
       refine WL.effG (by decide) rfl (Eff.callS 189 rfl Try.func15 nm_15 rfl rfl (fun w hb hh => w_law04_awake (Mem.snap w) hx88)) ?_
       rintro _ _ ⟨_, ⟨rfl, rfl⟩, rfl⟩
       refine WL.yld (by decide) (Yld.pickT rfl rfl) ?_
       refine WL.yld (by decide) (Yld.assign rfl) ?_
       refine WL.done (hK82 _ _ ?_)
       refine WC.ret ?_
       injection h with h; subst h
       exact Ret.fn [] (ResIs.one rfl rfl) rfl (Ext.trans hm_M15 hm_M66) rfl (by decide) rfl rfl ⟨rfl, rfl⟩
     ·
      replace h := of_f hc84 h
      refine WL.yld (by decide) (Yld.move rfl) ?_
      refine WL.yld (by decide) (Yld.move rfl) ?_
      refine WL.yld (by decide) (Yld.eqlI rfl rfl) ?_
      refine WL.yld (by decide) (Yld.move rfl) ?_
      refine WL.new (v' := .bool true) (congrArg Value.bool (beq_iff_eq.2 hc83)) ?_
      refine WL.yldG (by decide) rfl (Yld.move rfl) ?_
      refine WL.yldG (by decide) rfl (Yld.eqlI rfl rfl) ?_
      refine WL.yld (by decide) (Yld.pickT rfl rfl) ?_
      refine WL.yld (by decide) (Yld.move rfl) ?_
      refine WL.new (v' := .bool false) (congrArg Value.bool (beq_eq_false_iff_ne.2 hc84)) ?_
      refine WL.skip (by decide) rfl rfl ?_
      refine WL.skip (by decide) rfl rfl ?_
      refine WL.skip (by decide) rfl rfl ?_
      refine WL.yld (by decide) (Yld.pickF rfl rfl) ?_
      refine WL.yld (by decide) (Yld.move rfl) ?_
      refine WL.skip (by decide) rfl rfl ?_
      refine WL.yld (by decide) (Yld.pickF rfl rfl) ?_
      refine WL.yld (by decide) (Yld.assign rfl) ?_
      refine WL.done (hK82 _ _ ?_)
      refine WC.ret ?_
      injection h with h; subst h
      exact Ret.fn [] (ResIs.one rfl rfl) rfl (Ext.trans hm_M15 hm_M66) rfl (by decide) rfl rfl ⟨rfl, rfl⟩
    ·
     replace h := of_f hc83 h
     refine WL.yld (by decide) (Yld.move rfl) ?_
     refine WL.yld (by decide) (Yld.move rfl) ?_
     refine WL.yld (by decide) (Yld.eqlI rfl rfl) ?_
     refine WL.yld (by decide) (Yld.move rfl) ?_
     refine WL.new (v' := .bool false) (congrArg Value.bool (beq_eq_false_iff_ne.2 hc83)) ?_
     refine WL.skip (by decide) rfl rfl ?_
     refine WL.skip (by decide) rfl rfl ?_
     refine WL.yld (by decide) (Yld.pickF rfl rfl) ?_
     refine WL.yld (by decide) (Yld.move rfl) ?_
     refine WL.skip (by decide) rfl rfl ?_
     refine WL.skip (by decide) rfl rfl ?_
     refine WL.skip (by decide) rfl rfl ?_
     refine WL.yld (by decide) (Yld.pickF rfl rfl) ?_
     refine WL.yld (by decide) (Yld.move rfl) ?_
     refine WL.skip (by decide) rfl rfl ?_
     refine WL.yld (by decide) (Yld.pickF rfl rfl) ?_
     refine WL.yld (by decide) (Yld.assign rfl) ?_
     refine WL.done (hK82 _ _ ?_)
     refine WC.ret ?_
     injection h with h; subst h
     exact Ret.fn [] (ResIs.one rfl rfl) rfl (Ext.trans hm_M15 hm_M66) rfl (by decide) rfl rfl ⟨rfl, rfl⟩
 ·
  replace h := of_f hc23 h
  refine WC.condTe rfl (not_t (Bool.eq_false_iff.2 hc23)) ?_
  refine WC.seqRegion fun K90 hK90 => ?_
  refine WL.yld (by decide) (Yld.assign rfl) ?_
  refine WL.done (hK90 _ _ ?_)
  refine WC.ret (QK.thenR ?_)
  injection h with h; subst h
  exact Ret.fn [] (ResIs.one rfl rfl) rfl hm_M15 rfl (by decide) rfl rfl ⟨rfl, rfl⟩

end Go.Proofs.Ytnbcphofimicdaa
