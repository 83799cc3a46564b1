/-
 Walks (g6): what a function's model gives, the function returns. Printed by a program of ours (vcm.py) from the function's operations. Conditions: as each theorem says.
-/
import Derived.Test.YtnbcphofimicdaaWkf
import Derived.Test.YtnbcphofimicdaaMdg6
namespace Go.Proofs.Ytnbcphofimicdaa
open Go Go.RowKit
set_option linter.unusedVariables false

theorem nm_15 : (Try.f15.name == "runtime.NumGoroutine") = false := by kernel_rfl
theorem nm_16 : (Try.f16.name == "runtime.NumGoroutine") = false := by kernel_rfl
theorem nm_17 : (Try.f17.name == "runtime.NumGoroutine") = false := by kernel_rfl
theorem nm_26 : (Try.f26.name == "runtime.NumGoroutine") = false := by kernel_rfl
theorem nm_27 : (Try.f27.name == "runtime.NumGoroutine") = false := by kernel_rfl

set_option maxRecDepth 10000 in
theorem w_law04_RsLocates (M0 : Mem) (A00 : Option Addr) (n00 c00 : Nat) (rs00 : List Hdr) (x00 : List (List (BitVec 8))) (hf00 : SlT M0 A00 n00 c00 rs00) (hq00 : Rels ((RelB (α := BitVec 8)) M0) rs00 x00) (A01 : Option Addr) (n01 c01 : Nat) (x01 : List (BitVec 8)) (hf01 : SlT M0 A01 n01 c01 x01) (x02 : Int) (A03 : Option Addr) (n03 c03 : Nat) (x03 : List (Int)) (hf03 : SlT M0 A03 n03 c03 x03) {res : Bool} (h : m_law04_RsLocates x00 x01 x02 x03 = some res) :
  Fn Try.prog 9 #[.slice A00 n00 c00, .slice A01 n01 c01, I64 x02, .slice A03 n03 c03] M0 fun r M' es => r = .bool res ∧ es = [] := by
 refine Fn.intro (N := 134) Try.func9 rfl rfl (Nat.le_of_ble_eq_true rfl) fun w0 => ?_
 unfold m_law04_RsLocates at h
 refine WC.seqRegion fun K1 hK1 => ?_
 refine WL.yld (by decide) (Yld.assign rfl) ?_
 refine WL.done (hK1 _ _ ?_)
 refine WC.seq fun K2 hK2 => ?_
 refine WC.seqRegion fun K3 hK3 => ?_
 obtain ⟨x4, hx4, h⟩ := bnd h
 refine WL.yld (by decide) (Yld.move rfl) ?_
 refine WL.eff (by decide) (Eff.callS 105 rfl Try.func16 nm_16 rfl rfl (fun w hb hh => w_law04_light (Mem.snap w) A00 n00 c00 rs00 _ (RdH.sn (RdH.memM (k := 0) rfl hf00) w hb hh) (Rels.sn hq00 (hh.sat 0 _ rfl)) hx4)) ?_
 rintro _ _ ⟨_, ⟨rfl, rfl⟩, rfl⟩
 refine WL.yld (by decide) (Yld.notB rfl) ?_
 refine WL.done (hK3 _ _ ?_)
 by_cases hc6 : x4 = true
 ·
  replace h := of_t hc6 h
  refine WC.condFe rfl (not_f hc6) ?_
  refine WC.skip ?_
  refine QK.thenN (hK2 _ _ ?_)
  refine WC.seqRegion fun K7 hK7 => ?_
  obtain ⟨x8, hx8, h⟩ := bnd h
  obtain ⟨x26, hx26, h⟩ := bnd h
  refine WL.yld (by decide) (Yld.move rfl) ?_
  refine WL.yld (by decide) (Yld.move rfl) ?_
  refine WL.eff (by decide) (Eff.callM 114 rfl Try.func18 nm_18 rfl rfl rfl (w_law04_data _ A01 n01 c01 _ hf01 x02 hx8)) ?_
  rintro _ _ ⟨M20, _, ⟨A21, n22, c23, rs24, rfl, rfl, hq25⟩, hm_M20, rfl⟩
  refine WL.freeze 114 rfl rfl rfl fun M40 hm_M40 hf41 => ?_
  refine WL.eff (by decide) (Eff.callM 133 rfl Try.func17 nm_17 rfl rfl rfl (w_r04_Encode _ A21 n22 c23 rs24 _ hf41 (Rels.lift hq25 hm_M40) hx26)) ?_
  rintro _ _ ⟨M42, _, ⟨A43, n44, c45, rs46, rfl, rfl, hf48, hq47⟩, hm_M42, rfl⟩
  refine WL.yld (by decide) (Yld.move rfl) ?_
  refine WL.yld (by decide) (Yld.extract rfl rfl) ?_
  refine WL.yld (by decide) (Yld.extract rfl rfl) ?_
  refine WL.yld (by decide) (Yld.assign rfl) ?_
  refine WL.yld (by decide) (Yld.assign rfl) ?_
  refine WL.done (hK7 _ _ ?_)
  refine WC.seqRegion fun K49 hK49 => ?_
  obtain ⟨x50, hx50, h⟩ := bnd h
  obtain ⟨x68, hx68, h⟩ := bnd h
  refine WL.yld (by decide) (Yld.move rfl) ?_
  refine WL.yld (by decide) (Yld.move rfl) ?_
  refine WL.eff (by decide) (Eff.callM 156 rfl Try.func18 nm_18 rfl rfl rfl (w_law04_data _ A01 n01 c01 _ (SlRc.lift (SlRc.lift (SlRc.lift hf01 hm_M20) hm_M40) hm_M42) x02 hx50)) ?_
  rintro _ _ ⟨M62, _, ⟨A63, n64, c65, rs66, rfl, rfl, hq67⟩, hm_M62, rfl⟩
  refine WL.yld (by decide) (Yld.move rfl) ?_
  obtain ⟨hu71, hq72⟩ := Rels.apd hq67 (Rels.lift hq47 hm_M62) hx68
  refine WL.eff (by decide) (Eff.appendC 156 (xs := rs66) (ys := rs46) sty_35 rfl rfl rfl (RdH.memM (k := 0) rfl (SlRc.lift hf48 hm_M62)) hu71) ?_
  rintro _ _ ⟨A69, c70, rfl, rfl⟩
  refine WL.yld (by decide) (Yld.assign rfl) ?_
  refine WL.done (hK49 _ _ ?_)
  refine WC.seqCut (σ := Mem × (List (List (BitVec 8))) × (List Hdr)) (fun ⟨M73, x74, rs75⟩ => [(0, .slice A00 n00 c00), (9, .slice A69 ((rs66 ++ rs46).length) c70)]) (fun ⟨M73, x74, rs75⟩ => [(0, .mem M73), (156, .own 22 (Lay.sz Hdr) A69 ((rs66 ++ rs46).length) c70 (cel rs75))]) (fun ⟨M73, x74, rs75⟩ => m_law04_RsLocates_j0 x00 x74 = some res ∧ Ext w0.heap.size M62 M73 ∧ Rels ((RelB (α := BitVec 8)) M73) rs75 x74) (fun K77 hK77 => ?_) ?_
  ·
   skip
   refine WC.seqRegion fun K78 hK78 => ?_
   refine WL.yld (by decide) (Yld.assign rfl) ?_
   refine WL.done (hK78 _ _ ?_)
   refine WC.block ?_
   refine WC.loop (σ := Nat × Mem × (List (List (BitVec 8))) × (List Hdr) × Int) (fun ⟨q84, M79, x80, rs81, x83⟩ => [(0, .slice A00 n00 c00), (3, .slice A03 n03 c03), (9, .slice A69 ((rs66 ++ rs46).length) c70), (11, I64 x83)]) (fun ⟨q84, M79, x80, rs81, x83⟩ => [(0, .mem M79), (156, .own 22 (Lay.sz Hdr) A69 ((rs66 ++ rs46).length) c70 (cel rs81))]) (fun ⟨q84, M79, x80, rs81, x83⟩ => m_law04_RsLocates_l1 x00 x03 q84 x80 x83 = some res ∧ Ext w0.heap.size M62 M79 ∧ Rels ((RelB (α := BitVec 8)) M79) rs81 x80) (fun ⟨q84, M79, x80, rs81, x83⟩ => q84) ⟨forever, M62, x68, (rs66 ++ rs46), (0 : Int)⟩ ?_ (Sub.cons rfl (Sub.cons rfl (Sub.cons rfl (Sub.cons rfl (Sub.nil _))))) (Sub.cons rfl (Sub.cons rfl (Sub.nil _))) ?_
   ·
    exact ⟨h, (Ext.refl _ _), hq72⟩
   rintro ⟨q84, M79, x80, rs81, x83⟩ ⟨h, hm_M79, hq82⟩ K85 hK85
   cases q84 with
   | zero => exact absurd h (by simp [m_law04_RsLocates_l1])
   | succ q84 =>
    unfold m_law04_RsLocates_l1 at h
    refine WC.seqCut (σ := Unit) (fun _ => [(0, .slice A00 n00 c00), (3, .slice A03 n03 c03), (9, .slice A69 ((rs66 ++ rs46).length) c70), (11, I64 x83)]) (fun _ => [(0, .mem M79), (156, .own 22 (Lay.sz Hdr) A69 ((rs66 ++ rs46).length) c70 (cel rs81))]) (fun _ => m_law04_RsLocates_j2 x03 x80 x83 (m_law04_RsLocates_l1 x00 x03 q84) = some res) (fun K86 hK86 => ?_) ?_
    ·
     skip
     refine WC.seqRegion fun K87 hK87 => ?_
     obtain ⟨x88, hx88, h⟩ := bnd h
     by_cases hc89 : x88 < (x03.length : Int)
     ·
      replace h := of_t hc89 h
      refine WL.yld (by decide) (Yld.move rfl) ?_
      refine WL.yld (by decide) (Yld.addC rfl rfl hx88) ?_
      refine WL.yld (by decide) (Yld.move rfl) ?_
      refine WL.yld (by decide) (Yld.lenC (xs := x03) und_28 rfl (RdH.memM (k := 0) rfl (SlRc.lift (SlRc.lift (SlRc.lift (SlRc.lift (SlRc.lift hf03 hm_M20) hm_M40) hm_M42) hm_M62) hm_M79))) ?_
      refine WL.yld (by decide) (Yld.lss rfl rfl) ?_
      refine WL.yld (by decide) (Yld.move rfl) ?_
      refine WL.new (v' := .bool true) (congrArg Value.bool (decide_eq_true hc89)) ?_
      refine WL.yldG (by decide) rfl (Yld.move rfl) ?_
      refine WL.yldG (by decide) rfl (Yld.lss rfl rfl) ?_
      refine WL.yld (by decide) (Yld.pickT rfl rfl) ?_
      refine WL.done (hK87 _ _ ?_)
      by_cases hc90 : x83 < (6 : Int)
      ·
       replace h := of_t hc90 h
       refine WC.condTe rfl (decide_eq_true hc90) ?_
       refine WC.skip ?_
       refine QK.thenN ?_
       refine hK86 () _ _ ?_ (Sub.cons rfl (Sub.cons rfl (Sub.cons rfl (Sub.cons rfl (Sub.nil _))))) (Sub.cons rfl (Sub.cons rfl (Sub.nil _)))
       exact h
      ·
       replace h := of_f hc90 h
       refine WC.condFe rfl (decide_eq_false hc90) ?_
       refine WC.exit (QK.thenE (QK.thenE (QK.blockX ?_)))
       refine QK.thenN ?_
       refine hK77 ⟨M79, x80, rs81⟩ _ _ ?_ (Sub.cons rfl (Sub.cons rfl (Sub.nil _))) (Sub.cons rfl (Sub.cons rfl (Sub.nil _)))
       exact ⟨h, hm_M79, hq82⟩
     ·
      replace h := of_f hc89 h
      refine WL.yld (by decide) (Yld.move rfl) ?_
      refine WL.yld (by decide) (Yld.addC rfl rfl hx88) ?_
      refine WL.yld (by decide) (Yld.move rfl) ?_
      refine WL.yld (by decide) (Yld.lenC (xs := x03) und_28 rfl (RdH.memM (k := 0) rfl (SlRc.lift (SlRc.lift (SlRc.lift (SlRc.lift (SlRc.lift hf03 hm_M20) hm_M40) hm_M42) hm_M62) hm_M79))) ?_
      refine WL.yld (by decide) (Yld.lss rfl rfl) ?_
      refine WL.yld (by decide) (Yld.move rfl) ?_
      refine WL.new (v' := .bool false) (congrArg Value.bool (decide_eq_false hc89)) ?_
      refine WL.skip (by decide) rfl rfl ?_
      refine WL.skip (by decide) rfl rfl ?_
      refine WL.yld (by decide) (Yld.pickF rfl rfl) ?_
      refine WL.done (hK87 _ _ ?_)
      refine WC.condF rfl ?_
      refine WC.exit (QK.thenE (QK.thenE (QK.blockX ?_)))
      refine QK.thenN ?_
      refine hK77 ⟨M79, x80, rs81⟩ _ _ ?_ (Sub.cons rfl (Sub.cons rfl (Sub.nil _))) (Sub.cons rfl (Sub.cons rfl (Sub.nil _)))
      exact ⟨h, hm_M79, hq82⟩
    ·
     rintro _ h
     unfold m_law04_RsLocates_j2 at h
     refine WC.seq fun K91 hK91 => ?_
     refine WC.block ?_
     refine WC.seqRegion fun K92 hK92 => ?_
     obtain ⟨x93, hx93, h⟩ := bnd h
     obtain ⟨x94, hx94, h⟩ := bnd h
     refine WL.yld (by decide) (Yld.move rfl) ?_
     refine WL.yld (by decide) (Yld.move rfl) ?_
     refine WL.yld (by decide) (Yld.idxC (xs := x03) sty_28 rfl rfl (RdH.memM (k := 0) rfl (SlRc.lift (SlRc.lift (SlRc.lift (SlRc.lift (SlRc.lift hf03 hm_M20) hm_M40) hm_M42) hm_M62) hm_M79)) hx93) ?_
     refine WL.yld (by decide) (Yld.loadC0 (xs := x03) scal_3 rfl (RdH.memM (k := 0) rfl (SlRc.lift (SlRc.lift (SlRc.lift (SlRc.lift (SlRc.lift hf03 hm_M20) hm_M40) hm_M42) hm_M62) hm_M79)) hx93 rfl) ?_
     refine WL.yld (by decide) (Yld.andC rfl rfl) ?_
     refine WL.yld (by decide) (Yld.remC rfl rfl hx94) ?_
     refine WL.yld (by decide) (Yld.assign rfl) ?_
     refine WL.done (hK92 _ _ ?_)
     refine WC.seqRegion fun K95 hK95 => ?_
     obtain ⟨x97, hx97, h⟩ := bnd h
     obtain ⟨x101, hx101, h⟩ := bnd h
     refine WL.eff (by decide) (Eff.buildC 196 ([] : List (BitVec 8)) sty_22 rfl rfl rfl rfl rfl (by decide)) ?_
     rintro _ _ ⟨g96, rfl, rfl⟩
     refine WL.yld (by decide) (Yld.move rfl) ?_
     refine WL.yld (by decide) (Yld.move rfl) ?_
     obtain ⟨r_98, hr99, hq100⟩ := Rels.idx hq82 hx97
     refine WL.yld (by decide) (Yld.idxC (xs := rs81) sty_35 rfl rfl (RdH.own (k := 156) rfl) hr99) ?_
     refine WL.yld (by decide) (Yld.loadC0 (xs := rs81) scal_22 rfl (RdH.own (k := 156) rfl) hr99 rfl) ?_
     refine WL.eff (by decide) (Eff.appendC 196 (xs := ([] : List (BitVec 8))) (ys := x97) sty_22 rfl rfl rfl (RdH.memM (k := 0) rfl hq100) hx101) ?_
     rintro _ _ ⟨A102, c103, rfl, rfl⟩
     refine WL.yld (by decide) (Yld.assign rfl) ?_
     refine WL.done (hK95 _ _ ?_)
     refine WC.seq fun K104 hK104 => ?_
     refine WC.seqRegion fun K105 hK105 => ?_
     refine WL.yld (by decide) (Yld.move rfl) ?_
     refine WL.yld (by decide) (Yld.lenC (xs := x101) und_22 rfl (RdH.own (k := 196) rfl)) ?_
     refine WL.yld (by decide) (Yld.gtr rfl rfl) ?_
     refine WL.done (hK105 _ _ ?_)
     by_cases hc106 : (0 : Int) < (x101.length : Int)
     ·
      replace h := of_t hc106 h
      refine WC.condTe rfl (decide_eq_true hc106) ?_
      refine WC.regionD (n := 26) [(0, _), (156, _)] rfl mixed (Sub.cons rfl (Sub.cons rfl (Sub.nil _))) fun K107 hK107 => ?_
      obtain ⟨x108, hx108, h⟩ := bnd h
      obtain ⟨x109, hx109, h⟩ := bnd h
      obtain ⟨x110, hx110, h⟩ := bnd h
      obtain ⟨x111, hx111, h⟩ := bnd h
      obtain ⟨x112, hx112, h⟩ := bnd h
      obtain ⟨x113, hx113, h⟩ := bnd h
      obtain ⟨x114, hx114, h⟩ := bnd h
      obtain ⟨x115, hx115, h⟩ := bnd h
      obtain ⟨x116, hx116, h⟩ := bnd h
      obtain ⟨x117, hx117, h⟩ := bnd h
      refine WD.take 0 rfl (by kernel_rfl) (by kernel_rfl) (by kernel_rfl) (by decide) (Yld.move rfl) ?_
      refine WD.take 1 rfl (by kernel_rfl) (by kernel_rfl) (by kernel_rfl) (by decide) (Yld.move rfl) ?_
      refine WD.take 2 rfl (by kernel_rfl) (by kernel_rfl) (by kernel_rfl) (by decide) (Yld.move rfl) ?_
      refine WD.take 3 rfl (by kernel_rfl) (by kernel_rfl) (by kernel_rfl) (by decide) (Yld.addC rfl rfl hx108) ?_
      refine WD.take 4 rfl (by kernel_rfl) (by kernel_rfl) (by kernel_rfl) (by decide) (Yld.idxC (xs := x03) sty_28 rfl rfl (RdH.memM (k := 0) rfl (SlRc.lift (SlRc.lift (SlRc.lift (SlRc.lift (SlRc.lift hf03 hm_M20) hm_M40) hm_M42) hm_M62) hm_M79)) hx109) ?_
      refine WD.take 5 rfl (by kernel_rfl) (by kernel_rfl) (by kernel_rfl) (by decide) (Yld.loadC0 (xs := x03) scal_3 rfl (RdH.memM (k := 0) rfl (SlRc.lift (SlRc.lift (SlRc.lift (SlRc.lift (SlRc.lift hf03 hm_M20) hm_M40) hm_M42) hm_M62) hm_M79)) hx109 rfl) ?_
      refine WD.take 6 rfl (by kernel_rfl) (by kernel_rfl) (by kernel_rfl) (by decide) (Yld.move rfl) ?_
      refine WD.take 9 rfl (by kernel_rfl) (by kernel_rfl) (by kernel_rfl) (by decide) (Yld.move rfl) ?_
      refine WD.take 12 rfl (by kernel_rfl) (by kernel_rfl) (by kernel_rfl) (by decide) (Yld.move rfl) ?_
      refine WD.take 17 rfl (by kernel_rfl) (by kernel_rfl) (by kernel_rfl) (by decide) (Yld.move rfl) ?_
      refine WD.take 18 rfl (by kernel_rfl) (by kernel_rfl) (by kernel_rfl) (by decide) (Yld.move rfl) ?_
      refine WD.take 19 rfl (by kernel_rfl) (by kernel_rfl) (by kernel_rfl) (by decide) (Yld.idxC (xs := x03) sty_28 rfl rfl (RdH.memM (k := 0) rfl (SlRc.lift (SlRc.lift (SlRc.lift (SlRc.lift (SlRc.lift hf03 hm_M20) hm_M40) hm_M42) hm_M62) hm_M79)) hx114) ?_
      refine WD.take 20 rfl (by kernel_rfl) (by kernel_rfl) (by kernel_rfl) (by decide) (Yld.loadC0 (xs := x03) scal_3 rfl (RdH.memM (k := 0) rfl (SlRc.lift (SlRc.lift (SlRc.lift (SlRc.lift (SlRc.lift hf03 hm_M20) hm_M40) hm_M42) hm_M62) hm_M79)) hx114 rfl) ?_
      refine WD.take 21 rfl (by kernel_rfl) (by kernel_rfl) (by kernel_rfl) (by decide) (Yld.shrC rfl rfl hx115) ?_
      refine WD.take 22 rfl (by kernel_rfl) (by kernel_rfl) (by kernel_rfl) (by decide) (Yld.conv_i64_u8 some_3 und_5 rfl) ?_
      refine WD.three 7 10 13 (by kernel_rfl) ?_ ?_ ?_
      ·
       skip
       refine WS.yld rfl (by decide) (Yld.lenC (xs := x101) und_22 rfl (RdH.own (k := 196) rfl)) ?_
       refine WD.take 8 rfl (by kernel_rfl) (by kernel_rfl) (by kernel_rfl) (by decide) (Yld.remC rfl rfl hx110) ?_
       refine WD.two 10 13 (by kernel_rfl) ?_ ?_
       ·
        skip
        refine WS.yld rfl (by decide) (Yld.lenC (xs := x101) und_22 rfl (RdH.own (k := 196) rfl)) ?_
        refine WD.take 11 rfl (by kernel_rfl) (by kernel_rfl) (by kernel_rfl) (by decide) (Yld.addC rfl rfl hx111) ?_
        refine WD.one 13 (by kernel_rfl) ?_
        refine WS.yld rfl (by decide) (Yld.lenC (xs := x101) und_22 rfl (RdH.own (k := 196) rfl)) ?_
        refine WD.take 14 rfl (by kernel_rfl) (by kernel_rfl) (by kernel_rfl) (by decide) (Yld.remC rfl rfl hx112) ?_
        refine WD.one 15 (by kernel_rfl) ?_
        refine WS.yld rfl (by decide) (Yld.idxC (xs := x101) sty_22 rfl rfl (RdH.own (k := 196) rfl) hx113) ?_
        refine WD.one 16 (by kernel_rfl) ?_
        refine WS.yld rfl (by decide) (Yld.loadC0 (xs := x101) scal_5 rfl (RdH.own (k := 196) rfl) hx113 rfl) ?_
        refine WD.take 23 rfl (by kernel_rfl) (by kernel_rfl) (by kernel_rfl) (by decide) (Yld.xor_u8 (a := x113) (b := (BitVec.ofInt 8 x115)) rfl rfl) ?_
        refine WD.one 24 (by kernel_rfl) ?_
        refine WS.yld rfl (by decide) (Yld.idxC (xs := x101) sty_22 rfl rfl (RdH.own (k := 196) rfl) hx116) ?_
        refine WD.one 25 (by kernel_rfl) ?_
        refine WS.eff0 rfl (Eff0.storeC1 196 (xs := x101) (a' := x113 ^^^ (BitVec.ofInt 8 x115)) siz_5 rfl rfl rfl rfl rfl rfl hx117) (Sub.cons rfl (Sub.cons rfl (Sub.nil _))) ?_
        refine WD.done (by kernel_rfl) (hK107 _ _ ?_)
        refine QK.thenN (hK104 _ _ ?_)
        refine WC.region fun K118 hK118 => ?_
        obtain ⟨x119, hx119, h⟩ := bnd h
        obtain ⟨x125, hx125, h⟩ := bnd h
        refine WL.yld (by decide) (Yld.move rfl) ?_
        refine WL.yld (by decide) (Yld.move rfl) ?_
        refine WL.yld (by decide) (Yld.move rfl) ?_
        obtain ⟨r_120, hr121, hq122⟩ := Rels.idx hq82 hx119
        refine WL.yld (by decide) (Yld.idxC (xs := rs81) sty_35 rfl rfl (RdH.own (k := 156) rfl) hr121) ?_
        refine WL.freeze 196 rfl rfl rfl fun M123 hm_M123 hf124 => ?_
        obtain ⟨hu126, hq127⟩ := Rels.upd (r := (⟨A102, x101.length, c103⟩ : Hdr)) (Rels.lift hq82 hm_M123) hx125 hf124
        refine WL.eff0 (Eff0.storeC1 156 (xs := rs81) (a' := (⟨A102, x101.length, c103⟩ : Hdr)) siz_22 rfl rfl rfl rfl rfl rfl hu126) ?_
        refine WL.done (hK118 _ _ ?_)
        refine QK.blockN ?_
        refine QK.thenN (hK91 _ _ ?_)
        refine WC.region fun K128 hK128 => ?_
        obtain ⟨x129, hx129, h⟩ := bnd h
        refine WL.yld (by decide) (Yld.move rfl) ?_
        refine WL.yld (by decide) (Yld.addC rfl rfl hx129) ?_
        refine WL.yld (by decide) (Yld.assign rfl) ?_
        refine WL.done (hK128 _ _ ?_)
        refine QK.thenN ?_
        refine hK85 ⟨q84, M123, x125, (rs81.set (x94).toNat (⟨A102, x101.length, c103⟩ : Hdr)), x129⟩ _ _ ?_ (Nat.lt_succ_self _) (Sub.cons rfl (Sub.cons rfl (Sub.cons rfl (Sub.cons rfl (Sub.nil _))))) (Sub.cons rfl (Sub.cons rfl (Sub.nil _)))
        exact ⟨h, (Ext.trans hm_M79 hm_M123), hq127⟩
       ·
        skip
        refine WS.yld rfl (by decide) (Yld.lenC (xs := x101) und_22 rfl (RdH.own (k := 196) rfl)) ?_
        refine WD.one 10 (by kernel_rfl) ?_
        refine WS.yld rfl (by decide) (Yld.lenC (xs := x101) und_22 rfl (RdH.own (k := 196) rfl)) ?_
        refine WD.take 11 rfl (by kernel_rfl) (by kernel_rfl) (by kernel_rfl) (by decide) (Yld.addC rfl rfl hx111) ?_
        refine WD.take 14 rfl (by kernel_rfl) (by kernel_rfl) (by kernel_rfl) (by decide) (Yld.remC rfl rfl hx112) ?_
        refine WD.one 15 (by kernel_rfl) ?_
        refine WS.yld rfl (by decide) (Yld.idxC (xs := x101) sty_22 rfl rfl (RdH.own (k := 196) rfl) hx113) ?_
        refine WD.one 16 (by kernel_rfl) ?_
        refine WS.yld rfl (by decide) (Yld.loadC0 (xs := x101) scal_5 rfl (RdH.own (k := 196) rfl) hx113 rfl) ?_
        refine WD.take 23 rfl (by kernel_rfl) (by kernel_rfl) (by kernel_rfl) (by decide) (Yld.xor_u8 (a := x113) (b := (BitVec.ofInt 8 x115)) rfl rfl) ?_
        refine WD.one 24 (by kernel_rfl) ?_
        refine WS.yld rfl (by decide) (Yld.idxC (xs := x101) sty_22 rfl rfl (RdH.own (k := 196) rfl) hx116) ?_
        refine WD.one 25 (by kernel_rfl) ?_
        refine WS.eff0 rfl (Eff0.storeC1 196 (xs := x101) (a' := x113 ^^^ (BitVec.ofInt 8 x115)) siz_5 rfl rfl rfl rfl rfl rfl hx117) (Sub.cons rfl (Sub.cons rfl (Sub.nil _))) ?_
        refine WD.done (by kernel_rfl) (hK107 _ _ ?_)
        refine QK.thenN (hK104 _ _ ?_)
        refine WC.region fun K130 hK130 => ?_
        obtain ⟨x131, hx131, h⟩ := bnd h
        obtain ⟨x137, hx137, h⟩ := bnd h
        refine WL.yld (by decide) (Yld.move rfl) ?_
        refine WL.yld (by decide) (Yld.move rfl) ?_
        refine WL.yld (by decide) (Yld.move rfl) ?_
        obtain ⟨r_132, hr133, hq134⟩ := Rels.idx hq82 hx131
        refine WL.yld (by decide) (Yld.idxC (xs := rs81) sty_35 rfl rfl (RdH.own (k := 156) rfl) hr133) ?_
        refine WL.freeze 196 rfl rfl rfl fun M135 hm_M135 hf136 => ?_
        obtain ⟨hu138, hq139⟩ := Rels.upd (r := (⟨A102, x101.length, c103⟩ : Hdr)) (Rels.lift hq82 hm_M135) hx137 hf136
        refine WL.eff0 (Eff0.storeC1 156 (xs := rs81) (a' := (⟨A102, x101.length, c103⟩ : Hdr)) siz_22 rfl rfl rfl rfl rfl rfl hu138) ?_
        refine WL.done (hK130 _ _ ?_)
        refine QK.blockN ?_
        refine QK.thenN (hK91 _ _ ?_)
        refine WC.region fun K140 hK140 => ?_
        obtain ⟨x141, hx141, h⟩ := bnd h
        refine WL.yld (by decide) (Yld.move rfl) ?_
        refine WL.yld (by decide) (Yld.addC rfl rfl hx141) ?_
        refine WL.yld (by decide) (Yld.assign rfl) ?_
        refine WL.done (hK140 _ _ ?_)
        refine QK.thenN ?_
        refine hK85 ⟨q84, M135, x137, (rs81.set (x94).toNat (⟨A102, x101.length, c103⟩ : Hdr)), x141⟩ _ _ ?_ (Nat.lt_succ_self _) (Sub.cons rfl (Sub.cons rfl (Sub.cons rfl (Sub.cons rfl (Sub.nil _))))) (Sub.cons rfl (Sub.cons rfl (Sub.nil _)))
        exact ⟨h, (Ext.trans hm_M79 hm_M135), hq139⟩
      ·
       skip
       refine WS.yld rfl (by decide) (Yld.lenC (xs := x101) und_22 rfl (RdH.own (k := 196) rfl)) ?_
       refine WD.two 7 13 (by kernel_rfl) ?_ ?_
       ·
        skip
        refine WS.yld rfl (by decide) (Yld.lenC (xs := x101) und_22 rfl (RdH.own (k := 196) rfl)) ?_
        refine WD.take 8 rfl (by kernel_rfl) (by kernel_rfl) (by kernel_rfl) (by decide) (Yld.remC rfl rfl hx110) ?_
        refine WD.take 11 rfl (by kernel_rfl) (by kernel_rfl) (by kernel_rfl) (by decide) (Yld.addC rfl rfl hx111) ?_
        refine WD.one 13 (by kernel_rfl) ?_
        refine WS.yld rfl (by decide) (Yld.lenC (xs := x101) und_22 rfl (RdH.own (k := 196) rfl)) ?_
        refine WD.take 14 rfl (by kernel_rfl) (by kernel_rfl) (by kernel_rfl) (by decide) (Yld.remC rfl rfl hx112) ?_
        refine WD.one 15 (by kernel_rfl) ?_
        refine WS.yld rfl (by decide) (Yld.idxC (xs := x101) sty_22 rfl rfl (RdH.own (k := 196) rfl) hx113) ?_
        refine WD.one 16 (by kernel_rfl) ?_
        refine WS.yld rfl (by decide) (Yld.loadC0 (xs := x101) scal_5 rfl (RdH.own (k := 196) rfl) hx113 rfl) ?_
        refine WD.take 23 rfl (by kernel_rfl) (by kernel_rfl) (by kernel_rfl) (by decide) (Yld.xor_u8 (a := x113) (b := (BitVec.ofInt 8 x115)) rfl rfl) ?_
        refine WD.one 24 (by kernel_rfl) ?_
        refine WS.yld rfl (by decide) (Yld.idxC (xs := x101) sty_22 rfl rfl (RdH.own (k := 196) rfl) hx116) ?_
        refine WD.one 25 (by kernel_rfl) ?_
        refine WS.eff0 rfl (Eff0.storeC1 196 (xs := x101) (a' := x113 ^^^ (BitVec.ofInt 8 x115)) siz_5 rfl rfl rfl rfl rfl rfl hx117) (Sub.cons rfl (Sub.cons rfl (Sub.nil _))) ?_
        refine WD.done (by kernel_rfl) (hK107 _ _ ?_)
        refine QK.thenN (hK104 _ _ ?_)
        refine WC.region fun K142 hK142 => ?_
        obtain ⟨x143, hx143, h⟩ := bnd h
        obtain ⟨x149, hx149, h⟩ := bnd h
        refine WL.yld (by decide) (Yld.move rfl) ?_
        refine WL.yld (by decide) (Yld.move rfl) ?_
        refine WL.yld (by decide) (Yld.move rfl) ?_
        obtain ⟨r_144, hr145, hq146⟩ := Rels.idx hq82 hx143
        refine WL.yld (by decide) (Yld.idxC (xs := rs81) sty_35 rfl rfl (RdH.own (k := 156) rfl) hr145) ?_
        refine WL.freeze 196 rfl rfl rfl fun M147 hm_M147 hf148 => ?_
        obtain ⟨hu150, hq151⟩ := Rels.upd (r := (⟨A102, x101.length, c103⟩ : Hdr)) (Rels.lift hq82 hm_M147) hx149 hf148
        refine WL.eff0 (Eff0.storeC1 156 (xs := rs81) (a' := (⟨A102, x101.length, c103⟩ : Hdr)) siz_22 rfl rfl rfl rfl rfl rfl hu150) ?_
        refine WL.done (hK142 _ _ ?_)
        refine QK.blockN ?_
        refine QK.thenN (hK91 _ _ ?_)
        refine WC.region fun K152 hK152 => ?_
        obtain ⟨x153, hx153, h⟩ := bnd h
        refine WL.yld (by decide) (Yld.move rfl) ?_
        refine WL.yld (by decide) (Yld.addC rfl rfl hx153) ?_
        refine WL.yld (by decide) (Yld.assign rfl) ?_
        refine WL.done (hK152 _ _ ?_)
        refine QK.thenN ?_
        refine hK85 ⟨q84, M147, x149, (rs81.set (x94).toNat (⟨A102, x101.length, c103⟩ : Hdr)), x153⟩ _ _ ?_ (Nat.lt_succ_self _) (Sub.cons rfl (Sub.cons rfl (Sub.cons rfl (Sub.cons rfl (Sub.nil _))))) (Sub.cons rfl (Sub.cons rfl (Sub.nil _)))
        exact ⟨h, (Ext.trans hm_M79 hm_M147), hq151⟩
       ·
        skip
        refine WS.yld rfl (by decide) (Yld.lenC (xs := x101) und_22 rfl (RdH.own (k := 196) rfl)) ?_
        refine WD.one 7 (by kernel_rfl) ?_
        refine WS.yld rfl (by decide) (Yld.lenC (xs := x101) und_22 rfl (RdH.own (k := 196) rfl)) ?_
        refine WD.take 8 rfl (by kernel_rfl) (by kernel_rfl) (by kernel_rfl) (by decide) (Yld.remC rfl rfl hx110) ?_
        refine WD.take 11 rfl (by kernel_rfl) (by kernel_rfl) (by kernel_rfl) (by decide) (Yld.addC rfl rfl hx111) ?_
        refine WD.take 14 rfl (by kernel_rfl) (by kernel_rfl) (by kernel_rfl) (by decide) (Yld.remC rfl rfl hx112) ?_
        refine WD.one 15 (by kernel_rfl) ?_
        refine WS.yld rfl (by decide) (Yld.idxC (xs := x101) sty_22 rfl rfl (RdH.own (k := 196) rfl) hx113) ?_
        refine WD.one 16 (by kernel_rfl) ?_
        refine WS.yld rfl (by decide) (Yld.loadC0 (xs := x101) scal_5 rfl (RdH.own (k := 196) rfl) hx113 rfl) ?_
        refine WD.take 23 rfl (by kernel_rfl) (by kernel_rfl) (by kernel_rfl) (by decide) (Yld.xor_u8 (a := x113) (b := (BitVec.ofInt 8 x115)) rfl rfl) ?_
        refine WD.one 24 (by kernel_rfl) ?_
        refine WS.yld rfl (by decide) (Yld.idxC (xs := x101) sty_22 rfl rfl (RdH.own (k := 196) rfl) hx116) ?_
        refine WD.one 25 (by kernel_rfl) ?_
        refine WS.eff0 rfl (Eff0.storeC1 196 (xs := x101) (a' := x113 ^^^ (BitVec.ofInt 8 x115)) siz_5 rfl rfl rfl rfl rfl rfl hx117) (Sub.cons rfl (Sub.cons rfl (Sub.nil _))) ?_
        refine WD.done (by kernel_rfl) (hK107 _ _ ?_)
        refine QK.thenN (hK104 _ _ ?_)
        refine WC.region fun K154 hK154 => ?_
        obtain ⟨x155, hx155, h⟩ := bnd h
        obtain ⟨x161, hx161, h⟩ := bnd h
        refine WL.yld (by decide) (Yld.move rfl) ?_
        refine WL.yld (by decide) (Yld.move rfl) ?_
        refine WL.yld (by decide) (Yld.move rfl) ?_
        obtain ⟨r_156, hr157, hq158⟩ := Rels.idx hq82 hx155
        refine WL.yld (by decide) (Yld.idxC (xs := rs81) sty_35 rfl rfl (RdH.own (k := 156) rfl) hr157) ?_
        refine WL.freeze 196 rfl rfl rfl fun M159 hm_M159 hf160 => ?_
        obtain ⟨hu162, hq163⟩ := Rels.upd (r := (⟨A102, x101.length, c103⟩ : Hdr)) (Rels.lift hq82 hm_M159) hx161 hf160
        refine WL.eff0 (Eff0.storeC1 156 (xs := rs81) (a' := (⟨A102, x101.length, c103⟩ : Hdr)) siz_22 rfl rfl rfl rfl rfl rfl hu162) ?_
        refine WL.done (hK154 _ _ ?_)
        refine QK.blockN ?_
        refine QK.thenN (hK91 _ _ ?_)
        refine WC.region fun K164 hK164 => ?_
        obtain ⟨x165, hx165, h⟩ := bnd h
        refine WL.yld (by decide) (Yld.move rfl) ?_
        refine WL.yld (by decide) (Yld.addC rfl rfl hx165) ?_
        refine WL.yld (by decide) (Yld.assign rfl) ?_
        refine WL.done (hK164 _ _ ?_)
        refine QK.thenN ?_
        refine hK85 ⟨q84, M159, x161, (rs81.set (x94).toNat (⟨A102, x101.length, c103⟩ : Hdr)), x165⟩ _ _ ?_ (Nat.lt_succ_self _) (Sub.cons rfl (Sub.cons rfl (Sub.cons rfl (Sub.cons rfl (Sub.nil _))))) (Sub.cons rfl (Sub.cons rfl (Sub.nil _)))
        exact ⟨h, (Ext.trans hm_M79 hm_M159), hq163⟩
      ·
       skip
       refine WS.yld rfl (by decide) (Yld.lenC (xs := x101) und_22 rfl (RdH.own (k := 196) rfl)) ?_
       refine WD.two 7 10 (by kernel_rfl) ?_ ?_
       ·
        skip
        refine WS.yld rfl (by decide) (Yld.lenC (xs := x101) und_22 rfl (RdH.own (k := 196) rfl)) ?_
        refine WD.take 8 rfl (by kernel_rfl) (by kernel_rfl) (by kernel_rfl) (by decide) (Yld.remC rfl rfl hx110) ?_
        refine WD.one 10 (by kernel_rfl) ?_
        refine WS.yld rfl (by decide) (Yld.lenC (xs := x101) und_22 rfl (RdH.own (k := 196) rfl)) ?_
        refine WD.take 11 rfl (by kernel_rfl) (by kernel_rfl) (by kernel_rfl) (by decide) (Yld.addC rfl rfl hx111) ?_
        refine WD.take 14 rfl (by kernel_rfl) (by kernel_rfl) (by kernel_rfl) (by decide) (Yld.remC rfl rfl hx112) ?_
        refine WD.one 15 (by kernel_rfl) ?_
        refine WS.yld rfl (by decide) (Yld.idxC (xs := x101) sty_22 rfl rfl (RdH.own (k := 196) rfl) hx113) ?_
        refine WD.one 16 (by kernel_rfl) ?_
        refine WS.yld rfl (by decide) (Yld.loadC0 (xs := x101) scal_5 rfl (RdH.own (k := 196) rfl) hx113 rfl) ?_
        refine WD.take 23 rfl (by kernel_rfl) (by kernel_rfl) (by kernel_rfl) (by decide) (Yld.xor_u8 (a := x113) (b := (BitVec.ofInt 8 x115)) rfl rfl) ?_
        refine WD.one 24 (by kernel_rfl) ?_
        refine WS.yld rfl (by decide) (Yld.idxC (xs := x101) sty_22 rfl rfl (RdH.own (k := 196) rfl) hx116) ?_
        refine WD.one 25 (by kernel_rfl) ?_
        refine WS.eff0 rfl (Eff0.storeC1 196 (xs := x101) (a' := x113 ^^^ (BitVec.ofInt 8 x115)) siz_5 rfl rfl rfl rfl rfl rfl hx117) (Sub.cons rfl (Sub.cons rfl (Sub.nil _))) ?_
        refine WD.done (by kernel_rfl) (hK107 _ _ ?_)
        refine QK.thenN (hK104 _ _ ?_)
        refine WC.region fun K166 hK166 => ?_
        obtain ⟨x167, hx167, h⟩ := bnd h
        obtain ⟨x173, hx173, h⟩ := bnd h
        refine WL.yld (by decide) (Yld.move rfl) ?_
        refine WL.yld (by decide) (Yld.move rfl) ?_
        refine WL.yld (by decide) (Yld.move rfl) ?_
        obtain ⟨r_168, hr169, hq170⟩ := Rels.idx hq82 hx167
        refine WL.yld (by decide) (Yld.idxC (xs := rs81) sty_35 rfl rfl (RdH.own (k := 156) rfl) hr169) ?_
        refine WL.freeze 196 rfl rfl rfl fun M171 hm_M171 hf172 => ?_
        obtain ⟨hu174, hq175⟩ := Rels.upd (r := (⟨A102, x101.length, c103⟩ : Hdr)) (Rels.lift hq82 hm_M171) hx173 hf172
        refine WL.eff0 (Eff0.storeC1 156 (xs := rs81) (a' := (⟨A102, x101.length, c103⟩ : Hdr)) siz_22 rfl rfl rfl rfl rfl rfl hu174) ?_
        refine WL.done (hK166 _ _ ?_)
        refine QK.blockN ?_
        refine QK.thenN (hK91 _ _ ?_)
        refine WC.region fun K176 hK176 => ?_
        obtain ⟨x177, hx177, h⟩ := bnd h
        refine WL.yld (by decide) (Yld.move rfl) ?_
        refine WL.yld (by decide) (Yld.addC rfl rfl hx177) ?_
        refine WL.yld (by decide) (Yld.assign rfl) ?_
        refine WL.done (hK176 _ _ ?_)
        refine QK.thenN ?_
        refine hK85 ⟨q84, M171, x173, (rs81.set (x94).toNat (⟨A102, x101.length, c103⟩ : Hdr)), x177⟩ _ _ ?_ (Nat.lt_succ_self _) (Sub.cons rfl (Sub.cons rfl (Sub.cons rfl (Sub.cons rfl (Sub.nil _))))) (Sub.cons rfl (Sub.cons rfl (Sub.nil _)))
        exact ⟨h, (Ext.trans hm_M79 hm_M171), hq175⟩
       ·
        skip
        refine WS.yld rfl (by decide) (Yld.lenC (xs := x101) und_22 rfl (RdH.own (k := 196) rfl)) ?_
        refine WD.one 7 (by kernel_rfl) ?_
        refine WS.yld rfl (by decide) (Yld.lenC (xs := x101) und_22 rfl (RdH.own (k := 196) rfl)) ?_
        refine WD.take 8 rfl (by kernel_rfl) (by kernel_rfl) (by kernel_rfl) (by decide) (Yld.remC rfl rfl hx110) ?_
        refine WD.take 11 rfl (by kernel_rfl) (by kernel_rfl) (by kernel_rfl) (by decide) (Yld.addC rfl rfl hx111) ?_
        refine WD.take 14 rfl (by kernel_rfl) (by kernel_rfl) (by kernel_rfl) (by decide) (Yld.remC rfl rfl hx112) ?_
        refine WD.one 15 (by kernel_rfl) ?_
        refine WS.yld rfl (by decide) (Yld.idxC (xs := x101) sty_22 rfl rfl (RdH.own (k := 196) rfl) hx113) ?_
        refine WD.one 16 (by kernel_rfl) ?_
        refine WS.yld rfl (by decide) (Yld.loadC0 (xs := x101) scal_5 rfl (RdH.own (k := 196) rfl) hx113 rfl) ?_
        refine WD.take 23 rfl (by kernel_rfl) (by kernel_rfl) (by kernel_rfl) (by decide) (Yld.xor_u8 (a := x113) (b := (BitVec.ofInt 8 x115)) rfl rfl) ?_
        refine WD.one 24 (by kernel_rfl) ?_
        refine WS.yld rfl (by decide) (Yld.idxC (xs := x101) sty_22 rfl rfl (RdH.own (k := 196) rfl) hx116) ?_
        refine WD.one 25 (by kernel_rfl) ?_
        refine WS.eff0 rfl (Eff0.storeC1 196 (xs := x101) (a' := x113 ^^^ (BitVec.ofInt 8 x115)) siz_5 rfl rfl rfl rfl rfl rfl hx117) (Sub.cons rfl (Sub.cons rfl (Sub.nil _))) ?_
        refine WD.done (by kernel_rfl) (hK107 _ _ ?_)
        refine QK.thenN (hK104 _ _ ?_)
        refine WC.region fun K178 hK178 => ?_
        obtain ⟨x179, hx179, h⟩ := bnd h
        obtain ⟨x185, hx185, h⟩ := bnd h
        refine WL.yld (by decide) (Yld.move rfl) ?_
        refine WL.yld (by decide) (Yld.move rfl) ?_
        refine WL.yld (by decide) (Yld.move rfl) ?_
        obtain ⟨r_180, hr181, hq182⟩ := Rels.idx hq82 hx179
        refine WL.yld (by decide) (Yld.idxC (xs := rs81) sty_35 rfl rfl (RdH.own (k := 156) rfl) hr181) ?_
        refine WL.freeze 196 rfl rfl rfl fun M183 hm_M183 hf184 => ?_
        obtain ⟨hu186, hq187⟩ := Rels.upd (r := (⟨A102, x101.length, c103⟩ : Hdr)) (Rels.lift hq82 hm_M183) hx185 hf184
        refine WL.eff0 (Eff0.storeC1 156 (xs := rs81) (a' := (⟨A102, x101.length, c103⟩ : Hdr)) siz_22 rfl rfl rfl rfl rfl rfl hu186) ?_
        refine WL.done (hK178 _ _ ?_)
        refine QK.blockN ?_
        refine QK.thenN (hK91 _ _ ?_)
        refine WC.region fun K188 hK188 => ?_
        obtain ⟨x189, hx189, h⟩ := bnd h
        refine WL.yld (by decide) (Yld.move rfl) ?_
        refine WL.yld (by decide) (Yld.addC rfl rfl hx189) ?_
        refine WL.yld (by decide) (Yld.assign rfl) ?_
        refine WL.done (hK188 _ _ ?_)
        refine QK.thenN ?_
        refine hK85 ⟨q84, M183, x185, (rs81.set (x94).toNat (⟨A102, x101.length, c103⟩ : Hdr)), x189⟩ _ _ ?_ (Nat.lt_succ_self _) (Sub.cons rfl (Sub.cons rfl (Sub.cons rfl (Sub.cons rfl (Sub.nil _))))) (Sub.cons rfl (Sub.cons rfl (Sub.nil _)))
        exact ⟨h, (Ext.trans hm_M79 hm_M183), hq187⟩
     ·
      replace h := of_f hc106 h
      refine WC.condFe rfl (decide_eq_false hc106) ?_
      refine WC.skip ?_
      refine QK.thenN (hK104 _ _ ?_)
      refine WC.region fun K190 hK190 => ?_
      obtain ⟨x191, hx191, h⟩ := bnd h
      obtain ⟨x197, hx197, h⟩ := bnd h
      refine WL.yld (by decide) (Yld.move rfl) ?_
      refine WL.yld (by decide) (Yld.move rfl) ?_
      refine WL.yld (by decide) (Yld.move rfl) ?_
      obtain ⟨r_192, hr193, hq194⟩ := Rels.idx hq82 hx191
      refine WL.yld (by decide) (Yld.idxC (xs := rs81) sty_35 rfl rfl (RdH.own (k := 156) rfl) hr193) ?_
      refine WL.freeze 196 rfl rfl rfl fun M195 hm_M195 hf196 => ?_
      obtain ⟨hu198, hq199⟩ := Rels.upd (r := (⟨A102, x101.length, c103⟩ : Hdr)) (Rels.lift hq82 hm_M195) hx197 hf196
      refine WL.eff0 (Eff0.storeC1 156 (xs := rs81) (a' := (⟨A102, x101.length, c103⟩ : Hdr)) siz_22 rfl rfl rfl rfl rfl rfl hu198) ?_
      refine WL.done (hK190 _ _ ?_)
      refine QK.blockN ?_
      refine QK.thenN (hK91 _ _ ?_)
      refine WC.region fun K200 hK200 => ?_
      obtain ⟨x201, hx201, h⟩ := bnd h
      refine WL.yld (by decide) (Yld.move rfl) ?_
      refine WL.yld (by decide) (Yld.addC rfl rfl hx201) ?_
      refine WL.yld (by decide) (Yld.assign rfl) ?_
      refine WL.done (hK200 _ _ ?_)
      refine QK.thenN ?_
      refine hK85 ⟨q84, M195, x197, (rs81.set (x94).toNat (⟨A102, x101.length, c103⟩ : Hdr)), x201⟩ _ _ ?_ (Nat.lt_succ_self _) (Sub.cons rfl (Sub.cons rfl (Sub.cons rfl (Sub.cons rfl (Sub.nil _))))) (Sub.cons rfl (Sub.cons rfl (Sub.nil _)))
      exact ⟨h, (Ext.trans hm_M79 hm_M195), hq199⟩
  ·
   rintro ⟨M73, x74, rs75⟩ ⟨h, hm_M73, hq76⟩
   unfold m_law04_RsLocates_j0 at h
   refine WC.seqRegion fun K202 hK202 => ?_
   obtain ⟨x203, hx203, h⟩ := bnd h
   refine WL.yld (by decide) (Yld.move rfl) ?_
   refine WL.eff (by decide) (Eff.callS 304 rfl Try.func26 nm_26 rfl rfl (fun w hb hh => w_rs_Locate (Mem.snap w) A00 n00 c00 rs00 _ (RdH.sn (RdH.memM (k := 0) rfl (SlRc.lift (SlRc.lift (SlRc.lift (SlRc.lift (SlRc.lift hf00 hm_M20) hm_M40) hm_M42) hm_M62) hm_M73)) w hb hh) (Rels.sn (Rels.lift (Rels.lift (Rels.lift (Rels.lift (Rels.lift hq00 hm_M20) hm_M40) hm_M42) hm_M62) hm_M73) (hh.sat 0 _ rfl)) hx203)) ?_
   rintro _ _ ⟨_, ⟨rfl, rfl⟩, rfl⟩
   refine WL.yld (by decide) (Yld.move rfl) ?_
   refine WL.yld (by decide) (Yld.extract rfl rfl) ?_
   refine WL.yld (by decide) (Yld.extract rfl rfl) ?_
   refine WL.yld (by decide) (Yld.assign rfl) ?_
   refine WL.yld (by decide) (Yld.assign rfl) ?_
   refine WL.done (hK202 _ _ ?_)
   refine WC.seqRegion fun K205 hK205 => ?_
   obtain ⟨x206, hx206, h⟩ := bnd h
   refine WL.yld (by decide) (Yld.move rfl) ?_
   refine WL.eff (by decide) (Eff.callS 307 rfl Try.func27 nm_27 rfl rfl (fun w hb hh => w_r04_Locate (Mem.snap w) A00 n00 c00 rs00 _ (RdH.sn (RdH.memM (k := 0) rfl (SlRc.lift (SlRc.lift (SlRc.lift (SlRc.lift (SlRc.lift hf00 hm_M20) hm_M40) hm_M42) hm_M62) hm_M73)) w hb hh) (Rels.sn (Rels.lift (Rels.lift (Rels.lift (Rels.lift (Rels.lift hq00 hm_M20) hm_M40) hm_M42) hm_M62) hm_M73) (hh.sat 0 _ rfl)) hx206)) ?_
   rintro _ _ ⟨_, ⟨rfl, rfl⟩, rfl⟩
   refine WL.yld (by decide) (Yld.move rfl) ?_
   refine WL.yld (by decide) (Yld.extract rfl rfl) ?_
   refine WL.yld (by decide) (Yld.extract rfl rfl) ?_
   refine WL.yld (by decide) (Yld.assign rfl) ?_
   refine WL.yld (by decide) (Yld.assign rfl) ?_
   refine WL.done (hK205 _ _ ?_)
   refine WC.seqRegion fun K208 hK208 => ?_
   obtain ⟨x209, hx209, h⟩ := bnd h
   refine WL.yld (by decide) (Yld.move rfl) ?_
   refine WL.eff (by decide) (Eff.callS 310 rfl Try.func26 nm_26 rfl rfl (fun w hb hh => w_rs_Locate (Mem.snap w) A69 ((rs66 ++ rs46).length) c70 rs75 _ (RdH.sn (RdH.own (k := 156) rfl) w hb hh) (Rels.sn hq76 (hh.sat 0 _ rfl)) hx209)) ?_
   rintro _ _ ⟨_, ⟨rfl, rfl⟩, rfl⟩
   refine WL.yld (by decide) (Yld.move rfl) ?_
   refine WL.yld (by decide) (Yld.extract rfl rfl) ?_
   refine WL.yld (by decide) (Yld.extract rfl rfl) ?_
   refine WL.yld (by decide) (Yld.assign rfl) ?_
   refine WL.yld (by decide) (Yld.assign rfl) ?_
   refine WL.done (hK208 _ _ ?_)
   refine WC.seqRegion fun K211 hK211 => ?_
   obtain ⟨x212, hx212, h⟩ := bnd h
   refine WL.yld (by decide) (Yld.move rfl) ?_
   refine WL.eff (by decide) (Eff.callS 313 rfl Try.func27 nm_27 rfl rfl (fun w hb hh => w_r04_Locate (Mem.snap w) A69 ((rs66 ++ rs46).length) c70 rs75 _ (RdH.sn (RdH.own (k := 156) rfl) w hb hh) (Rels.sn hq76 (hh.sat 0 _ rfl)) hx212)) ?_
   rintro _ _ ⟨_, ⟨rfl, rfl⟩, rfl⟩
   refine WL.yld (by decide) (Yld.move rfl) ?_
   refine WL.yld (by decide) (Yld.extract rfl rfl) ?_
   refine WL.yld (by decide) (Yld.extract rfl rfl) ?_
   refine WL.yld (by decide) (Yld.assign rfl) ?_
   refine WL.yld (by decide) (Yld.assign rfl) ?_
   refine WL.done (hK211 _ _ ?_)
   refine WC.seqRegion fun K214 hK214 => ?_
   by_cases hc215 : x203.1 = x206.1
   ·
    replace h := of_t hc215 h
    by_cases hc216 : x203.2 = x206.2
    ·
     replace h := of_t hc216 h
     by_cases hc217 : x209.1 = x212.1
     ·
      replace h := of_t hc217 h
      by_cases hc218 : x209.2 = x212.2
      ·
       replace h := of_t hc218 h
       obtain ⟨x219, hx219, h⟩ := bnd h
       refine WL.yld (by decide) (Yld.move rfl) ?_
       refine WL.yld (by decide) (Yld.move rfl) ?_
       refine WL.yld (by decide) (Yld.eqlI rfl rfl) ?_
       refine WL.yld (by decide) (Yld.move rfl) ?_
       refine WL.new (v' := .bool true) (congrArg Value.bool (beq_iff_eq.2 hc215)) ?_
       refine WL.yldG (by decide) rfl (Yld.move rfl) ?_
       refine WL.yldG (by decide) rfl (Yld.move rfl) ?_
       refine WL.yldG (by decide) rfl (Yld.eqlI rfl rfl) ?_
       refine WL.yld (by decide) (Yld.pickT rfl rfl) ?_
       refine WL.yld (by decide) (Yld.move rfl) ?_
       refine WL.new (v' := .bool true) (congrArg Value.bool (beq_iff_eq.2 hc216)) ?_
       refine WL.yldG (by decide) rfl (Yld.move rfl) ?_
       refine WL.yldG (by decide) rfl (Yld.move rfl) ?_
       refine WL.yldG (by decide) rfl (Yld.eqlI rfl rfl) ?_
       refine WL.yld (by decide) (Yld.pickT rfl rfl) ?_
       refine WL.yld (by decide) (Yld.move rfl) ?_
       refine WL.new (v' := .bool true) (congrArg Value.bool (beq_iff_eq.2 hc217)) ?_
       refine WL.yldG (by decide) rfl (Yld.move rfl) ?_
       refine WL.yldG (by decide) rfl (Yld.move rfl) ?_
       refine WL.yldG (by decide) rfl (Yld.eqlI rfl rfl) ?_
       refine WL.yld (by decide) (Yld.pickT rfl rfl) ?_
       refine WL.yld (by decide) (Yld.move rfl) ?_
       refine WL.new (v' := .bool true) (congrArg Value.bool (beq_iff_eq.2 hc218)) ?_
       refine WL.effG (by decide) rfl (Eff.callS 320 rfl Try.func15 nm_15 rfl rfl (fun w hb hh => w_law04_awake (Mem.snap w) hx219)) ?_
       rintro _ _ ⟨_, ⟨rfl, rfl⟩, rfl⟩
       refine WL.yld (by decide) (Yld.pickT rfl rfl) ?_
       refine WL.yld (by decide) (Yld.assign rfl) ?_
       refine WL.done (hK214 _ _ ?_)
       refine WC.ret ?_
       injection h with h; subst h
       exact Ret.fn [] (ResIs.one rfl rfl) rfl (Ext.trans (Ext.trans (Ext.trans (Ext.trans hm_M20 hm_M40) hm_M42) hm_M62) hm_M73) rfl (by decide) rfl rfl ⟨rfl, rfl⟩
      ·
       replace h := of_f hc218 h
       refine WL.yld (by decide) (Yld.move rfl) ?_
       refine WL.yld (by decide) (Yld.move rfl) ?_
       refine WL.yld (by decide) (Yld.eqlI rfl rfl) ?_
       refine WL.yld (by decide) (Yld.move rfl) ?_
       refine WL.new (v' := .bool true) (congrArg Value.bool (beq_iff_eq.2 hc215)) ?_
       refine WL.yldG (by decide) rfl (Yld.move rfl) ?_
       refine WL.yldG (by decide) rfl (Yld.move rfl) ?_
       refine WL.yldG (by decide) rfl (Yld.eqlI rfl rfl) ?_
       refine WL.yld (by decide) (Yld.pickT rfl rfl) ?_
       refine WL.yld (by decide) (Yld.move rfl) ?_
       refine WL.new (v' := .bool true) (congrArg Value.bool (beq_iff_eq.2 hc216)) ?_
       refine WL.yldG (by decide) rfl (Yld.move rfl) ?_
       refine WL.yldG (by decide) rfl (Yld.move rfl) ?_
       refine WL.yldG (by decide) rfl (Yld.eqlI rfl rfl) ?_
       refine WL.yld (by decide) (Yld.pickT rfl rfl) ?_
       refine WL.yld (by decide) (Yld.move rfl) ?_
       refine WL.new (v' := .bool true) (congrArg Value.bool (beq_iff_eq.2 hc217)) ?_
       refine WL.yldG (by decide) rfl (Yld.move rfl) ?_
       refine WL.yldG (by decide) rfl (Yld.move rfl) ?_
       refine WL.yldG (by decide) rfl (Yld.eqlI rfl rfl) ?_
       refine WL.yld (by decide) (Yld.pickT rfl rfl) ?_
       refine WL.yld (by decide) (Yld.move rfl) ?_
       refine WL.new (v' := .bool false) (congrArg Value.bool (beq_eq_false_iff_ne.2 hc218)) ?_
       refine WL.skip (by decide) rfl rfl ?_
       refine WL.yld (by decide) (Yld.pickF rfl rfl) ?_
       refine WL.yld (by decide) (Yld.assign rfl) ?_
       refine WL.done (hK214 _ _ ?_)
       refine WC.ret ?_
       injection h with h; subst h
       exact Ret.fn [] (ResIs.one rfl rfl) rfl (Ext.trans (Ext.trans (Ext.trans (Ext.trans hm_M20 hm_M40) hm_M42) hm_M62) hm_M73) rfl (by decide) rfl rfl ⟨rfl, rfl⟩
     ·
      replace h := of_f hc217 h
      refine WL.yld (by decide) (Yld.move rfl) ?_
      refine WL.yld (by decide) (Yld.move rfl) ?_
      refine WL.yld (by decide) (Yld.eqlI rfl rfl) ?_
      refine WL.yld (by decide) (Yld.move rfl) ?_
      refine WL.new (v' := .bool true) (congrArg Value.bool (beq_iff_eq.2 hc215)) ?_
      refine WL.yldG (by decide) rfl (Yld.move rfl) ?_
      refine WL.yldG (by decide) rfl (Yld.move rfl) ?_
      refine WL.yldG (by decide) rfl (Yld.eqlI rfl rfl) ?_
      refine WL.yld (by decide) (Yld.pickT rfl rfl) ?_
      refine WL.yld (by decide) (Yld.move rfl) ?_
      refine WL.new (v' := .bool true) (congrArg Value.bool (beq_iff_eq.2 hc216)) ?_
      refine WL.yldG (by decide) rfl (Yld.move rfl) ?_
      refine WL.yldG (by decide) rfl (Yld.move rfl) ?_
      refine WL.yldG (by decide) rfl (Yld.eqlI rfl rfl) ?_
      refine WL.yld (by decide) (Yld.pickT rfl rfl) ?_
      refine WL.yld (by decide) (Yld.move rfl) ?_
      refine WL.new (v' := .bool false) (congrArg Value.bool (beq_eq_false_iff_ne.2 hc217)) ?_
      refine WL.skip (by decide) rfl rfl ?_
      refine WL.skip (by decide) rfl rfl ?_
      refine WL.skip (by decide) rfl rfl ?_
      refine WL.yld (by decide) (Yld.pickF rfl rfl) ?_
      refine WL.yld (by decide) (Yld.move rfl) ?_
      refine WL.skip (by decide) rfl rfl ?_
      refine WL.yld (by decide) (Yld.pickF rfl rfl) ?_
      refine WL.yld (by decide) (Yld.assign rfl) ?_
      refine WL.done (hK214 _ _ ?_)
      refine WC.ret ?_
      injection h with h; subst h
      exact Ret.fn [] (ResIs.one rfl rfl) rfl (Ext.trans (Ext.trans (Ext.trans (Ext.trans hm_M20 hm_M40) hm_M42) hm_M62) hm_M73) rfl (by decide) rfl rfl ⟨rfl, rfl⟩
    ·
     replace h := of_f hc216 h
     refine WL.yld (by decide) (Yld.move rfl) ?_
     refine WL.yld (by decide) (Yld.move rfl) ?_
     refine WL.yld (by decide) (Yld.eqlI rfl rfl) ?_
     refine WL.yld (by decide) (Yld.move rfl) ?_
     refine WL.new (v' := .bool true) (congrArg Value.bool (beq_iff_eq.2 hc215)) ?_
     refine WL.yldG (by decide) rfl (Yld.move rfl) ?_
     refine WL.yldG (by decide) rfl (Yld.move rfl) ?_
     refine WL.yldG (by decide) rfl (Yld.eqlI rfl rfl) ?_
     refine WL.yld (by decide) (Yld.pickT rfl rfl) ?_
     refine WL.yld (by decide) (Yld.move rfl) ?_
     refine WL.new (v' := .bool false) (congrArg Value.bool (beq_eq_false_iff_ne.2 hc216)) ?_
     refine WL.skip (by decide) rfl rfl ?_
     refine WL.skip (by decide) rfl rfl ?_
     refine WL.skip (by decide) rfl rfl ?_
     refine WL.yld (by decide) (Yld.pickF rfl rfl) ?_
     refine WL.yld (by decide) (Yld.move rfl) ?_
     refine WL.skip (by decide) rfl rfl ?_
     refine WL.skip (by decide) rfl rfl ?_
     refine WL.skip (by decide) rfl rfl ?_
     refine WL.yld (by decide) (Yld.pickF rfl rfl) ?_
     refine WL.yld (by decide) (Yld.move rfl) ?_
     refine WL.skip (by decide) rfl rfl ?_
     refine WL.yld (by decide) (Yld.pickF rfl rfl) ?_
     refine WL.yld (by decide) (Yld.assign rfl) ?_
     refine WL.done (hK214 _ _ ?_)
     refine WC.ret ?_
     injection h with h; subst h
     exact Ret.fn [] (ResIs.one rfl rfl) rfl (Ext.trans (Ext.trans (Ext.trans (Ext.trans hm_M20 hm_M40) hm_M42) hm_M62) hm_M73) rfl (by decide) rfl rfl ⟨rfl, rfl⟩
   ·
    replace h := of_f hc215 h
    refine WL.yld (by decide) (Yld.move rfl) ?_
    refine WL.yld (by decide) (Yld.move rfl) ?_
    refine WL.yld (by decide) (Yld.eqlI rfl rfl) ?_
    refine WL.yld (by decide) (Yld.move rfl) ?_
    refine WL.new (v' := .bool false) (congrArg Value.bool (beq_eq_false_iff_ne.2 hc215)) ?_
    refine WL.skip (by decide) rfl rfl ?_
    refine WL.skip (by decide) rfl rfl ?_
    refine WL.skip (by decide) rfl rfl ?_
    refine WL.yld (by decide) (Yld.pickF rfl rfl) ?_
    refine WL.yld (by decide) (Yld.move rfl) ?_
    refine WL.skip (by decide) rfl rfl ?_
    refine WL.skip (by decide) rfl rfl ?_
    refine WL.skip (by decide) rfl rfl ?_
    refine WL.yld (by decide) (Yld.pickF rfl rfl) ?_
    refine WL.yld (by decide) (Yld.move rfl) ?_
    refine WL.skip (by decide) rfl rfl ?_
    refine WL.skip (by decide) rfl rfl ?_
    refine WL.skip (by decide) rfl rfl ?_
    refine WL.yld (by decide) (Yld.pickF rfl rfl) ?_
    refine WL.yld (by decide) (Yld.move rfl) ?_
    refine WL.skip (by decide) rfl rfl ?_
    refine WL.yld (by decide) (Yld.pickF rfl rfl) ?_
    refine WL.yld (by decide) (Yld.assign rfl) ?_
    refine WL.done (hK214 _ _ ?_)
    refine WC.ret ?_
    injection h with h; subst h
    exact Ret.fn [] (ResIs.one rfl rfl) rfl (Ext.trans (Ext.trans (Ext.trans (Ext.trans hm_M20 hm_M40) hm_M42) hm_M62) hm_M73) rfl (by decide) rfl rfl ⟨rfl, rfl⟩
 ·
  replace h := of_f hc6 h
  refine WC.condTe rfl (not_t (Bool.eq_false_iff.2 hc6)) ?_
  refine WC.seqRegion fun K221 hK221 => ?_
  obtain ⟨x222, hx222, h⟩ := bnd h
  refine WL.eff (by decide) (Eff.callS 323 rfl Try.func15 nm_15 rfl rfl (fun w hb hh => w_law04_awake (Mem.snap w) hx222)) ?_
  rintro _ _ ⟨_, ⟨rfl, rfl⟩, rfl⟩
  refine WL.yld (by decide) (Yld.assign rfl) ?_
  refine WL.done (hK221 _ _ ?_)
  refine WC.ret (QK.thenR ?_)
  injection h with h; subst h
  exact Ret.fn [] (ResIs.one rfl rfl) rfl (Ext.refl _ _) rfl (by decide) rfl rfl ⟨rfl, rfl⟩

end Go.Proofs.Ytnbcphofimicdaa
