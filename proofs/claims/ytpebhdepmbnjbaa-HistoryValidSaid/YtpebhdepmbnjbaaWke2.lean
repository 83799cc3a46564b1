/-
 Walks (e2): what a function's model gives, the function returns. Printed by a program of ours (vcm.py) from the function's operations. Conditions: as each theorem says.
-/
import Derived.Test.YtpebhdepmbnjbaaWkd
import Derived.Test.YtpebhdepmbnjbaaMde2
namespace Go.Proofs.Ytpebhdepmbnjbaa
open Go Go.RowKit
set_option linter.unusedVariables false

theorem nm_11 : (Try.f11.name == "runtime.NumGoroutine") = false := by kernel_rfl
theorem nm_16 : (Try.f16.name == "runtime.NumGoroutine") = false := by kernel_rfl
theorem nm_7 : (Try.f7.name == "runtime.NumGoroutine") = false := by kernel_rfl
theorem nm_8 : (Try.f8.name == "runtime.NumGoroutine") = false := by kernel_rfl
theorem nm_9 : (Try.f9.name == "runtime.NumGoroutine") = false := by kernel_rfl

set_option maxRecDepth 10000 in
theorem w_law24_HistoryValid (M0 : Mem) (A00 : Option Addr) (n00 c00 : Nat) (rs00 : List Rneedlestoreref24_Event) (x00 : List (Sneedlestoreref24_Event)) (hf00 : SlT M0 A00 n00 c00 rs00) (hq00 : Rels (rel_needlestoreref24_Event M0) rs00 x00) {res : Bool} (h : m_law24_HistoryValid x00 = some res) :
  Fn Try.prog 5 #[.slice A00 n00 c00] M0 fun r M' es => r = .bool res ∧ es = [] := by
 refine Fn.intro (N := 76) Try.func5 rfl rfl (Nat.le_of_ble_eq_true rfl) fun w0 => ?_
 unfold m_law24_HistoryValid at h
 refine WC.seqRegion fun K1 hK1 => ?_
 refine WL.yld (by decide) (Yld.assign rfl) ?_
 refine WL.done (hK1 _ _ ?_)
 refine WC.seq fun K2 hK2 => ?_
 refine WC.seqRegion fun K3 hK3 => ?_
 obtain ⟨x4, hx4, h⟩ := bnd h
 refine WL.yld (by decide) (Yld.move rfl) ?_
 refine WL.eff (by decide) (Eff.callS 105 rfl Try.func7 nm_7 rfl rfl (fun w hb hh => w_law24_light (Mem.snap w) A00 n00 c00 rs00 _ (RdH.sn (RdH.memM (k := 0) rfl hf00) w hb hh) (Rels.sn hq00 (hh.sat 0 _ rfl)) hx4)) ?_
 rintro _ _ ⟨_, ⟨rfl, rfl⟩, rfl⟩
 refine WL.yld (by decide) (Yld.notB rfl) ?_
 refine WL.done (hK3 _ _ ?_)
 by_cases hc6 : x4 = true
 ·
  replace h := of_t hc6 h
  refine WC.condFe rfl (not_f hc6) ?_
  refine WC.skip ?_
  refine QK.thenN (hK2 _ _ ?_)
  refine WC.seqRegion fun K7 hK7 => ?_
  obtain ⟨x8, hx8, h⟩ := bnd h
  obtain ⟨x26, hx26, h⟩ := bnd h
  refine WL.yld (by decide) (Yld.move rfl) ?_
  refine WL.eff (by decide) (Eff.callM 114 rfl Try.func9 nm_9 rfl rfl rfl (w_law24_made _ A00 n00 c00 rs00 _ hf00 hq00 hx8)) ?_
  rintro _ _ ⟨M20, _, ⟨A21, n22, c23, rs24, rfl, rfl, hq25⟩, hm_M20, rfl⟩
  refine WL.freeze 114 rfl rfl rfl fun M38 hm_M38 hf39 => ?_
  refine WL.eff (by decide) (Eff.callM 132 rfl Try.func11 nm_11 rfl rfl rfl (w_law24_given _ A21 n22 c23 rs24 _ hf39 (Rels.lift hq25 hm_M38) hx26)) ?_
  rintro _ _ ⟨M40, _, ⟨A41, n42, c43, rs44, rfl, rfl, hq45⟩, hm_M40, rfl⟩
  refine WL.yld (by decide) (Yld.assign rfl) ?_
  refine WL.done (hK7 _ _ ?_)
  refine WC.seqRegion fun K46 hK46 => ?_
  obtain ⟨x47, hx47, h⟩ := bnd h
  refine WL.yld (by decide) (Yld.move rfl) ?_
  refine WL.freeze 132 rfl rfl rfl fun M59 hm_M59 hf60 => ?_
  refine WL.eff (by decide) (Eff.callM 153 rfl Try.func10 nm_10 rfl rfl rfl (w_history_Build _ A41 n42 c43 rs44 _ hf60 (Rels.lift hq45 hm_M59) hx47)) ?_
  rintro _ _ ⟨M61, _, ⟨A62, n63, c64, rs65, rfl, rfl, hq66⟩, hm_M61, rfl⟩
  refine WL.yld (by decide) (Yld.move rfl) ?_
  refine WL.yld (by decide) (Yld.extract rfl rfl) ?_
  refine WL.yld (by decide) (Yld.extract rfl rfl) ?_
  refine WL.yld (by decide) (Yld.assign rfl) ?_
  refine WL.yld (by decide) (Yld.assign rfl) ?_
  refine WL.done (hK46 _ _ ?_)
  refine WC.seqRegion fun K67 hK67 => ?_
  refine WL.yld (by decide) (Yld.assign rfl) ?_
  refine WL.yld (by decide) (Yld.assign rfl) ?_
  refine WL.done (hK67 _ _ ?_)
  refine WC.seqCut (σ := Int × Int) (fun ⟨x68, x69⟩ => [(4, .slice A62 n63 c64), (5, I64 x47.2), (6, I64 x68), (7, I64 x69)]) (fun ⟨x68, x69⟩ => [(0, .mem M61), (153, .own 42 (Lay.sz Rhistory_Op) A62 n63 c64 (cel rs65))]) (fun ⟨x68, x69⟩ => m_law24_HistoryValid_j0 x47 x68 x69 = some res) (fun K70 hK70 => ?_) ?_
  ·
   skip
   refine WC.seqRegion fun K71 hK71 => ?_
   refine WL.yld (by decide) (Yld.move rfl) ?_
   refine WL.yld (by decide) (Yld.lenD (rs := rs44) (xs := x26) (Rels.len (Rels.lift (Rels.lift hq45 hm_M59) hm_M61)) und_31 rfl (RdH.memM (k := 0) rfl (SlRc.lift hf60 hm_M61))) ?_
   refine WL.yld (by decide) (Yld.move rfl) ?_
   refine WL.done (hK71 _ _ ?_)
   refine WC.block ?_
   refine WC.loop (σ := Nat × Int × Int × Int) (fun ⟨q75, x72, x73, x74⟩ => [(3, .slice A41 n42 c43), (4, .slice A62 n63 c64), (5, I64 x47.2), (6, I64 x72), (7, I64 x73), (24, I64 (x26.length : Int)), (25, I64 x74)]) (fun ⟨q75, x72, x73, x74⟩ => [(0, .mem M61), (153, .own 42 (Lay.sz Rhistory_Op) A62 n63 c64 (cel rs65))]) (fun ⟨q75, x72, x73, x74⟩ => m_law24_HistoryValid_l1 x26 x47 q75 x72 x73 x74 = some res) (fun ⟨q75, x72, x73, x74⟩ => q75) ⟨forever, (0 : Int), (0 : Int), (0 : Int)⟩ ?_ (Sub.cons rfl (Sub.cons rfl (Sub.cons rfl (Sub.cons rfl (Sub.cons rfl (Sub.cons rfl (Sub.cons rfl (Sub.nil _)))))))) (Sub.cons rfl (Sub.cons rfl (Sub.nil _))) ?_
   ·
    exact h
   rintro ⟨q75, x72, x73, x74⟩ h K76 hK76
   cases q75 with
   | zero => exact absurd h (by simp [m_law24_HistoryValid_l1])
   | succ q75 =>
    unfold m_law24_HistoryValid_l1 at h
    refine WC.seqRegion fun K77 hK77 => ?_
    refine WL.yld (by decide) (Yld.lss rfl rfl) ?_
    refine WL.done (hK77 _ _ ?_)
    refine WC.seq fun K78 hK78 => ?_
    by_cases hc79 : x74 < (x26.length : Int)
    ·
     replace h := of_t hc79 h
     refine WC.condTe rfl (decide_eq_true hc79) ?_
     refine WC.skip ?_
     refine QK.thenN (hK78 _ _ ?_)
     refine WC.seq fun K80 hK80 => ?_
     refine WC.block ?_
     refine WC.seqRegion fun K81 hK81 => ?_
     refine WL.yld (by decide) (Yld.move rfl) ?_
     refine WL.yld (by decide) (Yld.assign rfl) ?_
     refine WL.done (hK81 _ _ ?_)
     refine WC.seq fun K82 hK82 => ?_
     refine WC.seqRegion fun K83 hK83 => ?_
     obtain ⟨x84, hx84, h⟩ := bnd h
     refine WL.yld (by decide) (Yld.move rfl) ?_
     refine WL.yld (by decide) (Yld.move rfl) ?_
     obtain ⟨⟨_, r_85_0⟩, hr86, rfl, hq87_0⟩ := Rels.idx (Rels.lift (Rels.lift hq45 hm_M59) hm_M61) hx84
     refine WL.yld (by decide) (Yld.idxC (xs := rs44) sty_31 rfl rfl (RdH.memM (k := 0) rfl (SlRc.lift hf60 hm_M61)) hr86) ?_
     refine WL.yld (by decide) (Yld.fieldAddrC Try.underlying45 rfl nz_3 rfl rfl) ?_
     refine WL.yld (by decide) (Yld.loadC (xs := rs44) (j := 0) scal_3 rfl (RdH.memM (k := 0) rfl (SlRc.lift hf60 hm_M61)) hr86 rfl rfl) ?_
     refine WL.yld (by decide) (Yld.eqlI rfl rfl) ?_
     refine WL.done (hK83 _ _ ?_)
     by_cases hc88 : x84.fKind = (1 : Int)
     ·
      replace h := of_t hc88 h
      refine WC.condTe rfl (beq_iff_eq.2 hc88) ?_
      refine WC.region fun K89 hK89 => ?_
      obtain ⟨x90, hx90, h⟩ := bnd h
      refine WL.yld (by decide) (Yld.move rfl) ?_
      refine WL.yld (by decide) (Yld.addC rfl rfl hx90) ?_
      refine WL.yld (by decide) (Yld.assign rfl) ?_
      refine WL.done (hK89 _ _ ?_)
      refine QK.thenN (hK82 _ _ ?_)
      refine WC.seqRegion fun K91 hK91 => ?_
      obtain ⟨x92, hx92, h⟩ := bnd h
      refine WL.yld (by decide) (Yld.move rfl) ?_
      refine WL.yld (by decide) (Yld.move rfl) ?_
      obtain ⟨⟨_, r_93_0⟩, hr94, rfl, hq95_0⟩ := Rels.idx (Rels.lift (Rels.lift hq45 hm_M59) hm_M61) hx92
      refine WL.yld (by decide) (Yld.idxC (xs := rs44) sty_31 rfl rfl (RdH.memM (k := 0) rfl (SlRc.lift hf60 hm_M61)) hr94) ?_
      refine WL.yld (by decide) (Yld.fieldAddrC Try.underlying45 rfl nz_3 rfl rfl) ?_
      refine WL.yld (by decide) (Yld.loadC (xs := rs44) (j := 0) scal_3 rfl (RdH.memM (k := 0) rfl (SlRc.lift hf60 hm_M61)) hr94 rfl rfl) ?_
      refine WL.yld (by decide) (Yld.eqlI rfl rfl) ?_
      refine WL.done (hK91 _ _ ?_)
      by_cases hc96 : x92.fKind = (2 : Int)
      ·
       replace h := of_t hc96 h
       refine WC.condTe rfl (beq_iff_eq.2 hc96) ?_
       refine WC.region fun K97 hK97 => ?_
       obtain ⟨x98, hx98, h⟩ := bnd h
       refine WL.yld (by decide) (Yld.move rfl) ?_
       refine WL.yld (by decide) (Yld.addC rfl rfl hx98) ?_
       refine WL.yld (by decide) (Yld.assign rfl) ?_
       refine WL.done (hK97 _ _ ?_)
       refine QK.blockN ?_
       refine QK.thenN (hK80 _ _ ?_)
       refine WC.region fun K99 hK99 => ?_
       obtain ⟨x100, hx100, h⟩ := bnd h
       refine WL.yld (by decide) (Yld.addC rfl rfl hx100) ?_
       refine WL.yld (by decide) (Yld.move rfl) ?_
       refine WL.done (hK99 _ _ ?_)
       refine QK.thenN ?_
       refine hK76 ⟨q75, x90, x98, x100⟩ _ _ ?_ (Nat.lt_succ_self _) (Sub.cons rfl (Sub.cons rfl (Sub.cons rfl (Sub.cons rfl (Sub.cons rfl (Sub.cons rfl (Sub.cons rfl (Sub.nil _)))))))) (Sub.cons rfl (Sub.cons rfl (Sub.nil _)))
       exact h
      ·
       replace h := of_f hc96 h
       refine WC.condFe rfl (beq_eq_false_iff_ne.2 hc96) ?_
       refine WC.skip ?_
       refine QK.blockN ?_
       refine QK.thenN (hK80 _ _ ?_)
       refine WC.region fun K101 hK101 => ?_
       obtain ⟨x102, hx102, h⟩ := bnd h
       refine WL.yld (by decide) (Yld.addC rfl rfl hx102) ?_
       refine WL.yld (by decide) (Yld.move rfl) ?_
       refine WL.done (hK101 _ _ ?_)
       refine QK.thenN ?_
       refine hK76 ⟨q75, x90, x73, x102⟩ _ _ ?_ (Nat.lt_succ_self _) (Sub.cons rfl (Sub.cons rfl (Sub.cons rfl (Sub.cons rfl (Sub.cons rfl (Sub.cons rfl (Sub.cons rfl (Sub.nil _)))))))) (Sub.cons rfl (Sub.cons rfl (Sub.nil _)))
       exact h
     ·
      replace h := of_f hc88 h
      refine WC.condFe rfl (beq_eq_false_iff_ne.2 hc88) ?_
      refine WC.skip ?_
      refine QK.thenN (hK82 _ _ ?_)
      refine WC.seqRegion fun K103 hK103 => ?_
      obtain ⟨x104, hx104, h⟩ := bnd h
      refine WL.yld (by decide) (Yld.move rfl) ?_
      refine WL.yld (by decide) (Yld.move rfl) ?_
      obtain ⟨⟨_, r_105_0⟩, hr106, rfl, hq107_0⟩ := Rels.idx (Rels.lift (Rels.lift hq45 hm_M59) hm_M61) hx104
      refine WL.yld (by decide) (Yld.idxC (xs := rs44) sty_31 rfl rfl (RdH.memM (k := 0) rfl (SlRc.lift hf60 hm_M61)) hr106) ?_
      refine WL.yld (by decide) (Yld.fieldAddrC Try.underlying45 rfl nz_3 rfl rfl) ?_
      refine WL.yld (by decide) (Yld.loadC (xs := rs44) (j := 0) scal_3 rfl (RdH.memM (k := 0) rfl (SlRc.lift hf60 hm_M61)) hr106 rfl rfl) ?_
      refine WL.yld (by decide) (Yld.eqlI rfl rfl) ?_
      refine WL.done (hK103 _ _ ?_)
      by_cases hc108 : x104.fKind = (2 : Int)
      ·
       replace h := of_t hc108 h
       refine WC.condTe rfl (beq_iff_eq.2 hc108) ?_
       refine WC.region fun K109 hK109 => ?_
       obtain ⟨x110, hx110, h⟩ := bnd h
       refine WL.yld (by decide) (Yld.move rfl) ?_
       refine WL.yld (by decide) (Yld.addC rfl rfl hx110) ?_
       refine WL.yld (by decide) (Yld.assign rfl) ?_
       refine WL.done (hK109 _ _ ?_)
       refine QK.blockN ?_
       refine QK.thenN (hK80 _ _ ?_)
       refine WC.region fun K111 hK111 => ?_
       obtain ⟨x112, hx112, h⟩ := bnd h
       refine WL.yld (by decide) (Yld.addC rfl rfl hx112) ?_
       refine WL.yld (by decide) (Yld.move rfl) ?_
       refine WL.done (hK111 _ _ ?_)
       refine QK.thenN ?_
       refine hK76 ⟨q75, x72, x110, x112⟩ _ _ ?_ (Nat.lt_succ_self _) (Sub.cons rfl (Sub.cons rfl (Sub.cons rfl (Sub.cons rfl (Sub.cons rfl (Sub.cons rfl (Sub.cons rfl (Sub.nil _)))))))) (Sub.cons rfl (Sub.cons rfl (Sub.nil _)))
       exact h
      ·
       replace h := of_f hc108 h
       refine WC.condFe rfl (beq_eq_false_iff_ne.2 hc108) ?_
       refine WC.skip ?_
       refine QK.blockN ?_
       refine QK.thenN (hK80 _ _ ?_)
       refine WC.region fun K113 hK113 => ?_
       obtain ⟨x114, hx114, h⟩ := bnd h
       refine WL.yld (by decide) (Yld.addC rfl rfl hx114) ?_
       refine WL.yld (by decide) (Yld.move rfl) ?_
       refine WL.done (hK113 _ _ ?_)
       refine QK.thenN ?_
       refine hK76 ⟨q75, x72, x73, x114⟩ _ _ ?_ (Nat.lt_succ_self _) (Sub.cons rfl (Sub.cons rfl (Sub.cons rfl (Sub.cons rfl (Sub.cons rfl (Sub.cons rfl (Sub.cons rfl (Sub.nil _)))))))) (Sub.cons rfl (Sub.cons rfl (Sub.nil _)))
       exact h
    ·
     replace h := of_f hc79 h
     refine WC.condFe rfl (decide_eq_false hc79) ?_
     refine WC.exit (QK.thenE (QK.thenE (QK.blockX ?_)))
     refine QK.thenN ?_
     refine hK70 ⟨x72, x73⟩ _ _ ?_ (Sub.cons rfl (Sub.cons rfl (Sub.cons rfl (Sub.cons rfl (Sub.nil _))))) (Sub.cons rfl (Sub.cons rfl (Sub.nil _)))
     exact h
  ·
   rintro ⟨x68, x69⟩ h
   unfold m_law24_HistoryValid_j0 at h
   refine WC.seqCut (σ := Int) (fun x115 => [(4, .slice A62 n63 c64), (5, I64 x47.2), (6, I64 x68), (7, I64 x115)]) (fun x115 => [(0, .mem M61), (153, .own 42 (Lay.sz Rhistory_Op) A62 n63 c64 (cel rs65))]) (fun x115 => m_law24_HistoryValid_j2 x47 x68 x115 = some res) (fun K116 hK116 => ?_) ?_
   ·
    skip
    refine WC.seqRegion fun K117 hK117 => ?_
    refine WL.yld (by decide) (Yld.move rfl) ?_
    refine WL.yld (by decide) (Yld.lenD (rs := rs65) (xs := x47.1) (Rels.len hq66) und_27 rfl (RdH.own (k := 153) rfl)) ?_
    refine WL.yld (by decide) (Yld.move rfl) ?_
    refine WL.done (hK117 _ _ ?_)
    refine WC.block ?_
    refine WC.loop (σ := Nat × Int × Int) (fun ⟨q120, x118, x119⟩ => [(4, .slice A62 n63 c64), (5, I64 x47.2), (6, I64 x68), (7, I64 x118), (45, .slice A62 n63 c64), (46, I64 (x47.1.length : Int)), (47, I64 x119)]) (fun ⟨q120, x118, x119⟩ => [(0, .mem M61), (153, .own 42 (Lay.sz Rhistory_Op) A62 n63 c64 (cel rs65))]) (fun ⟨q120, x118, x119⟩ => m_law24_HistoryValid_l3 x47 x68 q120 x118 x119 = some res) (fun ⟨q120, x118, x119⟩ => q120) ⟨forever, x69, (0 : Int)⟩ ?_ (Sub.cons rfl (Sub.cons rfl (Sub.cons rfl (Sub.cons rfl (Sub.cons rfl (Sub.cons rfl (Sub.cons rfl (Sub.nil _)))))))) (Sub.cons rfl (Sub.cons rfl (Sub.nil _))) ?_
    ·
     exact h
    rintro ⟨q120, x118, x119⟩ h K121 hK121
    cases q120 with
    | zero => exact absurd h (by simp [m_law24_HistoryValid_l3])
    | succ q120 =>
     unfold m_law24_HistoryValid_l3 at h
     refine WC.seqRegion fun K122 hK122 => ?_
     refine WL.yld (by decide) (Yld.lss rfl rfl) ?_
     refine WL.done (hK122 _ _ ?_)
     refine WC.seq fun K123 hK123 => ?_
     by_cases hc124 : x119 < (x47.1.length : Int)
     ·
      replace h := of_t hc124 h
      refine WC.condTe rfl (decide_eq_true hc124) ?_
      refine WC.skip ?_
      refine QK.thenN (hK123 _ _ ?_)
      refine WC.seq fun K125 hK125 => ?_
      refine WC.block ?_
      refine WC.seqRegion fun K126 hK126 => ?_
      obtain ⟨x127, hx127, h⟩ := bnd h
      obtain ⟨⟨_, r_128_0, r_128_1⟩, hr129, rfl, hq130_0, hq130_1⟩ := Rels.idx hq66 hx127
      refine WL.yld (by decide) (Yld.idxC (xs := rs65) sty_27 rfl rfl (RdH.own (k := 153) rfl) hr129) ?_
      refine WL.yld (by decide) (Yld.loadA (xs := rs65) agg_42 rfl (RdH.own (k := 153) rfl) hr129 rfl) ?_
      refine WL.eff (by decide) (Eff.alloc 231 rfl zr_42) ?_
      rintro _ _ ⟨g131, rfl, rfl⟩
      refine WL.eff0 (Eff0.storeBAM 231 agg_42 rfl rfl rfl ⟨rfl, rfl⟩ rfl) ?_
      refine WL.done (hK126 _ _ ?_)
      refine WC.seqRegion fun K132 hK132 => ?_
      refine WL.yld (by decide) (Yld.fieldAddr Try.underlying42 rfl nz_3 rfl rfl) ?_
      refine WL.yld (by decide) (Yld.loadB (k := 231) scal_3 rfl rfl rfl) ?_
      refine WL.yld (by decide) (Yld.geq rfl rfl) ?_
      refine WL.done (hK132 _ _ ?_)
      by_cases hc133 : (0 : Int) ≤ x127.fReturn
      ·
       replace h := of_t hc133 h
       refine WC.condTe rfl (decide_eq_true hc133) ?_
       refine WC.region fun K134 hK134 => ?_
       obtain ⟨x135, hx135, h⟩ := bnd h
       refine WL.yld (by decide) (Yld.move rfl) ?_
       refine WL.yld (by decide) (Yld.subC rfl rfl hx135) ?_
       refine WL.yld (by decide) (Yld.assign rfl) ?_
       refine WL.done (hK134 _ _ ?_)
       refine QK.blockN ?_
       refine QK.thenN (hK125 _ _ ?_)
       refine WC.region fun K136 hK136 => ?_
       obtain ⟨x137, hx137, h⟩ := bnd h
       refine WL.yld (by decide) (Yld.addC rfl rfl hx137) ?_
       refine WL.yld (by decide) (Yld.move rfl) ?_
       refine WL.done (hK136 _ _ ?_)
       refine QK.thenN ?_
       refine hK121 ⟨q120, x135, x137⟩ _ _ ?_ (Nat.lt_succ_self _) (Sub.cons rfl (Sub.cons rfl (Sub.cons rfl (Sub.cons rfl (Sub.cons rfl (Sub.cons rfl (Sub.cons rfl (Sub.nil _)))))))) (Sub.cons rfl (Sub.cons rfl (Sub.nil _)))
       exact h
      ·
       replace h := of_f hc133 h
       refine WC.condFe rfl (decide_eq_false hc133) ?_
       refine WC.skip ?_
       refine QK.blockN ?_
       refine QK.thenN (hK125 _ _ ?_)
       refine WC.region fun K138 hK138 => ?_
       obtain ⟨x139, hx139, h⟩ := bnd h
       refine WL.yld (by decide) (Yld.addC rfl rfl hx139) ?_
       refine WL.yld (by decide) (Yld.move rfl) ?_
       refine WL.done (hK138 _ _ ?_)
       refine QK.thenN ?_
       refine hK121 ⟨q120, x118, x139⟩ _ _ ?_ (Nat.lt_succ_self _) (Sub.cons rfl (Sub.cons rfl (Sub.cons rfl (Sub.cons rfl (Sub.cons rfl (Sub.cons rfl (Sub.cons rfl (Sub.nil _)))))))) (Sub.cons rfl (Sub.cons rfl (Sub.nil _)))
       exact h
     ·
      replace h := of_f hc124 h
      refine WC.condFe rfl (decide_eq_false hc124) ?_
      refine WC.exit (QK.thenE (QK.thenE (QK.blockX ?_)))
      refine QK.thenN ?_
      refine hK116 x118 _ _ ?_ (Sub.cons rfl (Sub.cons rfl (Sub.cons rfl (Sub.cons rfl (Sub.nil _))))) (Sub.cons rfl (Sub.cons rfl (Sub.nil _)))
      exact h
   ·
    rintro x115 h
    unfold m_law24_HistoryValid_j2 at h
    refine WC.seqRegion fun K140 hK140 => ?_
    by_cases hc141 : x47.2 = (0 : Int)
    ·
     replace h := of_t hc141 h
     obtain ⟨x142, hx142, h⟩ := bnd h
     by_cases hc144 : x142 = true
     ·
      replace h := of_t hc144 h
      by_cases hc145 : (x47.1.length : Int) = x68
      ·
       replace h := of_t hc145 h
       by_cases hc146 : x115 = (0 : Int)
       ·
        replace h := of_t hc146 h
        obtain ⟨x147, hx147, h⟩ := bnd h
        refine WL.yld (by decide) (Yld.move rfl) ?_
        refine WL.yld (by decide) (Yld.eqlI rfl rfl) ?_
        refine WL.yld (by decide) (Yld.move rfl) ?_
        refine WL.new (v' := .bool true) (congrArg Value.bool (beq_iff_eq.2 hc141)) ?_
        refine WL.yldG (by decide) rfl (Yld.move rfl) ?_
        refine WL.effG (by decide) rfl (Eff.callS 243 rfl Try.func16 nm_16 rfl rfl (fun w hb hh => w_history_Valid (Mem.snap w) A62 n63 c64 rs65 _ (RdH.sn (RdH.own (k := 153) rfl) w hb hh) (Rels.sn hq66 (hh.sat 0 _ rfl)) hx142)) ?_
        rintro _ _ ⟨_, ⟨rfl, rfl⟩, rfl⟩
        refine WL.yld (by decide) (Yld.pickT rfl rfl) ?_
        refine WL.yld (by decide) (Yld.move rfl) ?_
        refine WL.new (v' := .bool true) (congrArg Value.bool hc144) ?_
        refine WL.yldG (by decide) rfl (Yld.move rfl) ?_
        refine WL.yldG (by decide) rfl (Yld.lenD (rs := rs65) (xs := x47.1) (Rels.len hq66) und_27 rfl (RdH.own (k := 153) rfl)) ?_
        refine WL.yldG (by decide) rfl (Yld.move rfl) ?_
        refine WL.yldG (by decide) rfl (Yld.eqlI rfl rfl) ?_
        refine WL.yld (by decide) (Yld.pickT rfl rfl) ?_
        refine WL.yld (by decide) (Yld.move rfl) ?_
        refine WL.new (v' := .bool true) (congrArg Value.bool (beq_iff_eq.2 hc145)) ?_
        refine WL.yldG (by decide) rfl (Yld.move rfl) ?_
        refine WL.yldG (by decide) rfl (Yld.eqlI rfl rfl) ?_
        refine WL.yld (by decide) (Yld.pickT rfl rfl) ?_
        refine WL.yld (by decide) (Yld.move rfl) ?_
        refine WL.new (v' := .bool true) (congrArg Value.bool (beq_iff_eq.2 hc146)) ?_
        refine WL.effG (by decide) rfl (Eff.callS 248 rfl Try.func8 nm_8 rfl rfl (fun w hb hh => w_law24_awake (Mem.snap w) hx147)) ?_
        rintro _ _ ⟨_, ⟨rfl, rfl⟩, rfl⟩
        refine WL.yld (by decide) (Yld.pickT rfl rfl) ?_
        refine WL.yld (by decide) (Yld.assign rfl) ?_
        refine WL.done (hK140 _ _ ?_)
        refine WC.ret ?_
        injection h with h; subst h
        exact Ret.fn [] (ResIs.one rfl rfl) rfl (Ext.trans (Ext.trans (Ext.trans (Ext.trans hm_M20 hm_M38) hm_M40) hm_M59) hm_M61) rfl (by decide) rfl rfl ⟨rfl, rfl⟩
       ·
        replace h := of_f hc146 h
        refine WL.yld (by decide) (Yld.move rfl) ?_
        refine WL.yld (by decide) (Yld.eqlI rfl rfl) ?_
        refine WL.yld (by decide) (Yld.move rfl) ?_
        refine WL.new (v' := .bool true) (congrArg Value.bool (beq_iff_eq.2 hc141)) ?_
        refine WL.yldG (by decide) rfl (Yld.move rfl) ?_
        refine WL.effG (by decide) rfl (Eff.callS 243 rfl Try.func16 nm_16 rfl rfl (fun w hb hh => w_history_Valid (Mem.snap w) A62 n63 c64 rs65 _ (RdH.sn (RdH.own (k := 153) rfl) w hb hh) (Rels.sn hq66 (hh.sat 0 _ rfl)) hx142)) ?_
        rintro _ _ ⟨_, ⟨rfl, rfl⟩, rfl⟩
        refine WL.yld (by decide) (Yld.pickT rfl rfl) ?_
        refine WL.yld (by decide) (Yld.move rfl) ?_
        refine WL.new (v' := .bool true) (congrArg Value.bool hc144) ?_
        refine WL.yldG (by decide) rfl (Yld.move rfl) ?_
        refine WL.yldG (by decide) rfl (Yld.lenD (rs := rs65) (xs := x47.1) (Rels.len hq66) und_27 rfl (RdH.own (k := 153) rfl)) ?_
        refine WL.yldG (by decide) rfl (Yld.move rfl) ?_
        refine WL.yldG (by decide) rfl (Yld.eqlI rfl rfl) ?_
        refine WL.yld (by decide) (Yld.pickT rfl rfl) ?_
        refine WL.yld (by decide) (Yld.move rfl) ?_
        refine WL.new (v' := .bool true) (congrArg Value.bool (beq_iff_eq.2 hc145)) ?_
        refine WL.yldG (by decide) rfl (Yld.move rfl) ?_
        refine WL.yldG (by decide) rfl (Yld.eqlI rfl rfl) ?_
        refine WL.yld (by decide) (Yld.pickT rfl rfl) ?_
        refine WL.yld (by decide) (Yld.move rfl) ?_
        refine WL.new (v' := .bool false) (congrArg Value.bool (beq_eq_false_iff_ne.2 hc146)) ?_
        refine WL.skip (by decide) rfl rfl ?_
        refine WL.yld (by decide) (Yld.pickF rfl rfl) ?_
        refine WL.yld (by decide) (Yld.assign rfl) ?_
        refine WL.done (hK140 _ _ ?_)
        refine WC.ret ?_
        injection h with h; subst h
        exact Ret.fn [] (ResIs.one rfl rfl) rfl (Ext.trans (Ext.trans (Ext.trans (Ext.trans hm_M20 hm_M38) hm_M40) hm_M59) hm_M61) rfl (by decide) rfl rfl ⟨rfl, rfl⟩
      ·
       replace h := of_f hc145 h
       refine WL.yld (by decide) (Yld.move rfl) ?_
       refine WL.yld (by decide) (Yld.eqlI rfl rfl) ?_
       refine WL.yld (by decide) (Yld.move rfl) ?_
       refine WL.new (v' := .bool true) (congrArg Value.bool (beq_iff_eq.2 hc141)) ?_
       refine WL.yldG (by decide) rfl (Yld.move rfl) ?_
       refine WL.effG (by decide) rfl (Eff.callS 243 rfl Try.func16 nm_16 rfl rfl (fun w hb hh => w_history_Valid (Mem.snap w) A62 n63 c64 rs65 _ (RdH.sn (RdH.own (k := 153) rfl) w hb hh) (Rels.sn hq66 (hh.sat 0 _ rfl)) hx142)) ?_
       rintro _ _ ⟨_, ⟨rfl, rfl⟩, rfl⟩
       refine WL.yld (by decide) (Yld.pickT rfl rfl) ?_
       refine WL.yld (by decide) (Yld.move rfl) ?_
       refine WL.new (v' := .bool true) (congrArg Value.bool hc144) ?_
       refine WL.yldG (by decide) rfl (Yld.move rfl) ?_
       refine WL.yldG (by decide) rfl (Yld.lenD (rs := rs65) (xs := x47.1) (Rels.len hq66) und_27 rfl (RdH.own (k := 153) rfl)) ?_
       refine WL.yldG (by decide) rfl (Yld.move rfl) ?_
       refine WL.yldG (by decide) rfl (Yld.eqlI rfl rfl) ?_
       refine WL.yld (by decide) (Yld.pickT rfl rfl) ?_
       refine WL.yld (by decide) (Yld.move rfl) ?_
       refine WL.new (v' := .bool false) (congrArg Value.bool (beq_eq_false_iff_ne.2 hc145)) ?_
       refine WL.skip (by decide) rfl rfl ?_
       refine WL.skip (by decide) rfl rfl ?_
       refine WL.yld (by decide) (Yld.pickF rfl rfl) ?_
       refine WL.yld (by decide) (Yld.move rfl) ?_
       refine WL.skip (by decide) rfl rfl ?_
       refine WL.yld (by decide) (Yld.pickF rfl rfl) ?_
       refine WL.yld (by decide) (Yld.assign rfl) ?_
       refine WL.done (hK140 _ _ ?_)
       refine WC.ret ?_
       injection h with h; subst h
       exact Ret.fn [] (ResIs.one rfl rfl) rfl (Ext.trans (Ext.trans (Ext.trans (Ext.trans hm_M20 hm_M38) hm_M40) hm_M59) hm_M61) rfl (by decide) rfl rfl ⟨rfl, rfl⟩
     ·
      replace h := of_f hc144 h
      refine WL.yld (by decide) (Yld.move rfl) ?_
      refine WL.yld (by decide) (Yld.eqlI rfl rfl) ?_
      refine WL.yld (by decide) (Yld.move rfl) ?_
      refine WL.new (v' := .bool true) (congrArg Value.bool (beq_iff_eq.2 hc141)) ?_
      refine WL.yldG (by decide) rfl (Yld.move rfl) ?_
      refine WL.effG (by decide) rfl (Eff.callS 243 rfl Try.func16 nm_16 rfl rfl (fun w hb hh => w_history_Valid (Mem.snap w) A62 n63 c64 rs65 _ (RdH.sn (RdH.own (k := 153) rfl) w hb hh) (Rels.sn hq66 (hh.sat 0 _ rfl)) hx142)) ?_
      rintro _ _ ⟨_, ⟨rfl, rfl⟩, rfl⟩
      refine WL.yld (by decide) (Yld.pickT rfl rfl) ?_
      refine WL.yld (by decide) (Yld.move rfl) ?_
      refine WL.new (v' := .bool false) (congrArg Value.bool (Bool.eq_false_iff.2 hc144)) ?_
      refine WL.skip (by decide) rfl rfl ?_
      refine WL.skip (by decide) rfl rfl ?_
      refine WL.skip (by decide) rfl rfl ?_
      refine WL.skip (by decide) rfl rfl ?_
      refine WL.yld (by decide) (Yld.pickF rfl rfl) ?_
      refine WL.yld (by decide) (Yld.move rfl) ?_
      refine WL.skip (by decide) rfl rfl ?_
      refine WL.skip (by decide) rfl rfl ?_
      refine WL.yld (by decide) (Yld.pickF rfl rfl) ?_
      refine WL.yld (by decide) (Yld.move rfl) ?_
      refine WL.skip (by decide) rfl rfl ?_
      refine WL.yld (by decide) (Yld.pickF rfl rfl) ?_
      refine WL.yld (by decide) (Yld.assign rfl) ?_
      refine WL.done (hK140 _ _ ?_)
      refine WC.ret ?_
      injection h with h; subst h
      exact Ret.fn [] (ResIs.one rfl rfl) rfl (Ext.trans (Ext.trans (Ext.trans (Ext.trans hm_M20 hm_M38) hm_M40) hm_M59) hm_M61) rfl (by decide) rfl rfl ⟨rfl, rfl⟩
    ·
     replace h := of_f hc141 h
     refine WL.yld (by decide) (Yld.move rfl) ?_
     refine WL.yld (by decide) (Yld.eqlI rfl rfl) ?_
     refine WL.yld (by decide) (Yld.move rfl) ?_
     refine WL.new (v' := .bool false) (congrArg Value.bool (beq_eq_false_iff_ne.2 hc141)) ?_
     refine WL.skip (by decide) rfl rfl ?_
     refine WL.skip (by decide) rfl rfl ?_
     refine WL.yld (by decide) (Yld.pickF rfl rfl) ?_
     refine WL.yld (by decide) (Yld.move rfl) ?_
     refine WL.skip (by decide) rfl rfl ?_
     refine WL.skip (by decide) rfl rfl ?_
     refine WL.skip (by decide) rfl rfl ?_
     refine WL.skip (by decide) rfl rfl ?_
     refine WL.yld (by decide) (Yld.pickF rfl rfl) ?_
     refine WL.yld (by decide) (Yld.move rfl) ?_
     refine WL.skip (by decide) rfl rfl ?_
     refine WL.skip (by decide) rfl rfl ?_
     refine WL.yld (by decide) (Yld.pickF rfl rfl) ?_
     refine WL.yld (by decide) (Yld.move rfl) ?_
     refine WL.skip (by decide) rfl rfl ?_
     refine WL.yld (by decide) (Yld.pickF rfl rfl) ?_
     refine WL.yld (by decide) (Yld.assign rfl) ?_
     refine WL.done (hK140 _ _ ?_)
     refine WC.ret ?_
     injection h with h; subst h
     exact Ret.fn [] (ResIs.one rfl rfl) rfl (Ext.trans (Ext.trans (Ext.trans (Ext.trans hm_M20 hm_M38) hm_M40) hm_M59) hm_M61) rfl (by decide) rfl rfl ⟨rfl, rfl⟩
 ·
  replace h := of_f hc6 h
  refine WC.condTe rfl (not_t (Bool.eq_false_iff.2 hc6)) ?_
  refine WC.seqRegion fun K149 hK149 => ?_
  obtain ⟨x150, hx150, h⟩ := bnd h
  refine WL.eff (by decide) (Eff.callS 251 rfl Try.func8 nm_8 rfl rfl (fun w hb hh => w_law24_awake (Mem.snap w) hx150)) ?_
  rintro _ _ ⟨_, ⟨rfl, rfl⟩, rfl⟩
  refine WL.yld (by decide) (Yld.assign rfl) ?_
  refine WL.done (hK149 _ _ ?_)
  refine WC.ret (QK.thenR ?_)
  injection h with h; subst h
  exact Ret.fn [] (ResIs.one rfl rfl) rfl (Ext.refl _ _) rfl (by decide) rfl rfl ⟨rfl, rfl⟩

end Go.Proofs.Ytpebhdepmbnjbaa
