/-
  Walks (g3): what a function's model gives, the function returns. Printed by a program of ours (vcm.py) from the function's operations. Conditions: as each theorem says.
-/
import Derived.Test.YtnbcphofimicdaaWkf
import Derived.Test.YtnbcphofimicdaaMdg3
namespace Go.Proofs.Ytnbcphofimicdaa
open Go Go.RowKit
set_option linter.unusedVariables false

theorem nm_15 : (Try.f15.name == "runtime.NumGoroutine") = false := by kernel_rfl

set_option maxRecDepth 10000 in
theorem w_law04_RsLinear (M0 : Mem) (A00 : Option Addr) (n00 c00 : Nat) (x00 : List (BitVec 8)) (hf00 : SlT M0 A00 n00 c00 x00) (A01 : Option Addr) (n01 c01 : Nat) (x01 : List (BitVec 8)) (hf01 : SlT M0 A01 n01 c01 x01) (x02 : Int) {res : Bool} (h : m_law04_RsLinear x00 x01 x02 = some res) :
    Fn Try.prog 6 #[.slice A00 n00 c00, .slice A01 n01 c01, I64 x02] M0 fun r M' es => r = .bool res ∧ es = [] := by
  refine Fn.intro (N := 170) Try.func6 rfl rfl (Nat.le_of_ble_eq_true rfl) fun w0 => ?_
  unfold m_law04_RsLinear at h
  refine WC.seqRegion fun K1 hK1 => ?_
  refine WL.yld (by decide) (Yld.assign rfl) ?_
  refine WL.done (hK1 _ _ ?_)
  refine WC.seqRegion fun K2 hK2 => ?_
  obtain ⟨x3, hx3, h⟩ := bnd h
  obtain ⟨x21, hx21, h⟩ := bnd h
  refine WL.yld (by decide) (Yld.move rfl) ?_
  refine WL.yld (by decide) (Yld.move rfl) ?_
  refine WL.eff (by decide) (Eff.callM 109 rfl Try.func18 nm_18 rfl rfl rfl (w_law04_data _ A00 n00 c00 _ hf00 x02 hx3)) ?_
  rintro _ _ ⟨M15, _, ⟨A16, n17, c18, rs19, rfl, rfl, hq20⟩, hm_M15, rfl⟩
  refine WL.yld (by decide) (Yld.move rfl) ?_
  refine WL.yld (by decide) (Yld.move rfl) ?_
  refine WL.eff (by decide) (Eff.callM 127 rfl Try.func18 nm_18 rfl rfl rfl (w_law04_data _ A01 n01 c01 _ (SlRc.lift hf01 hm_M15) x02 hx21)) ?_
  rintro _ _ ⟨M33, _, ⟨A34, n35, c36, rs37, rfl, rfl, hq38⟩, hm_M33, rfl⟩
  refine WL.yld (by decide) (Yld.assign rfl) ?_
  refine WL.yld (by decide) (Yld.assign rfl) ?_
  refine WL.done (hK2 _ _ ?_)
  refine WC.seqRegion fun K39 hK39 => ?_
  refine WL.yld (by decide) (Yld.assign rfl) ?_
  refine WL.done (hK39 _ _ ?_)
  refine WC.seqCut (σ := Mem × (Option Addr) × Nat × Nat × (List (List (BitVec 8))) × (List Hdr)) (fun ⟨M40, A43, n44, c45, x46, rs47⟩ => [(7, .slice A16 n17 c18), (8, .slice A34 n35 c36), (9, .slice A43 n44 c45)]) (fun ⟨M40, A43, n44, c45, x46, rs47⟩ => [(0, .mem M40), (109, .own 22 (Lay.sz Hdr) A16 n17 c18 (cel rs19)), (127, .own 22 (Lay.sz Hdr) A34 n35 c36 (cel rs37)), (142, .own 22 (Lay.sz Hdr) A43 n44 c45 (cel rs47))]) (fun ⟨M40, A43, n44, c45, x46, rs47⟩ => m_law04_RsLinear_j0 x3 x21 x46 = some res ∧ Ext w0.heap.size M33 M40 ∧ Rels ((RelB (α := BitVec 8)) M40) rs47 x46) (fun K49 hK49 => ?_) ?_
  · skip
    refine WC.seqRegion fun K50 hK50 => ?_
    refine WL.yld (by decide) (Yld.move rfl) ?_
    refine WL.yld (by decide) (Yld.lenD (rs := rs19) (xs := x3) (Rels.len (Rels.lift hq20 hm_M33)) und_35 rfl (RdH.own (k := 109) rfl)) ?_
    refine WL.yld (by decide) (Yld.move rfl) ?_
    refine WL.done (hK50 _ _ ?_)
    refine WC.block ?_
    refine WC.nilOwn 153 22 (Lay.sz Hdr) none ?_
    refine WC.loop (σ := Nat × Mem × (Option Addr) × Nat × Nat × (List (List (BitVec 8))) × (List Hdr) × Int) (fun ⟨q61, M51, A54, n55, c56, x57, rs58, x60⟩ => [(7, .slice A16 n17 c18), (8, .slice A34 n35 c36), (9, .slice A54 n55 c56), (28, I64 (x3.length : Int)), (29, I64 x60)]) (fun ⟨q61, M51, A54, n55, c56, x57, rs58, x60⟩ => [(0, .mem M51), (109, .own 22 (Lay.sz Hdr) A16 n17 c18 (cel rs19)), (127, .own 22 (Lay.sz Hdr) A34 n35 c36 (cel rs37)), (153, .own 22 (Lay.sz Hdr) A54 n55 c56 (cel rs58))]) (fun ⟨q61, M51, A54, n55, c56, x57, rs58, x60⟩ => m_law04_RsLinear_l1 x3 x21 q61 x57 x60 = some res ∧ Ext w0.heap.size M33 M51 ∧ Rels ((RelB (α := BitVec 8)) M51) rs58 x57) (fun ⟨q61, M51, A54, n55, c56, x57, rs58, x60⟩ => q61) ⟨forever, M33, none, 0, 0, ([] : List (List (BitVec 8))), ([] : List Hdr), (0 : Int)⟩ ?_ (Sub.cons rfl (Sub.cons rfl (Sub.cons rfl (Sub.cons rfl (Sub.cons rfl (Sub.nil _)))))) (Sub.cons rfl (Sub.cons rfl (Sub.cons rfl (Sub.cons rfl (Sub.nil _))))) ?_
    · exact ⟨h, (Ext.refl _ _), (Rels.nil (R := (RelB (α := BitVec 8)) M33))⟩
    rintro ⟨q61, M51, A54, n55, c56, x57, rs58, x60⟩ ⟨h, hm_M51, hq59⟩ K62 hK62
    cases q61 with
    | zero => exact absurd h (by simp [m_law04_RsLinear_l1])
    | succ q61 =>
      unfold m_law04_RsLinear_l1 at h
      refine WC.seqRegion fun K63 hK63 => ?_
      refine WL.yld (by decide) (Yld.lss rfl rfl) ?_
      refine WL.done (hK63 _ _ ?_)
      refine WC.seq fun K64 hK64 => ?_
      by_cases hc65 : x60 < (x3.length : Int)
      · replace h := of_t hc65 h
        refine WC.condTe rfl (decide_eq_true hc65) ?_
        refine WC.skip ?_
        refine QK.thenN (hK64 _ _ ?_)
        refine WC.seqCut (σ := Mem × (Option Addr) × Nat × Nat × (List (List (BitVec 8))) × (List Hdr)) (fun ⟨M66, A67, n68, c69, x70, rs71⟩ => [(7, .slice A16 n17 c18), (8, .slice A34 n35 c36), (9, .slice A67 n68 c69), (28, I64 (x3.length : Int)), (29, I64 x60)]) (fun ⟨M66, A67, n68, c69, x70, rs71⟩ => [(0, .mem M66), (109, .own 22 (Lay.sz Hdr) A16 n17 c18 (cel rs19)), (127, .own 22 (Lay.sz Hdr) A34 n35 c36 (cel rs37)), (153, .own 22 (Lay.sz Hdr) A67 n68 c69 (cel rs71))]) (fun ⟨M66, A67, n68, c69, x70, rs71⟩ => m_law04_RsLinear_j2 x60 (m_law04_RsLinear_l1 x3 x21 q61) x70 = some res ∧ Ext w0.heap.size M51 M66 ∧ Rels ((RelB (α := BitVec 8)) M66) rs71 x70) (fun K73 hK73 => ?_) ?_
        · skip
          refine WC.block ?_
          refine WC.seqRegion fun K74 hK74 => ?_
          refine WL.yld (by decide) (Yld.move rfl) ?_
          refine WL.yld (by decide) (Yld.assign rfl) ?_
          refine WL.done (hK74 _ _ ?_)
          refine WC.seqRegion fun K75 hK75 => ?_
          obtain ⟨x76, hx76, h⟩ := bnd h
          obtain ⟨x81, hx81, h⟩ := bnd h
          refine WL.yld (by decide) (Yld.move rfl) ?_
          refine WL.yld (by decide) (Yld.move rfl) ?_
          obtain ⟨r_77, hr78, hq79⟩ := Rels.idx (Rels.lift (Rels.lift hq20 hm_M33) hm_M51) hx76
          refine WL.yld (by decide) (Yld.idxC (xs := rs19) sty_35 rfl rfl (RdH.own (k := 109) rfl) hr78) ?_
          refine WL.yld (by decide) (Yld.loadC0 (xs := rs19) scal_22 rfl (RdH.own (k := 109) rfl) hr78 rfl) ?_
          refine WL.yld (by decide) (Yld.lenC (xs := x76) und_22 rfl (RdH.memM (k := 0) rfl hq79)) ?_
          refine WL.eff (by decide) (Eff.makeC 180 0#8 sty_22 rfl rfl rfl rfl rfl rfl hx81) ?_
          rintro _ _ ⟨g80, rfl, rfl⟩
          refine WL.yld (by decide) (Yld.assign rfl) ?_
          refine WL.done (hK75 _ _ ?_)
          refine WC.seqCut (σ := (List (BitVec 8))) (fun x82 => [(7, .slice A16 n17 c18), (8, .slice A34 n35 c36), (9, .slice A54 n55 c56), (11, .slice (some ⟨g80, 0, none⟩) x81.length x81.length), (28, I64 (x3.length : Int)), (29, I64 x60)]) (fun x82 => [(0, .mem M51), (109, .own 22 (Lay.sz Hdr) A16 n17 c18 (cel rs19)), (127, .own 22 (Lay.sz Hdr) A34 n35 c36 (cel rs37)), (153, .own 22 (Lay.sz Hdr) A54 n55 c56 (cel rs58)), (180, .own 5 (Lay.sz (BitVec 8)) (some ⟨g80, 0, none⟩) x81.length x81.length (cel x82))]) (fun x82 => m_law04_RsLinear_j3 x57 x60 (m_law04_RsLinear_l1 x3 x21 q61) x82 = some res) (fun K83 hK83 => ?_) ?_
          · skip
            refine WC.seqRegion fun K84 hK84 => ?_
            refine WL.yld (by decide) (Yld.move rfl) ?_
            refine WL.yld (by decide) (Yld.lenC (xs := x81) und_22 rfl (RdH.own (k := 180) rfl)) ?_
            refine WL.yld (by decide) (Yld.move rfl) ?_
            refine WL.done (hK84 _ _ ?_)
            refine WC.block ?_
            refine WC.loop (σ := Nat × (List (BitVec 8)) × Int) (fun ⟨q87, x85, x86⟩ => [(7, .slice A16 n17 c18), (8, .slice A34 n35 c36), (9, .slice A54 n55 c56), (10, I64 x60), (11, .slice (some ⟨g80, 0, none⟩) x81.length x81.length), (28, I64 (x3.length : Int)), (29, I64 x60), (39, I64 (x81.length : Int)), (40, I64 x86)]) (fun ⟨q87, x85, x86⟩ => [(0, .mem M51), (109, .own 22 (Lay.sz Hdr) A16 n17 c18 (cel rs19)), (127, .own 22 (Lay.sz Hdr) A34 n35 c36 (cel rs37)), (153, .own 22 (Lay.sz Hdr) A54 n55 c56 (cel rs58)), (180, .own 5 (Lay.sz (BitVec 8)) (some ⟨g80, 0, none⟩) x81.length x81.length (cel x85))]) (fun ⟨q87, x85, x86⟩ => m_law04_RsLinear_l4 x3 x21 x57 x60 x81 (m_law04_RsLinear_l1 x3 x21 q61) q87 x85 x86 = some res) (fun ⟨q87, x85, x86⟩ => q87) ⟨forever, x81, (0 : Int)⟩ ?_ (Sub.cons rfl (Sub.cons rfl (Sub.cons rfl (Sub.cons rfl (Sub.cons rfl (Sub.cons rfl (Sub.cons rfl (Sub.cons rfl (Sub.cons rfl (Sub.nil _)))))))))) (Sub.cons rfl (Sub.cons rfl (Sub.cons rfl (Sub.cons rfl (Sub.cons rfl (Sub.nil _)))))) ?_
            · exact h
            rintro ⟨q87, x85, x86⟩ h K88 hK88
            cases q87 with
            | zero => exact absurd h (by simp [m_law04_RsLinear_l4])
            | succ q87 =>
              unfold m_law04_RsLinear_l4 at h
              refine WC.seqRegion fun K89 hK89 => ?_
              refine WL.yld (by decide) (Yld.lss rfl rfl) ?_
              refine WL.done (hK89 _ _ ?_)
              refine WC.seq fun K90 hK90 => ?_
              by_cases hc91 : x86 < (x81.length : Int)
              · replace h := of_t hc91 h
                refine WC.condTe rfl (decide_eq_true hc91) ?_
                refine WC.skip ?_
                refine QK.thenN (hK90 _ _ ?_)
                refine WC.seq fun K92 hK92 => ?_
                refine WC.block ?_
                refine WC.seqRegion fun K93 hK93 => ?_
                refine WL.yld (by decide) (Yld.move rfl) ?_
                refine WL.yld (by decide) (Yld.assign rfl) ?_
                refine WL.done (hK93 _ _ ?_)
                refine WC.regionD (n := 19) [(0, _), (109, _), (127, _), (153, _)] rfl mixed (Sub.cons rfl (Sub.cons rfl (Sub.cons rfl (Sub.cons rfl (Sub.nil _))))) fun K94 hK94 => ?_
                obtain ⟨x95, hx95, h⟩ := bnd h
                obtain ⟨x99, hx99, h⟩ := bnd h
                obtain ⟨x100, hx100, h⟩ := bnd h
                obtain ⟨x104, hx104, h⟩ := bnd h
                obtain ⟨x105, hx105, h⟩ := bnd h
                obtain ⟨x106, hx106, h⟩ := bnd h
                refine WD.take 0 rfl (by kernel_rfl) (by kernel_rfl) (by kernel_rfl) (by decide) (Yld.move rfl) ?_
                refine WD.take 1 rfl (by kernel_rfl) (by kernel_rfl) (by kernel_rfl) (by decide) (Yld.move rfl) ?_
                refine WD.take 2 rfl (by kernel_rfl) (by kernel_rfl) (by kernel_rfl) (by decide) (Yld.move rfl) ?_
                refine WD.take 3 rfl (by kernel_rfl) (by kernel_rfl) (by kernel_rfl) (by decide) (Yld.move rfl) ?_
                obtain ⟨r_96, hr97, hq98⟩ := Rels.idx (Rels.lift (Rels.lift hq20 hm_M33) hm_M51) hx95
                refine WD.take 4 rfl (by kernel_rfl) (by kernel_rfl) (by kernel_rfl) (by decide) (Yld.idxC (xs := rs19) sty_35 rfl rfl (RdH.own (k := 109) rfl) hr97) ?_
                refine WD.take 5 rfl (by kernel_rfl) (by kernel_rfl) (by kernel_rfl) (by decide) (Yld.loadC0 (xs := rs19) scal_22 rfl (RdH.own (k := 109) rfl) hr97 rfl) ?_
                refine WD.take 6 rfl (by kernel_rfl) (by kernel_rfl) (by kernel_rfl) (by decide) (Yld.move rfl) ?_
                refine WD.take 7 rfl (by kernel_rfl) (by kernel_rfl) (by kernel_rfl) (by decide) (Yld.idxC (xs := x95) sty_22 rfl rfl (RdH.memM (k := 0) rfl hq98) hx99) ?_
                refine WD.take 8 rfl (by kernel_rfl) (by kernel_rfl) (by kernel_rfl) (by decide) (Yld.loadC0 (xs := x95) scal_5 rfl (RdH.memM (k := 0) rfl hq98) hx99 rfl) ?_
                refine WD.take 9 rfl (by kernel_rfl) (by kernel_rfl) (by kernel_rfl) (by decide) (Yld.move rfl) ?_
                refine WD.take 10 rfl (by kernel_rfl) (by kernel_rfl) (by kernel_rfl) (by decide) (Yld.move rfl) ?_
                obtain ⟨r_101, hr102, hq103⟩ := Rels.idx (Rels.lift hq38 hm_M51) hx100
                refine WD.take 11 rfl (by kernel_rfl) (by kernel_rfl) (by kernel_rfl) (by decide) (Yld.idxC (xs := rs37) sty_35 rfl rfl (RdH.own (k := 127) rfl) hr102) ?_
                refine WD.take 12 rfl (by kernel_rfl) (by kernel_rfl) (by kernel_rfl) (by decide) (Yld.loadC0 (xs := rs37) scal_22 rfl (RdH.own (k := 127) rfl) hr102 rfl) ?_
                refine WD.take 13 rfl (by kernel_rfl) (by kernel_rfl) (by kernel_rfl) (by decide) (Yld.move rfl) ?_
                refine WD.take 14 rfl (by kernel_rfl) (by kernel_rfl) (by kernel_rfl) (by decide) (Yld.idxC (xs := x100) sty_22 rfl rfl (RdH.memM (k := 0) rfl hq103) hx104) ?_
                refine WD.take 15 rfl (by kernel_rfl) (by kernel_rfl) (by kernel_rfl) (by decide) (Yld.loadC0 (xs := x100) scal_5 rfl (RdH.memM (k := 0) rfl hq103) hx104 rfl) ?_
                refine WD.take 16 rfl (by kernel_rfl) (by kernel_rfl) (by kernel_rfl) (by decide) (Yld.xor_u8 (a := x99) (b := x104) rfl rfl) ?_
                refine WD.one 17 (by kernel_rfl) ?_
                refine WS.yld rfl (by decide) (Yld.idxC (xs := x85) sty_22 rfl rfl (RdH.own (k := 180) rfl) hx105) ?_
                refine WD.one 18 (by kernel_rfl) ?_
                refine WS.eff0 rfl (Eff0.storeC1 180 (xs := x85) (a' := x99 ^^^ x104) siz_5 rfl rfl rfl rfl rfl rfl hx106) (Sub.cons rfl (Sub.cons rfl (Sub.cons rfl (Sub.cons rfl (Sub.nil _))))) ?_
                refine WD.done (by kernel_rfl) (hK94 _ _ ?_)
                refine QK.blockN ?_
                refine QK.thenN (hK92 _ _ ?_)
                refine WC.region fun K107 hK107 => ?_
                obtain ⟨x108, hx108, h⟩ := bnd h
                refine WL.yld (by decide) (Yld.addC rfl rfl hx108) ?_
                refine WL.yld (by decide) (Yld.move rfl) ?_
                refine WL.done (hK107 _ _ ?_)
                refine QK.thenN ?_
                refine hK88 ⟨q87, x106, x108⟩ _ _ ?_ (Nat.lt_succ_self _) (Sub.cons rfl (Sub.cons rfl (Sub.cons rfl (Sub.cons rfl (Sub.cons rfl (Sub.cons rfl (Sub.cons rfl (Sub.cons rfl (Sub.cons rfl (Sub.nil _)))))))))) (Sub.cons rfl (Sub.cons rfl (Sub.cons rfl (Sub.cons rfl (Sub.cons rfl (Sub.nil _))))))
                exact h
              · replace h := of_f hc91 h
                refine WC.condFe rfl (decide_eq_false hc91) ?_
                refine WC.exit (QK.thenE (QK.thenE (QK.blockX ?_)))
                refine QK.thenN ?_
                refine hK83 x85 _ _ ?_ (Sub.cons rfl (Sub.cons rfl (Sub.cons rfl (Sub.cons rfl (Sub.cons rfl (Sub.cons rfl (Sub.nil _))))))) (Sub.cons rfl (Sub.cons rfl (Sub.cons rfl (Sub.cons rfl (Sub.cons rfl (Sub.nil _))))))
                exact h
          · rintro x82 h
            unfold m_law04_RsLinear_j3 at h
            refine WC.region fun K109 hK109 => ?_
            obtain ⟨x114, hx114, h⟩ := bnd h
            refine WL.yld (by decide) (Yld.move rfl) ?_
            refine WL.yld (by decide) (Yld.move rfl) ?_
            refine WL.freeze 180 rfl rfl rfl fun M111 hm_M111 hf112 => ?_
            have hq113 : Rels ((RelB (α := BitVec 8)) M111) ([(⟨(some ⟨g80, 0, none⟩), x81.length, x81.length⟩ : Hdr)] : List Hdr) ([x82] : List (List (BitVec 8))) := (Rels.cons hf112 Rels.nil)
            refine WL.eff (by decide) (Eff.buildC 210 ([(⟨(some ⟨g80, 0, none⟩), x81.length, x81.length⟩ : Hdr)] : List Hdr) sty_35 rfl rfl rfl rfl rfl (by decide)) ?_
            rintro _ _ ⟨g110, rfl, rfl⟩
            obtain ⟨hu117, hq118⟩ := Rels.apd (Rels.lift hq59 hm_M111) hq113 hx114
            refine WL.eff (by decide) (Eff.appendC 153 (xs := rs58) (ys := ([(⟨(some ⟨g80, 0, none⟩), x81.length, x81.length⟩ : Hdr)] : List Hdr)) sty_35 rfl rfl rfl (RdH.own (k := 210) rfl) hu117) ?_
            rintro _ _ ⟨A115, c116, rfl, rfl⟩
            refine WL.yld (by decide) (Yld.assign rfl) ?_
            refine WL.done (hK109 _ _ ?_)
            refine QK.blockN ?_
            refine QK.thenN ?_
            refine hK73 ⟨M111, A115, (rs58 ++ ([(⟨(some ⟨g80, 0, none⟩), x81.length, x81.length⟩ : Hdr)] : List Hdr)).length, c116, x114, (rs58 ++ ([(⟨(some ⟨g80, 0, none⟩), x81.length, x81.length⟩ : Hdr)] : List Hdr))⟩ _ _ ?_ (Sub.cons rfl (Sub.cons rfl (Sub.cons rfl (Sub.cons rfl (Sub.cons rfl (Sub.nil _)))))) (Sub.cons rfl (Sub.cons rfl (Sub.cons rfl (Sub.cons rfl (Sub.nil _)))))
            exact ⟨h, hm_M111, hq118⟩
        · rintro ⟨M66, A67, n68, c69, x70, rs71⟩ ⟨h, hm_M66, hq72⟩
          unfold m_law04_RsLinear_j2 at h
          refine WC.region fun K119 hK119 => ?_
          obtain ⟨x120, hx120, h⟩ := bnd h
          refine WL.yld (by decide) (Yld.addC rfl rfl hx120) ?_
          refine WL.yld (by decide) (Yld.move rfl) ?_
          refine WL.done (hK119 _ _ ?_)
          refine QK.thenN ?_
          refine hK62 ⟨q61, M66, A67, n68, c69, x70, rs71, x120⟩ _ _ ?_ (Nat.lt_succ_self _) (Sub.cons rfl (Sub.cons rfl (Sub.cons rfl (Sub.cons rfl (Sub.cons rfl (Sub.nil _)))))) (Sub.cons rfl (Sub.cons rfl (Sub.cons rfl (Sub.cons rfl (Sub.nil _)))))
          exact ⟨h, (Ext.trans hm_M51 hm_M66), hq72⟩
      · replace h := of_f hc65 h
        refine WC.condFe rfl (decide_eq_false hc65) ?_
        refine WC.exit (QK.thenE (QK.thenE (QK.blockX ?_)))
        refine QK.thenN ?_
        refine KK.move 153 142 rfl rfl ?_
        refine hK49 ⟨M51, A54, n55, c56, x57, rs58⟩ _ _ ?_ (Sub.cons rfl (Sub.cons rfl (Sub.cons rfl (Sub.nil _)))) (Sub.cons rfl (Sub.cons rfl (Sub.cons rfl (Sub.cons rfl (Sub.nil _)))))
        exact ⟨h, hm_M51, hq59⟩
  · rintro ⟨M40, A43, n44, c45, x46, rs47⟩ ⟨h, hm_M40, hq48⟩
    unfold m_law04_RsLinear_j0 at h
    refine WC.seqRegion fun K121 hK121 => ?_
    obtain ⟨x122, hx122, h⟩ := bnd h
    refine WL.yld (by decide) (Yld.move rfl) ?_
    refine WL.freeze 109 rfl rfl rfl fun M134 hm_M134 hf135 => ?_
    refine WL.eff (by decide) (Eff.callM 228 rfl Try.func23 nm_23 rfl rfl rfl (w_rs_Encode _ A16 n17 c18 rs19 _ hf135 (Rels.lift (Rels.lift (Rels.lift hq20 hm_M33) hm_M40) hm_M134) hx122)) ?_
    rintro _ _ ⟨M136, _, ⟨A137, n138, c139, rs140, rfl, rfl, hq141⟩, hm_M136, rfl⟩
    refine WL.yld (by decide) (Yld.move rfl) ?_
    refine WL.yld (by decide) (Yld.extract rfl rfl) ?_
    refine WL.yld (by decide) (Yld.extract rfl rfl) ?_
    refine WL.yld (by decide) (Yld.assign rfl) ?_
    refine WL.yld (by decide) (Yld.assign rfl) ?_
    refine WL.done (hK121 _ _ ?_)
    refine WC.seqRegion fun K142 hK142 => ?_
    obtain ⟨x143, hx143, h⟩ := bnd h
    refine WL.yld (by decide) (Yld.move rfl) ?_
    refine WL.freeze 127 rfl rfl rfl fun M155 hm_M155 hf156 => ?_
    refine WL.eff (by decide) (Eff.callM 249 rfl Try.func23 nm_23 rfl rfl rfl (w_rs_Encode _ A34 n35 c36 rs37 _ hf156 (Rels.lift (Rels.lift (Rels.lift (Rels.lift hq38 hm_M40) hm_M134) hm_M136) hm_M155) hx143)) ?_
    rintro _ _ ⟨M157, _, ⟨A158, n159, c160, rs161, rfl, rfl, hq162⟩, hm_M157, rfl⟩
    refine WL.yld (by decide) (Yld.move rfl) ?_
    refine WL.yld (by decide) (Yld.extract rfl rfl) ?_
    refine WL.yld (by decide) (Yld.extract rfl rfl) ?_
    refine WL.yld (by decide) (Yld.assign rfl) ?_
    refine WL.yld (by decide) (Yld.assign rfl) ?_
    refine WL.done (hK142 _ _ ?_)
    refine WC.seqRegion fun K163 hK163 => ?_
    obtain ⟨x164, hx164, h⟩ := bnd h
    refine WL.yld (by decide) (Yld.move rfl) ?_
    refine WL.freeze 142 rfl rfl rfl fun M176 hm_M176 hf177 => ?_
    refine WL.eff (by decide) (Eff.callM 270 rfl Try.func23 nm_23 rfl rfl rfl (w_rs_Encode _ A43 n44 c45 rs47 _ hf177 (Rels.lift (Rels.lift (Rels.lift (Rels.lift (Rels.lift hq48 hm_M134) hm_M136) hm_M155) hm_M157) hm_M176) hx164)) ?_
    rintro _ _ ⟨M178, _, ⟨A179, n180, c181, rs182, rfl, rfl, hq183⟩, hm_M178, rfl⟩
    refine WL.yld (by decide) (Yld.move rfl) ?_
    refine WL.yld (by decide) (Yld.extract rfl rfl) ?_
    refine WL.yld (by decide) (Yld.extract rfl rfl) ?_
    refine WL.yld (by decide) (Yld.assign rfl) ?_
    refine WL.yld (by decide) (Yld.assign rfl) ?_
    refine WL.done (hK163 _ _ ?_)
    refine WC.seqCut (σ := Unit) (fun _ => [(13, .slice A137 n138 c139), (15, .slice A158 n159 c160), (17, .slice A179 n180 c181)]) (fun _ => [(0, .mem M178), (228, .own 22 (Lay.sz Hdr) A137 n138 c139 (cel rs140)), (249, .own 22 (Lay.sz Hdr) A158 n159 c160 (cel rs161)), (270, .own 22 (Lay.sz Hdr) A179 n180 c181 (cel rs182))]) (fun _ => m_law04_RsLinear_j5 x122 x143 x164 = some res) (fun K184 hK184 => ?_) ?_
    · skip
      refine WC.seqRegion fun K185 hK185 => ?_
      by_cases hc186 : x122.2 = (0 : Int)
      · replace h := of_t hc186 h
        by_cases hc187 : x143.2 = (0 : Int)
        · replace h := of_t hc187 h
          by_cases hc188 : x164.2 = (0 : Int)
          · replace h := of_t hc188 h
            by_cases hc189 : (x122.1.length : Int) = (2 : Int)
            · replace h := of_t hc189 h
              by_cases hc190 : (x143.1.length : Int) = (2 : Int)
              · replace h := of_t hc190 h
                refine WL.yld (by decide) (Yld.move rfl) ?_
                refine WL.yld (by decide) (Yld.neqI rfl rfl) ?_
                refine WL.yld (by decide) (Yld.move rfl) ?_
                refine WL.new (v' := .bool false) (congrArg Value.bool (bne_eq_false_iff_eq.2 hc186)) ?_
                refine WL.yldG (by decide) rfl (Yld.move rfl) ?_
                refine WL.yldG (by decide) rfl (Yld.neqI rfl rfl) ?_
                refine WL.yld (by decide) (Yld.pickF rfl rfl) ?_
                refine WL.yld (by decide) (Yld.move rfl) ?_
                refine WL.new (v' := .bool false) (congrArg Value.bool (bne_eq_false_iff_eq.2 hc187)) ?_
                refine WL.yldG (by decide) rfl (Yld.move rfl) ?_
                refine WL.yldG (by decide) rfl (Yld.neqI rfl rfl) ?_
                refine WL.yld (by decide) (Yld.pickF rfl rfl) ?_
                refine WL.yld (by decide) (Yld.move rfl) ?_
                refine WL.new (v' := .bool false) (congrArg Value.bool (bne_eq_false_iff_eq.2 hc188)) ?_
                refine WL.yldG (by decide) rfl (Yld.move rfl) ?_
                refine WL.yldG (by decide) rfl (Yld.lenD (rs := rs140) (xs := x122.1) (Rels.len (Rels.lift (Rels.lift (Rels.lift (Rels.lift hq141 hm_M155) hm_M157) hm_M176) hm_M178)) und_35 rfl (RdH.own (k := 228) rfl)) ?_
                refine WL.yldG (by decide) rfl (Yld.neqI rfl rfl) ?_
                refine WL.yld (by decide) (Yld.pickF rfl rfl) ?_
                refine WL.yld (by decide) (Yld.move rfl) ?_
                refine WL.new (v' := .bool false) (congrArg Value.bool (bne_eq_false_iff_eq.2 hc189)) ?_
                refine WL.yldG (by decide) rfl (Yld.move rfl) ?_
                refine WL.yldG (by decide) rfl (Yld.lenD (rs := rs161) (xs := x143.1) (Rels.len (Rels.lift (Rels.lift hq162 hm_M176) hm_M178)) und_35 rfl (RdH.own (k := 249) rfl)) ?_
                refine WL.yldG (by decide) rfl (Yld.neqI rfl rfl) ?_
                refine WL.yld (by decide) (Yld.pickF rfl rfl) ?_
                refine WL.yld (by decide) (Yld.move rfl) ?_
                refine WL.new (v' := .bool false) (congrArg Value.bool (bne_eq_false_iff_eq.2 hc190)) ?_
                refine WL.yldG (by decide) rfl (Yld.move rfl) ?_
                refine WL.yldG (by decide) rfl (Yld.lenD (rs := rs182) (xs := x164.1) (Rels.len hq183) und_35 rfl (RdH.own (k := 270) rfl)) ?_
                refine WL.yldG (by decide) rfl (Yld.neqI rfl rfl) ?_
                refine WL.yld (by decide) (Yld.pickF rfl rfl) ?_
                refine WL.done (hK185 _ _ ?_)
                by_cases hc191 : (x164.1.length : Int) = (2 : Int)
                · replace h := of_t hc191 h
                  refine WC.condFe rfl (bne_eq_false_iff_eq.2 hc191) ?_
                  refine WC.skip ?_
                  refine QK.thenN ?_
                  refine hK184 () _ _ ?_ (Sub.cons rfl (Sub.cons rfl (Sub.cons rfl (Sub.nil _)))) (Sub.cons rfl (Sub.cons rfl (Sub.cons rfl (Sub.cons rfl (Sub.nil _)))))
                  exact h
                · replace h := of_f hc191 h
                  refine WC.condTe rfl (bne_iff_ne.2 hc191) ?_
                  refine WC.seqRegion fun K192 hK192 => ?_
                  refine WL.yld (by decide) (Yld.assign rfl) ?_
                  refine WL.done (hK192 _ _ ?_)
                  refine WC.ret (QK.thenR ?_)
                  injection h with h; subst h
                  exact Ret.fn [] (ResIs.one rfl rfl) rfl (Ext.trans (Ext.trans (Ext.trans (Ext.trans (Ext.trans (Ext.trans (Ext.trans (Ext.trans hm_M15 hm_M33) hm_M40) hm_M134) hm_M136) hm_M155) hm_M157) hm_M176) hm_M178) rfl (by decide) rfl rfl ⟨rfl, rfl⟩
              · replace h := of_f hc190 h
                refine WL.yld (by decide) (Yld.move rfl) ?_
                refine WL.yld (by decide) (Yld.neqI rfl rfl) ?_
                refine WL.yld (by decide) (Yld.move rfl) ?_
                refine WL.new (v' := .bool false) (congrArg Value.bool (bne_eq_false_iff_eq.2 hc186)) ?_
                refine WL.yldG (by decide) rfl (Yld.move rfl) ?_
                refine WL.yldG (by decide) rfl (Yld.neqI rfl rfl) ?_
                refine WL.yld (by decide) (Yld.pickF rfl rfl) ?_
                refine WL.yld (by decide) (Yld.move rfl) ?_
                refine WL.new (v' := .bool false) (congrArg Value.bool (bne_eq_false_iff_eq.2 hc187)) ?_
                refine WL.yldG (by decide) rfl (Yld.move rfl) ?_
                refine WL.yldG (by decide) rfl (Yld.neqI rfl rfl) ?_
                refine WL.yld (by decide) (Yld.pickF rfl rfl) ?_
                refine WL.yld (by decide) (Yld.move rfl) ?_
                refine WL.new (v' := .bool false) (congrArg Value.bool (bne_eq_false_iff_eq.2 hc188)) ?_
                refine WL.yldG (by decide) rfl (Yld.move rfl) ?_
                refine WL.yldG (by decide) rfl (Yld.lenD (rs := rs140) (xs := x122.1) (Rels.len (Rels.lift (Rels.lift (Rels.lift (Rels.lift hq141 hm_M155) hm_M157) hm_M176) hm_M178)) und_35 rfl (RdH.own (k := 228) rfl)) ?_
                refine WL.yldG (by decide) rfl (Yld.neqI rfl rfl) ?_
                refine WL.yld (by decide) (Yld.pickF rfl rfl) ?_
                refine WL.yld (by decide) (Yld.move rfl) ?_
                refine WL.new (v' := .bool false) (congrArg Value.bool (bne_eq_false_iff_eq.2 hc189)) ?_
                refine WL.yldG (by decide) rfl (Yld.move rfl) ?_
                refine WL.yldG (by decide) rfl (Yld.lenD (rs := rs161) (xs := x143.1) (Rels.len (Rels.lift (Rels.lift hq162 hm_M176) hm_M178)) und_35 rfl (RdH.own (k := 249) rfl)) ?_
                refine WL.yldG (by decide) rfl (Yld.neqI rfl rfl) ?_
                refine WL.yld (by decide) (Yld.pickF rfl rfl) ?_
                refine WL.yld (by decide) (Yld.move rfl) ?_
                refine WL.new (v' := .bool true) (congrArg Value.bool (bne_iff_ne.2 hc190)) ?_
                refine WL.skip (by decide) rfl rfl ?_
                refine WL.skip (by decide) rfl rfl ?_
                refine WL.skip (by decide) rfl rfl ?_
                refine WL.yld (by decide) (Yld.pickT rfl rfl) ?_
                refine WL.done (hK185 _ _ ?_)
                refine WC.condT rfl ?_
                refine WC.seqRegion fun K193 hK193 => ?_
                refine WL.yld (by decide) (Yld.assign rfl) ?_
                refine WL.done (hK193 _ _ ?_)
                refine WC.ret (QK.thenR ?_)
                injection h with h; subst h
                exact Ret.fn [] (ResIs.one rfl rfl) rfl (Ext.trans (Ext.trans (Ext.trans (Ext.trans (Ext.trans (Ext.trans (Ext.trans (Ext.trans hm_M15 hm_M33) hm_M40) hm_M134) hm_M136) hm_M155) hm_M157) hm_M176) hm_M178) rfl (by decide) rfl rfl ⟨rfl, rfl⟩
            · replace h := of_f hc189 h
              refine WL.yld (by decide) (Yld.move rfl) ?_
              refine WL.yld (by decide) (Yld.neqI rfl rfl) ?_
              refine WL.yld (by decide) (Yld.move rfl) ?_
              refine WL.new (v' := .bool false) (congrArg Value.bool (bne_eq_false_iff_eq.2 hc186)) ?_
              refine WL.yldG (by decide) rfl (Yld.move rfl) ?_
              refine WL.yldG (by decide) rfl (Yld.neqI rfl rfl) ?_
              refine WL.yld (by decide) (Yld.pickF rfl rfl) ?_
              refine WL.yld (by decide) (Yld.move rfl) ?_
              refine WL.new (v' := .bool false) (congrArg Value.bool (bne_eq_false_iff_eq.2 hc187)) ?_
              refine WL.yldG (by decide) rfl (Yld.move rfl) ?_
              refine WL.yldG (by decide) rfl (Yld.neqI rfl rfl) ?_
              refine WL.yld (by decide) (Yld.pickF rfl rfl) ?_
              refine WL.yld (by decide) (Yld.move rfl) ?_
              refine WL.new (v' := .bool false) (congrArg Value.bool (bne_eq_false_iff_eq.2 hc188)) ?_
              refine WL.yldG (by decide) rfl (Yld.move rfl) ?_
              refine WL.yldG (by decide) rfl (Yld.lenD (rs := rs140) (xs := x122.1) (Rels.len (Rels.lift (Rels.lift (Rels.lift (Rels.lift hq141 hm_M155) hm_M157) hm_M176) hm_M178)) und_35 rfl (RdH.own (k := 228) rfl)) ?_
              refine WL.yldG (by decide) rfl (Yld.neqI rfl rfl) ?_
              refine WL.yld (by decide) (Yld.pickF rfl rfl) ?_
              refine WL.yld (by decide) (Yld.move rfl) ?_
              refine WL.new (v' := .bool true) (congrArg Value.bool (bne_iff_ne.2 hc189)) ?_
              refine WL.skip (by decide) rfl rfl ?_
              refine WL.skip (by decide) rfl rfl ?_
              refine WL.skip (by decide) rfl rfl ?_
              refine WL.yld (by decide) (Yld.pickT rfl rfl) ?_
              refine WL.yld (by decide) (Yld.move rfl) ?_
              refine WL.skip (by decide) rfl rfl ?_
              refine WL.skip (by decide) rfl rfl ?_
              refine WL.skip (by decide) rfl rfl ?_
              refine WL.yld (by decide) (Yld.pickT rfl rfl) ?_
              refine WL.done (hK185 _ _ ?_)
              refine WC.condT rfl ?_
              refine WC.seqRegion fun K194 hK194 => ?_
              refine WL.yld (by decide) (Yld.assign rfl) ?_
              refine WL.done (hK194 _ _ ?_)
              refine WC.ret (QK.thenR ?_)
              injection h with h; subst h
              exact Ret.fn [] (ResIs.one rfl rfl) rfl (Ext.trans (Ext.trans (Ext.trans (Ext.trans (Ext.trans (Ext.trans (Ext.trans (Ext.trans hm_M15 hm_M33) hm_M40) hm_M134) hm_M136) hm_M155) hm_M157) hm_M176) hm_M178) rfl (by decide) rfl rfl ⟨rfl, rfl⟩
          · replace h := of_f hc188 h
            refine WL.yld (by decide) (Yld.move rfl) ?_
            refine WL.yld (by decide) (Yld.neqI rfl rfl) ?_
            refine WL.yld (by decide) (Yld.move rfl) ?_
            refine WL.new (v' := .bool false) (congrArg Value.bool (bne_eq_false_iff_eq.2 hc186)) ?_
            refine WL.yldG (by decide) rfl (Yld.move rfl) ?_
            refine WL.yldG (by decide) rfl (Yld.neqI rfl rfl) ?_
            refine WL.yld (by decide) (Yld.pickF rfl rfl) ?_
            refine WL.yld (by decide) (Yld.move rfl) ?_
            refine WL.new (v' := .bool false) (congrArg Value.bool (bne_eq_false_iff_eq.2 hc187)) ?_
            refine WL.yldG (by decide) rfl (Yld.move rfl) ?_
            refine WL.yldG (by decide) rfl (Yld.neqI rfl rfl) ?_
            refine WL.yld (by decide) (Yld.pickF rfl rfl) ?_
            refine WL.yld (by decide) (Yld.move rfl) ?_
            refine WL.new (v' := .bool true) (congrArg Value.bool (bne_iff_ne.2 hc188)) ?_
            refine WL.skip (by decide) rfl rfl ?_
            refine WL.skip (by decide) rfl rfl ?_
            refine WL.skip (by decide) rfl rfl ?_
            refine WL.yld (by decide) (Yld.pickT rfl rfl) ?_
            refine WL.yld (by decide) (Yld.move rfl) ?_
            refine WL.skip (by decide) rfl rfl ?_
            refine WL.skip (by decide) rfl rfl ?_
            refine WL.skip (by decide) rfl rfl ?_
            refine WL.yld (by decide) (Yld.pickT rfl rfl) ?_
            refine WL.yld (by decide) (Yld.move rfl) ?_
            refine WL.skip (by decide) rfl rfl ?_
            refine WL.skip (by decide) rfl rfl ?_
            refine WL.skip (by decide) rfl rfl ?_
            refine WL.yld (by decide) (Yld.pickT rfl rfl) ?_
            refine WL.done (hK185 _ _ ?_)
            refine WC.condT rfl ?_
            refine WC.seqRegion fun K195 hK195 => ?_
            refine WL.yld (by decide) (Yld.assign rfl) ?_
            refine WL.done (hK195 _ _ ?_)
            refine WC.ret (QK.thenR ?_)
            injection h with h; subst h
            exact Ret.fn [] (ResIs.one rfl rfl) rfl (Ext.trans (Ext.trans (Ext.trans (Ext.trans (Ext.trans (Ext.trans (Ext.trans (Ext.trans hm_M15 hm_M33) hm_M40) hm_M134) hm_M136) hm_M155) hm_M157) hm_M176) hm_M178) rfl (by decide) rfl rfl ⟨rfl, rfl⟩
        · replace h := of_f hc187 h
          refine WL.yld (by decide) (Yld.move rfl) ?_
          refine WL.yld (by decide) (Yld.neqI rfl rfl) ?_
          refine WL.yld (by decide) (Yld.move rfl) ?_
          refine WL.new (v' := .bool false) (congrArg Value.bool (bne_eq_false_iff_eq.2 hc186)) ?_
          refine WL.yldG (by decide) rfl (Yld.move rfl) ?_
          refine WL.yldG (by decide) rfl (Yld.neqI rfl rfl) ?_
          refine WL.yld (by decide) (Yld.pickF rfl rfl) ?_
          refine WL.yld (by decide) (Yld.move rfl) ?_
          refine WL.new (v' := .bool true) (congrArg Value.bool (bne_iff_ne.2 hc187)) ?_
          refine WL.skip (by decide) rfl rfl ?_
          refine WL.skip (by decide) rfl rfl ?_
          refine WL.yld (by decide) (Yld.pickT rfl rfl) ?_
          refine WL.yld (by decide) (Yld.move rfl) ?_
          refine WL.skip (by decide) rfl rfl ?_
          refine WL.skip (by decide) rfl rfl ?_
          refine WL.skip (by decide) rfl rfl ?_
          refine WL.yld (by decide) (Yld.pickT rfl rfl) ?_
          refine WL.yld (by decide) (Yld.move rfl) ?_
          refine WL.skip (by decide) rfl rfl ?_
          refine WL.skip (by decide) rfl rfl ?_
          refine WL.skip (by decide) rfl rfl ?_
          refine WL.yld (by decide) (Yld.pickT rfl rfl) ?_
          refine WL.yld (by decide) (Yld.move rfl) ?_
          refine WL.skip (by decide) rfl rfl ?_
          refine WL.skip (by decide) rfl rfl ?_
          refine WL.skip (by decide) rfl rfl ?_
          refine WL.yld (by decide) (Yld.pickT rfl rfl) ?_
          refine WL.done (hK185 _ _ ?_)
          refine WC.condT rfl ?_
          refine WC.seqRegion fun K196 hK196 => ?_
          refine WL.yld (by decide) (Yld.assign rfl) ?_
          refine WL.done (hK196 _ _ ?_)
          refine WC.ret (QK.thenR ?_)
          injection h with h; subst h
          exact Ret.fn [] (ResIs.one rfl rfl) rfl (Ext.trans (Ext.trans (Ext.trans (Ext.trans (Ext.trans (Ext.trans (Ext.trans (Ext.trans hm_M15 hm_M33) hm_M40) hm_M134) hm_M136) hm_M155) hm_M157) hm_M176) hm_M178) rfl (by decide) rfl rfl ⟨rfl, rfl⟩
      · replace h := of_f hc186 h
        refine WL.yld (by decide) (Yld.move rfl) ?_
        refine WL.yld (by decide) (Yld.neqI rfl rfl) ?_
        refine WL.yld (by decide) (Yld.move rfl) ?_
        refine WL.new (v' := .bool true) (congrArg Value.bool (bne_iff_ne.2 hc186)) ?_
        refine WL.skip (by decide) rfl rfl ?_
        refine WL.skip (by decide) rfl rfl ?_
        refine WL.yld (by decide) (Yld.pickT rfl rfl) ?_
        refine WL.yld (by decide) (Yld.move rfl) ?_
        refine WL.skip (by decide) rfl rfl ?_
        refine WL.skip (by decide) rfl rfl ?_
        refine WL.yld (by decide) (Yld.pickT rfl rfl) ?_
        refine WL.yld (by decide) (Yld.move rfl) ?_
        refine WL.skip (by decide) rfl rfl ?_
        refine WL.skip (by decide) rfl rfl ?_
        refine WL.skip (by decide) rfl rfl ?_
        refine WL.yld (by decide) (Yld.pickT rfl rfl) ?_
        refine WL.yld (by decide) (Yld.move rfl) ?_
        refine WL.skip (by decide) rfl rfl ?_
        refine WL.skip (by decide) rfl rfl ?_
        refine WL.skip (by decide) rfl rfl ?_
        refine WL.yld (by decide) (Yld.pickT rfl rfl) ?_
        refine WL.yld (by decide) (Yld.move rfl) ?_
        refine WL.skip (by decide) rfl rfl ?_
        refine WL.skip (by decide) rfl rfl ?_
        refine WL.skip (by decide) rfl rfl ?_
        refine WL.yld (by decide) (Yld.pickT rfl rfl) ?_
        refine WL.done (hK185 _ _ ?_)
        refine WC.condT rfl ?_
        refine WC.seqRegion fun K197 hK197 => ?_
        refine WL.yld (by decide) (Yld.assign rfl) ?_
        refine WL.done (hK197 _ _ ?_)
        refine WC.ret (QK.thenR ?_)
        injection h with h; subst h
        exact Ret.fn [] (ResIs.one rfl rfl) rfl (Ext.trans (Ext.trans (Ext.trans (Ext.trans (Ext.trans (Ext.trans (Ext.trans (Ext.trans hm_M15 hm_M33) hm_M40) hm_M134) hm_M136) hm_M155) hm_M157) hm_M176) hm_M178) rfl (by decide) rfl rfl ⟨rfl, rfl⟩
    · rintro _ h
      unfold m_law04_RsLinear_j5 at h
      refine WC.seqCut (σ := Unit) (fun _ => []) (fun _ => [(0, .mem M178)]) (fun _ => m_law04_RsLinear_j6 = some res) (fun K198 hK198 => ?_) ?_
      · skip
        refine WC.seqRegion fun K199 hK199 => ?_
        refine WL.yld (by decide) (Yld.move rfl) ?_
        refine WL.yld (by decide) (Yld.lenD (rs := rs182) (xs := x164.1) (Rels.len hq183) und_35 rfl (RdH.own (k := 270) rfl)) ?_
        refine WL.yld (by decide) (Yld.move rfl) ?_
        refine WL.done (hK199 _ _ ?_)
        refine WC.block ?_
        refine WC.loop (σ := Nat × Int) (fun ⟨q201, x200⟩ => [(13, .slice A137 n138 c139), (15, .slice A158 n159 c160), (17, .slice A179 n180 c181), (108, I64 (x164.1.length : Int)), (109, I64 x200)]) (fun ⟨q201, x200⟩ => [(0, .mem M178), (228, .own 22 (Lay.sz Hdr) A137 n138 c139 (cel rs140)), (249, .own 22 (Lay.sz Hdr) A158 n159 c160 (cel rs161)), (270, .own 22 (Lay.sz Hdr) A179 n180 c181 (cel rs182))]) (fun ⟨q201, x200⟩ => m_law04_RsLinear_l7 x122 x143 x164 q201 x200 = some res) (fun ⟨q201, x200⟩ => q201) ⟨forever, (0 : Int)⟩ ?_ (Sub.cons rfl (Sub.cons rfl (Sub.cons rfl (Sub.cons rfl (Sub.cons rfl (Sub.nil _)))))) (Sub.cons rfl (Sub.cons rfl (Sub.cons rfl (Sub.cons rfl (Sub.nil _))))) ?_
        · exact h
        rintro ⟨q201, x200⟩ h K202 hK202
        cases q201 with
        | zero => exact absurd h (by simp [m_law04_RsLinear_l7])
        | succ q201 =>
          unfold m_law04_RsLinear_l7 at h
          refine WC.seqRegion fun K203 hK203 => ?_
          refine WL.yld (by decide) (Yld.lss rfl rfl) ?_
          refine WL.done (hK203 _ _ ?_)
          refine WC.seq fun K204 hK204 => ?_
          by_cases hc205 : x200 < (x164.1.length : Int)
          · replace h := of_t hc205 h
            refine WC.condTe rfl (decide_eq_true hc205) ?_
            refine WC.skip ?_
            refine QK.thenN (hK204 _ _ ?_)
            refine WC.seqCut (σ := Unit) (fun _ => [(13, .slice A137 n138 c139), (15, .slice A158 n159 c160), (17, .slice A179 n180 c181), (108, I64 (x164.1.length : Int)), (109, I64 x200)]) (fun _ => [(0, .mem M178), (228, .own 22 (Lay.sz Hdr) A137 n138 c139 (cel rs140)), (249, .own 22 (Lay.sz Hdr) A158 n159 c160 (cel rs161)), (270, .own 22 (Lay.sz Hdr) A179 n180 c181 (cel rs182))]) (fun _ => m_law04_RsLinear_j8 x200 (m_law04_RsLinear_l7 x122 x143 x164 q201) = some res) (fun K206 hK206 => ?_) ?_
            · skip
              refine WC.block ?_
              refine WC.seqRegion fun K207 hK207 => ?_
              refine WL.yld (by decide) (Yld.move rfl) ?_
              refine WL.yld (by decide) (Yld.assign rfl) ?_
              refine WL.done (hK207 _ _ ?_)
              refine WC.seqCut (σ := Unit) (fun _ => [(13, .slice A137 n138 c139), (15, .slice A158 n159 c160), (17, .slice A179 n180 c181), (19, I64 x200), (108, I64 (x164.1.length : Int)), (109, I64 x200)]) (fun _ => [(0, .mem M178), (228, .own 22 (Lay.sz Hdr) A137 n138 c139 (cel rs140)), (249, .own 22 (Lay.sz Hdr) A158 n159 c160 (cel rs161)), (270, .own 22 (Lay.sz Hdr) A179 n180 c181 (cel rs182))]) (fun _ => m_law04_RsLinear_j9 x122 x143 x164 x200 (m_law04_RsLinear_l7 x122 x143 x164 q201) = some res) (fun K208 hK208 => ?_) ?_
              · skip
                refine WC.seqRegionD (n := 24) [(0, _), (228, _), (249, _), (270, _)] rfl mixed (Sub.cons rfl (Sub.cons rfl (Sub.cons rfl (Sub.cons rfl (Sub.nil _))))) fun K209 hK209 => ?_
                obtain ⟨x210, hx210, h⟩ := bnd h
                obtain ⟨x214, hx214, h⟩ := bnd h
                by_cases hc218 : (x210.length : Int) = (x214.length : Int)
                · replace h := of_t hc218 h
                  obtain ⟨x219, hx219, h⟩ := bnd h
                  obtain ⟨x223, hx223, h⟩ := bnd h
                  refine WD.take 0 rfl (by kernel_rfl) (by kernel_rfl) (by kernel_rfl) (by decide) (Yld.move rfl) ?_
                  refine WD.take 1 rfl (by kernel_rfl) (by kernel_rfl) (by kernel_rfl) (by decide) (Yld.move rfl) ?_
                  obtain ⟨r_211, hr212, hq213⟩ := Rels.idx (Rels.lift (Rels.lift (Rels.lift (Rels.lift hq141 hm_M155) hm_M157) hm_M176) hm_M178) hx210
                  refine WD.take 2 rfl (by kernel_rfl) (by kernel_rfl) (by kernel_rfl) (by decide) (Yld.idxC (xs := rs140) sty_35 rfl rfl (RdH.own (k := 228) rfl) hr212) ?_
                  refine WD.take 3 rfl (by kernel_rfl) (by kernel_rfl) (by kernel_rfl) (by decide) (Yld.loadC0 (xs := rs140) scal_22 rfl (RdH.own (k := 228) rfl) hr212 rfl) ?_
                  refine WD.take 4 rfl (by kernel_rfl) (by kernel_rfl) (by kernel_rfl) (by decide) (Yld.lenC (xs := x210) und_22 rfl (RdH.memM (k := 0) rfl hq213)) ?_
                  refine WD.take 5 rfl (by kernel_rfl) (by kernel_rfl) (by kernel_rfl) (by decide) (Yld.move rfl) ?_
                  refine WD.take 6 rfl (by kernel_rfl) (by kernel_rfl) (by kernel_rfl) (by decide) (Yld.move rfl) ?_
                  obtain ⟨r_215, hr216, hq217⟩ := Rels.idx hq183 hx214
                  refine WD.take 7 rfl (by kernel_rfl) (by kernel_rfl) (by kernel_rfl) (by decide) (Yld.idxC (xs := rs182) sty_35 rfl rfl (RdH.own (k := 270) rfl) hr216) ?_
                  refine WD.take 8 rfl (by kernel_rfl) (by kernel_rfl) (by kernel_rfl) (by decide) (Yld.loadC0 (xs := rs182) scal_22 rfl (RdH.own (k := 270) rfl) hr216 rfl) ?_
                  refine WD.take 9 rfl (by kernel_rfl) (by kernel_rfl) (by kernel_rfl) (by decide) (Yld.lenC (xs := x214) und_22 rfl (RdH.memM (k := 0) rfl hq217)) ?_
                  refine WD.take 10 rfl (by kernel_rfl) (by kernel_rfl) (by kernel_rfl) (by decide) (Yld.neqI rfl rfl) ?_
                  refine WD.take 11 rfl (by kernel_rfl) (by kernel_rfl) (by kernel_rfl) (by decide) (Yld.move rfl) ?_
                  refine WD.new (v' := .bool false) (congrArg Value.bool (bne_eq_false_iff_eq.2 hc218)) ?_
                  refine WD.takeG 12 rfl (by kernel_rfl) (by kernel_rfl) (by kernel_rfl) (by decide) rfl (Yld.move rfl) ?_
                  refine WD.takeG 13 rfl (by kernel_rfl) (by kernel_rfl) (by kernel_rfl) (by decide) rfl (Yld.move rfl) ?_
                  obtain ⟨r_220, hr221, hq222⟩ := Rels.idx (Rels.lift (Rels.lift hq162 hm_M176) hm_M178) hx219
                  refine WD.takeG 14 rfl (by kernel_rfl) (by kernel_rfl) (by kernel_rfl) (by decide) rfl (Yld.idxC (xs := rs161) sty_35 rfl rfl (RdH.own (k := 249) rfl) hr221) ?_
                  refine WD.takeG 15 rfl (by kernel_rfl) (by kernel_rfl) (by kernel_rfl) (by decide) rfl (Yld.loadC0 (xs := rs161) scal_22 rfl (RdH.own (k := 249) rfl) hr221 rfl) ?_
                  refine WD.takeG 16 rfl (by kernel_rfl) (by kernel_rfl) (by kernel_rfl) (by decide) rfl (Yld.lenC (xs := x219) und_22 rfl (RdH.memM (k := 0) rfl hq222)) ?_
                  refine WD.takeG 17 rfl (by kernel_rfl) (by kernel_rfl) (by kernel_rfl) (by decide) rfl (Yld.move rfl) ?_
                  refine WD.takeG 18 rfl (by kernel_rfl) (by kernel_rfl) (by kernel_rfl) (by decide) rfl (Yld.move rfl) ?_
                  obtain ⟨r_224, hr225, hq226⟩ := Rels.idx hq183 hx223
                  refine WD.takeG 19 rfl (by kernel_rfl) (by kernel_rfl) (by kernel_rfl) (by decide) rfl (Yld.idxC (xs := rs182) sty_35 rfl rfl (RdH.own (k := 270) rfl) hr225) ?_
                  refine WD.takeG 20 rfl (by kernel_rfl) (by kernel_rfl) (by kernel_rfl) (by decide) rfl (Yld.loadC0 (xs := rs182) scal_22 rfl (RdH.own (k := 270) rfl) hr225 rfl) ?_
                  refine WD.takeG 21 rfl (by kernel_rfl) (by kernel_rfl) (by kernel_rfl) (by decide) rfl (Yld.lenC (xs := x223) und_22 rfl (RdH.memM (k := 0) rfl hq226)) ?_
                  refine WD.takeG 22 rfl (by kernel_rfl) (by kernel_rfl) (by kernel_rfl) (by decide) rfl (Yld.neqI rfl rfl) ?_
                  refine WD.take 23 rfl (by kernel_rfl) (by kernel_rfl) (by kernel_rfl) (by decide) (Yld.pickF rfl rfl) ?_
                  refine WD.done (by kernel_rfl) (hK209 _ _ ?_)
                  by_cases hc227 : (x219.length : Int) = (x223.length : Int)
                  · replace h := of_t hc227 h
                    refine WC.condFe rfl (bne_eq_false_iff_eq.2 hc227) ?_
                    refine WC.skip ?_
                    refine QK.thenN ?_
                    refine hK208 () _ _ ?_ (Sub.cons rfl (Sub.cons rfl (Sub.cons rfl (Sub.cons rfl (Sub.cons rfl (Sub.cons rfl (Sub.nil _))))))) (Sub.cons rfl (Sub.cons rfl (Sub.cons rfl (Sub.cons rfl (Sub.nil _)))))
                    exact h
                  · replace h := of_f hc227 h
                    refine WC.condTe rfl (bne_iff_ne.2 hc227) ?_
                    refine WC.seqRegion fun K228 hK228 => ?_
                    refine WL.yld (by decide) (Yld.assign rfl) ?_
                    refine WL.done (hK228 _ _ ?_)
                    refine WC.ret (QK.thenR (QK.blockR (QK.thenR (QK.thenR (QK.blockR (QK.thenR ?_))))))
                    injection h with h; subst h
                    exact Ret.fn [] (ResIs.one rfl rfl) rfl (Ext.trans (Ext.trans (Ext.trans (Ext.trans (Ext.trans (Ext.trans (Ext.trans (Ext.trans hm_M15 hm_M33) hm_M40) hm_M134) hm_M136) hm_M155) hm_M157) hm_M176) hm_M178) rfl (by decide) rfl rfl ⟨rfl, rfl⟩
                · replace h := of_f hc218 h
                  refine WD.take 0 rfl (by kernel_rfl) (by kernel_rfl) (by kernel_rfl) (by decide) (Yld.move rfl) ?_
                  refine WD.take 1 rfl (by kernel_rfl) (by kernel_rfl) (by kernel_rfl) (by decide) (Yld.move rfl) ?_
                  obtain ⟨r_211, hr212, hq213⟩ := Rels.idx (Rels.lift (Rels.lift (Rels.lift (Rels.lift hq141 hm_M155) hm_M157) hm_M176) hm_M178) hx210
                  refine WD.take 2 rfl (by kernel_rfl) (by kernel_rfl) (by kernel_rfl) (by decide) (Yld.idxC (xs := rs140) sty_35 rfl rfl (RdH.own (k := 228) rfl) hr212) ?_
                  refine WD.take 3 rfl (by kernel_rfl) (by kernel_rfl) (by kernel_rfl) (by decide) (Yld.loadC0 (xs := rs140) scal_22 rfl (RdH.own (k := 228) rfl) hr212 rfl) ?_
                  refine WD.take 4 rfl (by kernel_rfl) (by kernel_rfl) (by kernel_rfl) (by decide) (Yld.lenC (xs := x210) und_22 rfl (RdH.memM (k := 0) rfl hq213)) ?_
                  refine WD.take 5 rfl (by kernel_rfl) (by kernel_rfl) (by kernel_rfl) (by decide) (Yld.move rfl) ?_
                  refine WD.take 6 rfl (by kernel_rfl) (by kernel_rfl) (by kernel_rfl) (by decide) (Yld.move rfl) ?_
                  obtain ⟨r_215, hr216, hq217⟩ := Rels.idx hq183 hx214
                  refine WD.take 7 rfl (by kernel_rfl) (by kernel_rfl) (by kernel_rfl) (by decide) (Yld.idxC (xs := rs182) sty_35 rfl rfl (RdH.own (k := 270) rfl) hr216) ?_
                  refine WD.take 8 rfl (by kernel_rfl) (by kernel_rfl) (by kernel_rfl) (by decide) (Yld.loadC0 (xs := rs182) scal_22 rfl (RdH.own (k := 270) rfl) hr216 rfl) ?_
                  refine WD.take 9 rfl (by kernel_rfl) (by kernel_rfl) (by kernel_rfl) (by decide) (Yld.lenC (xs := x214) und_22 rfl (RdH.memM (k := 0) rfl hq217)) ?_
                  refine WD.take 10 rfl (by kernel_rfl) (by kernel_rfl) (by kernel_rfl) (by decide) (Yld.neqI rfl rfl) ?_
                  refine WD.take 11 rfl (by kernel_rfl) (by kernel_rfl) (by kernel_rfl) (by decide) (Yld.move rfl) ?_
                  refine WD.new (v' := .bool true) (congrArg Value.bool (bne_iff_ne.2 hc218)) ?_
                  refine WD.takeS 12 rfl (by kernel_rfl) (by kernel_rfl) (by kernel_rfl) (by decide) rfl rfl ?_
                  refine WD.takeS 13 rfl (by kernel_rfl) (by kernel_rfl) (by kernel_rfl) (by decide) rfl rfl ?_
                  refine WD.takeS 14 rfl (by kernel_rfl) (by kernel_rfl) (by kernel_rfl) (by decide) rfl rfl ?_
                  refine WD.takeS 15 rfl (by kernel_rfl) (by kernel_rfl) (by kernel_rfl) (by decide) rfl rfl ?_
                  refine WD.takeS 16 rfl (by kernel_rfl) (by kernel_rfl) (by kernel_rfl) (by decide) rfl rfl ?_
                  refine WD.takeS 17 rfl (by kernel_rfl) (by kernel_rfl) (by kernel_rfl) (by decide) rfl rfl ?_
                  refine WD.takeS 18 rfl (by kernel_rfl) (by kernel_rfl) (by kernel_rfl) (by decide) rfl rfl ?_
                  refine WD.takeS 19 rfl (by kernel_rfl) (by kernel_rfl) (by kernel_rfl) (by decide) rfl rfl ?_
                  refine WD.takeS 20 rfl (by kernel_rfl) (by kernel_rfl) (by kernel_rfl) (by decide) rfl rfl ?_
                  refine WD.takeS 21 rfl (by kernel_rfl) (by kernel_rfl) (by kernel_rfl) (by decide) rfl rfl ?_
                  refine WD.takeS 22 rfl (by kernel_rfl) (by kernel_rfl) (by kernel_rfl) (by decide) rfl rfl ?_
                  refine WD.take 23 rfl (by kernel_rfl) (by kernel_rfl) (by kernel_rfl) (by decide) (Yld.pickT rfl rfl) ?_
                  refine WD.done (by kernel_rfl) (hK209 _ _ ?_)
                  refine WC.condT rfl ?_
                  refine WC.seqRegion fun K229 hK229 => ?_
                  refine WL.yld (by decide) (Yld.assign rfl) ?_
                  refine WL.done (hK229 _ _ ?_)
                  refine WC.ret (QK.thenR (QK.blockR (QK.thenR (QK.thenR (QK.blockR (QK.thenR ?_))))))
                  injection h with h; subst h
                  exact Ret.fn [] (ResIs.one rfl rfl) rfl (Ext.trans (Ext.trans (Ext.trans (Ext.trans (Ext.trans (Ext.trans (Ext.trans (Ext.trans hm_M15 hm_M33) hm_M40) hm_M134) hm_M136) hm_M155) hm_M157) hm_M176) hm_M178) rfl (by decide) rfl rfl ⟨rfl, rfl⟩
              · rintro _ h
                unfold m_law04_RsLinear_j9 at h
                refine WC.seqRegion fun K230 hK230 => ?_
                obtain ⟨x231, hx231, h⟩ := bnd h
                refine WL.yld (by decide) (Yld.move rfl) ?_
                refine WL.yld (by decide) (Yld.move rfl) ?_
                obtain ⟨r_232, hr233, hq234⟩ := Rels.idx hq183 hx231
                refine WL.yld (by decide) (Yld.idxC (xs := rs182) sty_35 rfl rfl (RdH.own (k := 270) rfl) hr233) ?_
                refine WL.yld (by decide) (Yld.loadC0 (xs := rs182) scal_22 rfl (RdH.own (k := 270) rfl) hr233 rfl) ?_
                refine WL.yld (by decide) (Yld.lenC (xs := x231) und_22 rfl (RdH.memM (k := 0) rfl hq234)) ?_
                refine WL.yld (by decide) (Yld.move rfl) ?_
                refine WL.done (hK230 _ _ ?_)
                refine WC.block ?_
                refine WC.loop (σ := Nat × Int) (fun ⟨q236, x235⟩ => [(13, .slice A137 n138 c139), (15, .slice A158 n159 c160), (17, .slice A179 n180 c181), (19, I64 x200), (108, I64 (x164.1.length : Int)), (109, I64 x200), (140, I64 (x231.length : Int)), (141, I64 x235)]) (fun ⟨q236, x235⟩ => [(0, .mem M178), (228, .own 22 (Lay.sz Hdr) A137 n138 c139 (cel rs140)), (249, .own 22 (Lay.sz Hdr) A158 n159 c160 (cel rs161)), (270, .own 22 (Lay.sz Hdr) A179 n180 c181 (cel rs182))]) (fun ⟨q236, x235⟩ => m_law04_RsLinear_l10 x122 x143 x164 x200 x231 (m_law04_RsLinear_l7 x122 x143 x164 q201) q236 x235 = some res) (fun ⟨q236, x235⟩ => q236) ⟨forever, (0 : Int)⟩ ?_ (Sub.cons rfl (Sub.cons rfl (Sub.cons rfl (Sub.cons rfl (Sub.cons rfl (Sub.cons rfl (Sub.cons rfl (Sub.cons rfl (Sub.nil _))))))))) (Sub.cons rfl (Sub.cons rfl (Sub.cons rfl (Sub.cons rfl (Sub.nil _))))) ?_
                · exact h
                rintro ⟨q236, x235⟩ h K237 hK237
                cases q236 with
                | zero => exact absurd h (by simp [m_law04_RsLinear_l10])
                | succ q236 =>
                  unfold m_law04_RsLinear_l10 at h
                  refine WC.seqRegion fun K238 hK238 => ?_
                  refine WL.yld (by decide) (Yld.lss rfl rfl) ?_
                  refine WL.done (hK238 _ _ ?_)
                  refine WC.seq fun K239 hK239 => ?_
                  by_cases hc240 : x235 < (x231.length : Int)
                  · replace h := of_t hc240 h
                    refine WC.condTe rfl (decide_eq_true hc240) ?_
                    refine WC.skip ?_
                    refine QK.thenN (hK239 _ _ ?_)
                    refine WC.seq fun K241 hK241 => ?_
                    refine WC.block ?_
                    refine WC.seqRegion fun K242 hK242 => ?_
                    refine WL.yld (by decide) (Yld.move rfl) ?_
                    refine WL.yld (by decide) (Yld.assign rfl) ?_
                    refine WL.done (hK242 _ _ ?_)
                    refine WC.seqRegionD (n := 23) [(0, _), (228, _), (249, _), (270, _)] rfl mixed (Sub.cons rfl (Sub.cons rfl (Sub.cons rfl (Sub.cons rfl (Sub.nil _))))) fun K243 hK243 => ?_
                    obtain ⟨x244, hx244, h⟩ := bnd h
                    obtain ⟨x248, hx248, h⟩ := bnd h
                    obtain ⟨x249, hx249, h⟩ := bnd h
                    obtain ⟨x253, hx253, h⟩ := bnd h
                    obtain ⟨x254, hx254, h⟩ := bnd h
                    obtain ⟨x258, hx258, h⟩ := bnd h
                    refine WD.take 0 rfl (by kernel_rfl) (by kernel_rfl) (by kernel_rfl) (by decide) (Yld.move rfl) ?_
                    refine WD.take 1 rfl (by kernel_rfl) (by kernel_rfl) (by kernel_rfl) (by decide) (Yld.move rfl) ?_
                    obtain ⟨r_245, hr246, hq247⟩ := Rels.idx hq183 hx244
                    refine WD.take 2 rfl (by kernel_rfl) (by kernel_rfl) (by kernel_rfl) (by decide) (Yld.idxC (xs := rs182) sty_35 rfl rfl (RdH.own (k := 270) rfl) hr246) ?_
                    refine WD.take 3 rfl (by kernel_rfl) (by kernel_rfl) (by kernel_rfl) (by decide) (Yld.loadC0 (xs := rs182) scal_22 rfl (RdH.own (k := 270) rfl) hr246 rfl) ?_
                    refine WD.take 4 rfl (by kernel_rfl) (by kernel_rfl) (by kernel_rfl) (by decide) (Yld.move rfl) ?_
                    refine WD.take 5 rfl (by kernel_rfl) (by kernel_rfl) (by kernel_rfl) (by decide) (Yld.idxC (xs := x244) sty_22 rfl rfl (RdH.memM (k := 0) rfl hq247) hx248) ?_
                    refine WD.take 6 rfl (by kernel_rfl) (by kernel_rfl) (by kernel_rfl) (by decide) (Yld.loadC0 (xs := x244) scal_5 rfl (RdH.memM (k := 0) rfl hq247) hx248 rfl) ?_
                    refine WD.take 7 rfl (by kernel_rfl) (by kernel_rfl) (by kernel_rfl) (by decide) (Yld.move rfl) ?_
                    refine WD.take 8 rfl (by kernel_rfl) (by kernel_rfl) (by kernel_rfl) (by decide) (Yld.move rfl) ?_
                    obtain ⟨r_250, hr251, hq252⟩ := Rels.idx (Rels.lift (Rels.lift (Rels.lift (Rels.lift hq141 hm_M155) hm_M157) hm_M176) hm_M178) hx249
                    refine WD.take 9 rfl (by kernel_rfl) (by kernel_rfl) (by kernel_rfl) (by decide) (Yld.idxC (xs := rs140) sty_35 rfl rfl (RdH.own (k := 228) rfl) hr251) ?_
                    refine WD.take 10 rfl (by kernel_rfl) (by kernel_rfl) (by kernel_rfl) (by decide) (Yld.loadC0 (xs := rs140) scal_22 rfl (RdH.own (k := 228) rfl) hr251 rfl) ?_
                    refine WD.take 11 rfl (by kernel_rfl) (by kernel_rfl) (by kernel_rfl) (by decide) (Yld.move rfl) ?_
                    refine WD.take 12 rfl (by kernel_rfl) (by kernel_rfl) (by kernel_rfl) (by decide) (Yld.idxC (xs := x249) sty_22 rfl rfl (RdH.memM (k := 0) rfl hq252) hx253) ?_
                    refine WD.take 13 rfl (by kernel_rfl) (by kernel_rfl) (by kernel_rfl) (by decide) (Yld.loadC0 (xs := x249) scal_5 rfl (RdH.memM (k := 0) rfl hq252) hx253 rfl) ?_
                    refine WD.take 14 rfl (by kernel_rfl) (by kernel_rfl) (by kernel_rfl) (by decide) (Yld.move rfl) ?_
                    refine WD.take 15 rfl (by kernel_rfl) (by kernel_rfl) (by kernel_rfl) (by decide) (Yld.move rfl) ?_
                    obtain ⟨r_255, hr256, hq257⟩ := Rels.idx (Rels.lift (Rels.lift hq162 hm_M176) hm_M178) hx254
                    refine WD.take 16 rfl (by kernel_rfl) (by kernel_rfl) (by kernel_rfl) (by decide) (Yld.idxC (xs := rs161) sty_35 rfl rfl (RdH.own (k := 249) rfl) hr256) ?_
                    refine WD.take 17 rfl (by kernel_rfl) (by kernel_rfl) (by kernel_rfl) (by decide) (Yld.loadC0 (xs := rs161) scal_22 rfl (RdH.own (k := 249) rfl) hr256 rfl) ?_
                    refine WD.take 18 rfl (by kernel_rfl) (by kernel_rfl) (by kernel_rfl) (by decide) (Yld.move rfl) ?_
                    refine WD.take 19 rfl (by kernel_rfl) (by kernel_rfl) (by kernel_rfl) (by decide) (Yld.idxC (xs := x254) sty_22 rfl rfl (RdH.memM (k := 0) rfl hq257) hx258) ?_
                    refine WD.take 20 rfl (by kernel_rfl) (by kernel_rfl) (by kernel_rfl) (by decide) (Yld.loadC0 (xs := x254) scal_5 rfl (RdH.memM (k := 0) rfl hq257) hx258 rfl) ?_
                    refine WD.take 21 rfl (by kernel_rfl) (by kernel_rfl) (by kernel_rfl) (by decide) (Yld.xor_u8 (a := x253) (b := x258) rfl rfl) ?_
                    refine WD.take 22 rfl (by kernel_rfl) (by kernel_rfl) (by kernel_rfl) (by decide) (Yld.neq_u8 (a := x248) (b := (x253 ^^^ x258)) rfl rfl) ?_
                    refine WD.done (by kernel_rfl) (hK243 _ _ ?_)
                    by_cases hc259 : x248 = (x253 ^^^ x258)
                    · replace h := of_t hc259 h
                      refine WC.condFe rfl (bne_eq_false_iff_eq.2 hc259) ?_
                      refine WC.skip ?_
                      refine QK.blockN ?_
                      refine QK.thenN (hK241 _ _ ?_)
                      refine WC.region fun K260 hK260 => ?_
                      obtain ⟨x261, hx261, h⟩ := bnd h
                      refine WL.yld (by decide) (Yld.addC rfl rfl hx261) ?_
                      refine WL.yld (by decide) (Yld.move rfl) ?_
                      refine WL.done (hK260 _ _ ?_)
                      refine QK.thenN ?_
                      refine hK237 ⟨q236, x261⟩ _ _ ?_ (Nat.lt_succ_self _) (Sub.cons rfl (Sub.cons rfl (Sub.cons rfl (Sub.cons rfl (Sub.cons rfl (Sub.cons rfl (Sub.cons rfl (Sub.cons rfl (Sub.nil _))))))))) (Sub.cons rfl (Sub.cons rfl (Sub.cons rfl (Sub.cons rfl (Sub.nil _)))))
                      exact h
                    · replace h := of_f hc259 h
                      refine WC.condTe rfl (bne_iff_ne.2 hc259) ?_
                      refine WC.seqRegion fun K262 hK262 => ?_
                      refine WL.yld (by decide) (Yld.assign rfl) ?_
                      refine WL.done (hK262 _ _ ?_)
                      refine WC.ret (QK.blockR (QK.thenR (QK.thenR (QK.blockR (QK.blockR (QK.thenR (QK.thenR (QK.blockR (QK.thenR ?_)))))))))
                      injection h with h; subst h
                      exact Ret.fn [] (ResIs.one rfl rfl) rfl (Ext.trans (Ext.trans (Ext.trans (Ext.trans (Ext.trans (Ext.trans (Ext.trans (Ext.trans hm_M15 hm_M33) hm_M40) hm_M134) hm_M136) hm_M155) hm_M157) hm_M176) hm_M178) rfl (by decide) rfl rfl ⟨rfl, rfl⟩
                  · replace h := of_f hc240 h
                    refine WC.condFe rfl (decide_eq_false hc240) ?_
                    refine WC.exit (QK.thenE (QK.thenE (QK.blockX ?_)))
                    refine QK.blockN ?_
                    refine QK.thenN ?_
                    refine hK206 () _ _ ?_ (Sub.cons rfl (Sub.cons rfl (Sub.cons rfl (Sub.cons rfl (Sub.cons rfl (Sub.nil _)))))) (Sub.cons rfl (Sub.cons rfl (Sub.cons rfl (Sub.cons rfl (Sub.nil _)))))
                    exact h
            · rintro _ h
              unfold m_law04_RsLinear_j8 at h
              refine WC.region fun K263 hK263 => ?_
              obtain ⟨x264, hx264, h⟩ := bnd h
              refine WL.yld (by decide) (Yld.addC rfl rfl hx264) ?_
              refine WL.yld (by decide) (Yld.move rfl) ?_
              refine WL.done (hK263 _ _ ?_)
              refine QK.thenN ?_
              refine hK202 ⟨q201, x264⟩ _ _ ?_ (Nat.lt_succ_self _) (Sub.cons rfl (Sub.cons rfl (Sub.cons rfl (Sub.cons rfl (Sub.cons rfl (Sub.nil _)))))) (Sub.cons rfl (Sub.cons rfl (Sub.cons rfl (Sub.cons rfl (Sub.nil _)))))
              exact h
          · replace h := of_f hc205 h
            refine WC.condFe rfl (decide_eq_false hc205) ?_
            refine WC.exit (QK.thenE (QK.thenE (QK.blockX ?_)))
            refine QK.thenN ?_
            refine hK198 () _ _ ?_ (Sub.nil _) (Sub.cons rfl (Sub.nil _))
            exact h
      · rintro _ h
        unfold m_law04_RsLinear_j6 at h
        refine WC.seqRegion fun K265 hK265 => ?_
        obtain ⟨x266, hx266, h⟩ := bnd h
        refine WL.eff (by decide) (Eff.callS 367 rfl Try.func15 nm_15 rfl rfl (fun w hb hh => w_law04_awake (Mem.snap w) hx266)) ?_
        rintro _ _ ⟨_, ⟨rfl, rfl⟩, rfl⟩
        refine WL.yld (by decide) (Yld.assign rfl) ?_
        refine WL.done (hK265 _ _ ?_)
        refine WC.ret ?_
        injection h with h; subst h
        exact Ret.fn [] (ResIs.one rfl rfl) rfl (Ext.trans (Ext.trans (Ext.trans (Ext.trans (Ext.trans (Ext.trans (Ext.trans (Ext.trans hm_M15 hm_M33) hm_M40) hm_M134) hm_M136) hm_M155) hm_M157) hm_M176) hm_M178) rfl (by decide) rfl rfl ⟨rfl, rfl⟩

end Go.Proofs.Ytnbcphofimicdaa
