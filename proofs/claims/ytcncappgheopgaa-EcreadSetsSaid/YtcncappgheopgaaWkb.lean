/-
 Walks (b): what a function's model gives, the function returns. Printed by a program of ours (vcm.py) from the function's operations. Conditions: as each theorem says.
-/
import Derived.Test.YtcncappgheopgaaWka
import Derived.Test.YtcncappgheopgaaMdb
namespace Go.Proofs.Ytcncappgheopgaa
open Go Go.RowKit
set_option linter.unusedVariables false

theorem und_29 : Try.prog.underlying 29 = some (.slice 22) := by kernel_rfl
theorem sty_29 : STy Try.prog 29 22 (.slice none 0 0) 1 24 := STy.of und_29 (by kernel_rfl) rfl

set_option maxRecDepth 10000 in
theorem w_r18_Exclude (M0 : Mem) (x00 : Int) {res : (List (Int))} (h : m_r18_Exclude x00 = some res) :
  Fn Try.prog 5 #[I64 x00] M0 fun r M' es => ∃ (A1 : Option Addr) (n1 c1 : Nat), r = .slice A1 n1 c1 ∧ es = [] ∧ SlT M' A1 n1 c1 res := by
 refine Fn.intro (N := 45) Try.func5 rfl rfl (Nat.le_of_ble_eq_true rfl) fun w0 => ?_
 unfold m_r18_Exclude at h
 refine WC.seqRegion fun K1 hK1 => ?_
 refine WL.yld (by decide) (Yld.assign rfl) ?_
 refine WL.done (hK1 _ _ ?_)
 refine WC.seqRegion fun K2 hK2 => ?_
 have hq4 : Rels ((RelB (α := Int)) M0) ([(⟨none, 0, 0⟩ : Hdr)] : List Hdr) ([([] : List (Int))] : List (List (Int))) := (Rels.cons SlT.nil Rels.nil)
 refine WL.eff (by decide) (Eff.buildC 103 ([(⟨none, 0, 0⟩ : Hdr)] : List Hdr) sty_29 rfl rfl rfl rfl rfl (by decide)) ?_
 rintro _ _ ⟨g3, rfl, rfl⟩
 refine WL.yld (by decide) (Yld.assign rfl) ?_
 refine WL.done (hK2 _ _ ?_)
 refine WC.seqCut (σ := Mem × (Option Addr) × Nat × Nat × (List (List (Int))) × (List Hdr)) (fun ⟨M5, A6, n7, c8, x9, rs10⟩ => [(0, I64 x00), (3, .slice A6 n7 c8)]) (fun ⟨M5, A6, n7, c8, x9, rs10⟩ => [(0, .mem M5), (103, .own 22 (Lay.sz Hdr) A6 n7 c8 (cel rs10))]) (fun ⟨M5, A6, n7, c8, x9, rs10⟩ => m_r18_Exclude_j0 x00 x9 = some res ∧ Ext w0.heap.size M0 M5 ∧ Rels ((RelB (α := Int)) M5) rs10 x9) (fun K12 hK12 => ?_) ?_
 ·
  skip
  refine WC.seqRegion fun K13 hK13 => ?_
  refine WL.yld (by decide) (Yld.assign rfl) ?_
  refine WL.done (hK13 _ _ ?_)
  refine WC.block ?_
  refine WC.loop (σ := Nat × Mem × (Option Addr) × Nat × Nat × (List (List (Int))) × (List Hdr) × Int) (fun ⟨q22, M14, A15, n16, c17, x18, rs19, x21⟩ => [(0, I64 x00), (3, .slice A15 n16 c17), (4, I64 x21)]) (fun ⟨q22, M14, A15, n16, c17, x18, rs19, x21⟩ => [(0, .mem M14), (103, .own 22 (Lay.sz Hdr) A15 n16 c17 (cel rs19))]) (fun ⟨q22, M14, A15, n16, c17, x18, rs19, x21⟩ => m_r18_Exclude_l1 x00 q22 x18 x21 = some res ∧ Ext w0.heap.size M0 M14 ∧ Rels ((RelB (α := Int)) M14) rs19 x18) (fun ⟨q22, M14, A15, n16, c17, x18, rs19, x21⟩ => q22) ⟨forever, M0, (some ⟨g3, 0, none⟩), ([(⟨none, 0, 0⟩ : Hdr)] : List Hdr).length, ([(⟨none, 0, 0⟩ : Hdr)] : List Hdr).length, ([([] : List (Int))] : List (List (Int))), ([(⟨none, 0, 0⟩ : Hdr)] : List Hdr), (0 : Int)⟩ ?_ (Sub.cons rfl (Sub.cons rfl (Sub.cons rfl (Sub.nil _)))) (Sub.cons rfl (Sub.cons rfl (Sub.nil _))) ?_
  ·
   exact ⟨h, (Ext.refl _ _), hq4⟩
  rintro ⟨q22, M14, A15, n16, c17, x18, rs19, x21⟩ ⟨h, hm_M14, hq20⟩ K23 hK23
  cases q22 with
  | zero => exact absurd h (by simp [m_r18_Exclude_l1])
  | succ q22 =>
   unfold m_r18_Exclude_l1 at h
   refine WC.seq fun K24 hK24 => ?_
   refine WC.seqRegion fun K25 hK25 => ?_
   refine WL.yld (by decide) (Yld.move rfl) ?_
   refine WL.yld (by decide) (Yld.lss rfl rfl) ?_
   refine WL.done (hK25 _ _ ?_)
   by_cases hc26 : x21 < (6 : Int)
   ·
    replace h := of_t hc26 h
    refine WC.condTe rfl (decide_eq_true hc26) ?_
    refine WC.skip ?_
    refine QK.thenN (hK24 _ _ ?_)
    refine WC.seq fun K27 hK27 => ?_
    refine WC.block ?_
    refine WC.region fun K28 hK28 => ?_
    obtain ⟨x34, hx34, h⟩ := bnd h
    refine WL.yld (by decide) (Yld.move rfl) ?_
    refine WL.yld (by decide) (Yld.move rfl) ?_
    refine WL.eff (by decide) (Eff.buildC 129 ([x21] : List (Int)) sty_22 rfl rfl rfl rfl rfl (by decide)) ?_
    rintro _ _ ⟨g29, rfl, rfl⟩
    refine WL.freeze 129 rfl rfl rfl fun M31 hm_M31 hf32 => ?_
    have hq33 : Rels ((RelB (α := Int)) M31) ([(⟨(some ⟨g29, 0, none⟩), ([x21] : List (Int)).length, ([x21] : List (Int)).length⟩ : Hdr)] : List Hdr) ([([x21] : List (Int))] : List (List (Int))) := (Rels.cons hf32 Rels.nil)
    refine WL.eff (by decide) (Eff.buildC 130 ([(⟨(some ⟨g29, 0, none⟩), ([x21] : List (Int)).length, ([x21] : List (Int)).length⟩ : Hdr)] : List Hdr) sty_29 rfl rfl rfl rfl rfl (by decide)) ?_
    rintro _ _ ⟨g30, rfl, rfl⟩
    obtain ⟨hu37, hq38⟩ := Rels.apd (Rels.lift hq20 hm_M31) hq33 hx34
    refine WL.eff (by decide) (Eff.appendC 103 (xs := rs19) (ys := ([(⟨(some ⟨g29, 0, none⟩), ([x21] : List (Int)).length, ([x21] : List (Int)).length⟩ : Hdr)] : List Hdr)) sty_29 rfl rfl rfl (RdH.own (k := 130) rfl) hu37) ?_
    rintro _ _ ⟨A35, c36, rfl, rfl⟩
    refine WL.yld (by decide) (Yld.assign rfl) ?_
    refine WL.done (hK28 _ _ ?_)
    refine QK.blockN ?_
    refine QK.thenN (hK27 _ _ ?_)
    refine WC.region fun K39 hK39 => ?_
    obtain ⟨x40, hx40, h⟩ := bnd h
    refine WL.yld (by decide) (Yld.move rfl) ?_
    refine WL.yld (by decide) (Yld.addC rfl rfl hx40) ?_
    refine WL.yld (by decide) (Yld.assign rfl) ?_
    refine WL.done (hK39 _ _ ?_)
    refine QK.thenN ?_
    refine hK23 ⟨q22, M31, A35, (rs19 ++ ([(⟨(some ⟨g29, 0, none⟩), ([x21] : List (Int)).length, ([x21] : List (Int)).length⟩ : Hdr)] : List Hdr)).length, c36, x34, (rs19 ++ ([(⟨(some ⟨g29, 0, none⟩), ([x21] : List (Int)).length, ([x21] : List (Int)).length⟩ : Hdr)] : List Hdr)), x40⟩ _ _ ?_ (Nat.lt_succ_self _) (Sub.cons rfl (Sub.cons rfl (Sub.cons rfl (Sub.nil _)))) (Sub.cons rfl (Sub.cons rfl (Sub.nil _)))
    exact ⟨h, (Ext.trans hm_M14 hm_M31), hq38⟩
   ·
    replace h := of_f hc26 h
    refine WC.condFe rfl (decide_eq_false hc26) ?_
    refine WC.exit (QK.thenE (QK.thenE (QK.blockX ?_)))
    refine QK.thenN ?_
    refine hK12 ⟨M14, A15, n16, c17, x18, rs19⟩ _ _ ?_ (Sub.cons rfl (Sub.cons rfl (Sub.nil _))) (Sub.cons rfl (Sub.cons rfl (Sub.nil _)))
    exact ⟨h, hm_M14, hq20⟩
 ·
  rintro ⟨M5, A6, n7, c8, x9, rs10⟩ ⟨h, hm_M5, hq11⟩
  unfold m_r18_Exclude_j0 at h
  refine WC.seqCut (σ := Mem × (Option Addr) × Nat × Nat × (List (List (Int))) × (List Hdr)) (fun ⟨M41, A42, n43, c44, x45, rs46⟩ => [(0, I64 x00), (3, .slice A42 n43 c44)]) (fun ⟨M41, A42, n43, c44, x45, rs46⟩ => [(0, .mem M41), (103, .own 22 (Lay.sz Hdr) A42 n43 c44 (cel rs46))]) (fun ⟨M41, A42, n43, c44, x45, rs46⟩ => m_r18_Exclude_j2 x00 x45 = some res ∧ Ext w0.heap.size M5 M41 ∧ Rels ((RelB (α := Int)) M41) rs46 x45) (fun K48 hK48 => ?_) ?_
  ·
   skip
   refine WC.seqRegion fun K49 hK49 => ?_
   refine WL.yld (by decide) (Yld.assign rfl) ?_
   refine WL.done (hK49 _ _ ?_)
   refine WC.block ?_
   refine WC.loop (σ := Nat × Mem × (Option Addr) × Nat × Nat × (List (List (Int))) × (List Hdr) × Int) (fun ⟨q58, M50, A51, n52, c53, x54, rs55, x57⟩ => [(0, I64 x00), (3, .slice A51 n52 c53), (5, I64 x57)]) (fun ⟨q58, M50, A51, n52, c53, x54, rs55, x57⟩ => [(0, .mem M50), (103, .own 22 (Lay.sz Hdr) A51 n52 c53 (cel rs55))]) (fun ⟨q58, M50, A51, n52, c53, x54, rs55, x57⟩ => m_r18_Exclude_l3 x00 q58 x54 x57 = some res ∧ Ext w0.heap.size M5 M50 ∧ Rels ((RelB (α := Int)) M50) rs55 x54) (fun ⟨q58, M50, A51, n52, c53, x54, rs55, x57⟩ => q58) ⟨forever, M5, A6, n7, c8, x9, rs10, (0 : Int)⟩ ?_ (Sub.cons rfl (Sub.cons rfl (Sub.cons rfl (Sub.nil _)))) (Sub.cons rfl (Sub.cons rfl (Sub.nil _))) ?_
   ·
    exact ⟨h, (Ext.refl _ _), hq11⟩
   rintro ⟨q58, M50, A51, n52, c53, x54, rs55, x57⟩ ⟨h, hm_M50, hq56⟩ K59 hK59
   cases q58 with
   | zero => exact absurd h (by simp [m_r18_Exclude_l3])
   | succ q58 =>
    unfold m_r18_Exclude_l3 at h
    refine WC.seq fun K60 hK60 => ?_
    refine WC.seqRegion fun K61 hK61 => ?_
    refine WL.yld (by decide) (Yld.move rfl) ?_
    refine WL.yld (by decide) (Yld.lss rfl rfl) ?_
    refine WL.done (hK61 _ _ ?_)
    by_cases hc62 : x57 < (6 : Int)
    ·
     replace h := of_t hc62 h
     refine WC.condTe rfl (decide_eq_true hc62) ?_
     refine WC.skip ?_
     refine QK.thenN (hK60 _ _ ?_)
     refine WC.seqCut (σ := Mem × (Option Addr) × Nat × Nat × (List (List (Int))) × (List Hdr)) (fun ⟨M63, A64, n65, c66, x67, rs68⟩ => [(0, I64 x00), (3, .slice A64 n65 c66), (5, I64 x57)]) (fun ⟨M63, A64, n65, c66, x67, rs68⟩ => [(0, .mem M63), (103, .own 22 (Lay.sz Hdr) A64 n65 c66 (cel rs68))]) (fun ⟨M63, A64, n65, c66, x67, rs68⟩ => m_r18_Exclude_j4 x57 (m_r18_Exclude_l3 x00 q58) x67 = some res ∧ Ext w0.heap.size M50 M63 ∧ Rels ((RelB (α := Int)) M63) rs68 x67) (fun K70 hK70 => ?_) ?_
     ·
      skip
      refine WC.block ?_
      refine WC.seqRegion fun K71 hK71 => ?_
      obtain ⟨x72, hx72, h⟩ := bnd h
      refine WL.yld (by decide) (Yld.move rfl) ?_
      refine WL.yld (by decide) (Yld.addC rfl rfl hx72) ?_
      refine WL.yld (by decide) (Yld.assign rfl) ?_
      refine WL.done (hK71 _ _ ?_)
      refine WC.block ?_
      refine WC.loop (σ := Nat × Mem × (Option Addr) × Nat × Nat × (List (List (Int))) × (List Hdr) × Int) (fun ⟨q81, M73, A74, n75, c76, x77, rs78, x80⟩ => [(0, I64 x00), (3, .slice A74 n75 c76), (5, I64 x57), (6, I64 x80)]) (fun ⟨q81, M73, A74, n75, c76, x77, rs78, x80⟩ => [(0, .mem M73), (103, .own 22 (Lay.sz Hdr) A74 n75 c76 (cel rs78))]) (fun ⟨q81, M73, A74, n75, c76, x77, rs78, x80⟩ => m_r18_Exclude_l5 x57 (m_r18_Exclude_l3 x00 q58) q81 x77 x80 = some res ∧ Ext w0.heap.size M50 M73 ∧ Rels ((RelB (α := Int)) M73) rs78 x77) (fun ⟨q81, M73, A74, n75, c76, x77, rs78, x80⟩ => q81) ⟨forever, M50, A51, n52, c53, x54, rs55, x72⟩ ?_ (Sub.cons rfl (Sub.cons rfl (Sub.cons rfl (Sub.cons rfl (Sub.nil _))))) (Sub.cons rfl (Sub.cons rfl (Sub.nil _))) ?_
      ·
       exact ⟨h, (Ext.refl _ _), hq56⟩
      rintro ⟨q81, M73, A74, n75, c76, x77, rs78, x80⟩ ⟨h, hm_M73, hq79⟩ K82 hK82
      cases q81 with
      | zero => exact absurd h (by simp [m_r18_Exclude_l5])
      | succ q81 =>
       unfold m_r18_Exclude_l5 at h
       refine WC.seq fun K83 hK83 => ?_
       refine WC.seqRegion fun K84 hK84 => ?_
       refine WL.yld (by decide) (Yld.move rfl) ?_
       refine WL.yld (by decide) (Yld.lss rfl rfl) ?_
       refine WL.done (hK84 _ _ ?_)
       by_cases hc85 : x80 < (6 : Int)
       ·
        replace h := of_t hc85 h
        refine WC.condTe rfl (decide_eq_true hc85) ?_
        refine WC.skip ?_
        refine QK.thenN (hK83 _ _ ?_)
        refine WC.seq fun K86 hK86 => ?_
        refine WC.block ?_
        refine WC.region fun K87 hK87 => ?_
        obtain ⟨x93, hx93, h⟩ := bnd h
        refine WL.yld (by decide) (Yld.move rfl) ?_
        refine WL.yld (by decide) (Yld.move rfl) ?_
        refine WL.yld (by decide) (Yld.move rfl) ?_
        refine WL.eff (by decide) (Eff.buildC 188 ([x57, x80] : List (Int)) sty_22 rfl rfl rfl rfl rfl (by decide)) ?_
        rintro _ _ ⟨g88, rfl, rfl⟩
        refine WL.freeze 188 rfl rfl rfl fun M90 hm_M90 hf91 => ?_
        have hq92 : Rels ((RelB (α := Int)) M90) ([(⟨(some ⟨g88, 0, none⟩), ([x57, x80] : List (Int)).length, ([x57, x80] : List (Int)).length⟩ : Hdr)] : List Hdr) ([([x57, x80] : List (Int))] : List (List (Int))) := (Rels.cons hf91 Rels.nil)
        refine WL.eff (by decide) (Eff.buildC 189 ([(⟨(some ⟨g88, 0, none⟩), ([x57, x80] : List (Int)).length, ([x57, x80] : List (Int)).length⟩ : Hdr)] : List Hdr) sty_29 rfl rfl rfl rfl rfl (by decide)) ?_
        rintro _ _ ⟨g89, rfl, rfl⟩
        obtain ⟨hu96, hq97⟩ := Rels.apd (Rels.lift hq79 hm_M90) hq92 hx93
        refine WL.eff (by decide) (Eff.appendC 103 (xs := rs78) (ys := ([(⟨(some ⟨g88, 0, none⟩), ([x57, x80] : List (Int)).length, ([x57, x80] : List (Int)).length⟩ : Hdr)] : List Hdr)) sty_29 rfl rfl rfl (RdH.own (k := 189) rfl) hu96) ?_
        rintro _ _ ⟨A94, c95, rfl, rfl⟩
        refine WL.yld (by decide) (Yld.assign rfl) ?_
        refine WL.done (hK87 _ _ ?_)
        refine QK.blockN ?_
        refine QK.thenN (hK86 _ _ ?_)
        refine WC.region fun K98 hK98 => ?_
        obtain ⟨x99, hx99, h⟩ := bnd h
        refine WL.yld (by decide) (Yld.move rfl) ?_
        refine WL.yld (by decide) (Yld.addC rfl rfl hx99) ?_
        refine WL.yld (by decide) (Yld.assign rfl) ?_
        refine WL.done (hK98 _ _ ?_)
        refine QK.thenN ?_
        refine hK82 ⟨q81, M90, A94, (rs78 ++ ([(⟨(some ⟨g88, 0, none⟩), ([x57, x80] : List (Int)).length, ([x57, x80] : List (Int)).length⟩ : Hdr)] : List Hdr)).length, c95, x93, (rs78 ++ ([(⟨(some ⟨g88, 0, none⟩), ([x57, x80] : List (Int)).length, ([x57, x80] : List (Int)).length⟩ : Hdr)] : List Hdr)), x99⟩ _ _ ?_ (Nat.lt_succ_self _) (Sub.cons rfl (Sub.cons rfl (Sub.cons rfl (Sub.cons rfl (Sub.nil _))))) (Sub.cons rfl (Sub.cons rfl (Sub.nil _)))
        exact ⟨h, (Ext.trans hm_M73 hm_M90), hq97⟩
       ·
        replace h := of_f hc85 h
        refine WC.condFe rfl (decide_eq_false hc85) ?_
        refine WC.exit (QK.thenE (QK.thenE (QK.blockX ?_)))
        refine QK.blockN ?_
        refine QK.thenN ?_
        refine hK70 ⟨M73, A74, n75, c76, x77, rs78⟩ _ _ ?_ (Sub.cons rfl (Sub.cons rfl (Sub.cons rfl (Sub.nil _)))) (Sub.cons rfl (Sub.cons rfl (Sub.nil _)))
        exact ⟨h, hm_M73, hq79⟩
     ·
      rintro ⟨M63, A64, n65, c66, x67, rs68⟩ ⟨h, hm_M63, hq69⟩
      unfold m_r18_Exclude_j4 at h
      refine WC.region fun K100 hK100 => ?_
      obtain ⟨x101, hx101, h⟩ := bnd h
      refine WL.yld (by decide) (Yld.move rfl) ?_
      refine WL.yld (by decide) (Yld.addC rfl rfl hx101) ?_
      refine WL.yld (by decide) (Yld.assign rfl) ?_
      refine WL.done (hK100 _ _ ?_)
      refine QK.thenN ?_
      refine hK59 ⟨q58, M63, A64, n65, c66, x67, rs68, x101⟩ _ _ ?_ (Nat.lt_succ_self _) (Sub.cons rfl (Sub.cons rfl (Sub.cons rfl (Sub.nil _)))) (Sub.cons rfl (Sub.cons rfl (Sub.nil _)))
      exact ⟨h, (Ext.trans hm_M50 hm_M63), hq69⟩
    ·
     replace h := of_f hc62 h
     refine WC.condFe rfl (decide_eq_false hc62) ?_
     refine WC.exit (QK.thenE (QK.thenE (QK.blockX ?_)))
     refine QK.thenN ?_
     refine hK48 ⟨M50, A51, n52, c53, x54, rs55⟩ _ _ ?_ (Sub.cons rfl (Sub.cons rfl (Sub.nil _))) (Sub.cons rfl (Sub.cons rfl (Sub.nil _)))
     exact ⟨h, hm_M50, hq56⟩
  ·
   rintro ⟨M41, A42, n43, c44, x45, rs46⟩ ⟨h, hm_M41, hq47⟩
   unfold m_r18_Exclude_j2 at h
   refine WC.seq fun K102 hK102 => ?_
   refine WC.seqRegion fun K103 hK103 => ?_
   by_cases hc104 : x00 < (0 : Int)
   ·
    replace h := of_t hc104 h
    refine WL.yld (by decide) (Yld.move rfl) ?_
    refine WL.yld (by decide) (Yld.lss rfl rfl) ?_
    refine WL.yld (by decide) (Yld.move rfl) ?_
    refine WL.new (v' := .bool true) (congrArg Value.bool (decide_eq_true hc104)) ?_
    refine WL.skip (by decide) rfl rfl ?_
    refine WL.skip (by decide) rfl rfl ?_
    refine WL.skip (by decide) rfl rfl ?_
    refine WL.skip (by decide) rfl rfl ?_
    refine WL.yld (by decide) (Yld.pickT rfl rfl) ?_
    refine WL.done (hK103 _ _ ?_)
    refine WC.condT rfl ?_
    refine WC.seqRegion fun K105 hK105 => ?_
    refine WL.yld (by decide) (Yld.assign rfl) ?_
    refine WL.done (hK105 _ _ ?_)
    refine WC.ret (QK.thenR ?_)
    injection h with h; subst h
    exact Ret.fn [] (ResIs.one rfl rfl) rfl (Ext.trans hm_M5 hm_M41) rfl (by decide) rfl rfl ⟨none, 0, 0, rfl, rfl, SlT.nil⟩
   ·
    replace h := of_f hc104 h
    refine WL.yld (by decide) (Yld.move rfl) ?_
    refine WL.yld (by decide) (Yld.lss rfl rfl) ?_
    refine WL.yld (by decide) (Yld.move rfl) ?_
    refine WL.new (v' := .bool false) (congrArg Value.bool (decide_eq_false hc104)) ?_
    refine WL.yldG (by decide) rfl (Yld.move rfl) ?_
    refine WL.yldG (by decide) rfl (Yld.move rfl) ?_
    refine WL.yldG (by decide) rfl (Yld.lenD (rs := rs46) (xs := x45) (Rels.len hq47) und_29 rfl (RdH.own (k := 103) rfl)) ?_
    refine WL.yldG (by decide) rfl (Yld.geq rfl rfl) ?_
    refine WL.yld (by decide) (Yld.pickF rfl rfl) ?_
    refine WL.done (hK103 _ _ ?_)
    by_cases hc106 : (x45.length : Int) ≤ x00
    ·
     replace h := of_t hc106 h
     refine WC.condTe rfl (decide_eq_true hc106) ?_
     refine WC.seqRegion fun K107 hK107 => ?_
     refine WL.yld (by decide) (Yld.assign rfl) ?_
     refine WL.done (hK107 _ _ ?_)
     refine WC.ret (QK.thenR ?_)
     injection h with h; subst h
     exact Ret.fn [] (ResIs.one rfl rfl) rfl (Ext.trans hm_M5 hm_M41) rfl (by decide) rfl rfl ⟨none, 0, 0, rfl, rfl, SlT.nil⟩
    ·
     replace h := of_f hc106 h
     refine WC.condFe rfl (decide_eq_false hc106) ?_
     refine WC.skip ?_
     refine QK.thenN (hK102 _ _ ?_)
     refine WC.seqRegion fun K108 hK108 => ?_
     obtain ⟨x109, hx109, h⟩ := bnd h
     refine WL.yld (by decide) (Yld.move rfl) ?_
     refine WL.yld (by decide) (Yld.move rfl) ?_
     obtain ⟨r_110, hr111, hq112⟩ := Rels.idx hq47 hx109
     refine WL.yld (by decide) (Yld.idxC (xs := rs46) sty_29 rfl rfl (RdH.own (k := 103) rfl) hr111) ?_
     refine WL.yld (by decide) (Yld.loadC0 (xs := rs46) scal_22 rfl (RdH.own (k := 103) rfl) hr111 rfl) ?_
     refine WL.yld (by decide) (Yld.assign rfl) ?_
     refine WL.done (hK108 _ _ ?_)
     refine WC.ret ?_
     injection h with h; subst h
     exact Ret.fn [] (ResIs.one rfl rfl) rfl (Ext.trans hm_M5 hm_M41) rfl (by decide) rfl rfl ⟨r_110.A, r_110.n, r_110.c, rfl, rfl, hq112⟩

end Go.Proofs.Ytcncappgheopgaa
