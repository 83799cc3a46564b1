/-
 Walks (b): what a function's model gives, the function returns. Printed by a program of ours (vcm.py) from the function's operations. Conditions: as each theorem says.
-/
import Derived.Test.YtpebhdepmbnjbaaWka
import Derived.Test.YtpebhdepmbnjbaaMdb
namespace Go.Proofs.Ytpebhdepmbnjbaa
open Go Go.RowKit
set_option linter.unusedVariables false

theorem und_22 : Try.prog.underlying 22 = some (.slice 50) := by kernel_rfl
theorem und_33 : Try.prog.underlying 33 = some (.slice 57) := by kernel_rfl
theorem und_5 : Try.prog.underlying 5 = some (.int .u8) := by kernel_rfl
theorem und_9 : Try.prog.underlying 9 = some .string := by kernel_rfl
theorem agg_50 : Agg Try.prog 50 7 := ⟨⟨_, Try.underlying50, rfl⟩, by kernel_rfl⟩
theorem agg_57 : Agg Try.prog 57 10 := ⟨⟨_, Try.underlying57, rfl⟩, by kernel_rfl⟩
theorem bu_57_0_1_2_3_6_7_8 : ∀ (a0 : Int) (a1 : Int) (a2 : BitVec 64) (a3 : BitVec 32) (a6 : Int) (a7 : Int) (a8 : Int), Try.prog.built 57 [(0, I64 a0), (1, I64 a1), (2, U64 a2), (3, U32 a3), (6, I64 a6), (7, I64 a7), (8, I64 a8)] = some ([I64 a0, I64 a1, U64 a2, U32 a3, .slice none 0 0, .slice none 0 0, I64 a6, I64 a7, I64 a8, I64 (0 : Int)] : List Value).toArray := fun a0 a1 a2 a3 a6 a7 a8 => by kernel_rfl
theorem nm_23 : (Try.f23.name == "runtime.NumGoroutine") = false := by kernel_rfl
theorem nm_24 : (Try.f24.name == "runtime.NumGoroutine") = false := by kernel_rfl
theorem sty_22 : STy Try.prog 22 50 (.agg #[(I64 0), (I64 0), (I64 0), (U64 0#64), (U32 0#32), (.slice none 0 0), (I64 0)]) 7 72 := STy.of und_22 (by kernel_rfl) rfl
theorem sty_33 : STy Try.prog 33 57 (.agg #[(I64 0), (I64 0), (U64 0#64), (U32 0#32), (.slice none 0 0), (.slice none 0 0), (I64 0), (I64 0), (I64 0), (I64 0)]) 10 112 := STy.of und_33 (by kernel_rfl) rfl
theorem zr_50 : (Try.prog.info? 50).map (fun i => i.zero.map (·.cells)) = some (some ([I64 (0 : Int), I64 (0 : Int), I64 (0 : Int), U64 0#64, U32 0#32, .slice none 0 0, I64 (0 : Int)] : List Value).toArray) := by kernel_rfl
theorem zr_57 : (Try.prog.info? 57).map (fun i => i.zero.map (·.cells)) = some (some ([I64 (0 : Int), I64 (0 : Int), U64 0#64, U32 0#32, .slice none 0 0, .slice none 0 0, I64 (0 : Int), I64 (0 : Int), I64 (0 : Int), I64 (0 : Int)] : List Value).toArray) := by kernel_rfl

structure Rneedlestoreref24_Op where
 x : Sneedlestoreref24_Op
 h0 : Hdr
 h1 : Hdr
instance : Lay Rneedlestoreref24_Op := ⟨10, fun r => [I64 r.x.fClient, I64 r.x.fKind, U64 r.x.fKey, U32 r.x.fCookie, .slice r.h0.A r.h0.n r.h0.c, .slice r.h1.A r.h1.n r.h1.c, I64 r.x.fCall, I64 r.x.fReturn, I64 r.x.fClosed, I64 r.x.fResult], fun _ => rfl, fun _ u h => by simp only [List.mem_cons, List.not_mem_nil, or_false] at h; rcases h with rfl | rfl | rfl | rfl | rfl | rfl | rfl | rfl | rfl | rfl <;> rfl, by decide⟩
def rel_needlestoreref24_Op (M : Mem) (r : Rneedlestoreref24_Op) (x : Sneedlestoreref24_Op) : Prop := x = r.x ∧ (RelB (α := BitVec 8)) M r.h0 x.fData ∧ (RelB (α := BitVec 8)) M r.h1 x.fGot
instance : Mono rel_needlestoreref24_Op := ⟨fun ⟨h0, h1, h2⟩ hm => ⟨h0, Mono.mono h1 hm, Mono.mono h2 hm⟩⟩
structure Rneedlestoreref24_Event where
 x : Sneedlestoreref24_Event
 h0 : Hdr
instance : Lay Rneedlestoreref24_Event := ⟨7, fun r => [I64 r.x.fKind, I64 r.x.fClient, I64 r.x.fOp, U64 r.x.fKey, U32 r.x.fCookie, .slice r.h0.A r.h0.n r.h0.c, I64 r.x.fResult], fun _ => rfl, fun _ u h => by simp only [List.mem_cons, List.not_mem_nil, or_false] at h; rcases h with rfl | rfl | rfl | rfl | rfl | rfl | rfl <;> rfl, by decide⟩
def rel_needlestoreref24_Event (M : Mem) (r : Rneedlestoreref24_Event) (x : Sneedlestoreref24_Event) : Prop := x = r.x ∧ (RelB (α := BitVec 8)) M r.h0 x.fData
instance : Mono rel_needlestoreref24_Event := ⟨fun ⟨h0, h1⟩ hm => ⟨h0, Mono.mono h1 hm⟩⟩

set_option maxRecDepth 10000 in
theorem w_r24_open (M0 : Mem) (A00 : Option Addr) (n00 c00 : Nat) (rs00 : List Rneedlestoreref24_Op) (x00 : List (Sneedlestoreref24_Op)) (hf00 : SlT M0 A00 n00 c00 rs00) (hq00 : Rels (rel_needlestoreref24_Op M0) rs00 x00) (x01 : Int) {res : Int} (h : m_r24_open x00 x01 = some res) :
  Fn Try.prog 23 #[.slice A00 n00 c00, I64 x01] M0 fun r M' es => r = I64 res ∧ es = [] := by
 refine Fn.intro (N := 35) Try.func23 rfl rfl (Nat.le_of_ble_eq_true rfl) fun w0 => ?_
 unfold m_r24_open at h
 refine WC.seqRegion fun K1 hK1 => ?_
 refine WL.yld (by decide) (Yld.assign rfl) ?_
 refine WL.done (hK1 _ _ ?_)
 refine WC.seqCut (σ := Unit) (fun _ => []) (fun _ => [(0, .mem M0)]) (fun _ => m_r24_open_j0 = some res) (fun K2 hK2 => ?_) ?_
 ·
  skip
  refine WC.seqRegion fun K3 hK3 => ?_
  obtain ⟨x4, hx4, h⟩ := bnd h
  refine WL.yld (by decide) (Yld.move rfl) ?_
  refine WL.yld (by decide) (Yld.lenD (rs := rs00) (xs := x00) (Rels.len hq00) und_33 rfl (RdH.memM (k := 0) rfl hf00)) ?_
  refine WL.yld (by decide) (Yld.subC rfl rfl hx4) ?_
  refine WL.yld (by decide) (Yld.assign rfl) ?_
  refine WL.done (hK3 _ _ ?_)
  refine WC.block ?_
  refine WC.loop (σ := Nat × Int) (fun ⟨q6, x5⟩ => [(0, .slice A00 n00 c00), (1, I64 x01), (5, I64 x5)]) (fun ⟨q6, x5⟩ => [(0, .mem M0)]) (fun ⟨q6, x5⟩ => m_r24_open_l1 x00 x01 q6 x5 = some res) (fun ⟨q6, x5⟩ => q6) ⟨forever, x4⟩ ?_ (Sub.cons rfl (Sub.cons rfl (Sub.cons rfl (Sub.nil _)))) (Sub.cons rfl (Sub.nil _)) ?_
  ·
   exact h
  rintro ⟨q6, x5⟩ h K7 hK7
  cases q6 with
  | zero => exact absurd h (by simp [m_r24_open_l1])
  | succ q6 =>
   unfold m_r24_open_l1 at h
   refine WC.seq fun K8 hK8 => ?_
   refine WC.seqRegion fun K9 hK9 => ?_
   refine WL.yld (by decide) (Yld.move rfl) ?_
   refine WL.yld (by decide) (Yld.geq rfl rfl) ?_
   refine WL.done (hK9 _ _ ?_)
   by_cases hc10 : (0 : Int) ≤ x5
   ·
    replace h := of_t hc10 h
    refine WC.condTe rfl (decide_eq_true hc10) ?_
    refine WC.skip ?_
    refine QK.thenN (hK8 _ _ ?_)
    refine WC.seq fun K11 hK11 => ?_
    refine WC.block ?_
    refine WC.seqRegion fun K12 hK12 => ?_
    obtain ⟨x13, hx13, h⟩ := bnd h
    refine WL.yld (by decide) (Yld.move rfl) ?_
    refine WL.yld (by decide) (Yld.move rfl) ?_
    obtain ⟨⟨_, r_14_0, r_14_1⟩, hr15, rfl, hq16_0, hq16_1⟩ := Rels.idx hq00 hx13
    refine WL.yld (by decide) (Yld.idxC (xs := rs00) sty_33 rfl rfl (RdH.memM (k := 0) rfl hf00) hr15) ?_
    refine WL.yld (by decide) (Yld.fieldAddrC Try.underlying57 rfl nz_3 rfl rfl) ?_
    refine WL.yld (by decide) (Yld.loadC (xs := rs00) (j := 0) scal_3 rfl (RdH.memM (k := 0) rfl hf00) hr15 rfl rfl) ?_
    refine WL.yld (by decide) (Yld.move rfl) ?_
    refine WL.yld (by decide) (Yld.eqlI rfl rfl) ?_
    refine WL.done (hK12 _ _ ?_)
    by_cases hc17 : x13.fClient = x01
    ·
     replace h := of_t hc17 h
     refine WC.condTe rfl (beq_iff_eq.2 hc17) ?_
     refine WC.seq fun K18 hK18 => ?_
     refine WC.seqRegion fun K19 hK19 => ?_
     obtain ⟨x20, hx20, h⟩ := bnd h
     by_cases hc24 : x20.fReturn = (-1 : Int)
     ·
      replace h := of_t hc24 h
      obtain ⟨x25, hx25, h⟩ := bnd h
      refine WL.yld (by decide) (Yld.move rfl) ?_
      refine WL.yld (by decide) (Yld.move rfl) ?_
      obtain ⟨⟨_, r_21_0, r_21_1⟩, hr22, rfl, hq23_0, hq23_1⟩ := Rels.idx hq00 hx20
      refine WL.yld (by decide) (Yld.idxC (xs := rs00) sty_33 rfl rfl (RdH.memM (k := 0) rfl hf00) hr22) ?_
      refine WL.yld (by decide) (Yld.fieldAddrC Try.underlying57 rfl nz_3 rfl rfl) ?_
      refine WL.yld (by decide) (Yld.loadC (xs := rs00) (j := 7) scal_3 rfl (RdH.memM (k := 0) rfl hf00) hr22 rfl rfl) ?_
      refine WL.yld (by decide) (Yld.eqlI rfl rfl) ?_
      refine WL.yld (by decide) (Yld.move rfl) ?_
      refine WL.new (v' := .bool true) (congrArg Value.bool (beq_iff_eq.2 hc24)) ?_
      refine WL.yldG (by decide) rfl (Yld.move rfl) ?_
      refine WL.yldG (by decide) rfl (Yld.move rfl) ?_
      obtain ⟨⟨_, r_26_0, r_26_1⟩, hr27, rfl, hq28_0, hq28_1⟩ := Rels.idx hq00 hx25
      refine WL.yldG (by decide) rfl (Yld.idxC (xs := rs00) sty_33 rfl rfl (RdH.memM (k := 0) rfl hf00) hr27) ?_
      refine WL.yldG (by decide) rfl (Yld.fieldAddrC Try.underlying57 rfl nz_3 rfl rfl) ?_
      refine WL.yldG (by decide) rfl (Yld.loadC (xs := rs00) (j := 8) scal_3 rfl (RdH.memM (k := 0) rfl hf00) hr27 rfl rfl) ?_
      refine WL.yldG (by decide) rfl (Yld.eqlI rfl rfl) ?_
      refine WL.yld (by decide) (Yld.pickT rfl rfl) ?_
      refine WL.done (hK19 _ _ ?_)
      by_cases hc29 : x25.fClosed = (-1 : Int)
      ·
       replace h := of_t hc29 h
       refine WC.condTe rfl (beq_iff_eq.2 hc29) ?_
       refine WC.seqRegion fun K30 hK30 => ?_
       refine WL.yld (by decide) (Yld.move rfl) ?_
       refine WL.yld (by decide) (Yld.assign rfl) ?_
       refine WL.done (hK30 _ _ ?_)
       refine WC.ret (QK.thenR (QK.blockR (QK.thenR (QK.thenR (QK.blockR (QK.thenR ?_))))))
       injection h with h; subst h
       exact Ret.fn [] (ResIs.one rfl rfl) rfl (Ext.refl _ _) rfl (by decide) rfl rfl ⟨rfl, rfl⟩
      ·
       replace h := of_f hc29 h
       refine WC.condFe rfl (beq_eq_false_iff_ne.2 hc29) ?_
       refine WC.skip ?_
       refine QK.thenN (hK18 _ _ ?_)
       refine WC.seqRegion fun K31 hK31 => ?_
       refine WL.yld (by decide) (Yld.assign rfl) ?_
       refine WL.done (hK31 _ _ ?_)
       refine WC.ret (QK.blockR (QK.thenR (QK.thenR (QK.blockR (QK.thenR ?_)))))
       injection h with h; subst h
       exact Ret.fn [] (ResIs.one rfl rfl) rfl (Ext.refl _ _) rfl (by decide) rfl rfl ⟨rfl, rfl⟩
     ·
      replace h := of_f hc24 h
      refine WL.yld (by decide) (Yld.move rfl) ?_
      refine WL.yld (by decide) (Yld.move rfl) ?_
      obtain ⟨⟨_, r_21_0, r_21_1⟩, hr22, rfl, hq23_0, hq23_1⟩ := Rels.idx hq00 hx20
      refine WL.yld (by decide) (Yld.idxC (xs := rs00) sty_33 rfl rfl (RdH.memM (k := 0) rfl hf00) hr22) ?_
      refine WL.yld (by decide) (Yld.fieldAddrC Try.underlying57 rfl nz_3 rfl rfl) ?_
      refine WL.yld (by decide) (Yld.loadC (xs := rs00) (j := 7) scal_3 rfl (RdH.memM (k := 0) rfl hf00) hr22 rfl rfl) ?_
      refine WL.yld (by decide) (Yld.eqlI rfl rfl) ?_
      refine WL.yld (by decide) (Yld.move rfl) ?_
      refine WL.new (v' := .bool false) (congrArg Value.bool (beq_eq_false_iff_ne.2 hc24)) ?_
      refine WL.skip (by decide) rfl rfl ?_
      refine WL.skip (by decide) rfl rfl ?_
      refine WL.skip (by decide) rfl rfl ?_
      refine WL.skip (by decide) rfl rfl ?_
      refine WL.skip (by decide) rfl rfl ?_
      refine WL.skip (by decide) rfl rfl ?_
      refine WL.yld (by decide) (Yld.pickF rfl rfl) ?_
      refine WL.done (hK19 _ _ ?_)
      refine WC.condF rfl ?_
      refine WC.skip ?_
      refine QK.thenN (hK18 _ _ ?_)
      refine WC.seqRegion fun K32 hK32 => ?_
      refine WL.yld (by decide) (Yld.assign rfl) ?_
      refine WL.done (hK32 _ _ ?_)
      refine WC.ret (QK.blockR (QK.thenR (QK.thenR (QK.blockR (QK.thenR ?_)))))
      injection h with h; subst h
      exact Ret.fn [] (ResIs.one rfl rfl) rfl (Ext.refl _ _) rfl (by decide) rfl rfl ⟨rfl, rfl⟩
    ·
     replace h := of_f hc17 h
     refine WC.condFe rfl (beq_eq_false_iff_ne.2 hc17) ?_
     refine WC.skip ?_
     refine QK.blockN ?_
     refine QK.thenN (hK11 _ _ ?_)
     refine WC.region fun K33 hK33 => ?_
     obtain ⟨x34, hx34, h⟩ := bnd h
     refine WL.yld (by decide) (Yld.move rfl) ?_
     refine WL.yld (by decide) (Yld.subC rfl rfl hx34) ?_
     refine WL.yld (by decide) (Yld.assign rfl) ?_
     refine WL.done (hK33 _ _ ?_)
     refine QK.thenN ?_
     refine hK7 ⟨q6, x34⟩ _ _ ?_ (Nat.lt_succ_self _) (Sub.cons rfl (Sub.cons rfl (Sub.cons rfl (Sub.nil _)))) (Sub.cons rfl (Sub.nil _))
     exact h
   ·
    replace h := of_f hc10 h
    refine WC.condFe rfl (decide_eq_false hc10) ?_
    refine WC.exit (QK.thenE (QK.thenE (QK.blockX ?_)))
    refine QK.thenN ?_
    refine hK2 () _ _ ?_ (Sub.nil _) (Sub.cons rfl (Sub.nil _))
    exact h
 ·
  rintro _ h
  unfold m_r24_open_j0 at h
  refine WC.seqRegion fun K35 hK35 => ?_
  refine WL.yld (by decide) (Yld.assign rfl) ?_
  refine WL.done (hK35 _ _ ?_)
  refine WC.ret ?_
  injection h with h; subst h
  exact Ret.fn [] (ResIs.one rfl rfl) rfl (Ext.refl _ _) rfl (by decide) rfl rfl ⟨rfl, rfl⟩

set_option maxRecDepth 10000 in
theorem w_r24_Build (M0 : Mem) (A00 : Option Addr) (n00 c00 : Nat) (rs00 : List Rneedlestoreref24_Event) (x00 : List (Sneedlestoreref24_Event)) (hf00 : SlT M0 A00 n00 c00 rs00) (hq00 : Rels (rel_needlestoreref24_Event M0) rs00 x00) {res : (List (Sneedlestoreref24_Op)) × Int} (h : m_r24_Build x00 = some res) :
  Fn Try.prog 12 #[.slice A00 n00 c00] M0 fun r M' es => ∃ (A1 : Option Addr) (n1 c1 : Nat), ∃ rs1 : List Rneedlestoreref24_Op, r = .tuple #[.slice A1 n1 c1, I64 res.2] ∧ es = [.own 57 (Lay.sz Rneedlestoreref24_Op) A1 n1 c1 (cel rs1)] ∧ Rels (rel_needlestoreref24_Op M') rs1 res.1 := by
 refine Fn.intro (N := 132) Try.func12 rfl rfl (Nat.le_of_ble_eq_true rfl) fun w0 => ?_
 unfold m_r24_Build at h
 refine WC.seqRegion fun K1 hK1 => ?_
 refine WL.yld (by decide) (Yld.assign rfl) ?_
 refine WL.yld (by decide) (Yld.assign rfl) ?_
 refine WL.done (hK1 _ _ ?_)
 refine WC.seqRegion fun K2 hK2 => ?_
 refine WL.yld (by decide) (Yld.assign rfl) ?_
 refine WL.done (hK2 _ _ ?_)
 refine WC.seqCut (σ := Mem × (Option Addr) × Nat × Nat × (List (Sneedlestoreref24_Op)) × (List Rneedlestoreref24_Op)) (fun ⟨M3, A6, n7, c8, x9, rs10⟩ => [(4, .slice A6 n7 c8)]) (fun ⟨M3, A6, n7, c8, x9, rs10⟩ => [(0, .mem M3), (105, .own 57 (Lay.sz Rneedlestoreref24_Op) A6 n7 c8 (cel rs10))]) (fun ⟨M3, A6, n7, c8, x9, rs10⟩ => m_r24_Build_j0 x9 = some res ∧ Ext w0.heap.size M0 M3 ∧ Rels (rel_needlestoreref24_Op M3) rs10 x9) (fun K12 hK12 => ?_) ?_
 ·
  skip
  refine WC.seqRegion fun K13 hK13 => ?_
  refine WL.yld (by decide) (Yld.assign rfl) ?_
  refine WL.done (hK13 _ _ ?_)
  refine WC.block ?_
  refine WC.nilOwn 116 57 (Lay.sz Rneedlestoreref24_Op) none ?_
  refine WC.loop (σ := Nat × Mem × (Option Addr) × Nat × Nat × (List (Sneedlestoreref24_Op)) × (List Rneedlestoreref24_Op) × Int) (fun ⟨q24, M14, A17, n18, c19, x20, rs21, x23⟩ => [(0, .slice A00 n00 c00), (4, .slice A17 n18 c19), (5, I64 x23)]) (fun ⟨q24, M14, A17, n18, c19, x20, rs21, x23⟩ => [(0, .mem M14), (116, .own 57 (Lay.sz Rneedlestoreref24_Op) A17 n18 c19 (cel rs21))]) (fun ⟨q24, M14, A17, n18, c19, x20, rs21, x23⟩ => m_r24_Build_l1 x00 q24 x20 x23 = some res ∧ Ext w0.heap.size M0 M14 ∧ Rels (rel_needlestoreref24_Op M14) rs21 x20) (fun ⟨q24, M14, A17, n18, c19, x20, rs21, x23⟩ => q24) ⟨forever, M0, none, 0, 0, ([] : List (Sneedlestoreref24_Op)), ([] : List Rneedlestoreref24_Op), (0 : Int)⟩ ?_ (Sub.cons rfl (Sub.cons rfl (Sub.cons rfl (Sub.nil _)))) (Sub.cons rfl (Sub.cons rfl (Sub.nil _))) ?_
  ·
   exact ⟨h, (Ext.refl _ _), (Rels.nil (R := rel_needlestoreref24_Op M0))⟩
  rintro ⟨q24, M14, A17, n18, c19, x20, rs21, x23⟩ ⟨h, hm_M14, hq22⟩ K25 hK25
  cases q24 with
  | zero => exact absurd h (by simp [m_r24_Build_l1])
  | succ q24 =>
   unfold m_r24_Build_l1 at h
   refine WC.seq fun K26 hK26 => ?_
   refine WC.seqRegion fun K27 hK27 => ?_
   refine WL.yld (by decide) (Yld.move rfl) ?_
   refine WL.yld (by decide) (Yld.move rfl) ?_
   refine WL.yld (by decide) (Yld.lenD (rs := rs00) (xs := x00) (Rels.len (Rels.lift hq00 hm_M14)) und_22 rfl (RdH.memM (k := 0) rfl (SlRc.lift hf00 hm_M14))) ?_
   refine WL.yld (by decide) (Yld.lss rfl rfl) ?_
   refine WL.done (hK27 _ _ ?_)
   by_cases hc28 : x23 < (x00.length : Int)
   ·
    replace h := of_t hc28 h
    refine WC.condTe rfl (decide_eq_true hc28) ?_
    refine WC.skip ?_
    refine QK.thenN (hK26 _ _ ?_)
    refine WC.seqCut (σ := Mem × (Option Addr) × Nat × Nat × (List (Sneedlestoreref24_Op)) × (List Rneedlestoreref24_Op)) (fun ⟨M29, A30, n31, c32, x33, rs34⟩ => [(0, .slice A00 n00 c00), (4, .slice A30 n31 c32), (5, I64 x23)]) (fun ⟨M29, A30, n31, c32, x33, rs34⟩ => [(0, .mem M29), (116, .own 57 (Lay.sz Rneedlestoreref24_Op) A30 n31 c32 (cel rs34))]) (fun ⟨M29, A30, n31, c32, x33, rs34⟩ => m_r24_Build_j2 x23 (m_r24_Build_l1 x00 q24) x33 = some res ∧ Ext w0.heap.size M14 M29 ∧ Rels (rel_needlestoreref24_Op M29) rs34 x33) (fun K36 hK36 => ?_) ?_
    ·
     skip
     refine WC.block ?_
     refine WC.seqRegion fun K37 hK37 => ?_
     obtain ⟨x38, hx38, h⟩ := bnd h
     refine WL.yld (by decide) (Yld.move rfl) ?_
     refine WL.yld (by decide) (Yld.move rfl) ?_
     obtain ⟨⟨_, r_39_0⟩, hr40, rfl, hq41_0⟩ := Rels.idx (Rels.lift hq00 hm_M14) hx38
     refine WL.yld (by decide) (Yld.idxC (xs := rs00) sty_22 rfl rfl (RdH.memM (k := 0) rfl (SlRc.lift hf00 hm_M14)) hr40) ?_
     refine WL.yld (by decide) (Yld.loadA (xs := rs00) agg_50 rfl (RdH.memM (k := 0) rfl (SlRc.lift hf00 hm_M14)) hr40 rfl) ?_
     refine WL.eff (by decide) (Eff.alloc 142 rfl zr_50) ?_
     rintro _ _ ⟨g42, rfl, rfl⟩
     refine WL.eff0 (Eff0.storeBAM 142 agg_50 rfl rfl rfl ⟨rfl, rfl⟩ rfl) ?_
     refine WL.done (hK37 _ _ ?_)
     refine WC.seqRegion fun K43 hK43 => ?_
     obtain ⟨x44, hx44, h⟩ := bnd h
     refine WL.yld (by decide) (Yld.move rfl) ?_
     refine WL.yld (by decide) (Yld.fieldAddr Try.underlying50 rfl nz_3 rfl rfl) ?_
     refine WL.yld (by decide) (Yld.loadB (k := 142) scal_3 rfl rfl rfl) ?_
     refine WL.eff (by decide) (Eff.callS 145 rfl Try.func23 nm_23 rfl rfl (fun w hb hh => w_r24_open (Mem.snap w) A17 n18 c19 rs21 _ (RdH.sn (RdH.own (k := 116) rfl) w hb hh) (Rels.sn hq22 (hh.sat 0 _ rfl)) x38.fClient hx44)) ?_
     rintro _ _ ⟨_, ⟨rfl, rfl⟩, rfl⟩
     refine WL.yld (by decide) (Yld.assign rfl) ?_
     refine WL.done (hK43 _ _ ?_)
     refine WC.block ?_
     refine WC.seqRegionCut (σ := Bool) (fun x46 => [(0, .slice A00 n00 c00), (4, .slice A17 n18 c19), (5, I64 x23), (6, .pointer (some ⟨g42, 0, none⟩)), (7, I64 x44), (24, .bool x46)]) (fun x46 => [(0, .mem M14), (116, .own 57 (Lay.sz Rneedlestoreref24_Op) A17 n18 c19 (cel rs21)), (142, .blk g42 50 [I64 x38.fKind, I64 x38.fClient, I64 x38.fOp, U64 x38.fKey, U32 x38.fCookie, .slice r_39_0.A r_39_0.n r_39_0.c, I64 x38.fResult])]) (fun x46 => m_r24_Build_j3 x20 x23 x38 x44 (m_r24_Build_l1 x00 q24) x46 = some res) (fun K47 hK47 => ?_) ?_
     ·
      skip
      by_cases hc49 : x38.fKind = (1 : Int)
      ·
       replace h := of_t hc49 h
       by_cases hc50 : (1 : Int) ≤ x38.fOp
       ·
        replace h := of_t hc50 h
        by_cases hc51 : x38.fOp ≤ (3 : Int)
        ·
         replace h := of_t hc51 h
         refine WL.yld (by decide) (Yld.fieldAddr Try.underlying50 rfl nz_3 rfl rfl) ?_
         refine WL.yld (by decide) (Yld.loadB (k := 142) scal_3 rfl rfl rfl) ?_
         refine WL.yld (by decide) (Yld.eqlI rfl rfl) ?_
         refine WL.yld (by decide) (Yld.move rfl) ?_
         refine WL.new (v' := .bool true) (congrArg Value.bool (beq_iff_eq.2 hc49)) ?_
         refine WL.yldG (by decide) rfl (Yld.fieldAddr Try.underlying50 rfl nz_3 rfl rfl) ?_
         refine WL.yldG (by decide) rfl (Yld.loadB (k := 142) scal_3 rfl rfl rfl) ?_
         refine WL.yldG (by decide) rfl (Yld.geq rfl rfl) ?_
         refine WL.yld (by decide) (Yld.pickT rfl rfl) ?_
         refine WL.yld (by decide) (Yld.move rfl) ?_
         refine WL.new (v' := .bool true) (congrArg Value.bool (decide_eq_true hc50)) ?_
         refine WL.yldG (by decide) rfl (Yld.fieldAddr Try.underlying50 rfl nz_3 rfl rfl) ?_
         refine WL.yldG (by decide) rfl (Yld.loadB (k := 142) scal_3 rfl rfl rfl) ?_
         refine WL.yldG (by decide) rfl (Yld.leq rfl rfl) ?_
         refine WL.yld (by decide) (Yld.pickT rfl rfl) ?_
         refine WL.yld (by decide) (Yld.move rfl) ?_
         refine WL.new (v' := .bool true) (congrArg Value.bool (decide_eq_true hc51)) ?_
         refine WL.yldG (by decide) rfl (Yld.move rfl) ?_
         refine WL.yldG (by decide) rfl (Yld.lss rfl rfl) ?_
         refine WL.yld (by decide) (Yld.pickT rfl rfl) ?_
         refine WL.yld (by decide) (Yld.assign rfl) ?_
         refine WL.done ?_
         refine hK47 (decide (x44 < (0 : Int))) _ _ ?_ (Sub.cons rfl (Sub.cons rfl (Sub.cons rfl (Sub.cons rfl (Sub.cons rfl (Sub.cons rfl (Sub.nil _))))))) (Sub.cons rfl (Sub.cons rfl (Sub.cons rfl (Sub.nil _))))
         exact h
        ·
         replace h := of_f hc51 h
         refine WL.yld (by decide) (Yld.fieldAddr Try.underlying50 rfl nz_3 rfl rfl) ?_
         refine WL.yld (by decide) (Yld.loadB (k := 142) scal_3 rfl rfl rfl) ?_
         refine WL.yld (by decide) (Yld.eqlI rfl rfl) ?_
         refine WL.yld (by decide) (Yld.move rfl) ?_
         refine WL.new (v' := .bool true) (congrArg Value.bool (beq_iff_eq.2 hc49)) ?_
         refine WL.yldG (by decide) rfl (Yld.fieldAddr Try.underlying50 rfl nz_3 rfl rfl) ?_
         refine WL.yldG (by decide) rfl (Yld.loadB (k := 142) scal_3 rfl rfl rfl) ?_
         refine WL.yldG (by decide) rfl (Yld.geq rfl rfl) ?_
         refine WL.yld (by decide) (Yld.pickT rfl rfl) ?_
         refine WL.yld (by decide) (Yld.move rfl) ?_
         refine WL.new (v' := .bool true) (congrArg Value.bool (decide_eq_true hc50)) ?_
         refine WL.yldG (by decide) rfl (Yld.fieldAddr Try.underlying50 rfl nz_3 rfl rfl) ?_
         refine WL.yldG (by decide) rfl (Yld.loadB (k := 142) scal_3 rfl rfl rfl) ?_
         refine WL.yldG (by decide) rfl (Yld.leq rfl rfl) ?_
         refine WL.yld (by decide) (Yld.pickT rfl rfl) ?_
         refine WL.yld (by decide) (Yld.move rfl) ?_
         refine WL.new (v' := .bool false) (congrArg Value.bool (decide_eq_false hc51)) ?_
         refine WL.skip (by decide) rfl rfl ?_
         refine WL.skip (by decide) rfl rfl ?_
         refine WL.yld (by decide) (Yld.pickF rfl rfl) ?_
         refine WL.yld (by decide) (Yld.assign rfl) ?_
         refine WL.done ?_
         refine hK47 false _ _ ?_ (Sub.cons rfl (Sub.cons rfl (Sub.cons rfl (Sub.cons rfl (Sub.cons rfl (Sub.cons rfl (Sub.nil _))))))) (Sub.cons rfl (Sub.cons rfl (Sub.cons rfl (Sub.nil _))))
         exact h
       ·
        replace h := of_f hc50 h
        refine WL.yld (by decide) (Yld.fieldAddr Try.underlying50 rfl nz_3 rfl rfl) ?_
        refine WL.yld (by decide) (Yld.loadB (k := 142) scal_3 rfl rfl rfl) ?_
        refine WL.yld (by decide) (Yld.eqlI rfl rfl) ?_
        refine WL.yld (by decide) (Yld.move rfl) ?_
        refine WL.new (v' := .bool true) (congrArg Value.bool (beq_iff_eq.2 hc49)) ?_
        refine WL.yldG (by decide) rfl (Yld.fieldAddr Try.underlying50 rfl nz_3 rfl rfl) ?_
        refine WL.yldG (by decide) rfl (Yld.loadB (k := 142) scal_3 rfl rfl rfl) ?_
        refine WL.yldG (by decide) rfl (Yld.geq rfl rfl) ?_
        refine WL.yld (by decide) (Yld.pickT rfl rfl) ?_
        refine WL.yld (by decide) (Yld.move rfl) ?_
        refine WL.new (v' := .bool false) (congrArg Value.bool (decide_eq_false hc50)) ?_
        refine WL.skip (by decide) rfl rfl ?_
        refine WL.skip (by decide) rfl rfl ?_
        refine WL.skip (by decide) rfl rfl ?_
        refine WL.yld (by decide) (Yld.pickF rfl rfl) ?_
        refine WL.yld (by decide) (Yld.move rfl) ?_
        refine WL.skip (by decide) rfl rfl ?_
        refine WL.skip (by decide) rfl rfl ?_
        refine WL.yld (by decide) (Yld.pickF rfl rfl) ?_
        refine WL.yld (by decide) (Yld.assign rfl) ?_
        refine WL.done ?_
        refine hK47 false _ _ ?_ (Sub.cons rfl (Sub.cons rfl (Sub.cons rfl (Sub.cons rfl (Sub.cons rfl (Sub.cons rfl (Sub.nil _))))))) (Sub.cons rfl (Sub.cons rfl (Sub.cons rfl (Sub.nil _))))
        exact h
      ·
       replace h := of_f hc49 h
       refine WL.yld (by decide) (Yld.fieldAddr Try.underlying50 rfl nz_3 rfl rfl) ?_
       refine WL.yld (by decide) (Yld.loadB (k := 142) scal_3 rfl rfl rfl) ?_
       refine WL.yld (by decide) (Yld.eqlI rfl rfl) ?_
       refine WL.yld (by decide) (Yld.move rfl) ?_
       refine WL.new (v' := .bool false) (congrArg Value.bool (beq_eq_false_iff_ne.2 hc49)) ?_
       refine WL.skip (by decide) rfl rfl ?_
       refine WL.skip (by decide) rfl rfl ?_
       refine WL.skip (by decide) rfl rfl ?_
       refine WL.yld (by decide) (Yld.pickF rfl rfl) ?_
       refine WL.yld (by decide) (Yld.move rfl) ?_
       refine WL.skip (by decide) rfl rfl ?_
       refine WL.skip (by decide) rfl rfl ?_
       refine WL.skip (by decide) rfl rfl ?_
       refine WL.yld (by decide) (Yld.pickF rfl rfl) ?_
       refine WL.yld (by decide) (Yld.move rfl) ?_
       refine WL.skip (by decide) rfl rfl ?_
       refine WL.skip (by decide) rfl rfl ?_
       refine WL.yld (by decide) (Yld.pickF rfl rfl) ?_
       refine WL.yld (by decide) (Yld.assign rfl) ?_
       refine WL.done ?_
       refine hK47 false _ _ ?_ (Sub.cons rfl (Sub.cons rfl (Sub.cons rfl (Sub.cons rfl (Sub.cons rfl (Sub.cons rfl (Sub.nil _))))))) (Sub.cons rfl (Sub.cons rfl (Sub.cons rfl (Sub.nil _))))
       exact h
     ·
      rintro x46 h
      unfold m_r24_Build_j3 at h
      by_cases hc52 : x46 = true
      ·
       replace h := of_t hc52 h
       refine WC.condTe rfl hc52 ?_
       refine WC.seqRegion fun K53 hK53 => ?_
       refine WL.yld (by decide) (Yld.fieldAddr Try.underlying50 rfl nz_3 rfl rfl) ?_
       refine WL.yld (by decide) (Yld.loadB (k := 142) scal_3 rfl rfl rfl) ?_
       refine WL.yld (by decide) (Yld.fieldAddr Try.underlying50 rfl nz_3 rfl rfl) ?_
       refine WL.yld (by decide) (Yld.loadB (k := 142) scal_3 rfl rfl rfl) ?_
       refine WL.yld (by decide) (Yld.fieldAddr Try.underlying50 rfl nz_38 rfl rfl) ?_
       refine WL.yld (by decide) (Yld.loadB (k := 142) scal_38 rfl rfl rfl) ?_
       refine WL.yld (by decide) (Yld.fieldAddr Try.underlying50 rfl nz_39 rfl rfl) ?_
       refine WL.yld (by decide) (Yld.loadB (k := 142) scal_39 rfl rfl rfl) ?_
       refine WL.yld (by decide) (Yld.move rfl) ?_
       refine WL.yld (by decide) (Yld.build rfl (bu_57_0_1_2_3_6_7_8 x38.fClient x38.fOp x38.fKey x38.fCookie x23 (-1 : Int) (-1 : Int))) ?_
       refine WL.eff (by decide) (Eff.alloc 154 rfl zr_57) ?_
       rintro _ _ ⟨g54, rfl, rfl⟩
       refine WL.eff0 (Eff0.storeBAM 154 agg_57 rfl rfl rfl ⟨rfl, rfl⟩ rfl) ?_
       refine WL.done (hK53 _ _ ?_)
       refine WC.seq fun K55 hK55 => ?_
       refine WC.seqRegion fun K56 hK56 => ?_
       refine WL.yld (by decide) (Yld.fieldAddr Try.underlying50 rfl nz_3 rfl rfl) ?_
       refine WL.yld (by decide) (Yld.loadB (k := 142) scal_3 rfl rfl rfl) ?_
       refine WL.yld (by decide) (Yld.eqlI rfl rfl) ?_
       refine WL.done (hK56 _ _ ?_)
       by_cases hc57 : x38.fOp = (1 : Int)
       ·
        replace h := of_t hc57 h
        refine WC.condTe rfl (beq_iff_eq.2 hc57) ?_
        refine WC.region fun K58 hK58 => ?_
        obtain ⟨x60, hx60, h⟩ := bnd h
        refine WL.eff (by decide) (Eff.buildC 159 ([] : List (BitVec 8)) sty_40 rfl rfl rfl rfl rfl (by decide)) ?_
        rintro _ _ ⟨g59, rfl, rfl⟩
        refine WL.yld (by decide) (Yld.fieldAddr Try.underlying50 rfl nz_40 rfl rfl) ?_
        refine WL.yld (by decide) (Yld.loadB (k := 142) scal_40 rfl rfl rfl) ?_
        refine WL.eff (by decide) (Eff.appendC 159 (xs := ([] : List (BitVec 8))) (ys := x38.fData) sty_40 rfl rfl rfl (RdH.memM (k := 0) rfl hq41_0) hx60) ?_
        rintro _ _ ⟨A61, c62, rfl, rfl⟩
        refine WL.yld (by decide) (Yld.fieldAddr Try.underlying57 rfl nz_40 rfl rfl) ?_
        refine WL.eff0 (Eff0.storeB 154 siz_40 rfl rfl rfl rfl (Nat.le_of_ble_eq_true rfl)) ?_
        refine WL.done (hK58 _ _ ?_)
        refine QK.thenN (hK55 _ _ ?_)
        refine WC.region fun K63 hK63 => ?_
        obtain ⟨x68, hx68, h⟩ := bnd h
        refine WL.yld (by decide) (Yld.move rfl) ?_
        refine WL.yld (by decide) (Yld.loadBM (k := 154) agg_57 rfl rfl rfl) ?_
        refine WL.freeze 159 rfl rfl rfl fun M65 hm_M65 hf66 => ?_
        have hq67 : Rels (rel_needlestoreref24_Op M65) ([(Rneedlestoreref24_Op.mk (Sneedlestoreref24_Op.mk x38.fClient x38.fOp x38.fKey x38.fCookie x60 ([] : List (BitVec 8)) x23 (-1 : Int) (-1 : Int) (0 : Int)) (⟨A61, x60.length, c62⟩ : Hdr) (⟨none, 0, 0⟩ : Hdr))] : List Rneedlestoreref24_Op) ([(Sneedlestoreref24_Op.mk x38.fClient x38.fOp x38.fKey x38.fCookie x60 ([] : List (BitVec 8)) x23 (-1 : Int) (-1 : Int) (0 : Int))] : List (Sneedlestoreref24_Op)) := (Rels.cons ⟨rfl, hf66, SlT.nil⟩ Rels.nil)
        refine WL.eff (by decide) (Eff.buildCA 164 ([(Rneedlestoreref24_Op.mk (Sneedlestoreref24_Op.mk x38.fClient x38.fOp x38.fKey x38.fCookie x60 ([] : List (BitVec 8)) x23 (-1 : Int) (-1 : Int) (0 : Int)) (⟨A61, x60.length, c62⟩ : Hdr) (⟨none, 0, 0⟩ : Hdr))] : List Rneedlestoreref24_Op) sty_33 rfl rfl rfl (by decide)) ?_
        rintro _ _ ⟨g64, rfl, rfl⟩
        obtain ⟨hu71, hq72⟩ := Rels.apd (Rels.lift hq22 hm_M65) hq67 hx68
        refine WL.eff (by decide) (Eff.appendC 116 (xs := rs21) (ys := ([(Rneedlestoreref24_Op.mk (Sneedlestoreref24_Op.mk x38.fClient x38.fOp x38.fKey x38.fCookie x60 ([] : List (BitVec 8)) x23 (-1 : Int) (-1 : Int) (0 : Int)) (⟨A61, x60.length, c62⟩ : Hdr) (⟨none, 0, 0⟩ : Hdr))] : List Rneedlestoreref24_Op)) sty_33 rfl rfl rfl (RdH.own (k := 164) rfl) hu71) ?_
        rintro _ _ ⟨A69, c70, rfl, rfl⟩
        refine WL.yld (by decide) (Yld.assign rfl) ?_
        refine WL.done (hK63 _ _ ?_)
        refine QK.blockN ?_
        refine QK.blockN ?_
        refine QK.thenN ?_
        refine hK36 ⟨M65, A69, (rs21 ++ ([(Rneedlestoreref24_Op.mk (Sneedlestoreref24_Op.mk x38.fClient x38.fOp x38.fKey x38.fCookie x60 ([] : List (BitVec 8)) x23 (-1 : Int) (-1 : Int) (0 : Int)) (⟨A61, x60.length, c62⟩ : Hdr) (⟨none, 0, 0⟩ : Hdr))] : List Rneedlestoreref24_Op)).length, c70, x68, (rs21 ++ ([(Rneedlestoreref24_Op.mk (Sneedlestoreref24_Op.mk x38.fClient x38.fOp x38.fKey x38.fCookie x60 ([] : List (BitVec 8)) x23 (-1 : Int) (-1 : Int) (0 : Int)) (⟨A61, x60.length, c62⟩ : Hdr) (⟨none, 0, 0⟩ : Hdr))] : List Rneedlestoreref24_Op))⟩ _ _ ?_ (Sub.cons rfl (Sub.cons rfl (Sub.cons rfl (Sub.nil _)))) (Sub.cons rfl (Sub.cons rfl (Sub.nil _)))
        exact ⟨h, hm_M65, hq72⟩
       ·
        replace h := of_f hc57 h
        refine WC.condFe rfl (beq_eq_false_iff_ne.2 hc57) ?_
        refine WC.skip ?_
        refine QK.thenN (hK55 _ _ ?_)
        refine WC.region fun K73 hK73 => ?_
        obtain ⟨x76, hx76, h⟩ := bnd h
        refine WL.yld (by decide) (Yld.move rfl) ?_
        refine WL.yld (by decide) (Yld.loadBM (k := 154) agg_57 rfl rfl rfl) ?_
        have hq75 : Rels (rel_needlestoreref24_Op M14) ([(Rneedlestoreref24_Op.mk (Sneedlestoreref24_Op.mk x38.fClient x38.fOp x38.fKey x38.fCookie ([] : List (BitVec 8)) ([] : List (BitVec 8)) x23 (-1 : Int) (-1 : Int) (0 : Int)) (⟨none, 0, 0⟩ : Hdr) (⟨none, 0, 0⟩ : Hdr))] : List Rneedlestoreref24_Op) ([(Sneedlestoreref24_Op.mk x38.fClient x38.fOp x38.fKey x38.fCookie ([] : List (BitVec 8)) ([] : List (BitVec 8)) x23 (-1 : Int) (-1 : Int) (0 : Int))] : List (Sneedlestoreref24_Op)) := (Rels.cons ⟨rfl, SlT.nil, SlT.nil⟩ Rels.nil)
        refine WL.eff (by decide) (Eff.buildCA 174 ([(Rneedlestoreref24_Op.mk (Sneedlestoreref24_Op.mk x38.fClient x38.fOp x38.fKey x38.fCookie ([] : List (BitVec 8)) ([] : List (BitVec 8)) x23 (-1 : Int) (-1 : Int) (0 : Int)) (⟨none, 0, 0⟩ : Hdr) (⟨none, 0, 0⟩ : Hdr))] : List Rneedlestoreref24_Op) sty_33 rfl rfl rfl (by decide)) ?_
        rintro _ _ ⟨g74, rfl, rfl⟩
        obtain ⟨hu79, hq80⟩ := Rels.apd hq22 hq75 hx76
        refine WL.eff (by decide) (Eff.appendC 116 (xs := rs21) (ys := ([(Rneedlestoreref24_Op.mk (Sneedlestoreref24_Op.mk x38.fClient x38.fOp x38.fKey x38.fCookie ([] : List (BitVec 8)) ([] : List (BitVec 8)) x23 (-1 : Int) (-1 : Int) (0 : Int)) (⟨none, 0, 0⟩ : Hdr) (⟨none, 0, 0⟩ : Hdr))] : List Rneedlestoreref24_Op)) sty_33 rfl rfl rfl (RdH.own (k := 174) rfl) hu79) ?_
        rintro _ _ ⟨A77, c78, rfl, rfl⟩
        refine WL.yld (by decide) (Yld.assign rfl) ?_
        refine WL.done (hK73 _ _ ?_)
        refine QK.blockN ?_
        refine QK.blockN ?_
        refine QK.thenN ?_
        refine hK36 ⟨M14, A77, (rs21 ++ ([(Rneedlestoreref24_Op.mk (Sneedlestoreref24_Op.mk x38.fClient x38.fOp x38.fKey x38.fCookie ([] : List (BitVec 8)) ([] : List (BitVec 8)) x23 (-1 : Int) (-1 : Int) (0 : Int)) (⟨none, 0, 0⟩ : Hdr) (⟨none, 0, 0⟩ : Hdr))] : List Rneedlestoreref24_Op)).length, c78, x76, (rs21 ++ ([(Rneedlestoreref24_Op.mk (Sneedlestoreref24_Op.mk x38.fClient x38.fOp x38.fKey x38.fCookie ([] : List (BitVec 8)) ([] : List (BitVec 8)) x23 (-1 : Int) (-1 : Int) (0 : Int)) (⟨none, 0, 0⟩ : Hdr) (⟨none, 0, 0⟩ : Hdr))] : List Rneedlestoreref24_Op))⟩ _ _ ?_ (Sub.cons rfl (Sub.cons rfl (Sub.cons rfl (Sub.nil _)))) (Sub.cons rfl (Sub.cons rfl (Sub.nil _)))
        exact ⟨h, (Ext.refl _ _), hq80⟩
      ·
       replace h := of_f hc52 h
       refine WC.condFe rfl (Bool.eq_false_iff.2 hc52) ?_
       refine WC.seqRegionCut (σ := Bool) (fun x81 => [(0, .slice A00 n00 c00), (4, .slice A17 n18 c19), (5, I64 x23), (6, .pointer (some ⟨g42, 0, none⟩)), (7, I64 x44), (64, .bool x81)]) (fun x81 => [(0, .mem M14), (116, .own 57 (Lay.sz Rneedlestoreref24_Op) A17 n18 c19 (cel rs21)), (142, .blk g42 50 [I64 x38.fKind, I64 x38.fClient, I64 x38.fOp, U64 x38.fKey, U32 x38.fCookie, .slice r_39_0.A r_39_0.n r_39_0.c, I64 x38.fResult])]) (fun x81 => m_r24_Build_j4 x20 x23 x38 x44 (m_r24_Build_l1 x00 q24) x81 = some res) (fun K82 hK82 => ?_) ?_
       ·
        skip
        by_cases hc84 : x38.fKind = (2 : Int)
        ·
         replace h := of_t hc84 h
         refine WL.yld (by decide) (Yld.fieldAddr Try.underlying50 rfl nz_3 rfl rfl) ?_
         refine WL.yld (by decide) (Yld.loadB (k := 142) scal_3 rfl rfl rfl) ?_
         refine WL.yld (by decide) (Yld.eqlI rfl rfl) ?_
         refine WL.yld (by decide) (Yld.move rfl) ?_
         refine WL.new (v' := .bool true) (congrArg Value.bool (beq_iff_eq.2 hc84)) ?_
         refine WL.yldG (by decide) rfl (Yld.move rfl) ?_
         refine WL.yldG (by decide) rfl (Yld.geq rfl rfl) ?_
         refine WL.yld (by decide) (Yld.pickT rfl rfl) ?_
         refine WL.yld (by decide) (Yld.assign rfl) ?_
         refine WL.done ?_
         refine hK82 (decide ((0 : Int) ≤ x44)) _ _ ?_ (Sub.cons rfl (Sub.cons rfl (Sub.cons rfl (Sub.cons rfl (Sub.cons rfl (Sub.cons rfl (Sub.nil _))))))) (Sub.cons rfl (Sub.cons rfl (Sub.cons rfl (Sub.nil _))))
         exact h
        ·
         replace h := of_f hc84 h
         refine WL.yld (by decide) (Yld.fieldAddr Try.underlying50 rfl nz_3 rfl rfl) ?_
         refine WL.yld (by decide) (Yld.loadB (k := 142) scal_3 rfl rfl rfl) ?_
         refine WL.yld (by decide) (Yld.eqlI rfl rfl) ?_
         refine WL.yld (by decide) (Yld.move rfl) ?_
         refine WL.new (v' := .bool false) (congrArg Value.bool (beq_eq_false_iff_ne.2 hc84)) ?_
         refine WL.skip (by decide) rfl rfl ?_
         refine WL.skip (by decide) rfl rfl ?_
         refine WL.yld (by decide) (Yld.pickF rfl rfl) ?_
         refine WL.yld (by decide) (Yld.assign rfl) ?_
         refine WL.done ?_
         refine hK82 false _ _ ?_ (Sub.cons rfl (Sub.cons rfl (Sub.cons rfl (Sub.cons rfl (Sub.cons rfl (Sub.cons rfl (Sub.nil _))))))) (Sub.cons rfl (Sub.cons rfl (Sub.cons rfl (Sub.nil _))))
         exact h
       ·
        rintro x81 h
        unfold m_r24_Build_j4 at h
        by_cases hc85 : x81 = true
        ·
         replace h := of_t hc85 h
         refine WC.condTe rfl hc85 ?_
         refine WC.seqRegionD (n := 13) [(0, _), (142, _)] rfl mixed (Sub.cons rfl (Sub.cons rfl (Sub.nil _))) fun K86 hK86 => ?_
         obtain ⟨x87, hx87, h⟩ := bnd h
         obtain ⟨x91, hx91, h⟩ := bnd h
         obtain ⟨x92, hx92, h⟩ := bnd h
         obtain ⟨x98, hx98, h⟩ := bnd h
         obtain ⟨x102, hx102, h⟩ := bnd h
         obtain ⟨x103, hx103, h⟩ := bnd h
         refine WD.take 0 rfl (by kernel_rfl) (by kernel_rfl) (by kernel_rfl) (by decide) (Yld.move rfl) ?_
         refine WD.take 1 rfl (by kernel_rfl) (by kernel_rfl) (by kernel_rfl) (by decide) (Yld.move rfl) ?_
         refine WD.take 2 rfl (by kernel_rfl) (by kernel_rfl) (by kernel_rfl) (by decide) (Yld.move rfl) ?_
         refine WD.take 3 rfl (by kernel_rfl) (by kernel_rfl) (by kernel_rfl) (by decide) (Yld.move rfl) ?_
         refine WD.take 4 rfl (by kernel_rfl) (by kernel_rfl) (by kernel_rfl) (by decide) (Yld.move rfl) ?_
         refine WD.take 5 rfl (by kernel_rfl) (by kernel_rfl) (by kernel_rfl) (by decide) (Yld.fieldAddr Try.underlying50 rfl nz_28 rfl rfl) ?_
         refine WD.take 6 rfl (by kernel_rfl) (by kernel_rfl) (by kernel_rfl) (by decide) (Yld.loadB (k := 142) scal_28 rfl rfl rfl) ?_
         refine WD.one 7 (by kernel_rfl) ?_
         obtain ⟨⟨_, r_88_0, r_88_1⟩, hr89, rfl, hq90_0, hq90_1⟩ := Rels.idx hq22 hx87
         refine WS.yld rfl (by decide) (Yld.idxC (xs := rs21) sty_33 rfl rfl (RdH.own (k := 116) rfl) hr89) ?_
         refine WD.take 8 rfl (by kernel_rfl) (by kernel_rfl) (by kernel_rfl) (by decide) (Yld.fieldAddrC Try.underlying57 rfl nz_3 rfl rfl) ?_
         refine WD.one 9 (by kernel_rfl) ?_
         obtain ⟨⟨_, r_93_0, r_93_1⟩, hr94, rfl, hq95_0, hq95_1⟩ := Rels.idx hq22 hx91
         obtain ⟨hu96, hq97⟩ := Rels.upd (r := (Rneedlestoreref24_Op.mk ({ x91 with fReturn := x23 } : Sneedlestoreref24_Op) r_93_0 r_93_1)) hq22 hx92 ⟨rfl, hq95_0, hq95_1⟩
         refine WS.eff0 rfl (Eff0.storeC 116 (xs := rs21) (j := 7) (a := (Rneedlestoreref24_Op.mk x91 r_93_0 r_93_1)) (a' := (Rneedlestoreref24_Op.mk ({ x91 with fReturn := x23 } : Sneedlestoreref24_Op) r_93_0 r_93_1)) siz_3 rfl rfl rfl rfl hr94 rfl rfl hu96) (Sub.cons rfl (Sub.cons rfl (Sub.nil _))) ?_
         refine WD.one 10 (by kernel_rfl) ?_
         obtain ⟨⟨_, r_99_0, r_99_1⟩, hr100, rfl, hq101_0, hq101_1⟩ := Rels.idx hq97 hx98
         refine WS.yld rfl (by decide) (Yld.idxC (xs := (rs21.set (x44).toNat (Rneedlestoreref24_Op.mk ({ x91 with fReturn := x23 } : Sneedlestoreref24_Op) r_93_0 r_93_1))) sty_33 rfl rfl (RdH.own (k := 116) rfl) hr100) ?_
         refine WD.take 11 rfl (by kernel_rfl) (by kernel_rfl) (by kernel_rfl) (by decide) (Yld.fieldAddrC Try.underlying57 rfl nz_28 rfl rfl) ?_
         refine WD.one 12 (by kernel_rfl) ?_
         obtain ⟨⟨_, r_104_0, r_104_1⟩, hr105, rfl, hq106_0, hq106_1⟩ := Rels.idx hq97 hx102
         obtain ⟨hu107, hq108⟩ := Rels.upd (r := (Rneedlestoreref24_Op.mk ({ x102 with fResult := x38.fResult } : Sneedlestoreref24_Op) r_104_0 r_104_1)) hq97 hx103 ⟨rfl, hq106_0, hq106_1⟩
         refine WS.eff0 rfl (Eff0.storeC 116 (xs := (rs21.set (x44).toNat (Rneedlestoreref24_Op.mk ({ x91 with fReturn := x23 } : Sneedlestoreref24_Op) r_93_0 r_93_1))) (j := 9) (a := (Rneedlestoreref24_Op.mk x102 r_104_0 r_104_1)) (a' := (Rneedlestoreref24_Op.mk ({ x102 with fResult := x38.fResult } : Sneedlestoreref24_Op) r_104_0 r_104_1)) siz_28 rfl rfl rfl rfl hr105 rfl rfl hu107) (Sub.cons rfl (Sub.cons rfl (Sub.nil _))) ?_
         refine WD.done (by kernel_rfl) (hK86 _ _ ?_)
         refine WC.seqRegion fun K109 hK109 => ?_
         obtain ⟨x110, hx110, h⟩ := bnd h
         by_cases hc114 : x110.fKind = (3 : Int)
         ·
          replace h := of_t hc114 h
          refine WL.yld (by decide) (Yld.move rfl) ?_
          refine WL.yld (by decide) (Yld.move rfl) ?_
          obtain ⟨⟨_, r_111_0, r_111_1⟩, hr112, rfl, hq113_0, hq113_1⟩ := Rels.idx hq108 hx110
          refine WL.yld (by decide) (Yld.idxC (xs := ((rs21.set (x44).toNat (Rneedlestoreref24_Op.mk ({ x91 with fReturn := x23 } : Sneedlestoreref24_Op) r_93_0 r_93_1)).set (x44).toNat (Rneedlestoreref24_Op.mk ({ x102 with fResult := x38.fResult } : Sneedlestoreref24_Op) r_104_0 r_104_1))) sty_33 rfl rfl (RdH.own (k := 116) rfl) hr112) ?_
          refine WL.yld (by decide) (Yld.fieldAddrC Try.underlying57 rfl nz_3 rfl rfl) ?_
          refine WL.yld (by decide) (Yld.loadC (xs := ((rs21.set (x44).toNat (Rneedlestoreref24_Op.mk ({ x91 with fReturn := x23 } : Sneedlestoreref24_Op) r_93_0 r_93_1)).set (x44).toNat (Rneedlestoreref24_Op.mk ({ x102 with fResult := x38.fResult } : Sneedlestoreref24_Op) r_104_0 r_104_1))) (j := 1) scal_3 rfl (RdH.own (k := 116) rfl) hr112 rfl rfl) ?_
          refine WL.yld (by decide) (Yld.eqlI rfl rfl) ?_
          refine WL.yld (by decide) (Yld.move rfl) ?_
          refine WL.new (v' := .bool true) (congrArg Value.bool (beq_iff_eq.2 hc114)) ?_
          refine WL.yldG (by decide) rfl (Yld.fieldAddr Try.underlying50 rfl nz_28 rfl rfl) ?_
          refine WL.yldG (by decide) rfl (Yld.loadB (k := 142) scal_28 rfl rfl rfl) ?_
          refine WL.yldG (by decide) rfl (Yld.eqlI rfl rfl) ?_
          refine WL.yld (by decide) (Yld.pickT rfl rfl) ?_
          refine WL.done (hK109 _ _ ?_)
          by_cases hc115 : x38.fResult = (0 : Int)
          ·
           replace h := of_t hc115 h
           refine WC.condTe rfl (beq_iff_eq.2 hc115) ?_
           refine WC.region fun K116 hK116 => ?_
           obtain ⟨x118, hx118, h⟩ := bnd h
           obtain ⟨x121, hx121, h⟩ := bnd h
           obtain ⟨x125, hx125, h⟩ := bnd h
           obtain ⟨x126, hx126, h⟩ := bnd h
           refine WL.yld (by decide) (Yld.move rfl) ?_
           refine WL.yld (by decide) (Yld.move rfl) ?_
           refine WL.eff (by decide) (Eff.buildC 217 ([] : List (BitVec 8)) sty_40 rfl rfl rfl rfl rfl (by decide)) ?_
           rintro _ _ ⟨g117, rfl, rfl⟩
           refine WL.yld (by decide) (Yld.fieldAddr Try.underlying50 rfl nz_40 rfl rfl) ?_
           refine WL.yld (by decide) (Yld.loadB (k := 142) scal_40 rfl rfl rfl) ?_
           refine WL.eff (by decide) (Eff.appendC 217 (xs := ([] : List (BitVec 8))) (ys := x38.fData) sty_40 rfl rfl rfl (RdH.memM (k := 0) rfl hq41_0) hx118) ?_
           rintro _ _ ⟨A119, c120, rfl, rfl⟩
           obtain ⟨⟨_, r_122_0, r_122_1⟩, hr123, rfl, hq124_0, hq124_1⟩ := Rels.idx hq108 hx121
           refine WL.yld (by decide) (Yld.idxC (xs := ((rs21.set (x44).toNat (Rneedlestoreref24_Op.mk ({ x91 with fReturn := x23 } : Sneedlestoreref24_Op) r_93_0 r_93_1)).set (x44).toNat (Rneedlestoreref24_Op.mk ({ x102 with fResult := x38.fResult } : Sneedlestoreref24_Op) r_104_0 r_104_1))) sty_33 rfl rfl (RdH.own (k := 116) rfl) hr123) ?_
           refine WL.yld (by decide) (Yld.fieldAddrC Try.underlying57 rfl nz_40 rfl rfl) ?_
           refine WL.freeze 217 rfl rfl rfl fun M127 hm_M127 hf128 => ?_
           obtain ⟨⟨_, r_129_0, r_129_1⟩, hr130, rfl, hq131_0, hq131_1⟩ := Rels.idx (Rels.lift hq108 hm_M127) hx125
           obtain ⟨hu132, hq133⟩ := Rels.upd (r := (Rneedlestoreref24_Op.mk ({ x125 with fGot := x118 } : Sneedlestoreref24_Op) r_129_0 (⟨A119, x118.length, c120⟩ : Hdr))) (Rels.lift hq108 hm_M127) hx126 ⟨rfl, hq131_0, hf128⟩
           refine WL.eff0 (Eff0.storeC 116 (xs := ((rs21.set (x44).toNat (Rneedlestoreref24_Op.mk ({ x91 with fReturn := x23 } : Sneedlestoreref24_Op) r_93_0 r_93_1)).set (x44).toNat (Rneedlestoreref24_Op.mk ({ x102 with fResult := x38.fResult } : Sneedlestoreref24_Op) r_104_0 r_104_1))) (j := 5) (a := (Rneedlestoreref24_Op.mk x125 r_129_0 r_129_1)) (a' := (Rneedlestoreref24_Op.mk ({ x125 with fGot := x118 } : Sneedlestoreref24_Op) r_129_0 (⟨A119, x118.length, c120⟩ : Hdr))) siz_40 rfl rfl rfl rfl hr130 rfl rfl hu132) ?_
           refine WL.done (hK116 _ _ ?_)
           refine QK.blockN ?_
           refine QK.blockN ?_
           refine QK.thenN ?_
           refine hK36 ⟨M127, A17, n18, c19, x126, (((rs21.set (x44).toNat (Rneedlestoreref24_Op.mk ({ x91 with fReturn := x23 } : Sneedlestoreref24_Op) r_93_0 r_93_1)).set (x44).toNat (Rneedlestoreref24_Op.mk ({ x102 with fResult := x38.fResult } : Sneedlestoreref24_Op) r_104_0 r_104_1)).set (x44).toNat (Rneedlestoreref24_Op.mk ({ x125 with fGot := x118 } : Sneedlestoreref24_Op) r_129_0 (⟨A119, x118.length, c120⟩ : Hdr)))⟩ _ _ ?_ (Sub.cons rfl (Sub.cons rfl (Sub.cons rfl (Sub.nil _)))) (Sub.cons rfl (Sub.cons rfl (Sub.nil _)))
           exact ⟨h, hm_M127, hq133⟩
          ·
           replace h := of_f hc115 h
           refine WC.condFe rfl (beq_eq_false_iff_ne.2 hc115) ?_
           refine WC.skip ?_
           refine QK.blockN ?_
           refine QK.blockN ?_
           refine QK.thenN ?_
           refine hK36 ⟨M14, A17, n18, c19, x103, ((rs21.set (x44).toNat (Rneedlestoreref24_Op.mk ({ x91 with fReturn := x23 } : Sneedlestoreref24_Op) r_93_0 r_93_1)).set (x44).toNat (Rneedlestoreref24_Op.mk ({ x102 with fResult := x38.fResult } : Sneedlestoreref24_Op) r_104_0 r_104_1))⟩ _ _ ?_ (Sub.cons rfl (Sub.cons rfl (Sub.cons rfl (Sub.nil _)))) (Sub.cons rfl (Sub.cons rfl (Sub.nil _)))
           exact ⟨h, (Ext.refl _ _), hq108⟩
         ·
          replace h := of_f hc114 h
          refine WL.yld (by decide) (Yld.move rfl) ?_
          refine WL.yld (by decide) (Yld.move rfl) ?_
          obtain ⟨⟨_, r_111_0, r_111_1⟩, hr112, rfl, hq113_0, hq113_1⟩ := Rels.idx hq108 hx110
          refine WL.yld (by decide) (Yld.idxC (xs := ((rs21.set (x44).toNat (Rneedlestoreref24_Op.mk ({ x91 with fReturn := x23 } : Sneedlestoreref24_Op) r_93_0 r_93_1)).set (x44).toNat (Rneedlestoreref24_Op.mk ({ x102 with fResult := x38.fResult } : Sneedlestoreref24_Op) r_104_0 r_104_1))) sty_33 rfl rfl (RdH.own (k := 116) rfl) hr112) ?_
          refine WL.yld (by decide) (Yld.fieldAddrC Try.underlying57 rfl nz_3 rfl rfl) ?_
          refine WL.yld (by decide) (Yld.loadC (xs := ((rs21.set (x44).toNat (Rneedlestoreref24_Op.mk ({ x91 with fReturn := x23 } : Sneedlestoreref24_Op) r_93_0 r_93_1)).set (x44).toNat (Rneedlestoreref24_Op.mk ({ x102 with fResult := x38.fResult } : Sneedlestoreref24_Op) r_104_0 r_104_1))) (j := 1) scal_3 rfl (RdH.own (k := 116) rfl) hr112 rfl rfl) ?_
          refine WL.yld (by decide) (Yld.eqlI rfl rfl) ?_
          refine WL.yld (by decide) (Yld.move rfl) ?_
          refine WL.new (v' := .bool false) (congrArg Value.bool (beq_eq_false_iff_ne.2 hc114)) ?_
          refine WL.skip (by decide) rfl rfl ?_
          refine WL.skip (by decide) rfl rfl ?_
          refine WL.skip (by decide) rfl rfl ?_
          refine WL.yld (by decide) (Yld.pickF rfl rfl) ?_
          refine WL.done (hK109 _ _ ?_)
          refine WC.condF rfl ?_
          refine WC.skip ?_
          refine QK.blockN ?_
          refine QK.blockN ?_
          refine QK.thenN ?_
          refine hK36 ⟨M14, A17, n18, c19, x103, ((rs21.set (x44).toNat (Rneedlestoreref24_Op.mk ({ x91 with fReturn := x23 } : Sneedlestoreref24_Op) r_93_0 r_93_1)).set (x44).toNat (Rneedlestoreref24_Op.mk ({ x102 with fResult := x38.fResult } : Sneedlestoreref24_Op) r_104_0 r_104_1))⟩ _ _ ?_ (Sub.cons rfl (Sub.cons rfl (Sub.cons rfl (Sub.nil _)))) (Sub.cons rfl (Sub.cons rfl (Sub.nil _)))
          exact ⟨h, (Ext.refl _ _), hq108⟩
        ·
         replace h := of_f hc85 h
         refine WC.condFe rfl (Bool.eq_false_iff.2 hc85) ?_
         refine WC.seqRegion fun K134 hK134 => ?_
         refine WL.yld (by decide) (Yld.fieldAddr Try.underlying50 rfl nz_3 rfl rfl) ?_
         refine WL.yld (by decide) (Yld.loadB (k := 142) scal_3 rfl rfl rfl) ?_
         refine WL.yld (by decide) (Yld.eqlI rfl rfl) ?_
         refine WL.yld (by decide) (Yld.assign rfl) ?_
         refine WL.done (hK134 _ _ ?_)
         by_cases hc135 : x38.fKind = (3 : Int)
         ·
          replace h := of_t hc135 h
          refine WC.condTe rfl (beq_iff_eq.2 hc135) ?_
          refine WC.seqRegion fun K136 hK136 => ?_
          refine WL.yld (by decide) (Yld.assign rfl) ?_
          refine WL.done (hK136 _ _ ?_)
          refine WC.block ?_
          refine WC.loop (σ := Nat × (List (Sneedlestoreref24_Op)) × (List Rneedlestoreref24_Op) × Int) (fun ⟨q141, x137, rs138, x140⟩ => [(0, .slice A00 n00 c00), (4, .slice A17 n18 c19), (5, I64 x23), (9, I64 x140)]) (fun ⟨q141, x137, rs138, x140⟩ => [(0, .mem M14), (116, .own 57 (Lay.sz Rneedlestoreref24_Op) A17 n18 c19 (cel rs138))]) (fun ⟨q141, x137, rs138, x140⟩ => m_r24_Build_l5 x23 (m_r24_Build_l1 x00 q24) q141 x137 x140 = some res ∧ Rels (rel_needlestoreref24_Op M14) rs138 x137) (fun ⟨q141, x137, rs138, x140⟩ => q141) ⟨forever, x20, rs21, (0 : Int)⟩ ?_ (Sub.cons rfl (Sub.cons rfl (Sub.cons rfl (Sub.cons rfl (Sub.nil _))))) (Sub.cons rfl (Sub.cons rfl (Sub.nil _))) ?_
          ·
           exact ⟨h, hq22⟩
          rintro ⟨q141, x137, rs138, x140⟩ ⟨h, hq139⟩ K142 hK142
          cases q141 with
          | zero => exact absurd h (by simp [m_r24_Build_l5])
          | succ q141 =>
           unfold m_r24_Build_l5 at h
           refine WC.seq fun K143 hK143 => ?_
           refine WC.seqRegion fun K144 hK144 => ?_
           refine WL.yld (by decide) (Yld.move rfl) ?_
           refine WL.yld (by decide) (Yld.move rfl) ?_
           refine WL.yld (by decide) (Yld.lenD (rs := rs138) (xs := x137) (Rels.len hq139) und_33 rfl (RdH.own (k := 116) rfl)) ?_
           refine WL.yld (by decide) (Yld.lss rfl rfl) ?_
           refine WL.done (hK144 _ _ ?_)
           by_cases hc145 : x140 < (x137.length : Int)
           ·
            replace h := of_t hc145 h
            refine WC.condTe rfl (decide_eq_true hc145) ?_
            refine WC.skip ?_
            refine QK.thenN (hK143 _ _ ?_)
            refine WC.seq fun K146 hK146 => ?_
            refine WC.block ?_
            refine WC.seqRegion fun K147 hK147 => ?_
            obtain ⟨x148, hx148, h⟩ := bnd h
            by_cases hc152 : x148.fReturn = (-1 : Int)
            ·
             replace h := of_t hc152 h
             obtain ⟨x153, hx153, h⟩ := bnd h
             refine WL.yld (by decide) (Yld.move rfl) ?_
             refine WL.yld (by decide) (Yld.move rfl) ?_
             obtain ⟨⟨_, r_149_0, r_149_1⟩, hr150, rfl, hq151_0, hq151_1⟩ := Rels.idx hq139 hx148
             refine WL.yld (by decide) (Yld.idxC (xs := rs138) sty_33 rfl rfl (RdH.own (k := 116) rfl) hr150) ?_
             refine WL.yld (by decide) (Yld.fieldAddrC Try.underlying57 rfl nz_3 rfl rfl) ?_
             refine WL.yld (by decide) (Yld.loadC (xs := rs138) (j := 7) scal_3 rfl (RdH.own (k := 116) rfl) hr150 rfl rfl) ?_
             refine WL.yld (by decide) (Yld.eqlI rfl rfl) ?_
             refine WL.yld (by decide) (Yld.move rfl) ?_
             refine WL.new (v' := .bool true) (congrArg Value.bool (beq_iff_eq.2 hc152)) ?_
             refine WL.yldG (by decide) rfl (Yld.move rfl) ?_
             refine WL.yldG (by decide) rfl (Yld.move rfl) ?_
             obtain ⟨⟨_, r_154_0, r_154_1⟩, hr155, rfl, hq156_0, hq156_1⟩ := Rels.idx hq139 hx153
             refine WL.yldG (by decide) rfl (Yld.idxC (xs := rs138) sty_33 rfl rfl (RdH.own (k := 116) rfl) hr155) ?_
             refine WL.yldG (by decide) rfl (Yld.fieldAddrC Try.underlying57 rfl nz_3 rfl rfl) ?_
             refine WL.yldG (by decide) rfl (Yld.loadC (xs := rs138) (j := 8) scal_3 rfl (RdH.own (k := 116) rfl) hr155 rfl rfl) ?_
             refine WL.yldG (by decide) rfl (Yld.eqlI rfl rfl) ?_
             refine WL.yld (by decide) (Yld.pickT rfl rfl) ?_
             refine WL.done (hK147 _ _ ?_)
             by_cases hc157 : x153.fClosed = (-1 : Int)
             ·
              replace h := of_t hc157 h
              refine WC.condTe rfl (beq_iff_eq.2 hc157) ?_
              refine WC.region fun K158 hK158 => ?_
              obtain ⟨x159, hx159, h⟩ := bnd h
              obtain ⟨x163, hx163, h⟩ := bnd h
              obtain ⟨x164, hx164, h⟩ := bnd h
              refine WL.yld (by decide) (Yld.move rfl) ?_
              refine WL.yld (by decide) (Yld.move rfl) ?_
              refine WL.yld (by decide) (Yld.move rfl) ?_
              obtain ⟨⟨_, r_160_0, r_160_1⟩, hr161, rfl, hq162_0, hq162_1⟩ := Rels.idx hq139 hx159
              refine WL.yld (by decide) (Yld.idxC (xs := rs138) sty_33 rfl rfl (RdH.own (k := 116) rfl) hr161) ?_
              refine WL.yld (by decide) (Yld.fieldAddrC Try.underlying57 rfl nz_3 rfl rfl) ?_
              obtain ⟨⟨_, r_165_0, r_165_1⟩, hr166, rfl, hq167_0, hq167_1⟩ := Rels.idx hq139 hx163
              obtain ⟨hu168, hq169⟩ := Rels.upd (r := (Rneedlestoreref24_Op.mk ({ x163 with fClosed := x23 } : Sneedlestoreref24_Op) r_165_0 r_165_1)) hq139 hx164 ⟨rfl, hq167_0, hq167_1⟩
              refine WL.eff0 (Eff0.storeC 116 (xs := rs138) (j := 8) (a := (Rneedlestoreref24_Op.mk x163 r_165_0 r_165_1)) (a' := (Rneedlestoreref24_Op.mk ({ x163 with fClosed := x23 } : Sneedlestoreref24_Op) r_165_0 r_165_1)) siz_3 rfl rfl rfl rfl hr166 rfl rfl hu168) ?_
              refine WL.done (hK158 _ _ ?_)
              refine QK.blockN ?_
              refine QK.thenN (hK146 _ _ ?_)
              refine WC.region fun K170 hK170 => ?_
              obtain ⟨x171, hx171, h⟩ := bnd h
              refine WL.yld (by decide) (Yld.move rfl) ?_
              refine WL.yld (by decide) (Yld.addC rfl rfl hx171) ?_
              refine WL.yld (by decide) (Yld.assign rfl) ?_
              refine WL.done (hK170 _ _ ?_)
              refine QK.thenN ?_
              refine hK142 ⟨q141, x164, (rs138.set (x140).toNat (Rneedlestoreref24_Op.mk ({ x163 with fClosed := x23 } : Sneedlestoreref24_Op) r_165_0 r_165_1)), x171⟩ _ _ ?_ (Nat.lt_succ_self _) (Sub.cons rfl (Sub.cons rfl (Sub.cons rfl (Sub.cons rfl (Sub.nil _))))) (Sub.cons rfl (Sub.cons rfl (Sub.nil _)))
              exact ⟨h, hq169⟩
             ·
              replace h := of_f hc157 h
              refine WC.condFe rfl (beq_eq_false_iff_ne.2 hc157) ?_
              refine WC.skip ?_
              refine QK.blockN ?_
              refine QK.thenN (hK146 _ _ ?_)
              refine WC.region fun K172 hK172 => ?_
              obtain ⟨x173, hx173, h⟩ := bnd h
              refine WL.yld (by decide) (Yld.move rfl) ?_
              refine WL.yld (by decide) (Yld.addC rfl rfl hx173) ?_
              refine WL.yld (by decide) (Yld.assign rfl) ?_
              refine WL.done (hK172 _ _ ?_)
              refine QK.thenN ?_
              refine hK142 ⟨q141, x137, rs138, x173⟩ _ _ ?_ (Nat.lt_succ_self _) (Sub.cons rfl (Sub.cons rfl (Sub.cons rfl (Sub.cons rfl (Sub.nil _))))) (Sub.cons rfl (Sub.cons rfl (Sub.nil _)))
              exact ⟨h, hq139⟩
            ·
             replace h := of_f hc152 h
             refine WL.yld (by decide) (Yld.move rfl) ?_
             refine WL.yld (by decide) (Yld.move rfl) ?_
             obtain ⟨⟨_, r_149_0, r_149_1⟩, hr150, rfl, hq151_0, hq151_1⟩ := Rels.idx hq139 hx148
             refine WL.yld (by decide) (Yld.idxC (xs := rs138) sty_33 rfl rfl (RdH.own (k := 116) rfl) hr150) ?_
             refine WL.yld (by decide) (Yld.fieldAddrC Try.underlying57 rfl nz_3 rfl rfl) ?_
             refine WL.yld (by decide) (Yld.loadC (xs := rs138) (j := 7) scal_3 rfl (RdH.own (k := 116) rfl) hr150 rfl rfl) ?_
             refine WL.yld (by decide) (Yld.eqlI rfl rfl) ?_
             refine WL.yld (by decide) (Yld.move rfl) ?_
             refine WL.new (v' := .bool false) (congrArg Value.bool (beq_eq_false_iff_ne.2 hc152)) ?_
             refine WL.skip (by decide) rfl rfl ?_
             refine WL.skip (by decide) rfl rfl ?_
             refine WL.skip (by decide) rfl rfl ?_
             refine WL.skip (by decide) rfl rfl ?_
             refine WL.skip (by decide) rfl rfl ?_
             refine WL.skip (by decide) rfl rfl ?_
             refine WL.yld (by decide) (Yld.pickF rfl rfl) ?_
             refine WL.done (hK147 _ _ ?_)
             refine WC.condF rfl ?_
             refine WC.skip ?_
             refine QK.blockN ?_
             refine QK.thenN (hK146 _ _ ?_)
             refine WC.region fun K174 hK174 => ?_
             obtain ⟨x175, hx175, h⟩ := bnd h
             refine WL.yld (by decide) (Yld.move rfl) ?_
             refine WL.yld (by decide) (Yld.addC rfl rfl hx175) ?_
             refine WL.yld (by decide) (Yld.assign rfl) ?_
             refine WL.done (hK174 _ _ ?_)
             refine QK.thenN ?_
             refine hK142 ⟨q141, x137, rs138, x175⟩ _ _ ?_ (Nat.lt_succ_self _) (Sub.cons rfl (Sub.cons rfl (Sub.cons rfl (Sub.cons rfl (Sub.nil _))))) (Sub.cons rfl (Sub.cons rfl (Sub.nil _)))
             exact ⟨h, hq139⟩
           ·
            replace h := of_f hc145 h
            refine WC.condFe rfl (decide_eq_false hc145) ?_
            refine WC.exit (QK.thenE (QK.thenE (QK.blockX ?_)))
            refine QK.blockN ?_
            refine QK.blockN ?_
            refine QK.thenN ?_
            refine hK36 ⟨M14, A17, n18, c19, x137, rs138⟩ _ _ ?_ (Sub.cons rfl (Sub.cons rfl (Sub.cons rfl (Sub.nil _)))) (Sub.cons rfl (Sub.cons rfl (Sub.nil _)))
            exact ⟨h, (Ext.refl _ _), hq139⟩
         ·
          replace h := of_f hc135 h
          refine WC.condFe rfl (beq_eq_false_iff_ne.2 hc135) ?_
          refine WC.seqRegion fun K176 hK176 => ?_
          refine WL.yld (by decide) (Yld.assign rfl) ?_
          refine WL.yld (by decide) (Yld.assign rfl) ?_
          refine WL.done (hK176 _ _ ?_)
          refine WC.ret (QK.blockR (QK.blockR (QK.thenR (QK.thenR (QK.blockR (QK.thenR ?_))))))
          refine QK.nilOwn 277 57 (Lay.sz Rneedlestoreref24_Op) none ?_
          injection h with h; subst h
          exact Ret.fn [277] (ResIs.two rfl rfl rfl) rfl hm_M14 rfl (by decide) rfl rfl ⟨none, 0, 0, ([] : List Rneedlestoreref24_Op), rfl, rfl, (Rels.nil (R := rel_needlestoreref24_Op M14))⟩
    ·
     rintro ⟨M29, A30, n31, c32, x33, rs34⟩ ⟨h, hm_M29, hq35⟩
     unfold m_r24_Build_j2 at h
     refine WC.region fun K178 hK178 => ?_
     obtain ⟨x179, hx179, h⟩ := bnd h
     refine WL.yld (by decide) (Yld.move rfl) ?_
     refine WL.yld (by decide) (Yld.addC rfl rfl hx179) ?_
     refine WL.yld (by decide) (Yld.assign rfl) ?_
     refine WL.done (hK178 _ _ ?_)
     refine QK.thenN ?_
     refine hK25 ⟨q24, M29, A30, n31, c32, x33, rs34, x179⟩ _ _ ?_ (Nat.lt_succ_self _) (Sub.cons rfl (Sub.cons rfl (Sub.cons rfl (Sub.nil _)))) (Sub.cons rfl (Sub.cons rfl (Sub.nil _)))
     exact ⟨h, (Ext.trans hm_M14 hm_M29), hq35⟩
   ·
    replace h := of_f hc28 h
    refine WC.condFe rfl (decide_eq_false hc28) ?_
    refine WC.exit (QK.thenE (QK.thenE (QK.blockX ?_)))
    refine QK.thenN ?_
    refine KK.move 116 105 rfl rfl ?_
    refine hK12 ⟨M14, A17, n18, c19, x20, rs21⟩ _ _ ?_ (Sub.cons rfl (Sub.nil _)) (Sub.cons rfl (Sub.cons rfl (Sub.nil _)))
    exact ⟨h, hm_M14, hq22⟩
 ·
  rintro ⟨M3, A6, n7, c8, x9, rs10⟩ ⟨h, hm_M3, hq11⟩
  unfold m_r24_Build_j0 at h
  refine WC.seqRegion fun K180 hK180 => ?_
  refine WL.yld (by decide) (Yld.move rfl) ?_
  refine WL.yld (by decide) (Yld.assign rfl) ?_
  refine WL.yld (by decide) (Yld.assign rfl) ?_
  refine WL.done (hK180 _ _ ?_)
  refine WC.ret ?_
  injection h with h; subst h
  exact Ret.fn [105] (ResIs.two rfl rfl rfl) rfl hm_M3 rfl (by decide) rfl rfl ⟨A6, n7, c8, rs10, rfl, rfl, hq11⟩

set_option maxRecDepth 10000 in
theorem w_r24_SameOp (M0 : Mem) (x00_0 : Int) (x00_1 : Int) (x00_2 : BitVec 64) (x00_3 : BitVec 32) (A00_4 : Option Addr) (n00_4 c00_4 : Nat) (x00_4 : List (BitVec 8)) (hf00_4 : SlT M0 A00_4 n00_4 c00_4 x00_4) (A00_5 : Option Addr) (n00_5 c00_5 : Nat) (x00_5 : List (BitVec 8)) (hf00_5 : SlT M0 A00_5 n00_5 c00_5 x00_5) (x00_6 : Int) (x00_7 : Int) (x00_8 : Int) (x00_9 : Int) (x01_0 : Int) (x01_1 : Int) (x01_2 : BitVec 64) (x01_3 : BitVec 32) (A01_4 : Option Addr) (n01_4 c01_4 : Nat) (x01_4 : List (BitVec 8)) (hf01_4 : SlT M0 A01_4 n01_4 c01_4 x01_4) (A01_5 : Option Addr) (n01_5 c01_5 : Nat) (x01_5 : List (BitVec 8)) (hf01_5 : SlT M0 A01_5 n01_5 c01_5 x01_5) (x01_6 : Int) (x01_7 : Int) (x01_8 : Int) (x01_9 : Int) {res : Bool} (h : m_r24_SameOp x00_0 x00_1 x00_2 x00_3 x00_4 x00_5 x00_6 x00_7 x00_8 x00_9 x01_0 x01_1 x01_2 x01_3 x01_4 x01_5 x01_6 x01_7 x01_8 x01_9 = some res) :
  Fn Try.prog 24 #[.agg ([I64 x00_0, I64 x00_1, U64 x00_2, U32 x00_3, .slice A00_4 n00_4 c00_4, .slice A00_5 n00_5 c00_5, I64 x00_6, I64 x00_7, I64 x00_8, I64 x00_9] : List Value).toArray, .agg ([I64 x01_0, I64 x01_1, U64 x01_2, U32 x01_3, .slice A01_4 n01_4 c01_4, .slice A01_5 n01_5 c01_5, I64 x01_6, I64 x01_7, I64 x01_8, I64 x01_9] : List Value).toArray] M0 fun r M' es => r = .bool res ∧ es = [] := by
 refine Fn.intro (N := 77) Try.func24 rfl rfl (Nat.le_of_ble_eq_true rfl) fun w0 => ?_
 unfold m_r24_SameOp at h
 refine WC.seqRegion fun K1 hK1 => ?_
 refine WL.eff (by decide) (Eff.box 102 (us := [I64 x00_0, I64 x00_1, U64 x00_2, U32 x00_3, .slice A00_4 n00_4 c00_4, .slice A00_5 n00_5 c00_5, I64 x00_6, I64 x00_7, I64 x00_8, I64 x00_9]) rfl rfl rfl) ?_
 rintro _ _ ⟨g2, rfl, rfl⟩
 refine WL.eff (by decide) (Eff.box 103 (us := [I64 x01_0, I64 x01_1, U64 x01_2, U32 x01_3, .slice A01_4 n01_4 c01_4, .slice A01_5 n01_5 c01_5, I64 x01_6, I64 x01_7, I64 x01_8, I64 x01_9]) rfl rfl rfl) ?_
 rintro _ _ ⟨g3, rfl, rfl⟩
 refine WL.yld (by decide) (Yld.assign rfl) ?_
 refine WL.done (hK1 _ _ ?_)
 refine WC.seqRegion fun K4 hK4 => ?_
 by_cases hc5 : x00_0 = x01_0
 ·
  replace h := of_t hc5 h
  by_cases hc6 : x00_1 = x01_1
  ·
   replace h := of_t hc6 h
   by_cases hc7 : x00_2 = x01_2
   ·
    replace h := of_t hc7 h
    by_cases hc8 : x00_3 = x01_3
    ·
     replace h := of_t hc8 h
     by_cases hc9 : x00_4 = x01_4
     ·
      replace h := of_t hc9 h
      by_cases hc10 : x00_5 = x01_5
      ·
       replace h := of_t hc10 h
       by_cases hc11 : x00_6 = x01_6
       ·
        replace h := of_t hc11 h
        by_cases hc12 : x00_7 = x01_7
        ·
         replace h := of_t hc12 h
         by_cases hc13 : x00_8 = x01_8
         ·
          replace h := of_t hc13 h
          refine WL.yld (by decide) (Yld.fieldAddr Try.underlying57 rfl nz_3 rfl rfl) ?_
          refine WL.yld (by decide) (Yld.loadB (k := 102) scal_3 rfl rfl rfl) ?_
          refine WL.yld (by decide) (Yld.fieldAddr Try.underlying57 rfl nz_3 rfl rfl) ?_
          refine WL.yld (by decide) (Yld.loadB (k := 103) scal_3 rfl rfl rfl) ?_
          refine WL.yld (by decide) (Yld.eqlI rfl rfl) ?_
          refine WL.yld (by decide) (Yld.move rfl) ?_
          refine WL.new (v' := .bool true) (congrArg Value.bool (beq_iff_eq.2 hc5)) ?_
          refine WL.yldG (by decide) rfl (Yld.fieldAddr Try.underlying57 rfl nz_3 rfl rfl) ?_
          refine WL.yldG (by decide) rfl (Yld.loadB (k := 102) scal_3 rfl rfl rfl) ?_
          refine WL.yldG (by decide) rfl (Yld.fieldAddr Try.underlying57 rfl nz_3 rfl rfl) ?_
          refine WL.yldG (by decide) rfl (Yld.loadB (k := 103) scal_3 rfl rfl rfl) ?_
          refine WL.yldG (by decide) rfl (Yld.eqlI rfl rfl) ?_
          refine WL.yld (by decide) (Yld.pickT rfl rfl) ?_
          refine WL.yld (by decide) (Yld.move rfl) ?_
          refine WL.new (v' := .bool true) (congrArg Value.bool (beq_iff_eq.2 hc6)) ?_
          refine WL.yldG (by decide) rfl (Yld.fieldAddr Try.underlying57 rfl nz_38 rfl rfl) ?_
          refine WL.yldG (by decide) rfl (Yld.loadB (k := 102) scal_38 rfl rfl rfl) ?_
          refine WL.yldG (by decide) rfl (Yld.fieldAddr Try.underlying57 rfl nz_38 rfl rfl) ?_
          refine WL.yldG (by decide) rfl (Yld.loadB (k := 103) scal_38 rfl rfl rfl) ?_
          refine WL.yldG (by decide) rfl (Yld.eql_u64 (a := x00_2) (b := x01_2) rfl rfl) ?_
          refine WL.yld (by decide) (Yld.pickT rfl rfl) ?_
          refine WL.yld (by decide) (Yld.move rfl) ?_
          refine WL.new (v' := .bool true) (congrArg Value.bool (beq_iff_eq.2 hc7)) ?_
          refine WL.yldG (by decide) rfl (Yld.fieldAddr Try.underlying57 rfl nz_39 rfl rfl) ?_
          refine WL.yldG (by decide) rfl (Yld.loadB (k := 102) scal_39 rfl rfl rfl) ?_
          refine WL.yldG (by decide) rfl (Yld.fieldAddr Try.underlying57 rfl nz_39 rfl rfl) ?_
          refine WL.yldG (by decide) rfl (Yld.loadB (k := 103) scal_39 rfl rfl rfl) ?_
          refine WL.yldG (by decide) rfl (Yld.eql_u32 (a := x00_3) (b := x01_3) rfl rfl) ?_
          refine WL.yld (by decide) (Yld.pickT rfl rfl) ?_
          refine WL.yld (by decide) (Yld.move rfl) ?_
          refine WL.new (v' := .bool true) (congrArg Value.bool (beq_iff_eq.2 hc8)) ?_
          refine WL.yldG (by decide) rfl (Yld.fieldAddr Try.underlying57 rfl nz_40 rfl rfl) ?_
          refine WL.yldG (by decide) rfl (Yld.loadB (k := 102) scal_40 rfl rfl rfl) ?_
          refine WL.yldG (by decide) rfl (Yld.b2sC (xs := x00_4) und_40 und_5 und_9 rfl (RdH.memM (k := 0) rfl hf00_4)) ?_
          refine WL.yldG (by decide) rfl (Yld.fieldAddr Try.underlying57 rfl nz_40 rfl rfl) ?_
          refine WL.yldG (by decide) rfl (Yld.loadB (k := 103) scal_40 rfl rfl rfl) ?_
          refine WL.yldG (by decide) rfl (Yld.b2sC (xs := x01_4) und_40 und_5 und_9 rfl (RdH.memM (k := 0) rfl hf01_4)) ?_
          refine WL.yldG (by decide) rfl (Yld.eqlStr (a := x00_4) (b := x01_4) rfl rfl) ?_
          refine WL.yld (by decide) (Yld.pickT rfl rfl) ?_
          refine WL.yld (by decide) (Yld.move rfl) ?_
          refine WL.new (v' := .bool true) (congrArg Value.bool (beq_iff_eq.2 hc9)) ?_
          refine WL.yldG (by decide) rfl (Yld.fieldAddr Try.underlying57 rfl nz_40 rfl rfl) ?_
          refine WL.yldG (by decide) rfl (Yld.loadB (k := 102) scal_40 rfl rfl rfl) ?_
          refine WL.yldG (by decide) rfl (Yld.b2sC (xs := x00_5) und_40 und_5 und_9 rfl (RdH.memM (k := 0) rfl hf00_5)) ?_
          refine WL.yldG (by decide) rfl (Yld.fieldAddr Try.underlying57 rfl nz_40 rfl rfl) ?_
          refine WL.yldG (by decide) rfl (Yld.loadB (k := 103) scal_40 rfl rfl rfl) ?_
          refine WL.yldG (by decide) rfl (Yld.b2sC (xs := x01_5) und_40 und_5 und_9 rfl (RdH.memM (k := 0) rfl hf01_5)) ?_
          refine WL.yldG (by decide) rfl (Yld.eqlStr (a := x00_5) (b := x01_5) rfl rfl) ?_
          refine WL.yld (by decide) (Yld.pickT rfl rfl) ?_
          refine WL.yld (by decide) (Yld.move rfl) ?_
          refine WL.new (v' := .bool true) (congrArg Value.bool (beq_iff_eq.2 hc10)) ?_
          refine WL.yldG (by decide) rfl (Yld.fieldAddr Try.underlying57 rfl nz_3 rfl rfl) ?_
          refine WL.yldG (by decide) rfl (Yld.loadB (k := 102) scal_3 rfl rfl rfl) ?_
          refine WL.yldG (by decide) rfl (Yld.fieldAddr Try.underlying57 rfl nz_3 rfl rfl) ?_
          refine WL.yldG (by decide) rfl (Yld.loadB (k := 103) scal_3 rfl rfl rfl) ?_
          refine WL.yldG (by decide) rfl (Yld.eqlI rfl rfl) ?_
          refine WL.yld (by decide) (Yld.pickT rfl rfl) ?_
          refine WL.yld (by decide) (Yld.move rfl) ?_
          refine WL.new (v' := .bool true) (congrArg Value.bool (beq_iff_eq.2 hc11)) ?_
          refine WL.yldG (by decide) rfl (Yld.fieldAddr Try.underlying57 rfl nz_3 rfl rfl) ?_
          refine WL.yldG (by decide) rfl (Yld.loadB (k := 102) scal_3 rfl rfl rfl) ?_
          refine WL.yldG (by decide) rfl (Yld.fieldAddr Try.underlying57 rfl nz_3 rfl rfl) ?_
          refine WL.yldG (by decide) rfl (Yld.loadB (k := 103) scal_3 rfl rfl rfl) ?_
          refine WL.yldG (by decide) rfl (Yld.eqlI rfl rfl) ?_
          refine WL.yld (by decide) (Yld.pickT rfl rfl) ?_
          refine WL.yld (by decide) (Yld.move rfl) ?_
          refine WL.new (v' := .bool true) (congrArg Value.bool (beq_iff_eq.2 hc12)) ?_
          refine WL.yldG (by decide) rfl (Yld.fieldAddr Try.underlying57 rfl nz_3 rfl rfl) ?_
          refine WL.yldG (by decide) rfl (Yld.loadB (k := 102) scal_3 rfl rfl rfl) ?_
          refine WL.yldG (by decide) rfl (Yld.fieldAddr Try.underlying57 rfl nz_3 rfl rfl) ?_
          refine WL.yldG (by decide) rfl (Yld.loadB (k := 103) scal_3 rfl rfl rfl) ?_
          refine WL.yldG (by decide) rfl (Yld.eqlI rfl rfl) ?_
          refine WL.yld (by decide) (Yld.pickT rfl rfl) ?_
          refine WL.yld (by decide) (Yld.move rfl) ?_
          refine WL.new (v' := .bool true) (congrArg Value.bool (beq_iff_eq.2 hc13)) ?_
          refine WL.yldG (by decide) rfl (Yld.fieldAddr Try.underlying57 rfl nz_28 rfl rfl) ?_
          refine WL.yldG (by decide) rfl (Yld.loadB (k := 102) scal_28 rfl rfl rfl) ?_
          refine WL.yldG (by decide) rfl (Yld.fieldAddr Try.underlying57 rfl nz_28 rfl rfl) ?_
          refine WL.yldG (by decide) rfl (Yld.loadB (k := 103) scal_28 rfl rfl rfl) ?_
          refine WL.yldG (by decide) rfl (Yld.eqlI rfl rfl) ?_
          refine WL.yld (by decide) (Yld.pickT rfl rfl) ?_
          refine WL.yld (by decide) (Yld.assign rfl) ?_
          refine WL.done (hK4 _ _ ?_)
          refine WC.ret ?_
          injection h with h; subst h
          exact Ret.fn [] (ResIs.one rfl rfl) rfl (Ext.refl _ _) rfl (by decide) rfl rfl ⟨rfl, rfl⟩
         ·
          replace h := of_f hc13 h
          refine WL.yld (by decide) (Yld.fieldAddr Try.underlying57 rfl nz_3 rfl rfl) ?_
          refine WL.yld (by decide) (Yld.loadB (k := 102) scal_3 rfl rfl rfl) ?_
          refine WL.yld (by decide) (Yld.fieldAddr Try.underlying57 rfl nz_3 rfl rfl) ?_
          refine WL.yld (by decide) (Yld.loadB (k := 103) scal_3 rfl rfl rfl) ?_
          refine WL.yld (by decide) (Yld.eqlI rfl rfl) ?_
          refine WL.yld (by decide) (Yld.move rfl) ?_
          refine WL.new (v' := .bool true) (congrArg Value.bool (beq_iff_eq.2 hc5)) ?_
          refine WL.yldG (by decide) rfl (Yld.fieldAddr Try.underlying57 rfl nz_3 rfl rfl) ?_
          refine WL.yldG (by decide) rfl (Yld.loadB (k := 102) scal_3 rfl rfl rfl) ?_
          refine WL.yldG (by decide) rfl (Yld.fieldAddr Try.underlying57 rfl nz_3 rfl rfl) ?_
          refine WL.yldG (by decide) rfl (Yld.loadB (k := 103) scal_3 rfl rfl rfl) ?_
          refine WL.yldG (by decide) rfl (Yld.eqlI rfl rfl) ?_
          refine WL.yld (by decide) (Yld.pickT rfl rfl) ?_
          refine WL.yld (by decide) (Yld.move rfl) ?_
          refine WL.new (v' := .bool true) (congrArg Value.bool (beq_iff_eq.2 hc6)) ?_
          refine WL.yldG (by decide) rfl (Yld.fieldAddr Try.underlying57 rfl nz_38 rfl rfl) ?_
          refine WL.yldG (by decide) rfl (Yld.loadB (k := 102) scal_38 rfl rfl rfl) ?_
          refine WL.yldG (by decide) rfl (Yld.fieldAddr Try.underlying57 rfl nz_38 rfl rfl) ?_
          refine WL.yldG (by decide) rfl (Yld.loadB (k := 103) scal_38 rfl rfl rfl) ?_
          refine WL.yldG (by decide) rfl (Yld.eql_u64 (a := x00_2) (b := x01_2) rfl rfl) ?_
          refine WL.yld (by decide) (Yld.pickT rfl rfl) ?_
          refine WL.yld (by decide) (Yld.move rfl) ?_
          refine WL.new (v' := .bool true) (congrArg Value.bool (beq_iff_eq.2 hc7)) ?_
          refine WL.yldG (by decide) rfl (Yld.fieldAddr Try.underlying57 rfl nz_39 rfl rfl) ?_
          refine WL.yldG (by decide) rfl (Yld.loadB (k := 102) scal_39 rfl rfl rfl) ?_
          refine WL.yldG (by decide) rfl (Yld.fieldAddr Try.underlying57 rfl nz_39 rfl rfl) ?_
          refine WL.yldG (by decide) rfl (Yld.loadB (k := 103) scal_39 rfl rfl rfl) ?_
          refine WL.yldG (by decide) rfl (Yld.eql_u32 (a := x00_3) (b := x01_3) rfl rfl) ?_
          refine WL.yld (by decide) (Yld.pickT rfl rfl) ?_
          refine WL.yld (by decide) (Yld.move rfl) ?_
          refine WL.new (v' := .bool true) (congrArg Value.bool (beq_iff_eq.2 hc8)) ?_
          refine WL.yldG (by decide) rfl (Yld.fieldAddr Try.underlying57 rfl nz_40 rfl rfl) ?_
          refine WL.yldG (by decide) rfl (Yld.loadB (k := 102) scal_40 rfl rfl rfl) ?_
          refine WL.yldG (by decide) rfl (Yld.b2sC (xs := x00_4) und_40 und_5 und_9 rfl (RdH.memM (k := 0) rfl hf00_4)) ?_
          refine WL.yldG (by decide) rfl (Yld.fieldAddr Try.underlying57 rfl nz_40 rfl rfl) ?_
          refine WL.yldG (by decide) rfl (Yld.loadB (k := 103) scal_40 rfl rfl rfl) ?_
          refine WL.yldG (by decide) rfl (Yld.b2sC (xs := x01_4) und_40 und_5 und_9 rfl (RdH.memM (k := 0) rfl hf01_4)) ?_
          refine WL.yldG (by decide) rfl (Yld.eqlStr (a := x00_4) (b := x01_4) rfl rfl) ?_
          refine WL.yld (by decide) (Yld.pickT rfl rfl) ?_
          refine WL.yld (by decide) (Yld.move rfl) ?_
          refine WL.new (v' := .bool true) (congrArg Value.bool (beq_iff_eq.2 hc9)) ?_
          refine WL.yldG (by decide) rfl (Yld.fieldAddr Try.underlying57 rfl nz_40 rfl rfl) ?_
          refine WL.yldG (by decide) rfl (Yld.loadB (k := 102) scal_40 rfl rfl rfl) ?_
          refine WL.yldG (by decide) rfl (Yld.b2sC (xs := x00_5) und_40 und_5 und_9 rfl (RdH.memM (k := 0) rfl hf00_5)) ?_
          refine WL.yldG (by decide) rfl (Yld.fieldAddr Try.underlying57 rfl nz_40 rfl rfl) ?_
          refine WL.yldG (by decide) rfl (Yld.loadB (k := 103) scal_40 rfl rfl rfl) ?_
          refine WL.yldG (by decide) rfl (Yld.b2sC (xs := x01_5) und_40 und_5 und_9 rfl (RdH.memM (k := 0) rfl hf01_5)) ?_
          refine WL.yldG (by decide) rfl (Yld.eqlStr (a := x00_5) (b := x01_5) rfl rfl) ?_
          refine WL.yld (by decide) (Yld.pickT rfl rfl) ?_
          refine WL.yld (by decide) (Yld.move rfl) ?_
          refine WL.new (v' := .bool true) (congrArg Value.bool (beq_iff_eq.2 hc10)) ?_
          refine WL.yldG (by decide) rfl (Yld.fieldAddr Try.underlying57 rfl nz_3 rfl rfl) ?_
          refine WL.yldG (by decide) rfl (Yld.loadB (k := 102) scal_3 rfl rfl rfl) ?_
          refine WL.yldG (by decide) rfl (Yld.fieldAddr Try.underlying57 rfl nz_3 rfl rfl) ?_
          refine WL.yldG (by decide) rfl (Yld.loadB (k := 103) scal_3 rfl rfl rfl) ?_
          refine WL.yldG (by decide) rfl (Yld.eqlI rfl rfl) ?_
          refine WL.yld (by decide) (Yld.pickT rfl rfl) ?_
          refine WL.yld (by decide) (Yld.move rfl) ?_
          refine WL.new (v' := .bool true) (congrArg Value.bool (beq_iff_eq.2 hc11)) ?_
          refine WL.yldG (by decide) rfl (Yld.fieldAddr Try.underlying57 rfl nz_3 rfl rfl) ?_
          refine WL.yldG (by decide) rfl (Yld.loadB (k := 102) scal_3 rfl rfl rfl) ?_
          refine WL.yldG (by decide) rfl (Yld.fieldAddr Try.underlying57 rfl nz_3 rfl rfl) ?_
          refine WL.yldG (by decide) rfl (Yld.loadB (k := 103) scal_3 rfl rfl rfl) ?_
          refine WL.yldG (by decide) rfl (Yld.eqlI rfl rfl) ?_
          refine WL.yld (by decide) (Yld.pickT rfl rfl) ?_
          refine WL.yld (by decide) (Yld.move rfl) ?_
          refine WL.new (v' := .bool true) (congrArg Value.bool (beq_iff_eq.2 hc12)) ?_
          refine WL.yldG (by decide) rfl (Yld.fieldAddr Try.underlying57 rfl nz_3 rfl rfl) ?_
          refine WL.yldG (by decide) rfl (Yld.loadB (k := 102) scal_3 rfl rfl rfl) ?_
          refine WL.yldG (by decide) rfl (Yld.fieldAddr Try.underlying57 rfl nz_3 rfl rfl) ?_
          refine WL.yldG (by decide) rfl (Yld.loadB (k := 103) scal_3 rfl rfl rfl) ?_
          refine WL.yldG (by decide) rfl (Yld.eqlI rfl rfl) ?_
          refine WL.yld (by decide) (Yld.pickT rfl rfl) ?_
          refine WL.yld (by decide) (Yld.move rfl) ?_
          refine WL.new (v' := .bool false) (congrArg Value.bool (beq_eq_false_iff_ne.2 hc13)) ?_
          refine WL.skip (by decide) rfl rfl ?_
          refine WL.skip (by decide) rfl rfl ?_
          refine WL.skip (by decide) rfl rfl ?_
          refine WL.skip (by decide) rfl rfl ?_
          refine WL.skip (by decide) rfl rfl ?_
          refine WL.yld (by decide) (Yld.pickF rfl rfl) ?_
          refine WL.yld (by decide) (Yld.assign rfl) ?_
          refine WL.done (hK4 _ _ ?_)
          refine WC.ret ?_
          injection h with h; subst h
          exact Ret.fn [] (ResIs.one rfl rfl) rfl (Ext.refl _ _) rfl (by decide) rfl rfl ⟨rfl, rfl⟩
        ·
         replace h := of_f hc12 h
         refine WL.yld (by decide) (Yld.fieldAddr Try.underlying57 rfl nz_3 rfl rfl) ?_
         refine WL.yld (by decide) (Yld.loadB (k := 102) scal_3 rfl rfl rfl) ?_
         refine WL.yld (by decide) (Yld.fieldAddr Try.underlying57 rfl nz_3 rfl rfl) ?_
         refine WL.yld (by decide) (Yld.loadB (k := 103) scal_3 rfl rfl rfl) ?_
         refine WL.yld (by decide) (Yld.eqlI rfl rfl) ?_
         refine WL.yld (by decide) (Yld.move rfl) ?_
         refine WL.new (v' := .bool true) (congrArg Value.bool (beq_iff_eq.2 hc5)) ?_
         refine WL.yldG (by decide) rfl (Yld.fieldAddr Try.underlying57 rfl nz_3 rfl rfl) ?_
         refine WL.yldG (by decide) rfl (Yld.loadB (k := 102) scal_3 rfl rfl rfl) ?_
         refine WL.yldG (by decide) rfl (Yld.fieldAddr Try.underlying57 rfl nz_3 rfl rfl) ?_
         refine WL.yldG (by decide) rfl (Yld.loadB (k := 103) scal_3 rfl rfl rfl) ?_
         refine WL.yldG (by decide) rfl (Yld.eqlI rfl rfl) ?_
         refine WL.yld (by decide) (Yld.pickT rfl rfl) ?_
         refine WL.yld (by decide) (Yld.move rfl) ?_
         refine WL.new (v' := .bool true) (congrArg Value.bool (beq_iff_eq.2 hc6)) ?_
         refine WL.yldG (by decide) rfl (Yld.fieldAddr Try.underlying57 rfl nz_38 rfl rfl) ?_
         refine WL.yldG (by decide) rfl (Yld.loadB (k := 102) scal_38 rfl rfl rfl) ?_
         refine WL.yldG (by decide) rfl (Yld.fieldAddr Try.underlying57 rfl nz_38 rfl rfl) ?_
         refine WL.yldG (by decide) rfl (Yld.loadB (k := 103) scal_38 rfl rfl rfl) ?_
         refine WL.yldG (by decide) rfl (Yld.eql_u64 (a := x00_2) (b := x01_2) rfl rfl) ?_
         refine WL.yld (by decide) (Yld.pickT rfl rfl) ?_
         refine WL.yld (by decide) (Yld.move rfl) ?_
         refine WL.new (v' := .bool true) (congrArg Value.bool (beq_iff_eq.2 hc7)) ?_
         refine WL.yldG (by decide) rfl (Yld.fieldAddr Try.underlying57 rfl nz_39 rfl rfl) ?_
         refine WL.yldG (by decide) rfl (Yld.loadB (k := 102) scal_39 rfl rfl rfl) ?_
         refine WL.yldG (by decide) rfl (Yld.fieldAddr Try.underlying57 rfl nz_39 rfl rfl) ?_
         refine WL.yldG (by decide) rfl (Yld.loadB (k := 103) scal_39 rfl rfl rfl) ?_
         refine WL.yldG (by decide) rfl (Yld.eql_u32 (a := x00_3) (b := x01_3) rfl rfl) ?_
         refine WL.yld (by decide) (Yld.pickT rfl rfl) ?_
         refine WL.yld (by decide) (Yld.move rfl) ?_
         refine WL.new (v' := .bool true) (congrArg Value.bool (beq_iff_eq.2 hc8)) ?_
         refine WL.yldG (by decide) rfl (Yld.fieldAddr Try.underlying57 rfl nz_40 rfl rfl) ?_
         refine WL.yldG (by decide) rfl (Yld.loadB (k := 102) scal_40 rfl rfl rfl) ?_
         refine WL.yldG (by decide) rfl (Yld.b2sC (xs := x00_4) und_40 und_5 und_9 rfl (RdH.memM (k := 0) rfl hf00_4)) ?_
         refine WL.yldG (by decide) rfl (Yld.fieldAddr Try.underlying57 rfl nz_40 rfl rfl) ?_
         refine WL.yldG (by decide) rfl (Yld.loadB (k := 103) scal_40 rfl rfl rfl) ?_
         refine WL.yldG (by decide) rfl (Yld.b2sC (xs := x01_4) und_40 und_5 und_9 rfl (RdH.memM (k := 0) rfl hf01_4)) ?_
         refine WL.yldG (by decide) rfl (Yld.eqlStr (a := x00_4) (b := x01_4) rfl rfl) ?_
         refine WL.yld (by decide) (Yld.pickT rfl rfl) ?_
         refine WL.yld (by decide) (Yld.move rfl) ?_
         refine WL.new (v' := .bool true) (congrArg Value.bool (beq_iff_eq.2 hc9)) ?_
         refine WL.yldG (by decide) rfl (Yld.fieldAddr Try.underlying57 rfl nz_40 rfl rfl) ?_
         refine WL.yldG (by decide) rfl (Yld.loadB (k := 102) scal_40 rfl rfl rfl) ?_
         refine WL.yldG (by decide) rfl (Yld.b2sC (xs := x00_5) und_40 und_5 und_9 rfl (RdH.memM (k := 0) rfl hf00_5)) ?_
         refine WL.yldG (by decide) rfl (Yld.fieldAddr Try.underlying57 rfl nz_40 rfl rfl) ?_
         refine WL.yldG (by decide) rfl (Yld.loadB (k := 103) scal_40 rfl rfl rfl) ?_
         refine WL.yldG (by decide) rfl (Yld.b2sC (xs := x01_5) und_40 und_5 und_9 rfl (RdH.memM (k := 0) rfl hf01_5)) ?_
         refine WL.yldG (by decide) rfl (Yld.eqlStr (a := x00_5) (b := x01_5) rfl rfl) ?_
         refine WL.yld (by decide) (Yld.pickT rfl rfl) ?_
         refine WL.yld (by decide) (Yld.move rfl) ?_
         refine WL.new (v' := .bool true) (congrArg Value.bool (beq_iff_eq.2 hc10)) ?_
         refine WL.yldG (by decide) rfl (Yld.fieldAddr Try.underlying57 rfl nz_3 rfl rfl) ?_
         refine WL.yldG (by decide) rfl (Yld.loadB (k := 102) scal_3 rfl rfl rfl) ?_
         refine WL.yldG (by decide) rfl (Yld.fieldAddr Try.underlying57 rfl nz_3 rfl rfl) ?_
         refine WL.yldG (by decide) rfl (Yld.loadB (k := 103) scal_3 rfl rfl rfl) ?_
         refine WL.yldG (by decide) rfl (Yld.eqlI rfl rfl) ?_
         refine WL.yld (by decide) (Yld.pickT rfl rfl) ?_
         refine WL.yld (by decide) (Yld.move rfl) ?_
         refine WL.new (v' := .bool true) (congrArg Value.bool (beq_iff_eq.2 hc11)) ?_
         refine WL.yldG (by decide) rfl (Yld.fieldAddr Try.underlying57 rfl nz_3 rfl rfl) ?_
         refine WL.yldG (by decide) rfl (Yld.loadB (k := 102) scal_3 rfl rfl rfl) ?_
         refine WL.yldG (by decide) rfl (Yld.fieldAddr Try.underlying57 rfl nz_3 rfl rfl) ?_
         refine WL.yldG (by decide) rfl (Yld.loadB (k := 103) scal_3 rfl rfl rfl) ?_
         refine WL.yldG (by decide) rfl (Yld.eqlI rfl rfl) ?_
         refine WL.yld (by decide) (Yld.pickT rfl rfl) ?_
         refine WL.yld (by decide) (Yld.move rfl) ?_
         refine WL.new (v' := .bool false) (congrArg Value.bool (beq_eq_false_iff_ne.2 hc12)) ?_
         refine WL.skip (by decide) rfl rfl ?_
         refine WL.skip (by decide) rfl rfl ?_
         refine WL.skip (by decide) rfl rfl ?_
         refine WL.skip (by decide) rfl rfl ?_
         refine WL.skip (by decide) rfl rfl ?_
         refine WL.yld (by decide) (Yld.pickF rfl rfl) ?_
         refine WL.yld (by decide) (Yld.move rfl) ?_
         refine WL.skip (by decide) rfl rfl ?_
         refine WL.skip (by decide) rfl rfl ?_
         refine WL.skip (by decide) rfl rfl ?_
         refine WL.skip (by decide) rfl rfl ?_
         refine WL.skip (by decide) rfl rfl ?_
         refine WL.yld (by decide) (Yld.pickF rfl rfl) ?_
         refine WL.yld (by decide) (Yld.assign rfl) ?_
         refine WL.done (hK4 _ _ ?_)
         refine WC.ret ?_
         injection h with h; subst h
         exact Ret.fn [] (ResIs.one rfl rfl) rfl (Ext.refl _ _) rfl (by decide) rfl rfl ⟨rfl, rfl⟩
       ·
        replace h := of_f hc11 h
        refine WL.yld (by decide) (Yld.fieldAddr Try.underlying57 rfl nz_3 rfl rfl) ?_
        refine WL.yld (by decide) (Yld.loadB (k := 102) scal_3 rfl rfl rfl) ?_
        refine WL.yld (by decide) (Yld.fieldAddr Try.underlying57 rfl nz_3 rfl rfl) ?_
        refine WL.yld (by decide) (Yld.loadB (k := 103) scal_3 rfl rfl rfl) ?_
        refine WL.yld (by decide) (Yld.eqlI rfl rfl) ?_
        refine WL.yld (by decide) (Yld.move rfl) ?_
        refine WL.new (v' := .bool true) (congrArg Value.bool (beq_iff_eq.2 hc5)) ?_
        refine WL.yldG (by decide) rfl (Yld.fieldAddr Try.underlying57 rfl nz_3 rfl rfl) ?_
        refine WL.yldG (by decide) rfl (Yld.loadB (k := 102) scal_3 rfl rfl rfl) ?_
        refine WL.yldG (by decide) rfl (Yld.fieldAddr Try.underlying57 rfl nz_3 rfl rfl) ?_
        refine WL.yldG (by decide) rfl (Yld.loadB (k := 103) scal_3 rfl rfl rfl) ?_
        refine WL.yldG (by decide) rfl (Yld.eqlI rfl rfl) ?_
        refine WL.yld (by decide) (Yld.pickT rfl rfl) ?_
        refine WL.yld (by decide) (Yld.move rfl) ?_
        refine WL.new (v' := .bool true) (congrArg Value.bool (beq_iff_eq.2 hc6)) ?_
        refine WL.yldG (by decide) rfl (Yld.fieldAddr Try.underlying57 rfl nz_38 rfl rfl) ?_
        refine WL.yldG (by decide) rfl (Yld.loadB (k := 102) scal_38 rfl rfl rfl) ?_
        refine WL.yldG (by decide) rfl (Yld.fieldAddr Try.underlying57 rfl nz_38 rfl rfl) ?_
        refine WL.yldG (by decide) rfl (Yld.loadB (k := 103) scal_38 rfl rfl rfl) ?_
        refine WL.yldG (by decide) rfl (Yld.eql_u64 (a := x00_2) (b := x01_2) rfl rfl) ?_
        refine WL.yld (by decide) (Yld.pickT rfl rfl) ?_
        refine WL.yld (by decide) (Yld.move rfl) ?_
        refine WL.new (v' := .bool true) (congrArg Value.bool (beq_iff_eq.2 hc7)) ?_
        refine WL.yldG (by decide) rfl (Yld.fieldAddr Try.underlying57 rfl nz_39 rfl rfl) ?_
        refine WL.yldG (by decide) rfl (Yld.loadB (k := 102) scal_39 rfl rfl rfl) ?_
        refine WL.yldG (by decide) rfl (Yld.fieldAddr Try.underlying57 rfl nz_39 rfl rfl) ?_
        refine WL.yldG (by decide) rfl (Yld.loadB (k := 103) scal_39 rfl rfl rfl) ?_
        refine WL.yldG (by decide) rfl (Yld.eql_u32 (a := x00_3) (b := x01_3) rfl rfl) ?_
        refine WL.yld (by decide) (Yld.pickT rfl rfl) ?_
        refine WL.yld (by decide) (Yld.move rfl) ?_
        refine WL.new (v' := .bool true) (congrArg Value.bool (beq_iff_eq.2 hc8)) ?_
        refine WL.yldG (by decide) rfl (Yld.fieldAddr Try.underlying57 rfl nz_40 rfl rfl) ?_
        refine WL.yldG (by decide) rfl (Yld.loadB (k := 102) scal_40 rfl rfl rfl) ?_
        refine WL.yldG (by decide) rfl (Yld.b2sC (xs := x00_4) und_40 und_5 und_9 rfl (RdH.memM (k := 0) rfl hf00_4)) ?_
        refine WL.yldG (by decide) rfl (Yld.fieldAddr Try.underlying57 rfl nz_40 rfl rfl) ?_
        refine WL.yldG (by decide) rfl (Yld.loadB (k := 103) scal_40 rfl rfl rfl) ?_
        refine WL.yldG (by decide) rfl (Yld.b2sC (xs := x01_4) und_40 und_5 und_9 rfl (RdH.memM (k := 0) rfl hf01_4)) ?_
        refine WL.yldG (by decide) rfl (Yld.eqlStr (a := x00_4) (b := x01_4) rfl rfl) ?_
        refine WL.yld (by decide) (Yld.pickT rfl rfl) ?_
        refine WL.yld (by decide) (Yld.move rfl) ?_
        refine WL.new (v' := .bool true) (congrArg Value.bool (beq_iff_eq.2 hc9)) ?_
        refine WL.yldG (by decide) rfl (Yld.fieldAddr Try.underlying57 rfl nz_40 rfl rfl) ?_
        refine WL.yldG (by decide) rfl (Yld.loadB (k := 102) scal_40 rfl rfl rfl) ?_
        refine WL.yldG (by decide) rfl (Yld.b2sC (xs := x00_5) und_40 und_5 und_9 rfl (RdH.memM (k := 0) rfl hf00_5)) ?_
        refine WL.yldG (by decide) rfl (Yld.fieldAddr Try.underlying57 rfl nz_40 rfl rfl) ?_
        refine WL.yldG (by decide) rfl (Yld.loadB (k := 103) scal_40 rfl rfl rfl) ?_
        refine WL.yldG (by decide) rfl (Yld.b2sC (xs := x01_5) und_40 und_5 und_9 rfl (RdH.memM (k := 0) rfl hf01_5)) ?_
        refine WL.yldG (by decide) rfl (Yld.eqlStr (a := x00_5) (b := x01_5) rfl rfl) ?_
        refine WL.yld (by decide) (Yld.pickT rfl rfl) ?_
        refine WL.yld (by decide) (Yld.move rfl) ?_
        refine WL.new (v' := .bool true) (congrArg Value.bool (beq_iff_eq.2 hc10)) ?_
        refine WL.yldG (by decide) rfl (Yld.fieldAddr Try.underlying57 rfl nz_3 rfl rfl) ?_
        refine WL.yldG (by decide) rfl (Yld.loadB (k := 102) scal_3 rfl rfl rfl) ?_
        refine WL.yldG (by decide) rfl (Yld.fieldAddr Try.underlying57 rfl nz_3 rfl rfl) ?_
        refine WL.yldG (by decide) rfl (Yld.loadB (k := 103) scal_3 rfl rfl rfl) ?_
        refine WL.yldG (by decide) rfl (Yld.eqlI rfl rfl) ?_
        refine WL.yld (by decide) (Yld.pickT rfl rfl) ?_
        refine WL.yld (by decide) (Yld.move rfl) ?_
        refine WL.new (v' := .bool false) (congrArg Value.bool (beq_eq_false_iff_ne.2 hc11)) ?_
        refine WL.skip (by decide) rfl rfl ?_
        refine WL.skip (by decide) rfl rfl ?_
        refine WL.skip (by decide) rfl rfl ?_
        refine WL.skip (by decide) rfl rfl ?_
        refine WL.skip (by decide) rfl rfl ?_
        refine WL.yld (by decide) (Yld.pickF rfl rfl) ?_
        refine WL.yld (by decide) (Yld.move rfl) ?_
        refine WL.skip (by decide) rfl rfl ?_
        refine WL.skip (by decide) rfl rfl ?_
        refine WL.skip (by decide) rfl rfl ?_
        refine WL.skip (by decide) rfl rfl ?_
        refine WL.skip (by decide) rfl rfl ?_
        refine WL.yld (by decide) (Yld.pickF rfl rfl) ?_
        refine WL.yld (by decide) (Yld.move rfl) ?_
        refine WL.skip (by decide) rfl rfl ?_
        refine WL.skip (by decide) rfl rfl ?_
        refine WL.skip (by decide) rfl rfl ?_
        refine WL.skip (by decide) rfl rfl ?_
        refine WL.skip (by decide) rfl rfl ?_
        refine WL.yld (by decide) (Yld.pickF rfl rfl) ?_
        refine WL.yld (by decide) (Yld.assign rfl) ?_
        refine WL.done (hK4 _ _ ?_)
        refine WC.ret ?_
        injection h with h; subst h
        exact Ret.fn [] (ResIs.one rfl rfl) rfl (Ext.refl _ _) rfl (by decide) rfl rfl ⟨rfl, rfl⟩
      ·
       replace h := of_f hc10 h
       refine WL.yld (by decide) (Yld.fieldAddr Try.underlying57 rfl nz_3 rfl rfl) ?_
       refine WL.yld (by decide) (Yld.loadB (k := 102) scal_3 rfl rfl rfl) ?_
       refine WL.yld (by decide) (Yld.fieldAddr Try.underlying57 rfl nz_3 rfl rfl) ?_
       refine WL.yld (by decide) (Yld.loadB (k := 103) scal_3 rfl rfl rfl) ?_
       refine WL.yld (by decide) (Yld.eqlI rfl rfl) ?_
       refine WL.yld (by decide) (Yld.move rfl) ?_
       refine WL.new (v' := .bool true) (congrArg Value.bool (beq_iff_eq.2 hc5)) ?_
       refine WL.yldG (by decide) rfl (Yld.fieldAddr Try.underlying57 rfl nz_3 rfl rfl) ?_
       refine WL.yldG (by decide) rfl (Yld.loadB (k := 102) scal_3 rfl rfl rfl) ?_
       refine WL.yldG (by decide) rfl (Yld.fieldAddr Try.underlying57 rfl nz_3 rfl rfl) ?_
       refine WL.yldG (by decide) rfl (Yld.loadB (k := 103) scal_3 rfl rfl rfl) ?_
       refine WL.yldG (by decide) rfl (Yld.eqlI rfl rfl) ?_
       refine WL.yld (by decide) (Yld.pickT rfl rfl) ?_
       refine WL.yld (by decide) (Yld.move rfl) ?_
       refine WL.new (v' := .bool true) (congrArg Value.bool (beq_iff_eq.2 hc6)) ?_
       refine WL.yldG (by decide) rfl (Yld.fieldAddr Try.underlying57 rfl nz_38 rfl rfl) ?_
       refine WL.yldG (by decide) rfl (Yld.loadB (k := 102) scal_38 rfl rfl rfl) ?_
       refine WL.yldG (by decide) rfl (Yld.fieldAddr Try.underlying57 rfl nz_38 rfl rfl) ?_
       refine WL.yldG (by decide) rfl (Yld.loadB (k := 103) scal_38 rfl rfl rfl) ?_
       refine WL.yldG (by decide) rfl (Yld.eql_u64 (a := x00_2) (b := x01_2) rfl rfl) ?_
       refine WL.yld (by decide) (Yld.pickT rfl rfl) ?_
       refine WL.yld (by decide) (Yld.move rfl) ?_
       refine WL.new (v' := .bool true) (congrArg Value.bool (beq_iff_eq.2 hc7)) ?_
       refine WL.yldG (by decide) rfl (Yld.fieldAddr Try.underlying57 rfl nz_39 rfl rfl) ?_
       refine WL.yldG (by decide) rfl (Yld.loadB (k := 102) scal_39 rfl rfl rfl) ?_
       refine WL.yldG (by decide) rfl (Yld.fieldAddr Try.underlying57 rfl nz_39 rfl rfl) ?_
       refine WL.yldG (by decide) rfl (Yld.loadB (k := 103) scal_39 rfl rfl rfl) ?_
       refine WL.yldG (by decide) rfl (Yld.eql_u32 (a := x00_3) (b := x01_3) rfl rfl) ?_
       refine WL.yld (by decide) (Yld.pickT rfl rfl) ?_
       refine WL.yld (by decide) (Yld.move rfl) ?_
       refine WL.new (v' := .bool true) (congrArg Value.bool (beq_iff_eq.2 hc8)) ?_
       refine WL.yldG (by decide) rfl (Yld.fieldAddr Try.underlying57 rfl nz_40 rfl rfl) ?_
       refine WL.yldG (by decide) rfl (Yld.loadB (k := 102) scal_40 rfl rfl rfl) ?_
       refine WL.yldG (by decide) rfl (Yld.b2sC (xs := x00_4) und_40 und_5 und_9 rfl (RdH.memM (k := 0) rfl hf00_4)) ?_
       refine WL.yldG (by decide) rfl (Yld.fieldAddr Try.underlying57 rfl nz_40 rfl rfl) ?_
       refine WL.yldG (by decide) rfl (Yld.loadB (k := 103) scal_40 rfl rfl rfl) ?_
       refine WL.yldG (by decide) rfl (Yld.b2sC (xs := x01_4) und_40 und_5 und_9 rfl (RdH.memM (k := 0) rfl hf01_4)) ?_
       refine WL.yldG (by decide) rfl (Yld.eqlStr (a := x00_4) (b := x01_4) rfl rfl) ?_
       refine WL.yld (by decide) (Yld.pickT rfl rfl) ?_
       refine WL.yld (by decide) (Yld.move rfl) ?_
       refine WL.new (v' := .bool true) (congrArg Value.bool (beq_iff_eq.2 hc9)) ?_
       refine WL.yldG (by decide) rfl (Yld.fieldAddr Try.underlying57 rfl nz_40 rfl rfl) ?_
       refine WL.yldG (by decide) rfl (Yld.loadB (k := 102) scal_40 rfl rfl rfl) ?_
       refine WL.yldG (by decide) rfl (Yld.b2sC (xs := x00_5) und_40 und_5 und_9 rfl (RdH.memM (k := 0) rfl hf00_5)) ?_
       refine WL.yldG (by decide) rfl (Yld.fieldAddr Try.underlying57 rfl nz_40 rfl rfl) ?_
       refine WL.yldG (by decide) rfl (Yld.loadB (k := 103) scal_40 rfl rfl rfl) ?_
       refine WL.yldG (by decide) rfl (Yld.b2sC (xs := x01_5) und_40 und_5 und_9 rfl (RdH.memM (k := 0) rfl hf01_5)) ?_
       refine WL.yldG (by decide) rfl (Yld.eqlStr (a := x00_5) (b := x01_5) rfl rfl) ?_
       refine WL.yld (by decide) (Yld.pickT rfl rfl) ?_
       refine WL.yld (by decide) (Yld.move rfl) ?_
       refine WL.new (v' := .bool false) (congrArg Value.bool (beq_eq_false_iff_ne.2 hc10)) ?_
       refine WL.skip (by decide) rfl rfl ?_
       refine WL.skip (by decide) rfl rfl ?_
       refine WL.skip (by decide) rfl rfl ?_
       refine WL.skip (by decide) rfl rfl ?_
       refine WL.skip (by decide) rfl rfl ?_
       refine WL.yld (by decide) (Yld.pickF rfl rfl) ?_
       refine WL.yld (by decide) (Yld.move rfl) ?_
       refine WL.skip (by decide) rfl rfl ?_
       refine WL.skip (by decide) rfl rfl ?_
       refine WL.skip (by decide) rfl rfl ?_
       refine WL.skip (by decide) rfl rfl ?_
       refine WL.skip (by decide) rfl rfl ?_
       refine WL.yld (by decide) (Yld.pickF rfl rfl) ?_
       refine WL.yld (by decide) (Yld.move rfl) ?_
       refine WL.skip (by decide) rfl rfl ?_
       refine WL.skip (by decide) rfl rfl ?_
       refine WL.skip (by decide) rfl rfl ?_
       refine WL.skip (by decide) rfl rfl ?_
       refine WL.skip (by decide) rfl rfl ?_
       refine WL.yld (by decide) (Yld.pickF rfl rfl) ?_
       refine WL.yld (by decide) (Yld.move rfl) ?_
       refine WL.skip (by decide) rfl rfl ?_
       refine WL.skip (by decide) rfl rfl ?_
       refine WL.skip (by decide) rfl rfl ?_
       refine WL.skip (by decide) rfl rfl ?_
       refine WL.skip (by decide) rfl rfl ?_
       refine WL.yld (by decide) (Yld.pickF rfl rfl) ?_
       refine WL.yld (by decide) (Yld.assign rfl) ?_
       refine WL.done (hK4 _ _ ?_)
       refine WC.ret ?_
       injection h with h; subst h
       exact Ret.fn [] (ResIs.one rfl rfl) rfl (Ext.refl _ _) rfl (by decide) rfl rfl ⟨rfl, rfl⟩
     ·
      replace h := of_f hc9 h
      refine WL.yld (by decide) (Yld.fieldAddr Try.underlying57 rfl nz_3 rfl rfl) ?_
      refine WL.yld (by decide) (Yld.loadB (k := 102) scal_3 rfl rfl rfl) ?_
      refine WL.yld (by decide) (Yld.fieldAddr Try.underlying57 rfl nz_3 rfl rfl) ?_
      refine WL.yld (by decide) (Yld.loadB (k := 103) scal_3 rfl rfl rfl) ?_
      refine WL.yld (by decide) (Yld.eqlI rfl rfl) ?_
      refine WL.yld (by decide) (Yld.move rfl) ?_
      refine WL.new (v' := .bool true) (congrArg Value.bool (beq_iff_eq.2 hc5)) ?_
      refine WL.yldG (by decide) rfl (Yld.fieldAddr Try.underlying57 rfl nz_3 rfl rfl) ?_
      refine WL.yldG (by decide) rfl (Yld.loadB (k := 102) scal_3 rfl rfl rfl) ?_
      refine WL.yldG (by decide) rfl (Yld.fieldAddr Try.underlying57 rfl nz_3 rfl rfl) ?_
      refine WL.yldG (by decide) rfl (Yld.loadB (k := 103) scal_3 rfl rfl rfl) ?_
      refine WL.yldG (by decide) rfl (Yld.eqlI rfl rfl) ?_
      refine WL.yld (by decide) (Yld.pickT rfl rfl) ?_
      refine WL.yld (by decide) (Yld.move rfl) ?_
      refine WL.new (v' := .bool true) (congrArg Value.bool (beq_iff_eq.2 hc6)) ?_
      refine WL.yldG (by decide) rfl (Yld.fieldAddr Try.underlying57 rfl nz_38 rfl rfl) ?_
      refine WL.yldG (by decide) rfl (Yld.loadB (k := 102) scal_38 rfl rfl rfl) ?_
      refine WL.yldG (by decide) rfl (Yld.fieldAddr Try.underlying57 rfl nz_38 rfl rfl) ?_
      refine WL.yldG (by decide) rfl (Yld.loadB (k := 103) scal_38 rfl rfl rfl) ?_
      refine WL.yldG (by decide) rfl (Yld.eql_u64 (a := x00_2) (b := x01_2) rfl rfl) ?_
      refine WL.yld (by decide) (Yld.pickT rfl rfl) ?_
      refine WL.yld (by decide) (Yld.move rfl) ?_
      refine WL.new (v' := .bool true) (congrArg Value.bool (beq_iff_eq.2 hc7)) ?_
      refine WL.yldG (by decide) rfl (Yld.fieldAddr Try.underlying57 rfl nz_39 rfl rfl) ?_
      refine WL.yldG (by decide) rfl (Yld.loadB (k := 102) scal_39 rfl rfl rfl) ?_
      refine WL.yldG (by decide) rfl (Yld.fieldAddr Try.underlying57 rfl nz_39 rfl rfl) ?_
      refine WL.yldG (by decide) rfl (Yld.loadB (k := 103) scal_39 rfl rfl rfl) ?_
      refine WL.yldG (by decide) rfl (Yld.eql_u32 (a := x00_3) (b := x01_3) rfl rfl) ?_
      refine WL.yld (by decide) (Yld.pickT rfl rfl) ?_
      refine WL.yld (by decide) (Yld.move rfl) ?_
      refine WL.new (v' := .bool true) (congrArg Value.bool (beq_iff_eq.2 hc8)) ?_
      refine WL.yldG (by decide) rfl (Yld.fieldAddr Try.underlying57 rfl nz_40 rfl rfl) ?_
      refine WL.yldG (by decide) rfl (Yld.loadB (k := 102) scal_40 rfl rfl rfl) ?_
      refine WL.yldG (by decide) rfl (Yld.b2sC (xs := x00_4) und_40 und_5 und_9 rfl (RdH.memM (k := 0) rfl hf00_4)) ?_
      refine WL.yldG (by decide) rfl (Yld.fieldAddr Try.underlying57 rfl nz_40 rfl rfl) ?_
      refine WL.yldG (by decide) rfl (Yld.loadB (k := 103) scal_40 rfl rfl rfl) ?_
      refine WL.yldG (by decide) rfl (Yld.b2sC (xs := x01_4) und_40 und_5 und_9 rfl (RdH.memM (k := 0) rfl hf01_4)) ?_
      refine WL.yldG (by decide) rfl (Yld.eqlStr (a := x00_4) (b := x01_4) rfl rfl) ?_
      refine WL.yld (by decide) (Yld.pickT rfl rfl) ?_
      refine WL.yld (by decide) (Yld.move rfl) ?_
      refine WL.new (v' := .bool false) (congrArg Value.bool (beq_eq_false_iff_ne.2 hc9)) ?_
      refine WL.skip (by decide) rfl rfl ?_
      refine WL.skip (by decide) rfl rfl ?_
      refine WL.skip (by decide) rfl rfl ?_
      refine WL.skip (by decide) rfl rfl ?_
      refine WL.skip (by decide) rfl rfl ?_
      refine WL.skip (by decide) rfl rfl ?_
      refine WL.skip (by decide) rfl rfl ?_
      refine WL.yld (by decide) (Yld.pickF rfl rfl) ?_
      refine WL.yld (by decide) (Yld.move rfl) ?_
      refine WL.skip (by decide) rfl rfl ?_
      refine WL.skip (by decide) rfl rfl ?_
      refine WL.skip (by decide) rfl rfl ?_
      refine WL.skip (by decide) rfl rfl ?_
      refine WL.skip (by decide) rfl rfl ?_
      refine WL.yld (by decide) (Yld.pickF rfl rfl) ?_
      refine WL.yld (by decide) (Yld.move rfl) ?_
      refine WL.skip (by decide) rfl rfl ?_
      refine WL.skip (by decide) rfl rfl ?_
      refine WL.skip (by decide) rfl rfl ?_
      refine WL.skip (by decide) rfl rfl ?_
      refine WL.skip (by decide) rfl rfl ?_
      refine WL.yld (by decide) (Yld.pickF rfl rfl) ?_
      refine WL.yld (by decide) (Yld.move rfl) ?_
      refine WL.skip (by decide) rfl rfl ?_
      refine WL.skip (by decide) rfl rfl ?_
      refine WL.skip (by decide) rfl rfl ?_
      refine WL.skip (by decide) rfl rfl ?_
      refine WL.skip (by decide) rfl rfl ?_
      refine WL.yld (by decide) (Yld.pickF rfl rfl) ?_
      refine WL.yld (by decide) (Yld.move rfl) ?_
      refine WL.skip (by decide) rfl rfl ?_
      refine WL.skip (by decide) rfl rfl ?_
      refine WL.skip (by decide) rfl rfl ?_
      refine WL.skip (by decide) rfl rfl ?_
      refine WL.skip (by decide) rfl rfl ?_
      refine WL.yld (by decide) (Yld.pickF rfl rfl) ?_
      refine WL.yld (by decide) (Yld.assign rfl) ?_
      refine WL.done (hK4 _ _ ?_)
      refine WC.ret ?_
      injection h with h; subst h
      exact Ret.fn [] (ResIs.one rfl rfl) rfl (Ext.refl _ _) rfl (by decide) rfl rfl ⟨rfl, rfl⟩
    ·
     replace h := of_f hc8 h
     refine WL.yld (by decide) (Yld.fieldAddr Try.underlying57 rfl nz_3 rfl rfl) ?_
     refine WL.yld (by decide) (Yld.loadB (k := 102) scal_3 rfl rfl rfl) ?_
     refine WL.yld (by decide) (Yld.fieldAddr Try.underlying57 rfl nz_3 rfl rfl) ?_
     refine WL.yld (by decide) (Yld.loadB (k := 103) scal_3 rfl rfl rfl) ?_
     refine WL.yld (by decide) (Yld.eqlI rfl rfl) ?_
     refine WL.yld (by decide) (Yld.move rfl) ?_
     refine WL.new (v' := .bool true) (congrArg Value.bool (beq_iff_eq.2 hc5)) ?_
     refine WL.yldG (by decide) rfl (Yld.fieldAddr Try.underlying57 rfl nz_3 rfl rfl) ?_
     refine WL.yldG (by decide) rfl (Yld.loadB (k := 102) scal_3 rfl rfl rfl) ?_
     refine WL.yldG (by decide) rfl (Yld.fieldAddr Try.underlying57 rfl nz_3 rfl rfl) ?_
     refine WL.yldG (by decide) rfl (Yld.loadB (k := 103) scal_3 rfl rfl rfl) ?_
     refine WL.yldG (by decide) rfl (Yld.eqlI rfl rfl) ?_
     refine WL.yld (by decide) (Yld.pickT rfl rfl) ?_
     refine WL.yld (by decide) (Yld.move rfl) ?_
     refine WL.new (v' := .bool true) (congrArg Value.bool (beq_iff_eq.2 hc6)) ?_
     refine WL.yldG (by decide) rfl (Yld.fieldAddr Try.underlying57 rfl nz_38 rfl rfl) ?_
     refine WL.yldG (by decide) rfl (Yld.loadB (k := 102) scal_38 rfl rfl rfl) ?_
     refine WL.yldG (by decide) rfl (Yld.fieldAddr Try.underlying57 rfl nz_38 rfl rfl) ?_
     refine WL.yldG (by decide) rfl (Yld.loadB (k := 103) scal_38 rfl rfl rfl) ?_
     refine WL.yldG (by decide) rfl (Yld.eql_u64 (a := x00_2) (b := x01_2) rfl rfl) ?_
     refine WL.yld (by decide) (Yld.pickT rfl rfl) ?_
     refine WL.yld (by decide) (Yld.move rfl) ?_
     refine WL.new (v' := .bool true) (congrArg Value.bool (beq_iff_eq.2 hc7)) ?_
     refine WL.yldG (by decide) rfl (Yld.fieldAddr Try.underlying57 rfl nz_39 rfl rfl) ?_
     refine WL.yldG (by decide) rfl (Yld.loadB (k := 102) scal_39 rfl rfl rfl) ?_
     refine WL.yldG (by decide) rfl (Yld.fieldAddr Try.underlying57 rfl nz_39 rfl rfl) ?_
     refine WL.yldG (by decide) rfl (Yld.loadB (k := 103) scal_39 rfl rfl rfl) ?_
     refine WL.yldG (by decide) rfl (Yld.eql_u32 (a := x00_3) (b := x01_3) rfl rfl) ?_
     refine WL.yld (by decide) (Yld.pickT rfl rfl) ?_
     refine WL.yld (by decide) (Yld.move rfl) ?_
     refine WL.new (v' := .bool false) (congrArg Value.bool (beq_eq_false_iff_ne.2 hc8)) ?_
     refine WL.skip (by decide) rfl rfl ?_
     refine WL.skip (by decide) rfl rfl ?_
     refine WL.skip (by decide) rfl rfl ?_
     refine WL.skip (by decide) rfl rfl ?_
     refine WL.skip (by decide) rfl rfl ?_
     refine WL.skip (by decide) rfl rfl ?_
     refine WL.skip (by decide) rfl rfl ?_
     refine WL.yld (by decide) (Yld.pickF rfl rfl) ?_
     refine WL.yld (by decide) (Yld.move rfl) ?_
     refine WL.skip (by decide) rfl rfl ?_
     refine WL.skip (by decide) rfl rfl ?_
     refine WL.skip (by decide) rfl rfl ?_
     refine WL.skip (by decide) rfl rfl ?_
     refine WL.skip (by decide) rfl rfl ?_
     refine WL.skip (by decide) rfl rfl ?_
     refine WL.skip (by decide) rfl rfl ?_
     refine WL.yld (by decide) (Yld.pickF rfl rfl) ?_
     refine WL.yld (by decide) (Yld.move rfl) ?_
     refine WL.skip (by decide) rfl rfl ?_
     refine WL.skip (by decide) rfl rfl ?_
     refine WL.skip (by decide) rfl rfl ?_
     refine WL.skip (by decide) rfl rfl ?_
     refine WL.skip (by decide) rfl rfl ?_
     refine WL.yld (by decide) (Yld.pickF rfl rfl) ?_
     refine WL.yld (by decide) (Yld.move rfl) ?_
     refine WL.skip (by decide) rfl rfl ?_
     refine WL.skip (by decide) rfl rfl ?_
     refine WL.skip (by decide) rfl rfl ?_
     refine WL.skip (by decide) rfl rfl ?_
     refine WL.skip (by decide) rfl rfl ?_
     refine WL.yld (by decide) (Yld.pickF rfl rfl) ?_
     refine WL.yld (by decide) (Yld.move rfl) ?_
     refine WL.skip (by decide) rfl rfl ?_
     refine WL.skip (by decide) rfl rfl ?_
     refine WL.skip (by decide) rfl rfl ?_
     refine WL.skip (by decide) rfl rfl ?_
     refine WL.skip (by decide) rfl rfl ?_
     refine WL.yld (by decide) (Yld.pickF rfl rfl) ?_
     refine WL.yld (by decide) (Yld.move rfl) ?_
     refine WL.skip (by decide) rfl rfl ?_
     refine WL.skip (by decide) rfl rfl ?_
     refine WL.skip (by decide) rfl rfl ?_
     refine WL.skip (by decide) rfl rfl ?_
     refine WL.skip (by decide) rfl rfl ?_
     refine WL.yld (by decide) (Yld.pickF rfl rfl) ?_
     refine WL.yld (by decide) (Yld.assign rfl) ?_
     refine WL.done (hK4 _ _ ?_)
     refine WC.ret ?_
     injection h with h; subst h
     exact Ret.fn [] (ResIs.one rfl rfl) rfl (Ext.refl _ _) rfl (by decide) rfl rfl ⟨rfl, rfl⟩
   ·
    replace h := of_f hc7 h
    refine WL.yld (by decide) (Yld.fieldAddr Try.underlying57 rfl nz_3 rfl rfl) ?_
    refine WL.yld (by decide) (Yld.loadB (k := 102) scal_3 rfl rfl rfl) ?_
    refine WL.yld (by decide) (Yld.fieldAddr Try.underlying57 rfl nz_3 rfl rfl) ?_
    refine WL.yld (by decide) (Yld.loadB (k := 103) scal_3 rfl rfl rfl) ?_
    refine WL.yld (by decide) (Yld.eqlI rfl rfl) ?_
    refine WL.yld (by decide) (Yld.move rfl) ?_
    refine WL.new (v' := .bool true) (congrArg Value.bool (beq_iff_eq.2 hc5)) ?_
    refine WL.yldG (by decide) rfl (Yld.fieldAddr Try.underlying57 rfl nz_3 rfl rfl) ?_
    refine WL.yldG (by decide) rfl (Yld.loadB (k := 102) scal_3 rfl rfl rfl) ?_
    refine WL.yldG (by decide) rfl (Yld.fieldAddr Try.underlying57 rfl nz_3 rfl rfl) ?_
    refine WL.yldG (by decide) rfl (Yld.loadB (k := 103) scal_3 rfl rfl rfl) ?_
    refine WL.yldG (by decide) rfl (Yld.eqlI rfl rfl) ?_
    refine WL.yld (by decide) (Yld.pickT rfl rfl) ?_
    refine WL.yld (by decide) (Yld.move rfl) ?_
    refine WL.new (v' := .bool true) (congrArg Value.bool (beq_iff_eq.2 hc6)) ?_
    refine WL.yldG (by decide) rfl (Yld.fieldAddr Try.underlying57 rfl nz_38 rfl rfl) ?_
    refine WL.yldG (by decide) rfl (Yld.loadB (k := 102) scal_38 rfl rfl rfl) ?_
    refine WL.yldG (by decide) rfl (Yld.fieldAddr Try.underlying57 rfl nz_38 rfl rfl) ?_
    refine WL.yldG (by decide) rfl (Yld.loadB (k := 103) scal_38 rfl rfl rfl) ?_
    refine WL.yldG (by decide) rfl (Yld.eql_u64 (a := x00_2) (b := x01_2) rfl rfl) ?_
    refine WL.yld (by decide) (Yld.pickT rfl rfl) ?_
    refine WL.yld (by decide) (Yld.move rfl) ?_
    refine WL.new (v' := .bool false) (congrArg Value.bool (beq_eq_false_iff_ne.2 hc7)) ?_
    refine WL.skip (by decide) rfl rfl ?_
    refine WL.skip (by decide) rfl rfl ?_
    refine WL.skip (by decide) rfl rfl ?_
    refine WL.skip (by decide) rfl rfl ?_
    refine WL.skip (by decide) rfl rfl ?_
    refine WL.yld (by decide) (Yld.pickF rfl rfl) ?_
    refine WL.yld (by decide) (Yld.move rfl) ?_
    refine WL.skip (by decide) rfl rfl ?_
    refine WL.skip (by decide) rfl rfl ?_
    refine WL.skip (by decide) rfl rfl ?_
    refine WL.skip (by decide) rfl rfl ?_
    refine WL.skip (by decide) rfl rfl ?_
    refine WL.skip (by decide) rfl rfl ?_
    refine WL.skip (by decide) rfl rfl ?_
    refine WL.yld (by decide) (Yld.pickF rfl rfl) ?_
    refine WL.yld (by decide) (Yld.move rfl) ?_
    refine WL.skip (by decide) rfl rfl ?_
    refine WL.skip (by decide) rfl rfl ?_
    refine WL.skip (by decide) rfl rfl ?_
    refine WL.skip (by decide) rfl rfl ?_
    refine WL.skip (by decide) rfl rfl ?_
    refine WL.skip (by decide) rfl rfl ?_
    refine WL.skip (by decide) rfl rfl ?_
    refine WL.yld (by decide) (Yld.pickF rfl rfl) ?_
    refine WL.yld (by decide) (Yld.move rfl) ?_
    refine WL.skip (by decide) rfl rfl ?_
    refine WL.skip (by decide) rfl rfl ?_
    refine WL.skip (by decide) rfl rfl ?_
    refine WL.skip (by decide) rfl rfl ?_
    refine WL.skip (by decide) rfl rfl ?_
    refine WL.yld (by decide) (Yld.pickF rfl rfl) ?_
    refine WL.yld (by decide) (Yld.move rfl) ?_
    refine WL.skip (by decide) rfl rfl ?_
    refine WL.skip (by decide) rfl rfl ?_
    refine WL.skip (by decide) rfl rfl ?_
    refine WL.skip (by decide) rfl rfl ?_
    refine WL.skip (by decide) rfl rfl ?_
    refine WL.yld (by decide) (Yld.pickF rfl rfl) ?_
    refine WL.yld (by decide) (Yld.move rfl) ?_
    refine WL.skip (by decide) rfl rfl ?_
    refine WL.skip (by decide) rfl rfl ?_
    refine WL.skip (by decide) rfl rfl ?_
    refine WL.skip (by decide) rfl rfl ?_
    refine WL.skip (by decide) rfl rfl ?_
    refine WL.yld (by decide) (Yld.pickF rfl rfl) ?_
    refine WL.yld (by decide) (Yld.move rfl) ?_
    refine WL.skip (by decide) rfl rfl ?_
    refine WL.skip (by decide) rfl rfl ?_
    refine WL.skip (by decide) rfl rfl ?_
    refine WL.skip (by decide) rfl rfl ?_
    refine WL.skip (by decide) rfl rfl ?_
    refine WL.yld (by decide) (Yld.pickF rfl rfl) ?_
    refine WL.yld (by decide) (Yld.assign rfl) ?_
    refine WL.done (hK4 _ _ ?_)
    refine WC.ret ?_
    injection h with h; subst h
    exact Ret.fn [] (ResIs.one rfl rfl) rfl (Ext.refl _ _) rfl (by decide) rfl rfl ⟨rfl, rfl⟩
  ·
   replace h := of_f hc6 h
   refine WL.yld (by decide) (Yld.fieldAddr Try.underlying57 rfl nz_3 rfl rfl) ?_
   refine WL.yld (by decide) (Yld.loadB (k := 102) scal_3 rfl rfl rfl) ?_
   refine WL.yld (by decide) (Yld.fieldAddr Try.underlying57 rfl nz_3 rfl rfl) ?_
   refine WL.yld (by decide) (Yld.loadB (k := 103) scal_3 rfl rfl rfl) ?_
   refine WL.yld (by decide) (Yld.eqlI rfl rfl) ?_
   refine WL.yld (by decide) (Yld.move rfl) ?_
   refine WL.new (v' := .bool true) (congrArg Value.bool (beq_iff_eq.2 hc5)) ?_
   refine WL.yldG (by decide) rfl (Yld.fieldAddr Try.underlying57 rfl nz_3 rfl rfl) ?_
   refine WL.yldG (by decide) rfl (Yld.loadB (k := 102) scal_3 rfl rfl rfl) ?_
   refine WL.yldG (by decide) rfl (Yld.fieldAddr Try.underlying57 rfl nz_3 rfl rfl) ?_
   refine WL.yldG (by decide) rfl (Yld.loadB (k := 103) scal_3 rfl rfl rfl) ?_
   refine WL.yldG (by decide) rfl (Yld.eqlI rfl rfl) ?_
   refine WL.yld (by decide) (Yld.pickT rfl rfl) ?_
   refine WL.yld (by decide) (Yld.move rfl) ?_
   refine WL.new (v' := .bool false) (congrArg Value.bool (beq_eq_false_iff_ne.2 hc6)) ?_
   refine WL.skip (by decide) rfl rfl ?_
   refine WL.skip (by decide) rfl rfl ?_
   refine WL.skip (by decide) rfl rfl ?_
   refine WL.skip (by decide) rfl rfl ?_
   refine WL.skip (by decide) rfl rfl ?_
   refine WL.yld (by decide) (Yld.pickF rfl rfl) ?_
   refine WL.yld (by decide) (Yld.move rfl) ?_
   refine WL.skip (by decide) rfl rfl ?_
   refine WL.skip (by decide) rfl rfl ?_
   refine WL.skip (by decide) rfl rfl ?_
   refine WL.skip (by decide) rfl rfl ?_
   refine WL.skip (by decide) rfl rfl ?_
   refine WL.yld (by decide) (Yld.pickF rfl rfl) ?_
   refine WL.yld (by decide) (Yld.move rfl) ?_
   refine WL.skip (by decide) rfl rfl ?_
   refine WL.skip (by decide) rfl rfl ?_
   refine WL.skip (by decide) rfl rfl ?_
   refine WL.skip (by decide) rfl rfl ?_
   refine WL.skip (by decide) rfl rfl ?_
   refine WL.skip (by decide) rfl rfl ?_
   refine WL.skip (by decide) rfl rfl ?_
   refine WL.yld (by decide) (Yld.pickF rfl rfl) ?_
   refine WL.yld (by decide) (Yld.move rfl) ?_
   refine WL.skip (by decide) rfl rfl ?_
   refine WL.skip (by decide) rfl rfl ?_
   refine WL.skip (by decide) rfl rfl ?_
   refine WL.skip (by decide) rfl rfl ?_
   refine WL.skip (by decide) rfl rfl ?_
   refine WL.skip (by decide) rfl rfl ?_
   refine WL.skip (by decide) rfl rfl ?_
   refine WL.yld (by decide) (Yld.pickF rfl rfl) ?_
   refine WL.yld (by decide) (Yld.move rfl) ?_
   refine WL.skip (by decide) rfl rfl ?_
   refine WL.skip (by decide) rfl rfl ?_
   refine WL.skip (by decide) rfl rfl ?_
   refine WL.skip (by decide) rfl rfl ?_
   refine WL.skip (by decide) rfl rfl ?_
   refine WL.yld (by decide) (Yld.pickF rfl rfl) ?_
   refine WL.yld (by decide) (Yld.move rfl) ?_
   refine WL.skip (by decide) rfl rfl ?_
   refine WL.skip (by decide) rfl rfl ?_
   refine WL.skip (by decide) rfl rfl ?_
   refine WL.skip (by decide) rfl rfl ?_
   refine WL.skip (by decide) rfl rfl ?_
   refine WL.yld (by decide) (Yld.pickF rfl rfl) ?_
   refine WL.yld (by decide) (Yld.move rfl) ?_
   refine WL.skip (by decide) rfl rfl ?_
   refine WL.skip (by decide) rfl rfl ?_
   refine WL.skip (by decide) rfl rfl ?_
   refine WL.skip (by decide) rfl rfl ?_
   refine WL.skip (by decide) rfl rfl ?_
   refine WL.yld (by decide) (Yld.pickF rfl rfl) ?_
   refine WL.yld (by decide) (Yld.move rfl) ?_
   refine WL.skip (by decide) rfl rfl ?_
   refine WL.skip (by decide) rfl rfl ?_
   refine WL.skip (by decide) rfl rfl ?_
   refine WL.skip (by decide) rfl rfl ?_
   refine WL.skip (by decide) rfl rfl ?_
   refine WL.yld (by decide) (Yld.pickF rfl rfl) ?_
   refine WL.yld (by decide) (Yld.assign rfl) ?_
   refine WL.done (hK4 _ _ ?_)
   refine WC.ret ?_
   injection h with h; subst h
   exact Ret.fn [] (ResIs.one rfl rfl) rfl (Ext.refl _ _) rfl (by decide) rfl rfl ⟨rfl, rfl⟩
 ·
  replace h := of_f hc5 h
  refine WL.yld (by decide) (Yld.fieldAddr Try.underlying57 rfl nz_3 rfl rfl) ?_
  refine WL.yld (by decide) (Yld.loadB (k := 102) scal_3 rfl rfl rfl) ?_
  refine WL.yld (by decide) (Yld.fieldAddr Try.underlying57 rfl nz_3 rfl rfl) ?_
  refine WL.yld (by decide) (Yld.loadB (k := 103) scal_3 rfl rfl rfl) ?_
  refine WL.yld (by decide) (Yld.eqlI rfl rfl) ?_
  refine WL.yld (by decide) (Yld.move rfl) ?_
  refine WL.new (v' := .bool false) (congrArg Value.bool (beq_eq_false_iff_ne.2 hc5)) ?_
  refine WL.skip (by decide) rfl rfl ?_
  refine WL.skip (by decide) rfl rfl ?_
  refine WL.skip (by decide) rfl rfl ?_
  refine WL.skip (by decide) rfl rfl ?_
  refine WL.skip (by decide) rfl rfl ?_
  refine WL.yld (by decide) (Yld.pickF rfl rfl) ?_
  refine WL.yld (by decide) (Yld.move rfl) ?_
  refine WL.skip (by decide) rfl rfl ?_
  refine WL.skip (by decide) rfl rfl ?_
  refine WL.skip (by decide) rfl rfl ?_
  refine WL.skip (by decide) rfl rfl ?_
  refine WL.skip (by decide) rfl rfl ?_
  refine WL.yld (by decide) (Yld.pickF rfl rfl) ?_
  refine WL.yld (by decide) (Yld.move rfl) ?_
  refine WL.skip (by decide) rfl rfl ?_
  refine WL.skip (by decide) rfl rfl ?_
  refine WL.skip (by decide) rfl rfl ?_
  refine WL.skip (by decide) rfl rfl ?_
  refine WL.skip (by decide) rfl rfl ?_
  refine WL.yld (by decide) (Yld.pickF rfl rfl) ?_
  refine WL.yld (by decide) (Yld.move rfl) ?_
  refine WL.skip (by decide) rfl rfl ?_
  refine WL.skip (by decide) rfl rfl ?_
  refine WL.skip (by decide) rfl rfl ?_
  refine WL.skip (by decide) rfl rfl ?_
  refine WL.skip (by decide) rfl rfl ?_
  refine WL.skip (by decide) rfl rfl ?_
  refine WL.skip (by decide) rfl rfl ?_
  refine WL.yld (by decide) (Yld.pickF rfl rfl) ?_
  refine WL.yld (by decide) (Yld.move rfl) ?_
  refine WL.skip (by decide) rfl rfl ?_
  refine WL.skip (by decide) rfl rfl ?_
  refine WL.skip (by decide) rfl rfl ?_
  refine WL.skip (by decide) rfl rfl ?_
  refine WL.skip (by decide) rfl rfl ?_
  refine WL.skip (by decide) rfl rfl ?_
  refine WL.skip (by decide) rfl rfl ?_
  refine WL.yld (by decide) (Yld.pickF rfl rfl) ?_
  refine WL.yld (by decide) (Yld.move rfl) ?_
  refine WL.skip (by decide) rfl rfl ?_
  refine WL.skip (by decide) rfl rfl ?_
  refine WL.skip (by decide) rfl rfl ?_
  refine WL.skip (by decide) rfl rfl ?_
  refine WL.skip (by decide) rfl rfl ?_
  refine WL.yld (by decide) (Yld.pickF rfl rfl) ?_
  refine WL.yld (by decide) (Yld.move rfl) ?_
  refine WL.skip (by decide) rfl rfl ?_
  refine WL.skip (by decide) rfl rfl ?_
  refine WL.skip (by decide) rfl rfl ?_
  refine WL.skip (by decide) rfl rfl ?_
  refine WL.skip (by decide) rfl rfl ?_
  refine WL.yld (by decide) (Yld.pickF rfl rfl) ?_
  refine WL.yld (by decide) (Yld.move rfl) ?_
  refine WL.skip (by decide) rfl rfl ?_
  refine WL.skip (by decide) rfl rfl ?_
  refine WL.skip (by decide) rfl rfl ?_
  refine WL.skip (by decide) rfl rfl ?_
  refine WL.skip (by decide) rfl rfl ?_
  refine WL.yld (by decide) (Yld.pickF rfl rfl) ?_
  refine WL.yld (by decide) (Yld.move rfl) ?_
  refine WL.skip (by decide) rfl rfl ?_
  refine WL.skip (by decide) rfl rfl ?_
  refine WL.skip (by decide) rfl rfl ?_
  refine WL.skip (by decide) rfl rfl ?_
  refine WL.skip (by decide) rfl rfl ?_
  refine WL.yld (by decide) (Yld.pickF rfl rfl) ?_
  refine WL.yld (by decide) (Yld.assign rfl) ?_
  refine WL.done (hK4 _ _ ?_)
  refine WC.ret ?_
  injection h with h; subst h
  exact Ret.fn [] (ResIs.one rfl rfl) rfl (Ext.refl _ _) rfl (by decide) rfl rfl ⟨rfl, rfl⟩

set_option maxRecDepth 10000 in
theorem w_r24_Same (M0 : Mem) (A00 : Option Addr) (n00 c00 : Nat) (rs00 : List Rneedlestoreref24_Op) (x00 : List (Sneedlestoreref24_Op)) (hf00 : SlT M0 A00 n00 c00 rs00) (hq00 : Rels (rel_needlestoreref24_Op M0) rs00 x00) (A01 : Option Addr) (n01 c01 : Nat) (rs01 : List Rneedlestoreref24_Op) (x01 : List (Sneedlestoreref24_Op)) (hf01 : SlT M0 A01 n01 c01 rs01) (hq01 : Rels (rel_needlestoreref24_Op M0) rs01 x01) {res : Bool} (h : m_r24_Same x00 x01 = some res) :
  Fn Try.prog 13 #[.slice A00 n00 c00, .slice A01 n01 c01] M0 fun r M' es => r = .bool res ∧ es = [] := by
 refine Fn.intro (N := 27) Try.func13 rfl rfl (Nat.le_of_ble_eq_true rfl) fun w0 => ?_
 unfold m_r24_Same at h
 refine WC.seqRegion fun K1 hK1 => ?_
 refine WL.yld (by decide) (Yld.assign rfl) ?_
 refine WL.done (hK1 _ _ ?_)
 refine WC.seq fun K2 hK2 => ?_
 refine WC.seqRegion fun K3 hK3 => ?_
 refine WL.yld (by decide) (Yld.move rfl) ?_
 refine WL.yld (by decide) (Yld.lenD (rs := rs00) (xs := x00) (Rels.len hq00) und_33 rfl (RdH.memM (k := 0) rfl hf00)) ?_
 refine WL.yld (by decide) (Yld.move rfl) ?_
 refine WL.yld (by decide) (Yld.lenD (rs := rs01) (xs := x01) (Rels.len hq01) und_33 rfl (RdH.memM (k := 0) rfl hf01)) ?_
 refine WL.yld (by decide) (Yld.neqI rfl rfl) ?_
 refine WL.done (hK3 _ _ ?_)
 by_cases hc4 : (x00.length : Int) = (x01.length : Int)
 ·
  replace h := of_t hc4 h
  refine WC.condFe rfl (bne_eq_false_iff_eq.2 hc4) ?_
  refine WC.skip ?_
  refine QK.thenN (hK2 _ _ ?_)
  refine WC.seqCut (σ := Unit) (fun _ => []) (fun _ => [(0, .mem M0)]) (fun _ => m_r24_Same_j0 = some res) (fun K5 hK5 => ?_) ?_
  ·
   skip
   refine WC.seqRegion fun K6 hK6 => ?_
   refine WL.yld (by decide) (Yld.assign rfl) ?_
   refine WL.done (hK6 _ _ ?_)
   refine WC.block ?_
   refine WC.loop (σ := Nat × Int) (fun ⟨q8, x7⟩ => [(0, .slice A00 n00 c00), (1, .slice A01 n01 c01), (5, I64 x7)]) (fun ⟨q8, x7⟩ => [(0, .mem M0)]) (fun ⟨q8, x7⟩ => m_r24_Same_l1 x00 x01 q8 x7 = some res) (fun ⟨q8, x7⟩ => q8) ⟨forever, (0 : Int)⟩ ?_ (Sub.cons rfl (Sub.cons rfl (Sub.cons rfl (Sub.nil _)))) (Sub.cons rfl (Sub.nil _)) ?_
   ·
    exact h
   rintro ⟨q8, x7⟩ h K9 hK9
   cases q8 with
   | zero => exact absurd h (by simp [m_r24_Same_l1])
   | succ q8 =>
    unfold m_r24_Same_l1 at h
    refine WC.seq fun K10 hK10 => ?_
    refine WC.seqRegion fun K11 hK11 => ?_
    refine WL.yld (by decide) (Yld.move rfl) ?_
    refine WL.yld (by decide) (Yld.move rfl) ?_
    refine WL.yld (by decide) (Yld.lenD (rs := rs00) (xs := x00) (Rels.len hq00) und_33 rfl (RdH.memM (k := 0) rfl hf00)) ?_
    refine WL.yld (by decide) (Yld.lss rfl rfl) ?_
    refine WL.done (hK11 _ _ ?_)
    by_cases hc12 : x7 < (x00.length : Int)
    ·
     replace h := of_t hc12 h
     refine WC.condTe rfl (decide_eq_true hc12) ?_
     refine WC.skip ?_
     refine QK.thenN (hK10 _ _ ?_)
     refine WC.seq fun K13 hK13 => ?_
     refine WC.block ?_
     refine WC.seqRegionD (n := 10) [(0, _)] rfl mixed (Sub.cons rfl (Sub.nil _)) fun K14 hK14 => ?_
     obtain ⟨x15, hx15, h⟩ := bnd h
     obtain ⟨x19, hx19, h⟩ := bnd h
     obtain ⟨x23, hx23, h⟩ := bnd h
     refine WD.take 0 rfl (by kernel_rfl) (by kernel_rfl) (by kernel_rfl) (by decide) (Yld.move rfl) ?_
     refine WD.take 1 rfl (by kernel_rfl) (by kernel_rfl) (by kernel_rfl) (by decide) (Yld.move rfl) ?_
     obtain ⟨⟨_, r_16_0, r_16_1⟩, hr17, rfl, hq18_0, hq18_1⟩ := Rels.idx hq00 hx15
     refine WD.take 2 rfl (by kernel_rfl) (by kernel_rfl) (by kernel_rfl) (by decide) (Yld.idxC (xs := rs00) sty_33 rfl rfl (RdH.memM (k := 0) rfl hf00) hr17) ?_
     refine WD.take 3 rfl (by kernel_rfl) (by kernel_rfl) (by kernel_rfl) (by decide) (Yld.loadA (xs := rs00) agg_57 rfl (RdH.memM (k := 0) rfl hf00) hr17 rfl) ?_
     refine WD.take 4 rfl (by kernel_rfl) (by kernel_rfl) (by kernel_rfl) (by decide) (Yld.move rfl) ?_
     refine WD.take 5 rfl (by kernel_rfl) (by kernel_rfl) (by kernel_rfl) (by decide) (Yld.move rfl) ?_
     obtain ⟨⟨_, r_20_0, r_20_1⟩, hr21, rfl, hq22_0, hq22_1⟩ := Rels.idx hq01 hx19
     refine WD.take 6 rfl (by kernel_rfl) (by kernel_rfl) (by kernel_rfl) (by decide) (Yld.idxC (xs := rs01) sty_33 rfl rfl (RdH.memM (k := 0) rfl hf01) hr21) ?_
     refine WD.take 7 rfl (by kernel_rfl) (by kernel_rfl) (by kernel_rfl) (by decide) (Yld.loadA (xs := rs01) agg_57 rfl (RdH.memM (k := 0) rfl hf01) hr21 rfl) ?_
     refine WD.one 8 (by kernel_rfl) ?_
     refine WS.eff rfl (by decide) (Eff.callS 124 rfl Try.func24 nm_24 rfl rfl (fun w hb hh => w_r24_SameOp (Mem.snap w) x15.fClient x15.fKind x15.fKey x15.fCookie r_16_0.A r_16_0.n r_16_0.c _ (RdH.sn (RdH.memM (k := 0) rfl hq18_0) w hb hh) r_16_1.A r_16_1.n r_16_1.c _ (RdH.sn (RdH.memM (k := 0) rfl hq18_1) w hb hh) x15.fCall x15.fReturn x15.fClosed x15.fResult x19.fClient x19.fKind x19.fKey x19.fCookie r_20_0.A r_20_0.n r_20_0.c _ (RdH.sn (RdH.memM (k := 0) rfl hq22_0) w hb hh) r_20_1.A r_20_1.n r_20_1.c _ (RdH.sn (RdH.memM (k := 0) rfl hq22_1) w hb hh) x19.fCall x19.fReturn x19.fClosed x19.fResult hx23)) ?_
     rintro _ _ ⟨_, ⟨rfl, rfl⟩, rfl⟩
     refine ⟨(Sub.cons rfl (Sub.nil _)), ?_⟩
     refine WD.take 9 rfl (by kernel_rfl) (by kernel_rfl) (by kernel_rfl) (by decide) (Yld.notB rfl) ?_
     refine WD.done (by kernel_rfl) (hK14 _ _ ?_)
     by_cases hc25 : x23 = true
     ·
      replace h := of_t hc25 h
      refine WC.condFe rfl (not_f hc25) ?_
      refine WC.skip ?_
      refine QK.blockN ?_
      refine QK.thenN (hK13 _ _ ?_)
      refine WC.region fun K26 hK26 => ?_
      obtain ⟨x27, hx27, h⟩ := bnd h
      refine WL.yld (by decide) (Yld.move rfl) ?_
      refine WL.yld (by decide) (Yld.addC rfl rfl hx27) ?_
      refine WL.yld (by decide) (Yld.assign rfl) ?_
      refine WL.done (hK26 _ _ ?_)
      refine QK.thenN ?_
      refine hK9 ⟨q8, x27⟩ _ _ ?_ (Nat.lt_succ_self _) (Sub.cons rfl (Sub.cons rfl (Sub.cons rfl (Sub.nil _)))) (Sub.cons rfl (Sub.nil _))
      exact h
     ·
      replace h := of_f hc25 h
      refine WC.condTe rfl (not_t (Bool.eq_false_iff.2 hc25)) ?_
      refine WC.seqRegion fun K28 hK28 => ?_
      refine WL.yld (by decide) (Yld.assign rfl) ?_
      refine WL.done (hK28 _ _ ?_)
      refine WC.ret (QK.blockR (QK.thenR (QK.thenR (QK.blockR (QK.thenR ?_)))))
      injection h with h; subst h
      exact Ret.fn [] (ResIs.one rfl rfl) rfl (Ext.refl _ _) rfl (by decide) rfl rfl ⟨rfl, rfl⟩
    ·
     replace h := of_f hc12 h
     refine WC.condFe rfl (decide_eq_false hc12) ?_
     refine WC.exit (QK.thenE (QK.thenE (QK.blockX ?_)))
     refine QK.thenN ?_
     refine hK5 () _ _ ?_ (Sub.nil _) (Sub.cons rfl (Sub.nil _))
     exact h
  ·
   rintro _ h
   unfold m_r24_Same_j0 at h
   refine WC.seqRegion fun K29 hK29 => ?_
   refine WL.yld (by decide) (Yld.assign rfl) ?_
   refine WL.done (hK29 _ _ ?_)
   refine WC.ret ?_
   injection h with h; subst h
   exact Ret.fn [] (ResIs.one rfl rfl) rfl (Ext.refl _ _) rfl (by decide) rfl rfl ⟨rfl, rfl⟩
 ·
  replace h := of_f hc4 h
  refine WC.condTe rfl (bne_iff_ne.2 hc4) ?_
  refine WC.seqRegion fun K30 hK30 => ?_
  refine WL.yld (by decide) (Yld.assign rfl) ?_
  refine WL.done (hK30 _ _ ?_)
  refine WC.ret (QK.thenR ?_)
  injection h with h; subst h
  exact Ret.fn [] (ResIs.one rfl rfl) rfl (Ext.refl _ _) rfl (by decide) rfl rfl ⟨rfl, rfl⟩

end Go.Proofs.Ytpebhdepmbnjbaa
