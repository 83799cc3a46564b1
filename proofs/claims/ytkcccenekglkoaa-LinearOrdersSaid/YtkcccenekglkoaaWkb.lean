/-
 Walks (b): what a function's model gives, the function returns. Printed by a program of ours (vcm.py) from the function's operations. Conditions: as each theorem says.
-/
import Derived.Test.YtkcccenekglkoaaWky
import Derived.Test.YtkcccenekglkoaaMdb
namespace Go.Proofs.Ytkcccenekglkoaa
set_option maxRecDepth 10000
open Go Go.RowKit
set_option linter.unusedVariables false
theorem und_32 : Try.prog.underlying 32 = some (.slice 29) := by kernel_rfl
theorem und_69 : Try.prog.underlying 69 = some (.slice 74) := by kernel_rfl
theorem agg_29 : Agg Try.prog 29 10 := ⟨⟨_, Try.underlying29, rfl⟩, by kernel_rfl⟩
theorem agg_74 : Agg Try.prog 74 7 := ⟨⟨_, Try.underlying74, rfl⟩, by kernel_rfl⟩
theorem bu_29_0_1_2_3_6_7_8 : ∀ (a0 : Int) (a1 : Int) (a2 : BitVec 64) (a3 : BitVec 32) (a6 : Int) (a7 : Int) (a8 : Int), Try.prog.built 29 [(0, I64 a0), (1, I64 a1), (2, U64 a2), (3, U32 a3), (6, I64 a6), (7, I64 a7), (8, I64 a8)] = some ([I64 a0, I64 a1, U64 a2, U32 a3, .slice none 0 0, .slice none 0 0, I64 a6, I64 a7, I64 a8, I64 (0 : Int)] : List Value).toArray := fun a0 a1 a2 a3 a6 a7 a8 => by kernel_rfl
theorem nm_35 : (Try.f35.name == "runtime.NumGoroutine") = false := by kernel_rfl
theorem sty_32 : STy Try.prog 32 29 (.agg #[(I64 0), (I64 0), (U64 0#64), (U32 0#32), (.slice none 0 0), (.slice none 0 0), (I64 0), (I64 0), (I64 0), (I64 0)]) 10 112 := STy.of und_32 (by kernel_rfl) rfl
theorem sty_69 : STy Try.prog 69 74 (.agg #[(I64 0), (I64 0), (I64 0), (U64 0#64), (U32 0#32), (.slice none 0 0), (I64 0)]) 7 72 := STy.of und_69 (by kernel_rfl) rfl
theorem zr_29 : (Try.prog.info? 29).map (fun i => i.zero.map (·.cells)) = some (some ([I64 (0 : Int), I64 (0 : Int), U64 0#64, U32 0#32, .slice none 0 0, .slice none 0 0, I64 (0 : Int), I64 (0 : Int), I64 (0 : Int), I64 (0 : Int)] : List Value).toArray) := by kernel_rfl
theorem zr_74 : (Try.prog.info? 74).map (fun i => i.zero.map (·.cells)) = some (some ([I64 (0 : Int), I64 (0 : Int), I64 (0 : Int), U64 0#64, U32 0#32, .slice none 0 0, I64 (0 : Int)] : List Value).toArray) := by kernel_rfl
structure Rneedlestoreref24_Op where
 x : Sneedlestoreref24_Op
 h0 : Hdr
 h1 : Hdr
instance : Lay Rneedlestoreref24_Op := ⟨10, fun r => [I64 r.x.fClient, I64 r.x.fKind, U64 r.x.fKey, U32 r.x.fCookie, .slice r.h0.A r.h0.n r.h0.c, .slice r.h1.A r.h1.n r.h1.c, I64 r.x.fCall, I64 r.x.fReturn, I64 r.x.fClosed, I64 r.x.fResult], fun _ => rfl, fun _ u h => by simp only [List.mem_cons, List.not_mem_nil, or_false] at h; rcases h with rfl | rfl | rfl | rfl | rfl | rfl | rfl | rfl | rfl | rfl <;> rfl, by decide⟩
def rel_needlestoreref24_Op (M : Mem) (r : Rneedlestoreref24_Op) (x : Sneedlestoreref24_Op) : Prop := x = r.x /\ (RelB (α := BitVec 8)) M r.h0 x.fData /\ (RelB (α := BitVec 8)) M r.h1 x.fGot
instance : Mono rel_needlestoreref24_Op := ⟨fun ⟨h0, h1, h2⟩ hm => ⟨h0, Mono.mono h1 hm, Mono.mono h2 hm⟩⟩
structure Rneedlestoreref24_Event where
 x : Sneedlestoreref24_Event
 h0 : Hdr
instance : Lay Rneedlestoreref24_Event := ⟨7, fun r => [I64 r.x.fKind, I64 r.x.fClient, I64 r.x.fOp, U64 r.x.fKey, U32 r.x.fCookie, .slice r.h0.A r.h0.n r.h0.c, I64 r.x.fResult], fun _ => rfl, fun _ u h => by simp only [List.mem_cons, List.not_mem_nil, or_false] at h; rcases h with rfl | rfl | rfl | rfl | rfl | rfl | rfl <;> rfl, by decide⟩
def rel_needlestoreref24_Event (M : Mem) (r : Rneedlestoreref24_Event) (x : Sneedlestoreref24_Event) : Prop := x = r.x /\ (RelB (α := BitVec 8)) M r.h0 x.fData
instance : Mono rel_needlestoreref24_Event := ⟨fun ⟨h0, h1⟩ hm => ⟨h0, Mono.mono h1 hm⟩⟩
theorem w_r24_open (M0 : Mem) (A00 : Option Addr) (n00 c00 : Nat) (rs00 : List Rneedlestoreref24_Op) (x00 : List (Sneedlestoreref24_Op)) (hf00 : SlT M0 A00 n00 c00 rs00) (hq00 : Rels (rel_needlestoreref24_Op M0) rs00 x00) (x01 : Int) {res : Int} (h : m_r24_open x00 x01 = some res) :
  Fn Try.prog 44 #[.slice A00 n00 c00, I64 x01] M0 fun r M' es => r = I64 res /\ es = [] := by
 refine Fn.intro (N := 35) Try.func44 rfl rfl (Nat.le_of_ble_eq_true rfl) fun w0 => ?_
 unfold m_r24_open at h
 refine sr fun _ k1 => asn rfl <| dn <| k1 _ _ <| ct (σ := Unit) (fun _ => []) (fun _ => [(0, .mem M0)]) (fun _ => m_r24_open_j0 = some res) (fun _ k2 => ?_) ?_
 ·refine sr fun _ k3 => ?_
  obtain ⟨x4, hx4, h⟩ := bnd h
  refine mv rfl <| ya (Yld.lenD (rs := rs00) (xs := x00) (Rels.len hq00) und_32 rfl (RdH.memM (k := 0) rfl hf00)) <| ya (Yld.subC rfl rfl hx4) <| asn rfl <| dn <| k3 _ _ <| bl <| lp (τ := Int) (fun x5 => [(0, .slice A00 n00 c00), (1, I64 x01), (5, I64 x5)]) (fun x5 => [(0, .mem M0)]) (fun q6 x5 => m_r24_open_l1 x00 x01 q6 x5 = some res) (x4) ?_ (by simp [m_r24_open_l1]) ?_
  ·exact h
  rintro q6 x5 h _ k7
  unfold m_r24_open_l1 at h
  refine sq fun _ k8 => sr fun _ k9 => mv rfl <| ya (Yld.geq rfl rfl) <| dn <| k9 _ _ <| cnd h rfl decide_eq_true decide_eq_false (fun hc10 h => ?_) fun hc10 h => ?_
  ·refine ss <| k8 _ _ <| sq fun _ k11 => bl <| sr fun _ k12 => ?_
   obtain ⟨x13, hx13, h⟩ := bnd h
   refine mv rfl <| mv rfl ?_
   obtain ⟨⟨_, r_14_0, r_14_1⟩, hr15, rfl, hq16_0, hq16_1⟩ := Rels.idx hq00 hx13
   refine ya (Yld.idxC (xs := rs00) sty_32 rfl rfl (RdH.memM (k := 0) rfl hf00) hr15) <| ya (Yld.fieldAddrC Try.underlying29 rfl nz_3 rfl rfl) <| ya (Yld.loadC (xs := rs00) (j := 0) scal_3 rfl (RdH.memM (k := 0) rfl hf00) hr15 rfl rfl) <| mv rfl <| ya (Yld.eqlI rfl rfl) <| dn <| k12 _ _ <| cnd h rfl beq_iff_eq.2 beq_eq_false_iff_ne.2 (fun hc17 h => ?_) fun hc17 h => ?_
   ·refine sq fun _ k18 => sr fun _ k19 => ?_
    obtain ⟨x20, hx20, h⟩ := bnd h
    refine mv rfl <| mv rfl ?_
    obtain ⟨⟨_, r_21_0, r_21_1⟩, hr22, rfl, hq23_0, hq23_1⟩ := Rels.idx hq00 hx20
    refine ya (Yld.idxC (xs := rs00) sty_32 rfl rfl (RdH.memM (k := 0) rfl hf00) hr22) <| ya (Yld.fieldAddrC Try.underlying29 rfl nz_3 rfl rfl) <| ya (Yld.loadC (xs := rs00) (j := 7) scal_3 rfl (RdH.memM (k := 0) rfl hf00) hr22 rfl rfl) <| ya (Yld.eqlI rfl rfl) <| mv rfl <| spl h beq_iff_eq.2 beq_eq_false_iff_ne.2 (fun hc24 h => ?_) fun hc24 h => ?_
    ·obtain ⟨x25, hx25, h⟩ := bnd h
     refine mvg rfl <| mvg rfl ?_
     obtain ⟨⟨_, r_26_0, r_26_1⟩, hr27, rfl, hq28_0, hq28_1⟩ := Rels.idx hq00 hx25
     refine yg (Yld.idxC (xs := rs00) sty_32 rfl rfl (RdH.memM (k := 0) rfl hf00) hr27) <| yg (Yld.fieldAddrC Try.underlying29 rfl nz_3 rfl rfl) <| yg (Yld.loadC (xs := rs00) (j := 8) scal_3 rfl (RdH.memM (k := 0) rfl hf00) hr27 rfl rfl) <| yg (Yld.eqlI rfl rfl) <| pt rfl rfl <| dn <| k19 _ _ <| cnd h rfl beq_iff_eq.2 beq_eq_false_iff_ne.2 (fun hc29 h => ?_) fun hc29 h => ?_
     ·refine sr fun _ k30 => mv rfl <| asn rfl <| dn <| k30 _ _ <| re <| tr <| br <| tr <| tr <| br <| tr ?_
      injection h with h; subst h
      exact rt0 (ResIs.one rfl rfl)
     refine ss <| k18 _ _ <| sr fun _ k31 => asn rfl <| dn <| k31 _ _ <| re <| br <| tr <| tr <| br <| tr ?_
     injection h with h; subst h
     exact rt0 (ResIs.one rfl rfl)
    refine sk <| sk <| sk <| sk <| sk <| sk <| pf rfl rfl <| dn <| k19 _ _ <| cdF rfl <| ss <| k18 _ _ <| sr fun _ k32 => asn rfl <| dn <| k32 _ _ <| re <| br <| tr <| tr <| br <| tr ?_
    injection h with h; subst h
    exact rt0 (ResIs.one rfl rfl)
   refine WC.skip <| bn <| tn <| k11 _ _ <| rg fun _ k33 => ?_
   obtain ⟨x34, hx34, h⟩ := bnd h
   exact mv rfl <| ya (Yld.subC rfl rfl hx34) <| asn rfl <| dn <| k33 _ _ <| tn <| kw (k7 (x34) h)
  exact xi <| te <| te <| bx <| tn <| kw (k2 () h)
 rintro _ h
 unfold m_r24_open_j0 at h
 refine sr fun _ k35 => asn rfl <| dn <| k35 _ _ <| re ?_
 injection h with h; subst h
 exact rt0 (ResIs.one rfl rfl)
theorem w_r24_Build (M0 : Mem) (A00 : Option Addr) (n00 c00 : Nat) (rs00 : List Rneedlestoreref24_Event) (x00 : List (Sneedlestoreref24_Event)) (hf00 : SlT M0 A00 n00 c00 rs00) (hq00 : Rels (rel_needlestoreref24_Event M0) rs00 x00) {res : (List (Sneedlestoreref24_Op)) × Int} (h : m_r24_Build x00 = some res) :
  Fn Try.prog 27 #[.slice A00 n00 c00] M0 fun r M' es => ∃ (A1 : Option Addr) (n1 c1 : Nat), ∃ rs1 : List Rneedlestoreref24_Op, r = .tuple #[.slice A1 n1 c1, I64 res.2] /\ es = [.own 29 (Lay.sz Rneedlestoreref24_Op) A1 n1 c1 (cel rs1)] /\ Rels (rel_needlestoreref24_Op M') rs1 res.1 := by
 refine Fn.intro (N := 132) Try.func27 rfl rfl (Nat.le_of_ble_eq_true rfl) fun w0 => ?_
 unfold m_r24_Build at h
 refine sr fun _ k1 => asn rfl <| asn rfl <| dn <| k1 _ _ <| sr fun _ k2 => asn rfl <| dn <| k2 _ _ <| ct (σ := Mem × (Option Addr) × Nat × Nat × (List (Sneedlestoreref24_Op)) × (List Rneedlestoreref24_Op)) (fun ⟨M3, A6, n7, c8, x9, rs10⟩ => [(4, .slice A6 n7 c8)]) (fun ⟨M3, A6, n7, c8, x9, rs10⟩ => [(0, .mem M3), (105, .own 29 (Lay.sz Rneedlestoreref24_Op) A6 n7 c8 (cel rs10))]) (fun ⟨M3, A6, n7, c8, x9, rs10⟩ => m_r24_Build_j0 x9 = some res /\ Ext w0.heap.size M0 M3 /\ Rels (rel_needlestoreref24_Op M3) rs10 x9) (fun _ k12 => ?_) ?_
 ·refine sr fun _ k13 => asn rfl <| dn <| k13 _ _ <| bl <| WC.nilOwn 116 29 (Lay.sz Rneedlestoreref24_Op) none <| lp (τ := Mem × (Option Addr) × Nat × Nat × (List (Sneedlestoreref24_Op)) × (List Rneedlestoreref24_Op) × Int) (fun ⟨M14, A17, n18, c19, x20, rs21, x23⟩ => [(0, .slice A00 n00 c00), (4, .slice A17 n18 c19), (5, I64 x23)]) (fun ⟨M14, A17, n18, c19, x20, rs21, x23⟩ => [(0, .mem M14), (116, .own 29 (Lay.sz Rneedlestoreref24_Op) A17 n18 c19 (cel rs21))]) (fun q24 ⟨M14, A17, n18, c19, x20, rs21, x23⟩ => m_r24_Build_l1 x00 q24 x20 x23 = some res /\ Ext w0.heap.size M0 M14 /\ Rels (rel_needlestoreref24_Op M14) rs21 x20) ⟨M0, none, 0, 0, ([] : List (Sneedlestoreref24_Op)), ([] : List Rneedlestoreref24_Op), (0 : Int)⟩ ?_ (by simp [m_r24_Build_l1]) ?_
  ·exact ⟨h, (Ext.refl _ _), (Rels.nil (R := rel_needlestoreref24_Op M0))⟩
  rintro q24 ⟨M14, A17, n18, c19, x20, rs21, x23⟩ ⟨h, hm_M14, hq22⟩ _ k25
  unfold m_r24_Build_l1 at h
  refine sq fun _ k26 => sr fun _ k27 => mv rfl <| mv rfl <| ya (Yld.lenD (rs := rs00) (xs := x00) (Rels.len (Rels.lift hq00 hm_M14)) und_69 rfl (RdH.memM (k := 0) rfl (SlRc.lift hf00 hm_M14))) <| ya (Yld.lss rfl rfl) <| dn <| k27 _ _ <| cnd h rfl decide_eq_true decide_eq_false (fun hc28 h => ?_) fun hc28 h => ?_
  ·refine ss <| k26 _ _ <| ct (σ := Mem × (Option Addr) × Nat × Nat × (List (Sneedlestoreref24_Op)) × (List Rneedlestoreref24_Op)) (fun ⟨M29, A30, n31, c32, x33, rs34⟩ => [(0, .slice A00 n00 c00), (4, .slice A30 n31 c32), (5, I64 x23)]) (fun ⟨M29, A30, n31, c32, x33, rs34⟩ => [(0, .mem M29), (116, .own 29 (Lay.sz Rneedlestoreref24_Op) A30 n31 c32 (cel rs34))]) (fun ⟨M29, A30, n31, c32, x33, rs34⟩ => m_r24_Build_j2 x23 (m_r24_Build_l1 x00 q24) x33 = some res /\ Ext w0.heap.size M14 M29 /\ Rels (rel_needlestoreref24_Op M29) rs34 x33) (fun _ k36 => ?_) ?_
   ·refine bl <| sr fun _ k37 => ?_
    obtain ⟨x38, hx38, h⟩ := bnd h
    refine mv rfl <| mv rfl ?_
    obtain ⟨⟨_, r_39_0⟩, hr40, rfl, hq41_0⟩ := Rels.idx (Rels.lift hq00 hm_M14) hx38
    refine ya (Yld.idxC (xs := rs00) sty_69 rfl rfl (RdH.memM (k := 0) rfl (SlRc.lift hf00 hm_M14)) hr40) <| ya (Yld.loadA (xs := rs00) agg_74 rfl (RdH.memM (k := 0) rfl (SlRc.lift hf00 hm_M14)) hr40 rfl) <| al 142 zr_74 fun g42 => sb 142 agg_74 rfl rfl rfl <| dn <| k37 _ _ <| sr fun _ k43 => ?_
    obtain ⟨x44, hx44, h⟩ := bnd h
    refine mv rfl <| ya (Yld.fieldAddr Try.underlying74 rfl nz_3 rfl rfl) <| ya (Yld.loadB (k := 142) scal_3 rfl rfl rfl) <| c0 Try.func44 rfl (fun w hb hh => w_r24_open (Mem.snap w) A17 n18 c19 rs21 _ (RdH.sn (RdH.own (k := 116) rfl) w hb hh) (Rels.sn hq22 (hh.sat 0 _ rfl)) x38.fClient hx44) <| asn rfl <| dn <| k43 _ _ <| bl <| ctr (σ := Bool) (fun x46 => [(0, .slice A00 n00 c00), (4, .slice A17 n18 c19), (5, I64 x23), (6, .pointer (some ⟨g42, 0, none⟩)), (7, I64 x44), (24, .bool x46)]) (fun x46 => [(0, .mem M14), (116, .own 29 (Lay.sz Rneedlestoreref24_Op) A17 n18 c19 (cel rs21)), (142, .blk g42 74 [I64 x38.fKind, I64 x38.fClient, I64 x38.fOp, U64 x38.fKey, U32 x38.fCookie, .slice r_39_0.A r_39_0.n r_39_0.c, I64 x38.fResult])]) (fun x46 => m_r24_Build_j3 x20 x23 x38 x44 (m_r24_Build_l1 x00 q24) x46 = some res) (fun _ k47 => ?_) ?_
    ·refine ya (Yld.fieldAddr Try.underlying74 rfl nz_3 rfl rfl) <| ya (Yld.loadB (k := 142) scal_3 rfl rfl rfl) <| ya (Yld.eqlI rfl rfl) <| mv rfl <| spl h beq_iff_eq.2 beq_eq_false_iff_ne.2 (fun hc49 h => ?_) fun hc49 h => ?_
     ·refine yg (Yld.fieldAddr Try.underlying74 rfl nz_3 rfl rfl) <| yg (Yld.loadB (k := 142) scal_3 rfl rfl rfl) <| yg (Yld.geq rfl rfl) <| pt rfl rfl <| mv rfl <| spl h decide_eq_true decide_eq_false (fun hc50 h => ?_) fun hc50 h => ?_
      ·refine yg (Yld.fieldAddr Try.underlying74 rfl nz_3 rfl rfl) <| yg (Yld.loadB (k := 142) scal_3 rfl rfl rfl) <| yg (Yld.leq rfl rfl) <| pt rfl rfl <| mv rfl <| spl h decide_eq_true decide_eq_false (fun hc51 h => ?_) fun hc51 h => ?_
       ·exact mvg rfl <| yg (Yld.lss rfl rfl) <| pt rfl rfl <| asn rfl <| WL.done <| kw (k47 (decide (x44 < (0 : Int))) h)
       exact sk <| sk <| pf rfl rfl <| asn rfl <| WL.done <| kw (k47 false h)
      exact sk <| sk <| sk <| pf rfl rfl <| mv rfl <| sk <| sk <| pf rfl rfl <| asn rfl <| WL.done <| kw (k47 false h)
     exact sk <| sk <| sk <| pf rfl rfl <| mv rfl <| sk <| sk <| sk <| pf rfl rfl <| mv rfl <| sk <| sk <| pf rfl rfl <| asn rfl <| WL.done <| kw (k47 false h)
    rintro x46 h
    unfold m_r24_Build_j3 at h
    refine cnd h rfl id Bool.eq_false_iff.2 (fun hc52 h => ?_) fun hc52 h => ?_
    ·refine sr fun _ k53 => ya (Yld.fieldAddr Try.underlying74 rfl nz_3 rfl rfl) <| ya (Yld.loadB (k := 142) scal_3 rfl rfl rfl) <| ya (Yld.fieldAddr Try.underlying74 rfl nz_3 rfl rfl) <| ya (Yld.loadB (k := 142) scal_3 rfl rfl rfl) <| ya (Yld.fieldAddr Try.underlying74 rfl nz_26 rfl rfl) <| ya (Yld.loadB (k := 142) scal_26 rfl rfl rfl) <| ya (Yld.fieldAddr Try.underlying74 rfl nz_22 rfl rfl) <| ya (Yld.loadB (k := 142) scal_22 rfl rfl rfl) <| mv rfl <| ya (Yld.build rfl (bu_29_0_1_2_3_6_7_8 x38.fClient x38.fOp x38.fKey x38.fCookie x23 (-1 : Int) (-1 : Int))) <| al 154 zr_29 fun g54 => sb 154 agg_29 rfl rfl rfl <| dn <| k53 _ _ <| sq fun _ k55 => sr fun _ k56 => ya (Yld.fieldAddr Try.underlying74 rfl nz_3 rfl rfl) <| ya (Yld.loadB (k := 142) scal_3 rfl rfl rfl) <| ya (Yld.eqlI rfl rfl) <| dn <| k56 _ _ <| cnd h rfl beq_iff_eq.2 beq_eq_false_iff_ne.2 (fun hc57 h => ?_) fun hc57 h => ?_
     ·refine rg fun _ k58 => ?_
      obtain ⟨x60, hx60, h⟩ := bnd h
      refine WL.eff (by decide) (Eff.buildC 159 ([] : List (BitVec 8)) sty_23 rfl rfl rfl rfl rfl (by decide)) ?_
      rintro _ _ ⟨g59, rfl, rfl⟩
      refine ya (Yld.fieldAddr Try.underlying74 rfl nz_23 rfl rfl) <| ya (Yld.loadB (k := 142) scal_23 rfl rfl rfl) <| ap 159 (xs := ([] : List (BitVec 8))) (ys := x38.fData) sty_23 rfl rfl rfl (RdH.memM (k := 0) rfl hq41_0) hx60 fun A61 c62 => ya (Yld.fieldAddr Try.underlying29 rfl nz_23 rfl rfl) <| WL.eff0 (Eff0.storeB 154 siz_23 rfl rfl rfl rfl (Nat.le_of_ble_eq_true rfl)) <| dn <| k58 _ _ <| tn <| k55 _ _ <| rg fun _ k63 => ?_
      obtain ⟨x68, hx68, h⟩ := bnd h
      refine mv rfl <| ya (Yld.loadBM (k := 154) agg_29 rfl rfl rfl) <| WL.freeze 159 rfl rfl rfl fun M65 hm_M65 hf66 => ?_
      have hq67 : Rels (rel_needlestoreref24_Op M65) ([(Rneedlestoreref24_Op.mk (Sneedlestoreref24_Op.mk x38.fClient x38.fOp x38.fKey x38.fCookie x60 ([] : List (BitVec 8)) x23 (-1 : Int) (-1 : Int) (0 : Int)) (⟨A61, x60.length, c62⟩ : Hdr) (⟨none, 0, 0⟩ : Hdr))] : List Rneedlestoreref24_Op) ([(Sneedlestoreref24_Op.mk x38.fClient x38.fOp x38.fKey x38.fCookie x60 ([] : List (BitVec 8)) x23 (-1 : Int) (-1 : Int) (0 : Int))] : List (Sneedlestoreref24_Op)) := (Rels.cons ⟨rfl, hf66, SlT.nil⟩ Rels.nil)
      refine WL.eff (by decide) (Eff.buildCA 164 ([(Rneedlestoreref24_Op.mk (Sneedlestoreref24_Op.mk x38.fClient x38.fOp x38.fKey x38.fCookie x60 ([] : List (BitVec 8)) x23 (-1 : Int) (-1 : Int) (0 : Int)) (⟨A61, x60.length, c62⟩ : Hdr) (⟨none, 0, 0⟩ : Hdr))] : List Rneedlestoreref24_Op) sty_32 rfl rfl rfl (by decide)) ?_
      rintro _ _ ⟨g64, rfl, rfl⟩
      obtain ⟨hu71, hq72⟩ := Rels.apd (Rels.lift hq22 hm_M65) hq67 hx68
      exact ap 116 (xs := rs21) (ys := ([(Rneedlestoreref24_Op.mk (Sneedlestoreref24_Op.mk x38.fClient x38.fOp x38.fKey x38.fCookie x60 ([] : List (BitVec 8)) x23 (-1 : Int) (-1 : Int) (0 : Int)) (⟨A61, x60.length, c62⟩ : Hdr) (⟨none, 0, 0⟩ : Hdr))] : List Rneedlestoreref24_Op)) sty_32 rfl rfl rfl (RdH.own (k := 164) rfl) hu71 fun A69 c70 => asn rfl <| dn <| k63 _ _ <| bn <| bn <| tn <| kw (k36 ⟨M65, A69, (rs21 ++ ([(Rneedlestoreref24_Op.mk (Sneedlestoreref24_Op.mk x38.fClient x38.fOp x38.fKey x38.fCookie x60 ([] : List (BitVec 8)) x23 (-1 : Int) (-1 : Int) (0 : Int)) (⟨A61, x60.length, c62⟩ : Hdr) (⟨none, 0, 0⟩ : Hdr))] : List Rneedlestoreref24_Op)).length, c70, x68, (rs21 ++ ([(Rneedlestoreref24_Op.mk (Sneedlestoreref24_Op.mk x38.fClient x38.fOp x38.fKey x38.fCookie x60 ([] : List (BitVec 8)) x23 (-1 : Int) (-1 : Int) (0 : Int)) (⟨A61, x60.length, c62⟩ : Hdr) (⟨none, 0, 0⟩ : Hdr))] : List Rneedlestoreref24_Op))⟩ ⟨h, hm_M65, hq72⟩)
     refine ss <| k55 _ _ <| rg fun _ k73 => ?_
     obtain ⟨x76, hx76, h⟩ := bnd h
     refine mv rfl <| ya (Yld.loadBM (k := 154) agg_29 rfl rfl rfl) ?_
     have hq75 : Rels (rel_needlestoreref24_Op M14) ([(Rneedlestoreref24_Op.mk (Sneedlestoreref24_Op.mk x38.fClient x38.fOp x38.fKey x38.fCookie ([] : List (BitVec 8)) ([] : List (BitVec 8)) x23 (-1 : Int) (-1 : Int) (0 : Int)) (⟨none, 0, 0⟩ : Hdr) (⟨none, 0, 0⟩ : Hdr))] : List Rneedlestoreref24_Op) ([(Sneedlestoreref24_Op.mk x38.fClient x38.fOp x38.fKey x38.fCookie ([] : List (BitVec 8)) ([] : List (BitVec 8)) x23 (-1 : Int) (-1 : Int) (0 : Int))] : List (Sneedlestoreref24_Op)) := (Rels.cons ⟨rfl, SlT.nil, SlT.nil⟩ Rels.nil)
     refine WL.eff (by decide) (Eff.buildCA 174 ([(Rneedlestoreref24_Op.mk (Sneedlestoreref24_Op.mk x38.fClient x38.fOp x38.fKey x38.fCookie ([] : List (BitVec 8)) ([] : List (BitVec 8)) x23 (-1 : Int) (-1 : Int) (0 : Int)) (⟨none, 0, 0⟩ : Hdr) (⟨none, 0, 0⟩ : Hdr))] : List Rneedlestoreref24_Op) sty_32 rfl rfl rfl (by decide)) ?_
     rintro _ _ ⟨g74, rfl, rfl⟩
     obtain ⟨hu79, hq80⟩ := Rels.apd hq22 hq75 hx76
     exact ap 116 (xs := rs21) (ys := ([(Rneedlestoreref24_Op.mk (Sneedlestoreref24_Op.mk x38.fClient x38.fOp x38.fKey x38.fCookie ([] : List (BitVec 8)) ([] : List (BitVec 8)) x23 (-1 : Int) (-1 : Int) (0 : Int)) (⟨none, 0, 0⟩ : Hdr) (⟨none, 0, 0⟩ : Hdr))] : List Rneedlestoreref24_Op)) sty_32 rfl rfl rfl (RdH.own (k := 174) rfl) hu79 fun A77 c78 => asn rfl <| dn <| k73 _ _ <| bn <| bn <| tn <| kw (k36 ⟨M14, A77, (rs21 ++ ([(Rneedlestoreref24_Op.mk (Sneedlestoreref24_Op.mk x38.fClient x38.fOp x38.fKey x38.fCookie ([] : List (BitVec 8)) ([] : List (BitVec 8)) x23 (-1 : Int) (-1 : Int) (0 : Int)) (⟨none, 0, 0⟩ : Hdr) (⟨none, 0, 0⟩ : Hdr))] : List Rneedlestoreref24_Op)).length, c78, x76, (rs21 ++ ([(Rneedlestoreref24_Op.mk (Sneedlestoreref24_Op.mk x38.fClient x38.fOp x38.fKey x38.fCookie ([] : List (BitVec 8)) ([] : List (BitVec 8)) x23 (-1 : Int) (-1 : Int) (0 : Int)) (⟨none, 0, 0⟩ : Hdr) (⟨none, 0, 0⟩ : Hdr))] : List Rneedlestoreref24_Op))⟩ ⟨h, (Ext.refl _ _), hq80⟩)
    refine ctr (σ := Bool) (fun x81 => [(0, .slice A00 n00 c00), (4, .slice A17 n18 c19), (5, I64 x23), (6, .pointer (some ⟨g42, 0, none⟩)), (7, I64 x44), (64, .bool x81)]) (fun x81 => [(0, .mem M14), (116, .own 29 (Lay.sz Rneedlestoreref24_Op) A17 n18 c19 (cel rs21)), (142, .blk g42 74 [I64 x38.fKind, I64 x38.fClient, I64 x38.fOp, U64 x38.fKey, U32 x38.fCookie, .slice r_39_0.A r_39_0.n r_39_0.c, I64 x38.fResult])]) (fun x81 => m_r24_Build_j4 x20 x23 x38 x44 (m_r24_Build_l1 x00 q24) x81 = some res) (fun _ k82 => ?_) ?_
    ·refine ya (Yld.fieldAddr Try.underlying74 rfl nz_3 rfl rfl) <| ya (Yld.loadB (k := 142) scal_3 rfl rfl rfl) <| ya (Yld.eqlI rfl rfl) <| mv rfl <| spl h beq_iff_eq.2 beq_eq_false_iff_ne.2 (fun hc84 h => ?_) fun hc84 h => ?_
     ·exact mvg rfl <| yg (Yld.geq rfl rfl) <| pt rfl rfl <| asn rfl <| WL.done <| kw (k82 (decide ((0 : Int) <= x44)) h)
     exact sk <| sk <| pf rfl rfl <| asn rfl <| WL.done <| kw (k82 false h)
    rintro x81 h
    unfold m_r24_Build_j4 at h
    refine cnd h rfl id Bool.eq_false_iff.2 (fun hc85 h => ?_) fun hc85 h => ?_
    ·refine sd [(0, _), (142, _)] mixed fun _ k86 => ?_
     obtain ⟨x87, hx87, h⟩ := bnd h
     obtain ⟨x91, hx91, h⟩ := bnd h
     obtain ⟨x92, hx92, h⟩ := bnd h
     obtain ⟨x98, hx98, h⟩ := bnd h
     obtain ⟨x102, hx102, h⟩ := bnd h
     obtain ⟨x103, hx103, h⟩ := bnd h
     refine dm 0 rfl rfl <| dm 1 rfl rfl <| dm 2 rfl rfl <| dm 3 rfl rfl <| dm 4 rfl rfl <| du 5 rfl (Yld.fieldAddr Try.underlying74 rfl nz_27 rfl rfl) <| du 6 rfl (Yld.loadB (k := 142) scal_27 rfl rfl rfl) <| on 7 ?_
     obtain ⟨⟨_, r_88_0, r_88_1⟩, hr89, rfl, hq90_0, hq90_1⟩ := Rels.idx hq22 hx87
     refine dy rfl (Yld.idxC (xs := rs21) sty_32 rfl rfl (RdH.own (k := 116) rfl) hr89) <| du 8 rfl (Yld.fieldAddrC Try.underlying29 rfl nz_3 rfl rfl) <| on 9 ?_
     obtain ⟨⟨_, r_93_0, r_93_1⟩, hr94, rfl, hq95_0, hq95_1⟩ := Rels.idx hq22 hx91
     obtain ⟨hu96, hq97⟩ := Rels.upd (r := (Rneedlestoreref24_Op.mk ({ x91 with fReturn := x23 } : Sneedlestoreref24_Op) r_93_0 r_93_1)) hq22 hx92 ⟨rfl, hq95_0, hq95_1⟩
     refine WS.eff0 rfl (Eff0.storeC 116 (xs := rs21) (j := 7) (a := (Rneedlestoreref24_Op.mk x91 r_93_0 r_93_1)) (a' := (Rneedlestoreref24_Op.mk ({ x91 with fReturn := x23 } : Sneedlestoreref24_Op) r_93_0 r_93_1)) siz_3 rfl rfl rfl rfl hr94 rfl rfl hu96) (sc (sc sn)) <| on 10 ?_
     obtain ⟨⟨_, r_99_0, r_99_1⟩, hr100, rfl, hq101_0, hq101_1⟩ := Rels.idx hq97 hx98
     refine dy rfl (Yld.idxC (xs := (rs21.set (x44).toNat (Rneedlestoreref24_Op.mk ({ x91 with fReturn := x23 } : Sneedlestoreref24_Op) r_93_0 r_93_1))) sty_32 rfl rfl (RdH.own (k := 116) rfl) hr100) <| du 11 rfl (Yld.fieldAddrC Try.underlying29 rfl nz_27 rfl rfl) <| on 12 ?_
     obtain ⟨⟨_, r_104_0, r_104_1⟩, hr105, rfl, hq106_0, hq106_1⟩ := Rels.idx hq97 hx102
     obtain ⟨hu107, hq108⟩ := Rels.upd (r := (Rneedlestoreref24_Op.mk ({ x102 with fResult := x38.fResult } : Sneedlestoreref24_Op) r_104_0 r_104_1)) hq97 hx103 ⟨rfl, hq106_0, hq106_1⟩
     refine WS.eff0 rfl (Eff0.storeC 116 (xs := (rs21.set (x44).toNat (Rneedlestoreref24_Op.mk ({ x91 with fReturn := x23 } : Sneedlestoreref24_Op) r_93_0 r_93_1))) (j := 9) (a := (Rneedlestoreref24_Op.mk x102 r_104_0 r_104_1)) (a' := (Rneedlestoreref24_Op.mk ({ x102 with fResult := x38.fResult } : Sneedlestoreref24_Op) r_104_0 r_104_1)) siz_27 rfl rfl rfl rfl hr105 rfl rfl hu107) (sc (sc sn)) <| dd <| k86 _ _ <| sr fun _ k109 => ?_
     obtain ⟨x110, hx110, h⟩ := bnd h
     refine mv rfl <| mv rfl ?_
     obtain ⟨⟨_, r_111_0, r_111_1⟩, hr112, rfl, hq113_0, hq113_1⟩ := Rels.idx hq108 hx110
     refine ya (Yld.idxC (xs := ((rs21.set (x44).toNat (Rneedlestoreref24_Op.mk ({ x91 with fReturn := x23 } : Sneedlestoreref24_Op) r_93_0 r_93_1)).set (x44).toNat (Rneedlestoreref24_Op.mk ({ x102 with fResult := x38.fResult } : Sneedlestoreref24_Op) r_104_0 r_104_1))) sty_32 rfl rfl (RdH.own (k := 116) rfl) hr112) <| ya (Yld.fieldAddrC Try.underlying29 rfl nz_3 rfl rfl) <| ya (Yld.loadC (xs := ((rs21.set (x44).toNat (Rneedlestoreref24_Op.mk ({ x91 with fReturn := x23 } : Sneedlestoreref24_Op) r_93_0 r_93_1)).set (x44).toNat (Rneedlestoreref24_Op.mk ({ x102 with fResult := x38.fResult } : Sneedlestoreref24_Op) r_104_0 r_104_1))) (j := 1) scal_3 rfl (RdH.own (k := 116) rfl) hr112 rfl rfl) <| ya (Yld.eqlI rfl rfl) <| mv rfl <| spl h beq_iff_eq.2 beq_eq_false_iff_ne.2 (fun hc114 h => ?_) fun hc114 h => ?_
     ·refine yg (Yld.fieldAddr Try.underlying74 rfl nz_27 rfl rfl) <| yg (Yld.loadB (k := 142) scal_27 rfl rfl rfl) <| yg (Yld.eqlI rfl rfl) <| pt rfl rfl <| dn <| k109 _ _ <| cnd h rfl beq_iff_eq.2 beq_eq_false_iff_ne.2 (fun hc115 h => ?_) fun hc115 h => ?_
      ·refine rg fun _ k116 => ?_
       obtain ⟨x118, hx118, h⟩ := bnd h
       obtain ⟨x121, hx121, h⟩ := bnd h
       obtain ⟨x125, hx125, h⟩ := bnd h
       obtain ⟨x126, hx126, h⟩ := bnd h
       refine mv rfl <| mv rfl <| WL.eff (by decide) (Eff.buildC 217 ([] : List (BitVec 8)) sty_23 rfl rfl rfl rfl rfl (by decide)) ?_
       rintro _ _ ⟨g117, rfl, rfl⟩
       refine ya (Yld.fieldAddr Try.underlying74 rfl nz_23 rfl rfl) <| ya (Yld.loadB (k := 142) scal_23 rfl rfl rfl) <| ap 217 (xs := ([] : List (BitVec 8))) (ys := x38.fData) sty_23 rfl rfl rfl (RdH.memM (k := 0) rfl hq41_0) hx118 fun A119 c120 => ?_
       obtain ⟨⟨_, r_122_0, r_122_1⟩, hr123, rfl, hq124_0, hq124_1⟩ := Rels.idx hq108 hx121
       refine ya (Yld.idxC (xs := ((rs21.set (x44).toNat (Rneedlestoreref24_Op.mk ({ x91 with fReturn := x23 } : Sneedlestoreref24_Op) r_93_0 r_93_1)).set (x44).toNat (Rneedlestoreref24_Op.mk ({ x102 with fResult := x38.fResult } : Sneedlestoreref24_Op) r_104_0 r_104_1))) sty_32 rfl rfl (RdH.own (k := 116) rfl) hr123) <| ya (Yld.fieldAddrC Try.underlying29 rfl nz_23 rfl rfl) <| WL.freeze 217 rfl rfl rfl fun M127 hm_M127 hf128 => ?_
       obtain ⟨⟨_, r_129_0, r_129_1⟩, hr130, rfl, hq131_0, hq131_1⟩ := Rels.idx (Rels.lift hq108 hm_M127) hx125
       obtain ⟨hu132, hq133⟩ := Rels.upd (r := (Rneedlestoreref24_Op.mk ({ x125 with fGot := x118 } : Sneedlestoreref24_Op) r_129_0 (⟨A119, x118.length, c120⟩ : Hdr))) (Rels.lift hq108 hm_M127) hx126 ⟨rfl, hq131_0, hf128⟩
       exact WL.eff0 (Eff0.storeC 116 (xs := ((rs21.set (x44).toNat (Rneedlestoreref24_Op.mk ({ x91 with fReturn := x23 } : Sneedlestoreref24_Op) r_93_0 r_93_1)).set (x44).toNat (Rneedlestoreref24_Op.mk ({ x102 with fResult := x38.fResult } : Sneedlestoreref24_Op) r_104_0 r_104_1))) (j := 5) (a := (Rneedlestoreref24_Op.mk x125 r_129_0 r_129_1)) (a' := (Rneedlestoreref24_Op.mk ({ x125 with fGot := x118 } : Sneedlestoreref24_Op) r_129_0 (⟨A119, x118.length, c120⟩ : Hdr))) siz_23 rfl rfl rfl rfl hr130 rfl rfl hu132) <| dn <| k116 _ _ <| bn <| bn <| tn <| kw (k36 ⟨M127, A17, n18, c19, x126, (((rs21.set (x44).toNat (Rneedlestoreref24_Op.mk ({ x91 with fReturn := x23 } : Sneedlestoreref24_Op) r_93_0 r_93_1)).set (x44).toNat (Rneedlestoreref24_Op.mk ({ x102 with fResult := x38.fResult } : Sneedlestoreref24_Op) r_104_0 r_104_1)).set (x44).toNat (Rneedlestoreref24_Op.mk ({ x125 with fGot := x118 } : Sneedlestoreref24_Op) r_129_0 (⟨A119, x118.length, c120⟩ : Hdr)))⟩ ⟨h, hm_M127, hq133⟩)
      exact WC.skip <| bn <| bn <| tn <| kw (k36 ⟨M14, A17, n18, c19, x103, ((rs21.set (x44).toNat (Rneedlestoreref24_Op.mk ({ x91 with fReturn := x23 } : Sneedlestoreref24_Op) r_93_0 r_93_1)).set (x44).toNat (Rneedlestoreref24_Op.mk ({ x102 with fResult := x38.fResult } : Sneedlestoreref24_Op) r_104_0 r_104_1))⟩ ⟨h, (Ext.refl _ _), hq108⟩)
     exact sk <| sk <| sk <| pf rfl rfl <| dn <| k109 _ _ <| cdF rfl <| WC.skip <| bn <| bn <| tn <| kw (k36 ⟨M14, A17, n18, c19, x103, ((rs21.set (x44).toNat (Rneedlestoreref24_Op.mk ({ x91 with fReturn := x23 } : Sneedlestoreref24_Op) r_93_0 r_93_1)).set (x44).toNat (Rneedlestoreref24_Op.mk ({ x102 with fResult := x38.fResult } : Sneedlestoreref24_Op) r_104_0 r_104_1))⟩ ⟨h, (Ext.refl _ _), hq108⟩)
    refine sr fun _ k134 => ya (Yld.fieldAddr Try.underlying74 rfl nz_3 rfl rfl) <| ya (Yld.loadB (k := 142) scal_3 rfl rfl rfl) <| ya (Yld.eqlI rfl rfl) <| asn rfl <| dn <| k134 _ _ <| cnd h rfl beq_iff_eq.2 beq_eq_false_iff_ne.2 (fun hc135 h => ?_) fun hc135 h => ?_
    ·refine sr fun _ k136 => asn rfl <| dn <| k136 _ _ <| bl <| lp (τ := (List (Sneedlestoreref24_Op)) × (List Rneedlestoreref24_Op) × Int) (fun ⟨x137, rs138, x140⟩ => [(0, .slice A00 n00 c00), (4, .slice A17 n18 c19), (5, I64 x23), (9, I64 x140)]) (fun ⟨x137, rs138, x140⟩ => [(0, .mem M14), (116, .own 29 (Lay.sz Rneedlestoreref24_Op) A17 n18 c19 (cel rs138))]) (fun q141 ⟨x137, rs138, x140⟩ => m_r24_Build_l5 x23 (m_r24_Build_l1 x00 q24) q141 x137 x140 = some res /\ Rels (rel_needlestoreref24_Op M14) rs138 x137) ⟨x20, rs21, (0 : Int)⟩ ?_ (by simp [m_r24_Build_l5]) ?_
     ·exact ⟨h, hq22⟩
     rintro q141 ⟨x137, rs138, x140⟩ ⟨h, hq139⟩ _ k142
     unfold m_r24_Build_l5 at h
     refine sq fun _ k143 => sr fun _ k144 => mv rfl <| mv rfl <| ya (Yld.lenD (rs := rs138) (xs := x137) (Rels.len hq139) und_32 rfl (RdH.own (k := 116) rfl)) <| ya (Yld.lss rfl rfl) <| dn <| k144 _ _ <| cnd h rfl decide_eq_true decide_eq_false (fun hc145 h => ?_) fun hc145 h => ?_
     ·refine ss <| k143 _ _ <| sq fun _ k146 => bl <| sr fun _ k147 => ?_
      obtain ⟨x148, hx148, h⟩ := bnd h
      refine mv rfl <| mv rfl ?_
      obtain ⟨⟨_, r_149_0, r_149_1⟩, hr150, rfl, hq151_0, hq151_1⟩ := Rels.idx hq139 hx148
      refine ya (Yld.idxC (xs := rs138) sty_32 rfl rfl (RdH.own (k := 116) rfl) hr150) <| ya (Yld.fieldAddrC Try.underlying29 rfl nz_3 rfl rfl) <| ya (Yld.loadC (xs := rs138) (j := 7) scal_3 rfl (RdH.own (k := 116) rfl) hr150 rfl rfl) <| ya (Yld.eqlI rfl rfl) <| mv rfl <| spl h beq_iff_eq.2 beq_eq_false_iff_ne.2 (fun hc152 h => ?_) fun hc152 h => ?_
      ·obtain ⟨x153, hx153, h⟩ := bnd h
       refine mvg rfl <| mvg rfl ?_
       obtain ⟨⟨_, r_154_0, r_154_1⟩, hr155, rfl, hq156_0, hq156_1⟩ := Rels.idx hq139 hx153
       refine yg (Yld.idxC (xs := rs138) sty_32 rfl rfl (RdH.own (k := 116) rfl) hr155) <| yg (Yld.fieldAddrC Try.underlying29 rfl nz_3 rfl rfl) <| yg (Yld.loadC (xs := rs138) (j := 8) scal_3 rfl (RdH.own (k := 116) rfl) hr155 rfl rfl) <| yg (Yld.eqlI rfl rfl) <| pt rfl rfl <| dn <| k147 _ _ <| cnd h rfl beq_iff_eq.2 beq_eq_false_iff_ne.2 (fun hc157 h => ?_) fun hc157 h => ?_
       ·refine rg fun _ k158 => ?_
        obtain ⟨x159, hx159, h⟩ := bnd h
        obtain ⟨x163, hx163, h⟩ := bnd h
        obtain ⟨x164, hx164, h⟩ := bnd h
        refine mv rfl <| mv rfl <| mv rfl ?_
        obtain ⟨⟨_, r_160_0, r_160_1⟩, hr161, rfl, hq162_0, hq162_1⟩ := Rels.idx hq139 hx159
        refine ya (Yld.idxC (xs := rs138) sty_32 rfl rfl (RdH.own (k := 116) rfl) hr161) <| ya (Yld.fieldAddrC Try.underlying29 rfl nz_3 rfl rfl) ?_
        obtain ⟨⟨_, r_165_0, r_165_1⟩, hr166, rfl, hq167_0, hq167_1⟩ := Rels.idx hq139 hx163
        obtain ⟨hu168, hq169⟩ := Rels.upd (r := (Rneedlestoreref24_Op.mk ({ x163 with fClosed := x23 } : Sneedlestoreref24_Op) r_165_0 r_165_1)) hq139 hx164 ⟨rfl, hq167_0, hq167_1⟩
        refine WL.eff0 (Eff0.storeC 116 (xs := rs138) (j := 8) (a := (Rneedlestoreref24_Op.mk x163 r_165_0 r_165_1)) (a' := (Rneedlestoreref24_Op.mk ({ x163 with fClosed := x23 } : Sneedlestoreref24_Op) r_165_0 r_165_1)) siz_3 rfl rfl rfl rfl hr166 rfl rfl hu168) <| dn <| k158 _ _ <| bn <| tn <| k146 _ _ <| rg fun _ k170 => ?_
        obtain ⟨x171, hx171, h⟩ := bnd h
        exact mv rfl <| ya (Yld.addC rfl rfl hx171) <| asn rfl <| dn <| k170 _ _ <| tn <| kw (k142 ⟨x164, (rs138.set (x140).toNat (Rneedlestoreref24_Op.mk ({ x163 with fClosed := x23 } : Sneedlestoreref24_Op) r_165_0 r_165_1)), x171⟩ ⟨h, hq169⟩)
       refine WC.skip <| bn <| tn <| k146 _ _ <| rg fun _ k172 => ?_
       obtain ⟨x173, hx173, h⟩ := bnd h
       exact mv rfl <| ya (Yld.addC rfl rfl hx173) <| asn rfl <| dn <| k172 _ _ <| tn <| kw (k142 ⟨x137, rs138, x173⟩ ⟨h, hq139⟩)
      refine sk <| sk <| sk <| sk <| sk <| sk <| pf rfl rfl <| dn <| k147 _ _ <| cdF rfl <| WC.skip <| bn <| tn <| k146 _ _ <| rg fun _ k174 => ?_
      obtain ⟨x175, hx175, h⟩ := bnd h
      exact mv rfl <| ya (Yld.addC rfl rfl hx175) <| asn rfl <| dn <| k174 _ _ <| tn <| kw (k142 ⟨x137, rs138, x175⟩ ⟨h, hq139⟩)
     exact xi <| te <| te <| bx <| bn <| bn <| tn <| kw (k36 ⟨M14, A17, n18, c19, x137, rs138⟩ ⟨h, (Ext.refl _ _), hq139⟩)
    refine sr fun _ k176 => asn rfl <| asn rfl <| dn <| k176 _ _ <| re <| br <| br <| tr <| tr <| br <| tr <| QK.nilOwn 277 29 (Lay.sz Rneedlestoreref24_Op) none ?_
    injection h with h; subst h
    exact rt [277] (ResIs.two rfl rfl rfl) hm_M14 ⟨none, 0, 0, ([] : List Rneedlestoreref24_Op), rfl, rfl, (Rels.nil (R := rel_needlestoreref24_Op M14))⟩
   rintro ⟨M29, A30, n31, c32, x33, rs34⟩ ⟨h, hm_M29, hq35⟩
   unfold m_r24_Build_j2 at h
   refine rg fun _ k178 => ?_
   obtain ⟨x179, hx179, h⟩ := bnd h
   exact mv rfl <| ya (Yld.addC rfl rfl hx179) <| asn rfl <| dn <| k178 _ _ <| tn <| kw (k25 ⟨M29, A30, n31, c32, x33, rs34, x179⟩ ⟨h, (Ext.trans hm_M14 hm_M29), hq35⟩)
  exact xi <| te <| te <| bx <| tn <| KK.move 116 105 rfl rfl <| kw (k12 ⟨M14, A17, n18, c19, x20, rs21⟩ ⟨h, hm_M14, hq22⟩)
 rintro ⟨M3, A6, n7, c8, x9, rs10⟩ ⟨h, hm_M3, hq11⟩
 unfold m_r24_Build_j0 at h
 refine sr fun _ k180 => mv rfl <| asn rfl <| asn rfl <| dn <| k180 _ _ <| re ?_
 injection h with h; subst h
 exact rt [105] (ResIs.two rfl rfl rfl) hm_M3 ⟨A6, n7, c8, rs10, rfl, rfl, hq11⟩
theorem w_r24_End (M0 : Mem) (x00_0 x00_1 : Int) (x00_2 : BitVec 64) (x00_3 : BitVec 32) (A00_4 : Option Addr) (n00_4 c00_4 : Nat) (x00_4 : List (BitVec 8)) (hf00_4 : SlT M0 A00_4 n00_4 c00_4 x00_4) (A00_5 : Option Addr) (n00_5 c00_5 : Nat) (x00_5 : List (BitVec 8)) (hf00_5 : SlT M0 A00_5 n00_5 c00_5 x00_5) (x00_6 x00_7 x00_8 x00_9 : Int) {res : Int} (h : m_r24_End x00_0 x00_1 x00_2 x00_3 x00_4 x00_5 x00_6 x00_7 x00_8 x00_9 = some res) :
  Fn Try.prog 51 #[.agg ([I64 x00_0, I64 x00_1, U64 x00_2, U32 x00_3, .slice A00_4 n00_4 c00_4, .slice A00_5 n00_5 c00_5, I64 x00_6, I64 x00_7, I64 x00_8, I64 x00_9] : List Value).toArray] M0 fun r M' es => r = I64 res /\ es = [] := by
 refine Fn.intro (N := 13) Try.func51 rfl rfl (Nat.le_of_ble_eq_true rfl) fun w0 => ?_
 unfold m_r24_End at h
 refine sr fun _ k1 => bb 102 [I64 x00_0, I64 x00_1, U64 x00_2, U32 x00_3, .slice A00_4 n00_4 c00_4, .slice A00_5 n00_5 c00_5, I64 x00_6, I64 x00_7, I64 x00_8, I64 x00_9] rfl fun g2 => asn rfl <| dn <| k1 _ _ <| sq fun _ k3 => sr fun _ k4 => ya (Yld.fieldAddr Try.underlying29 rfl nz_3 rfl rfl) <| ya (Yld.loadB (k := 102) scal_3 rfl rfl rfl) <| ya (Yld.neqI rfl rfl) <| dn <| k4 _ _ <| cnn h rfl bne_eq_false_iff_eq.2 bne_iff_ne.2 (fun hc5 h => ?_) fun hc5 h => ?_
 ·refine ss <| k3 _ _ <| sq fun _ k6 => sr fun _ k7 => ya (Yld.fieldAddr Try.underlying29 rfl nz_3 rfl rfl) <| ya (Yld.loadB (k := 102) scal_3 rfl rfl rfl) <| ya (Yld.neqI rfl rfl) <| dn <| k7 _ _ <| cnn h rfl bne_eq_false_iff_eq.2 bne_iff_ne.2 (fun hc8 h => ?_) fun hc8 h => ?_
  ·refine ss <| k6 _ _ <| sr fun _ k9 => asn rfl <| dn <| k9 _ _ <| re ?_
   injection h with h; subst h
   exact rt0 (ResIs.one rfl rfl)
  refine sr fun _ k10 => ya (Yld.fieldAddr Try.underlying29 rfl nz_3 rfl rfl) <| ya (Yld.loadB (k := 102) scal_3 rfl rfl rfl) <| asn rfl <| dn <| k10 _ _ <| re <| tr ?_
  injection h with h; subst h
  exact rt0 (ResIs.one rfl rfl)
 refine sr fun _ k11 => ya (Yld.fieldAddr Try.underlying29 rfl nz_3 rfl rfl) <| ya (Yld.loadB (k := 102) scal_3 rfl rfl rfl) <| asn rfl <| dn <| k11 _ _ <| re <| tr ?_
 injection h with h; subst h
 exact rt0 (ResIs.one rfl rfl)
theorem w_r24_Before (M0 : Mem) (x00_0 x00_1 : Int) (x00_2 : BitVec 64) (x00_3 : BitVec 32) (A00_4 : Option Addr) (n00_4 c00_4 : Nat) (x00_4 : List (BitVec 8)) (hf00_4 : SlT M0 A00_4 n00_4 c00_4 x00_4) (A00_5 : Option Addr) (n00_5 c00_5 : Nat) (x00_5 : List (BitVec 8)) (hf00_5 : SlT M0 A00_5 n00_5 c00_5 x00_5) (x00_6 x00_7 x00_8 x00_9 x01_0 x01_1 : Int) (x01_2 : BitVec 64) (x01_3 : BitVec 32) (A01_4 : Option Addr) (n01_4 c01_4 : Nat) (x01_4 : List (BitVec 8)) (hf01_4 : SlT M0 A01_4 n01_4 c01_4 x01_4) (A01_5 : Option Addr) (n01_5 c01_5 : Nat) (x01_5 : List (BitVec 8)) (hf01_5 : SlT M0 A01_5 n01_5 c01_5 x01_5) (x01_6 x01_7 x01_8 x01_9 : Int) {res : Bool} (h : m_r24_Before x00_0 x00_1 x00_2 x00_3 x00_4 x00_5 x00_6 x00_7 x00_8 x00_9 x01_0 x01_1 x01_2 x01_3 x01_4 x01_5 x01_6 x01_7 x01_8 x01_9 = some res) :
  Fn Try.prog 35 #[.agg ([I64 x00_0, I64 x00_1, U64 x00_2, U32 x00_3, .slice A00_4 n00_4 c00_4, .slice A00_5 n00_5 c00_5, I64 x00_6, I64 x00_7, I64 x00_8, I64 x00_9] : List Value).toArray, .agg ([I64 x01_0, I64 x01_1, U64 x01_2, U32 x01_3, .slice A01_4 n01_4 c01_4, .slice A01_5 n01_5 c01_5, I64 x01_6, I64 x01_7, I64 x01_8, I64 x01_9] : List Value).toArray] M0 fun r M' es => r = .bool res /\ es = [] := by
 refine Fn.intro (N := 10) Try.func35 rfl rfl (Nat.le_of_ble_eq_true rfl) fun w0 => ?_
 unfold m_r24_Before at h
 refine sr fun _ k1 => bb 102 [I64 x00_0, I64 x00_1, U64 x00_2, U32 x00_3, .slice A00_4 n00_4 c00_4, .slice A00_5 n00_5 c00_5, I64 x00_6, I64 x00_7, I64 x00_8, I64 x00_9] rfl fun g2 => bb 103 [I64 x01_0, I64 x01_1, U64 x01_2, U32 x01_3, .slice A01_4 n01_4 c01_4, .slice A01_5 n01_5 c01_5, I64 x01_6, I64 x01_7, I64 x01_8, I64 x01_9] rfl fun g3 => asn rfl <| dn <| k1 _ _ <| sd [(0, _), (102, _), (103, _)] mixed fun _ k4 => ?_
 obtain ⟨x5, hx5, h⟩ := bnd h
 refine du 0 rfl (Yld.loadBM (k := 102) agg_29 rfl rfl rfl) <| du 2 rfl (Yld.fieldAddr Try.underlying29 rfl nz_3 rfl rfl) <| du 3 rfl (Yld.loadB (k := 103) scal_3 rfl rfl rfl) <| on 1 <| d0 rfl Try.func51 rfl (fun w hb hh => w_r24_End (Mem.snap w) x00_0 x00_1 x00_2 x00_3 A00_4 n00_4 c00_4 _ (RdH.sn (RdH.memM (k := 0) rfl hf00_4) w hb hh) A00_5 n00_5 c00_5 _ (RdH.sn (RdH.memM (k := 0) rfl hf00_5) w hb hh) x00_6 x00_7 x00_8 x00_9 hx5) <| du 4 rfl (Yld.lss rfl rfl) <| du 5 rfl (Yld.assign rfl) <| dd <| k4 _ _ <| re ?_
 injection h with h; subst h
 exact rt0 (ResIs.one rfl rfl)
theorem w_r24_Valid (M0 : Mem) (A00 : Option Addr) (n00 c00 : Nat) (rs00 : List Rneedlestoreref24_Op) (x00 : List (Sneedlestoreref24_Op)) (hf00 : SlT M0 A00 n00 c00 rs00) (hq00 : Rels (rel_needlestoreref24_Op M0) rs00 x00) {res : Bool} (h : m_r24_Valid x00 = some res) :
  Fn Try.prog 19 #[.slice A00 n00 c00] M0 fun r M' es => r = .bool res /\ es = [] := by
 refine Fn.intro (N := 98) Try.func19 rfl rfl (Nat.le_of_ble_eq_true rfl) fun w0 => ?_
 unfold m_r24_Valid at h
 refine sr fun _ k1 => asn rfl <| dn <| k1 _ _ <| ct (σ := Unit) (fun _ => []) (fun _ => [(0, .mem M0)]) (fun _ => m_r24_Valid_j0 = some res) (fun _ k2 => ?_) ?_
 ·refine sr fun _ k3 => asn rfl <| dn <| k3 _ _ <| bl <| lp (τ := Int) (fun x4 => [(0, .slice A00 n00 c00), (3, I64 x4)]) (fun x4 => [(0, .mem M0)]) (fun q5 x4 => m_r24_Valid_l1 x00 q5 x4 = some res) ((0 : Int)) ?_ (by simp [m_r24_Valid_l1]) ?_
  ·exact h
  rintro q5 x4 h _ k6
  unfold m_r24_Valid_l1 at h
  refine sq fun _ k7 => sr fun _ k8 => mv rfl <| mv rfl <| ya (Yld.lenD (rs := rs00) (xs := x00) (Rels.len hq00) und_32 rfl (RdH.memM (k := 0) rfl hf00)) <| ya (Yld.lss rfl rfl) <| dn <| k8 _ _ <| cnd h rfl decide_eq_true decide_eq_false (fun hc9 h => ?_) fun hc9 h => ?_
  ·refine ss <| k7 _ _ <| ct (σ := Unit) (fun _ => [(0, .slice A00 n00 c00), (3, I64 x4)]) (fun _ => [(0, .mem M0)]) (fun _ => m_r24_Valid_j2 x4 (m_r24_Valid_l1 x00 q5) = some res) (fun _ k10 => ?_) ?_
   ·refine bl <| sr fun _ k11 => ?_
    obtain ⟨x12, hx12, h⟩ := bnd h
    refine mv rfl <| mv rfl ?_
    obtain ⟨⟨_, r_13_0, r_13_1⟩, hr14, rfl, hq15_0, hq15_1⟩ := Rels.idx hq00 hx12
    refine ya (Yld.idxC (xs := rs00) sty_32 rfl rfl (RdH.memM (k := 0) rfl hf00) hr14) <| ya (Yld.loadA (xs := rs00) agg_29 rfl (RdH.memM (k := 0) rfl hf00) hr14 rfl) <| al 116 zr_29 fun g16 => sb 116 agg_29 rfl rfl rfl <| dn <| k11 _ _ <| ct (σ := Unit) (fun _ => [(0, .slice A00 n00 c00), (3, I64 x4), (4, .pointer (some ⟨g16, 0, none⟩))]) (fun _ => [(0, .mem M0), (116, .blk g16 29 [I64 x12.fClient, I64 x12.fKind, U64 x12.fKey, U32 x12.fCookie, .slice r_13_0.A r_13_0.n r_13_0.c, .slice r_13_1.A r_13_1.n r_13_1.c, I64 x12.fCall, I64 x12.fReturn, I64 x12.fClosed, I64 x12.fResult])]) (fun _ => m_r24_Valid_j3 x00 x4 x12 (m_r24_Valid_l1 x00 q5) = some res) (fun _ k17 => ?_) ?_
    ·refine sd [(0, _), (116, _)] mixed fun _ k18 => ?_
     by_cases hc19 : x12.fCall < (0 : Int)
     ·replace h := of_t hc19 h
      refine du 0 rfl (Yld.fieldAddr Try.underlying29 rfl nz_3 rfl rfl) <| du 1 rfl (Yld.loadB (k := 116) scal_3 rfl rfl rfl) <| du 2 rfl (Yld.lss rfl rfl) <| dm 3 rfl rfl <| WD.new (v' := .bool true) (congrArg Value.bool (decide_eq_true hc19)) <| dw 4 rfl <| dw 5 rfl <| dw 6 rfl <| du 7 rfl (Yld.pickT rfl rfl) <| dm 8 rfl rfl <| dw 9 rfl <| dw 10 rfl <| dw 11 rfl <| du 12 rfl (Yld.pickT rfl rfl) <| dm 13 rfl rfl <| dw 14 rfl <| dw 15 rfl <| dw 16 rfl <| WD.takeU 17 rfl (by kernel_rfl) (by kernel_rfl) (by kernel_rfl) (by decide) rfl <| WD.takeU 18 rfl (by kernel_rfl) (by kernel_rfl) (by kernel_rfl) (by decide) rfl <| WD.takeU 19 rfl (by kernel_rfl) (by kernel_rfl) (by kernel_rfl) (by decide) rfl <| WD.takeU 20 rfl (by kernel_rfl) (by kernel_rfl) (by kernel_rfl) (by decide) rfl <| WD.takeU 21 rfl (by kernel_rfl) (by kernel_rfl) (by kernel_rfl) (by decide) rfl <| WD.takeU 22 rfl (by kernel_rfl) (by kernel_rfl) (by kernel_rfl) (by decide) rfl <| WD.takeU 23 rfl (by kernel_rfl) (by kernel_rfl) (by kernel_rfl) (by decide) rfl <| WD.takeU 24 rfl (by kernel_rfl) (by kernel_rfl) (by kernel_rfl) (by decide) rfl <| WD.takeU 25 rfl (by kernel_rfl) (by kernel_rfl) (by kernel_rfl) (by decide) rfl <| dw 26 rfl <| du 27 rfl (Yld.pickT rfl rfl) <| dd <| k18 _ _ <| cdT rfl <| sr fun _ k20 => asn rfl <| dn <| k20 _ _ <| re <| tr <| br <| tr <| tr <| br <| tr ?_
      injection h with h; subst h
      exact rt0 (ResIs.one rfl rfl)
     replace h := of_f hc19 h
     by_cases hc21 : x12.fKind < (1 : Int)
     ·replace h := of_t hc21 h
      refine du 0 rfl (Yld.fieldAddr Try.underlying29 rfl nz_3 rfl rfl) <| du 1 rfl (Yld.loadB (k := 116) scal_3 rfl rfl rfl) <| du 2 rfl (Yld.lss rfl rfl) <| dm 3 rfl rfl <| WD.new (v' := .bool false) (congrArg Value.bool (decide_eq_false hc19)) <| dv 4 rfl (Yld.fieldAddr Try.underlying29 rfl nz_3 rfl rfl) <| dv 5 rfl (Yld.loadB (k := 116) scal_3 rfl rfl rfl) <| dv 6 rfl (Yld.lss rfl rfl) <| du 7 rfl (Yld.pickF rfl rfl) <| dm 8 rfl rfl <| WD.new (v' := .bool true) (congrArg Value.bool (decide_eq_true hc21)) <| dw 9 rfl <| dw 10 rfl <| dw 11 rfl <| du 12 rfl (Yld.pickT rfl rfl) <| dm 13 rfl rfl <| dw 14 rfl <| dw 15 rfl <| dw 16 rfl <| WD.takeU 17 rfl (by kernel_rfl) (by kernel_rfl) (by kernel_rfl) (by decide) rfl <| WD.takeU 18 rfl (by kernel_rfl) (by kernel_rfl) (by kernel_rfl) (by decide) rfl <| WD.takeU 19 rfl (by kernel_rfl) (by kernel_rfl) (by kernel_rfl) (by decide) rfl <| WD.takeU 20 rfl (by kernel_rfl) (by kernel_rfl) (by kernel_rfl) (by decide) rfl <| WD.takeU 21 rfl (by kernel_rfl) (by kernel_rfl) (by kernel_rfl) (by decide) rfl <| WD.takeU 22 rfl (by kernel_rfl) (by kernel_rfl) (by kernel_rfl) (by decide) rfl <| WD.takeU 23 rfl (by kernel_rfl) (by kernel_rfl) (by kernel_rfl) (by decide) rfl <| WD.takeU 24 rfl (by kernel_rfl) (by kernel_rfl) (by kernel_rfl) (by decide) rfl <| WD.takeU 25 rfl (by kernel_rfl) (by kernel_rfl) (by kernel_rfl) (by decide) rfl <| dw 26 rfl <| du 27 rfl (Yld.pickT rfl rfl) <| dd <| k18 _ _ <| cdT rfl <| sr fun _ k22 => asn rfl <| dn <| k22 _ _ <| re <| tr <| br <| tr <| tr <| br <| tr ?_
      injection h with h; subst h
      exact rt0 (ResIs.one rfl rfl)
     replace h := of_f hc21 h
     by_cases hc23 : (3 : Int) < x12.fKind
     ·replace h := of_t hc23 h
      refine du 0 rfl (Yld.fieldAddr Try.underlying29 rfl nz_3 rfl rfl) <| du 1 rfl (Yld.loadB (k := 116) scal_3 rfl rfl rfl) <| du 2 rfl (Yld.lss rfl rfl) <| dm 3 rfl rfl <| WD.new (v' := .bool false) (congrArg Value.bool (decide_eq_false hc19)) <| dv 4 rfl (Yld.fieldAddr Try.underlying29 rfl nz_3 rfl rfl) <| dv 5 rfl (Yld.loadB (k := 116) scal_3 rfl rfl rfl) <| dv 6 rfl (Yld.lss rfl rfl) <| du 7 rfl (Yld.pickF rfl rfl) <| dm 8 rfl rfl <| WD.new (v' := .bool false) (congrArg Value.bool (decide_eq_false hc21)) <| dv 9 rfl (Yld.fieldAddr Try.underlying29 rfl nz_3 rfl rfl) <| dv 10 rfl (Yld.loadB (k := 116) scal_3 rfl rfl rfl) <| dv 11 rfl (Yld.gtr rfl rfl) <| du 12 rfl (Yld.pickF rfl rfl) <| dm 13 rfl rfl <| WD.new (v' := .bool true) (congrArg Value.bool (decide_eq_true hc23)) <| dw 14 rfl <| dw 15 rfl <| dw 16 rfl <| WD.takeU 17 rfl (by kernel_rfl) (by kernel_rfl) (by kernel_rfl) (by decide) rfl <| WD.takeU 18 rfl (by kernel_rfl) (by kernel_rfl) (by kernel_rfl) (by decide) rfl <| WD.takeU 19 rfl (by kernel_rfl) (by kernel_rfl) (by kernel_rfl) (by decide) rfl <| WD.takeU 20 rfl (by kernel_rfl) (by kernel_rfl) (by kernel_rfl) (by decide) rfl <| WD.takeU 21 rfl (by kernel_rfl) (by kernel_rfl) (by kernel_rfl) (by decide) rfl <| WD.takeU 22 rfl (by kernel_rfl) (by kernel_rfl) (by kernel_rfl) (by decide) rfl <| WD.takeU 23 rfl (by kernel_rfl) (by kernel_rfl) (by kernel_rfl) (by decide) rfl <| WD.takeU 24 rfl (by kernel_rfl) (by kernel_rfl) (by kernel_rfl) (by decide) rfl <| WD.takeU 25 rfl (by kernel_rfl) (by kernel_rfl) (by kernel_rfl) (by decide) rfl <| dw 26 rfl <| du 27 rfl (Yld.pickT rfl rfl) <| dd <| k18 _ _ <| cdT rfl <| sr fun _ k24 => asn rfl <| dn <| k24 _ _ <| re <| tr <| br <| tr <| tr <| br <| tr ?_
      injection h with h; subst h
      exact rt0 (ResIs.one rfl rfl)
     replace h := of_f hc23 h
     by_cases hc25 : (0 : Int) < x4
     ·replace h := of_t hc25 h
      obtain ⟨x26, hx26, h⟩ := bnd h
      obtain ⟨x27, hx27, h⟩ := bnd h
      refine du 0 rfl (Yld.fieldAddr Try.underlying29 rfl nz_3 rfl rfl) <| du 1 rfl (Yld.loadB (k := 116) scal_3 rfl rfl rfl) <| du 2 rfl (Yld.lss rfl rfl) <| dm 3 rfl rfl <| WD.new (v' := .bool false) (congrArg Value.bool (decide_eq_false hc19)) <| dv 4 rfl (Yld.fieldAddr Try.underlying29 rfl nz_3 rfl rfl) <| dv 5 rfl (Yld.loadB (k := 116) scal_3 rfl rfl rfl) <| dv 6 rfl (Yld.lss rfl rfl) <| du 7 rfl (Yld.pickF rfl rfl) <| dm 8 rfl rfl <| WD.new (v' := .bool false) (congrArg Value.bool (decide_eq_false hc21)) <| dv 9 rfl (Yld.fieldAddr Try.underlying29 rfl nz_3 rfl rfl) <| dv 10 rfl (Yld.loadB (k := 116) scal_3 rfl rfl rfl) <| dv 11 rfl (Yld.gtr rfl rfl) <| du 12 rfl (Yld.pickF rfl rfl) <| dm 13 rfl rfl <| WD.new (v' := .bool false) (congrArg Value.bool (decide_eq_false hc23)) <| dv 14 rfl (Yld.move rfl) <| dv 15 rfl (Yld.gtr rfl rfl) <| dv 16 rfl (Yld.move rfl) <| WD.new (v' := .bool true) (congrArg Value.bool (decide_eq_true hc25)) <| dv 17 rfl (Yld.fieldAddr Try.underlying29 rfl nz_3 rfl rfl) <| dv 18 rfl (Yld.loadB (k := 116) scal_3 rfl rfl rfl) <| dv 19 rfl (Yld.move rfl) <| dv 20 rfl (Yld.move rfl) <| dv 21 rfl (Yld.subC rfl rfl hx26) ?_
      obtain ⟨⟨_, r_28_0, r_28_1⟩, hr29, rfl, hq30_0, hq30_1⟩ := Rels.idx hq00 hx27
      refine dv 22 rfl (Yld.idxC (xs := rs00) sty_32 rfl rfl (RdH.memM (k := 0) rfl hf00) hr29) <| dv 23 rfl (Yld.fieldAddrC Try.underlying29 rfl nz_3 rfl rfl) <| dv 24 rfl (Yld.loadC (xs := rs00) (j := 6) scal_3 rfl (RdH.memM (k := 0) rfl hf00) hr29 rfl rfl) <| dv 25 rfl (Yld.leq rfl rfl) <| dv 26 rfl (Yld.pickT rfl rfl) <| du 27 rfl (Yld.pickF rfl rfl) <| dd <| k18 _ _ <| cnd h rfl decide_eq_true decide_eq_false (fun hc31 h => ?_) fun hc31 h => ?_
      ·refine sr fun _ k32 => asn rfl <| dn <| k32 _ _ <| re <| tr <| br <| tr <| tr <| br <| tr ?_
       injection h with h; subst h
       exact rt0 (ResIs.one rfl rfl)
      exact WC.skip <| tn <| kw (k17 () h)
     replace h := of_f hc25 h
     exact du 0 rfl (Yld.fieldAddr Try.underlying29 rfl nz_3 rfl rfl) <| du 1 rfl (Yld.loadB (k := 116) scal_3 rfl rfl rfl) <| du 2 rfl (Yld.lss rfl rfl) <| dm 3 rfl rfl <| WD.new (v' := .bool false) (congrArg Value.bool (decide_eq_false hc19)) <| dv 4 rfl (Yld.fieldAddr Try.underlying29 rfl nz_3 rfl rfl) <| dv 5 rfl (Yld.loadB (k := 116) scal_3 rfl rfl rfl) <| dv 6 rfl (Yld.lss rfl rfl) <| du 7 rfl (Yld.pickF rfl rfl) <| dm 8 rfl rfl <| WD.new (v' := .bool false) (congrArg Value.bool (decide_eq_false hc21)) <| dv 9 rfl (Yld.fieldAddr Try.underlying29 rfl nz_3 rfl rfl) <| dv 10 rfl (Yld.loadB (k := 116) scal_3 rfl rfl rfl) <| dv 11 rfl (Yld.gtr rfl rfl) <| du 12 rfl (Yld.pickF rfl rfl) <| dm 13 rfl rfl <| WD.new (v' := .bool false) (congrArg Value.bool (decide_eq_false hc23)) <| dv 14 rfl (Yld.move rfl) <| dv 15 rfl (Yld.gtr rfl rfl) <| dv 16 rfl (Yld.move rfl) <| WD.new (v' := .bool false) (congrArg Value.bool (decide_eq_false hc25)) <| dw 17 rfl <| dw 18 rfl <| dw 19 rfl <| dw 20 rfl <| dw 21 rfl <| dw 22 rfl <| dw 23 rfl <| dw 24 rfl <| dw 25 rfl <| dv 26 rfl (Yld.pickF rfl rfl) <| du 27 rfl (Yld.pickF rfl rfl) <| dd <| k18 _ _ <| cdF rfl <| WC.skip <| tn <| kw (k17 () h)
    rintro _ h
    unfold m_r24_Valid_j3 at h
    refine ct (σ := Unit) (fun _ => [(0, .slice A00 n00 c00), (3, I64 x4), (4, .pointer (some ⟨g16, 0, none⟩))]) (fun _ => [(0, .mem M0), (116, .blk g16 29 [I64 x12.fClient, I64 x12.fKind, U64 x12.fKey, U32 x12.fCookie, .slice r_13_0.A r_13_0.n r_13_0.c, .slice r_13_1.A r_13_1.n r_13_1.c, I64 x12.fCall, I64 x12.fReturn, I64 x12.fClosed, I64 x12.fResult])]) (fun _ => m_r24_Valid_j4 x00 x4 x12 (m_r24_Valid_l1 x00 q5) = some res) (fun _ k33 => ?_) ?_
    ·refine sr fun _ k34 => ya (Yld.fieldAddr Try.underlying29 rfl nz_3 rfl rfl) <| ya (Yld.loadB (k := 116) scal_3 rfl rfl rfl) <| ya (Yld.neqI rfl rfl) <| mv rfl <| spn h bne_eq_false_iff_eq.2 bne_iff_ne.2 (fun hc35 h => ?_) fun hc35 h => ?_
     ·refine sk <| sk <| sk <| sk <| sk <| pf rfl rfl <| mv rfl <| yg (Yld.fieldAddr Try.underlying29 rfl nz_3 rfl rfl) <| yg (Yld.loadB (k := 116) scal_3 rfl rfl rfl) <| yg (Yld.neqI rfl rfl) <| mvg rfl <| spn h bne_eq_false_iff_eq.2 bne_iff_ne.2 (fun hc36 h => ?_) fun hc36 h => ?_
      ·refine sk <| sk <| sk <| sk <| sk <| yg (Yld.pickF rfl rfl) <| pf rfl rfl <| mv rfl <| yg (Yld.fieldAddr Try.underlying29 rfl nz_3 rfl rfl) <| yg (Yld.loadB (k := 116) scal_3 rfl rfl rfl) <| yg (Yld.neqI rfl rfl) <| mvg rfl <| spn h bne_eq_false_iff_eq.2 bne_iff_ne.2 (fun hc37 h => ?_) fun hc37 h => ?_
       ·exact sk <| sk <| sk <| yg (Yld.pickF rfl rfl) <| pf rfl rfl <| dn <| k34 _ _ <| cdF rfl <| WC.skip <| tn <| kw (k33 () h)
       refine yg (Yld.fieldAddr Try.underlying29 rfl nz_3 rfl rfl) <| yg (Yld.loadB (k := 116) scal_3 rfl rfl rfl) <| yg (Yld.neqI rfl rfl) <| yg (Yld.pickT rfl rfl) <| pf rfl rfl <| dn <| k34 _ _ <| cnn h rfl bne_eq_false_iff_eq.2 bne_iff_ne.2 (fun hc38 h => ?_) fun hc38 h => ?_
       ·exact WC.skip <| tn <| kw (k33 () h)
       refine sr fun _ k39 => asn rfl <| dn <| k39 _ _ <| re <| tr <| br <| tr <| tr <| br <| tr ?_
       injection h with h; subst h
       exact rt0 (ResIs.one rfl rfl)
      refine yg (Yld.fieldAddr Try.underlying29 rfl nz_3 rfl rfl) <| yg (Yld.loadB (k := 116) scal_3 rfl rfl rfl) <| yg (Yld.fieldAddr Try.underlying29 rfl nz_3 rfl rfl) <| yg (Yld.loadB (k := 116) scal_3 rfl rfl rfl) <| yg (Yld.leq rfl rfl) <| yg (Yld.pickT rfl rfl) <| pf rfl rfl <| mv rfl <| spl h decide_eq_true decide_eq_false (fun hc40 h => ?_) fun hc40 h => ?_
      ·refine sk <| sk <| sk <| sk <| WL.skipU (by decide) rfl <| WL.skipU (by decide) rfl <| WL.skipU (by decide) rfl <| sk <| pt rfl rfl <| dn <| k34 _ _ <| cdT rfl <| sr fun _ k41 => asn rfl <| dn <| k41 _ _ <| re <| tr <| br <| tr <| tr <| br <| tr ?_
       injection h with h; subst h
       exact rt0 (ResIs.one rfl rfl)
      refine yg (Yld.fieldAddr Try.underlying29 rfl nz_3 rfl rfl) <| yg (Yld.loadB (k := 116) scal_3 rfl rfl rfl) <| yg (Yld.neqI rfl rfl) <| mvg rfl <| spn h bne_eq_false_iff_eq.2 bne_iff_ne.2 (fun hc42 h => ?_) fun hc42 h => ?_
      ·exact sk <| sk <| sk <| yg (Yld.pickF rfl rfl) <| pf rfl rfl <| dn <| k34 _ _ <| cdF rfl <| WC.skip <| tn <| kw (k33 () h)
      refine yg (Yld.fieldAddr Try.underlying29 rfl nz_3 rfl rfl) <| yg (Yld.loadB (k := 116) scal_3 rfl rfl rfl) <| yg (Yld.neqI rfl rfl) <| yg (Yld.pickT rfl rfl) <| pf rfl rfl <| dn <| k34 _ _ <| cnn h rfl bne_eq_false_iff_eq.2 bne_iff_ne.2 (fun hc43 h => ?_) fun hc43 h => ?_
      ·exact WC.skip <| tn <| kw (k33 () h)
      refine sr fun _ k44 => asn rfl <| dn <| k44 _ _ <| re <| tr <| br <| tr <| tr <| br <| tr ?_
      injection h with h; subst h
      exact rt0 (ResIs.one rfl rfl)
     refine yg (Yld.fieldAddr Try.underlying29 rfl nz_3 rfl rfl) <| yg (Yld.loadB (k := 116) scal_3 rfl rfl rfl) <| yg (Yld.fieldAddr Try.underlying29 rfl nz_3 rfl rfl) <| yg (Yld.loadB (k := 116) scal_3 rfl rfl rfl) <| yg (Yld.leq rfl rfl) <| pt rfl rfl <| mv rfl <| spl h decide_eq_true decide_eq_false (fun hc45 h => ?_) fun hc45 h => ?_
     ·refine sk <| sk <| sk <| sk <| WL.skipU (by decide) rfl <| WL.skipU (by decide) rfl <| WL.skipU (by decide) rfl <| WL.skipU (by decide) rfl <| WL.skipU (by decide) rfl <| sk <| pt rfl rfl <| mv rfl <| sk <| sk <| sk <| sk <| WL.skipU (by decide) rfl <| WL.skipU (by decide) rfl <| WL.skipU (by decide) rfl <| sk <| pt rfl rfl <| dn <| k34 _ _ <| cdT rfl <| sr fun _ k46 => asn rfl <| dn <| k46 _ _ <| re <| tr <| br <| tr <| tr <| br <| tr ?_
      injection h with h; subst h
      exact rt0 (ResIs.one rfl rfl)
     refine yg (Yld.fieldAddr Try.underlying29 rfl nz_3 rfl rfl) <| yg (Yld.loadB (k := 116) scal_3 rfl rfl rfl) <| yg (Yld.neqI rfl rfl) <| mvg rfl <| spn h bne_eq_false_iff_eq.2 bne_iff_ne.2 (fun hc47 h => ?_) fun hc47 h => ?_
     ·refine sk <| sk <| sk <| sk <| sk <| yg (Yld.pickF rfl rfl) <| pf rfl rfl <| mv rfl <| yg (Yld.fieldAddr Try.underlying29 rfl nz_3 rfl rfl) <| yg (Yld.loadB (k := 116) scal_3 rfl rfl rfl) <| yg (Yld.neqI rfl rfl) <| mvg rfl <| spn h bne_eq_false_iff_eq.2 bne_iff_ne.2 (fun hc48 h => ?_) fun hc48 h => ?_
      ·exact sk <| sk <| sk <| yg (Yld.pickF rfl rfl) <| pf rfl rfl <| dn <| k34 _ _ <| cdF rfl <| WC.skip <| tn <| kw (k33 () h)
      refine yg (Yld.fieldAddr Try.underlying29 rfl nz_3 rfl rfl) <| yg (Yld.loadB (k := 116) scal_3 rfl rfl rfl) <| yg (Yld.neqI rfl rfl) <| yg (Yld.pickT rfl rfl) <| pf rfl rfl <| dn <| k34 _ _ <| cnn h rfl bne_eq_false_iff_eq.2 bne_iff_ne.2 (fun hc49 h => ?_) fun hc49 h => ?_
      ·exact WC.skip <| tn <| kw (k33 () h)
      refine sr fun _ k50 => asn rfl <| dn <| k50 _ _ <| re <| tr <| br <| tr <| tr <| br <| tr ?_
      injection h with h; subst h
      exact rt0 (ResIs.one rfl rfl)
     refine yg (Yld.fieldAddr Try.underlying29 rfl nz_3 rfl rfl) <| yg (Yld.loadB (k := 116) scal_3 rfl rfl rfl) <| yg (Yld.fieldAddr Try.underlying29 rfl nz_3 rfl rfl) <| yg (Yld.loadB (k := 116) scal_3 rfl rfl rfl) <| yg (Yld.leq rfl rfl) <| yg (Yld.pickT rfl rfl) <| pf rfl rfl <| mv rfl <| spl h decide_eq_true decide_eq_false (fun hc51 h => ?_) fun hc51 h => ?_
     ·refine sk <| sk <| sk <| sk <| WL.skipU (by decide) rfl <| WL.skipU (by decide) rfl <| WL.skipU (by decide) rfl <| sk <| pt rfl rfl <| dn <| k34 _ _ <| cdT rfl <| sr fun _ k52 => asn rfl <| dn <| k52 _ _ <| re <| tr <| br <| tr <| tr <| br <| tr ?_
      injection h with h; subst h
      exact rt0 (ResIs.one rfl rfl)
     refine yg (Yld.fieldAddr Try.underlying29 rfl nz_3 rfl rfl) <| yg (Yld.loadB (k := 116) scal_3 rfl rfl rfl) <| yg (Yld.neqI rfl rfl) <| mvg rfl <| spn h bne_eq_false_iff_eq.2 bne_iff_ne.2 (fun hc53 h => ?_) fun hc53 h => ?_
     ·exact sk <| sk <| sk <| yg (Yld.pickF rfl rfl) <| pf rfl rfl <| dn <| k34 _ _ <| cdF rfl <| WC.skip <| tn <| kw (k33 () h)
     refine yg (Yld.fieldAddr Try.underlying29 rfl nz_3 rfl rfl) <| yg (Yld.loadB (k := 116) scal_3 rfl rfl rfl) <| yg (Yld.neqI rfl rfl) <| yg (Yld.pickT rfl rfl) <| pf rfl rfl <| dn <| k34 _ _ <| cnn h rfl bne_eq_false_iff_eq.2 bne_iff_ne.2 (fun hc54 h => ?_) fun hc54 h => ?_
     ·exact WC.skip <| tn <| kw (k33 () h)
     refine sr fun _ k55 => asn rfl <| dn <| k55 _ _ <| re <| tr <| br <| tr <| tr <| br <| tr ?_
     injection h with h; subst h
     exact rt0 (ResIs.one rfl rfl)
    rintro _ h
    unfold m_r24_Valid_j4 at h
    refine sr fun _ k56 => asn rfl <| dn <| k56 _ _ <| bl <| lp (τ := Int) (fun x57 => [(0, .slice A00 n00 c00), (3, I64 x4), (4, .pointer (some ⟨g16, 0, none⟩)), (5, I64 x57)]) (fun x57 => [(0, .mem M0), (116, .blk g16 29 [I64 x12.fClient, I64 x12.fKind, U64 x12.fKey, U32 x12.fCookie, .slice r_13_0.A r_13_0.n r_13_0.c, .slice r_13_1.A r_13_1.n r_13_1.c, I64 x12.fCall, I64 x12.fReturn, I64 x12.fClosed, I64 x12.fResult])]) (fun q58 x57 => m_r24_Valid_l5 x00 x4 x12 (m_r24_Valid_l1 x00 q5) q58 x57 = some res) ((0 : Int)) ?_ (by simp [m_r24_Valid_l5]) ?_
    ·exact h
    rintro q58 x57 h _ k59
    unfold m_r24_Valid_l5 at h
    refine sq fun _ k60 => sr fun _ k61 => mv rfl <| mv rfl <| ya (Yld.lss rfl rfl) <| dn <| k61 _ _ <| cnd h rfl decide_eq_true decide_eq_false (fun hc62 h => ?_) fun hc62 h => ?_
    ·refine ss <| k60 _ _ <| sq fun _ k63 => bl <| sd [(0, _), (116, _)] mixed fun _ k64 => ?_
     obtain ⟨x65, hx65, h⟩ := bnd h
     by_cases hc69 : x65.fClient = x12.fClient
     ·replace h := of_t hc69 h
      obtain ⟨x70, hx70, h⟩ := bnd h
      obtain ⟨x74, hx74, h⟩ := bnd h
      refine dm 0 rfl rfl <| dm 1 rfl rfl ?_
      obtain ⟨⟨_, r_66_0, r_66_1⟩, hr67, rfl, hq68_0, hq68_1⟩ := Rels.idx hq00 hx65
      refine du 2 rfl (Yld.idxC (xs := rs00) sty_32 rfl rfl (RdH.memM (k := 0) rfl hf00) hr67) <| du 3 rfl (Yld.fieldAddrC Try.underlying29 rfl nz_3 rfl rfl) <| du 4 rfl (Yld.loadC (xs := rs00) (j := 0) scal_3 rfl (RdH.memM (k := 0) rfl hf00) hr67 rfl rfl) <| du 5 rfl (Yld.fieldAddr Try.underlying29 rfl nz_3 rfl rfl) <| du 6 rfl (Yld.loadB (k := 116) scal_3 rfl rfl rfl) <| du 7 rfl (Yld.eqlI rfl rfl) <| dm 8 rfl rfl <| WD.new (v' := .bool true) (congrArg Value.bool (beq_iff_eq.2 hc69)) <| dv 9 rfl (Yld.move rfl) <| dv 10 rfl (Yld.move rfl) ?_
      obtain ⟨⟨_, r_71_0, r_71_1⟩, hr72, rfl, hq73_0, hq73_1⟩ := Rels.idx hq00 hx70
      refine dv 11 rfl (Yld.idxC (xs := rs00) sty_32 rfl rfl (RdH.memM (k := 0) rfl hf00) hr72) <| dv 12 rfl (Yld.loadA (xs := rs00) agg_29 rfl (RdH.memM (k := 0) rfl hf00) hr72 rfl) <| dv 13 rfl (Yld.loadBM (k := 116) agg_29 rfl rfl rfl) <| on 14 <| WS.effG rfl (by decide) rfl (Eff.callS 175 rfl Try.func35 nm_35 rfl rfl (fun w hb hh => w_r24_Before (Mem.snap w) x70.fClient x70.fKind x70.fKey x70.fCookie r_71_0.A r_71_0.n r_71_0.c _ (RdH.sn (RdH.memM (k := 0) rfl hq73_0) w hb hh) r_71_1.A r_71_1.n r_71_1.c _ (RdH.sn (RdH.memM (k := 0) rfl hq73_1) w hb hh) x70.fCall x70.fReturn x70.fClosed x70.fResult x12.fClient x12.fKind x12.fKey x12.fCookie r_13_0.A r_13_0.n r_13_0.c _ (RdH.sn (RdH.memM (k := 0) rfl hq15_0) w hb hh) r_13_1.A r_13_1.n r_13_1.c _ (RdH.sn (RdH.memM (k := 0) rfl hq15_1) w hb hh) x12.fCall x12.fReturn x12.fClosed x12.fResult hx74)) ?_
      rintro _ _ ⟨_, ⟨rfl, rfl⟩, rfl⟩
      refine ad ?_ (by repeat (first | exact sn | refine sc ?_))
      refine dv 15 rfl (Yld.notB rfl) <| du 16 rfl (Yld.pickT rfl rfl) <| dd <| k64 _ _ <| cnn h rfl not_f (fun q => not_t (Bool.eq_false_iff.2 q)) (fun hc76 h => ?_) fun hc76 h => ?_
      ·refine WC.skip <| bn <| tn <| k63 _ _ <| rg fun _ k77 => ?_
       obtain ⟨x78, hx78, h⟩ := bnd h
       exact mv rfl <| ya (Yld.addC rfl rfl hx78) <| asn rfl <| dn <| k77 _ _ <| tn <| kw (k59 (x78) h)
      refine sr fun _ k79 => asn rfl <| dn <| k79 _ _ <| re <| br <| tr <| tr <| br <| br <| tr <| tr <| br <| tr ?_
      injection h with h; subst h
      exact rt0 (ResIs.one rfl rfl)
     replace h := of_f hc69 h
     refine dm 0 rfl rfl <| dm 1 rfl rfl ?_
     obtain ⟨⟨_, r_66_0, r_66_1⟩, hr67, rfl, hq68_0, hq68_1⟩ := Rels.idx hq00 hx65
     refine du 2 rfl (Yld.idxC (xs := rs00) sty_32 rfl rfl (RdH.memM (k := 0) rfl hf00) hr67) <| du 3 rfl (Yld.fieldAddrC Try.underlying29 rfl nz_3 rfl rfl) <| du 4 rfl (Yld.loadC (xs := rs00) (j := 0) scal_3 rfl (RdH.memM (k := 0) rfl hf00) hr67 rfl rfl) <| du 5 rfl (Yld.fieldAddr Try.underlying29 rfl nz_3 rfl rfl) <| du 6 rfl (Yld.loadB (k := 116) scal_3 rfl rfl rfl) <| du 7 rfl (Yld.eqlI rfl rfl) <| dm 8 rfl rfl <| WD.new (v' := .bool false) (congrArg Value.bool (beq_eq_false_iff_ne.2 hc69)) <| dw 9 rfl <| dw 10 rfl <| dw 11 rfl <| dw 12 rfl <| dw 13 rfl <| dw 14 rfl <| dw 15 rfl <| du 16 rfl (Yld.pickF rfl rfl) <| dd <| k64 _ _ <| cdF rfl <| WC.skip <| bn <| tn <| k63 _ _ <| rg fun _ k80 => ?_
     obtain ⟨x81, hx81, h⟩ := bnd h
     exact mv rfl <| ya (Yld.addC rfl rfl hx81) <| asn rfl <| dn <| k80 _ _ <| tn <| kw (k59 (x81) h)
    exact xi <| te <| te <| bx <| bn <| tn <| kw (k10 () h)
   rintro _ h
   unfold m_r24_Valid_j2 at h
   refine rg fun _ k82 => ?_
   obtain ⟨x83, hx83, h⟩ := bnd h
   exact mv rfl <| ya (Yld.addC rfl rfl hx83) <| asn rfl <| dn <| k82 _ _ <| tn <| kw (k6 (x83) h)
  exact xi <| te <| te <| bx <| tn <| kw (k2 () h)
 rintro _ h
 unfold m_r24_Valid_j0 at h
 refine sr fun _ k84 => asn rfl <| dn <| k84 _ _ <| re ?_
 injection h with h; subst h
 exact rt0 (ResIs.one rfl rfl)
end Go.Proofs.Ytkcccenekglkoaa
