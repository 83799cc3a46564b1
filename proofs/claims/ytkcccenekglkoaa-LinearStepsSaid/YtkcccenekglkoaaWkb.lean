/-
 Walks (b): what a function's model gives, the function returns. Printed by a program of ours (vcm.py) from the function's operations. Conditions: as each theorem says.
-/
import Derived.Test.YtkcccenekglkoaaWky
import Derived.Test.YtkcccenekglkoaaMdb
namespace Go.Proofs.Ytkcccenekglkoaa
set_option maxRecDepth 10000
open Go Go.RowKit
set_option linter.unusedVariables false
theorem und_32 : Try.prog.underlying 32 = some (.slice 29) := by kernel_rfl
theorem und_69 : Try.prog.underlying 69 = some (.slice 74) := by kernel_rfl
theorem agg_29 : Agg Try.prog 29 10 := ⟨⟨_, Try.underlying29, rfl⟩, by kernel_rfl⟩
theorem agg_74 : Agg Try.prog 74 7 := ⟨⟨_, Try.underlying74, rfl⟩, by kernel_rfl⟩
theorem bu_29_0_1_2_3_6_7_8 : ∀ (a0 : Int) (a1 : Int) (a2 : BitVec 64) (a3 : BitVec 32) (a6 : Int) (a7 : Int) (a8 : Int), Try.prog.built 29 [(0, I64 a0), (1, I64 a1), (2, U64 a2), (3, U32 a3), (6, I64 a6), (7, I64 a7), (8, I64 a8)] = some ([I64 a0, I64 a1, U64 a2, U32 a3, .slice none 0 0, .slice none 0 0, I64 a6, I64 a7, I64 a8, I64 (0 : Int)] : List Value).toArray := fun a0 a1 a2 a3 a6 a7 a8 => by kernel_rfl
theorem sty_32 : STy Try.prog 32 29 (.agg #[(I64 0), (I64 0), (U64 0#64), (U32 0#32), (.slice none 0 0), (.slice none 0 0), (I64 0), (I64 0), (I64 0), (I64 0)]) 10 112 := STy.of und_32 (by kernel_rfl) rfl
theorem sty_69 : STy Try.prog 69 74 (.agg #[(I64 0), (I64 0), (I64 0), (U64 0#64), (U32 0#32), (.slice none 0 0), (I64 0)]) 7 72 := STy.of und_69 (by kernel_rfl) rfl
theorem zr_29 : (Try.prog.info? 29).map (fun i => i.zero.map (·.cells)) = some (some ([I64 (0 : Int), I64 (0 : Int), U64 0#64, U32 0#32, .slice none 0 0, .slice none 0 0, I64 (0 : Int), I64 (0 : Int), I64 (0 : Int), I64 (0 : Int)] : List Value).toArray) := by kernel_rfl
theorem zr_74 : (Try.prog.info? 74).map (fun i => i.zero.map (·.cells)) = some (some ([I64 (0 : Int), I64 (0 : Int), I64 (0 : Int), U64 0#64, U32 0#32, .slice none 0 0, I64 (0 : Int)] : List Value).toArray) := by kernel_rfl
structure Rneedlestoreref24_Op where
 x : Sneedlestoreref24_Op
 h0 : Hdr
 h1 : Hdr
instance : Lay Rneedlestoreref24_Op := ⟨10, fun r => [I64 r.x.fClient, I64 r.x.fKind, U64 r.x.fKey, U32 r.x.fCookie, .slice r.h0.A r.h0.n r.h0.c, .slice r.h1.A r.h1.n r.h1.c, I64 r.x.fCall, I64 r.x.fReturn, I64 r.x.fClosed, I64 r.x.fResult], fun _ => rfl, fun _ u h => by simp only [List.mem_cons, List.not_mem_nil, or_false] at h; rcases h with rfl | rfl | rfl | rfl | rfl | rfl | rfl | rfl | rfl | rfl <;> rfl, by decide⟩
def rel_needlestoreref24_Op (M : Mem) (r : Rneedlestoreref24_Op) (x : Sneedlestoreref24_Op) : Prop := x = r.x /\ (RelB (α := BitVec 8)) M r.h0 x.fData /\ (RelB (α := BitVec 8)) M r.h1 x.fGot
instance : Mono rel_needlestoreref24_Op := ⟨fun ⟨h0, h1, h2⟩ hm => ⟨h0, Mono.mono h1 hm, Mono.mono h2 hm⟩⟩
structure Rneedlestoreref24_Event where
 x : Sneedlestoreref24_Event
 h0 : Hdr
instance : Lay Rneedlestoreref24_Event := ⟨7, fun r => [I64 r.x.fKind, I64 r.x.fClient, I64 r.x.fOp, U64 r.x.fKey, U32 r.x.fCookie, .slice r.h0.A r.h0.n r.h0.c, I64 r.x.fResult], fun _ => rfl, fun _ u h => by simp only [List.mem_cons, List.not_mem_nil, or_false] at h; rcases h with rfl | rfl | rfl | rfl | rfl | rfl | rfl <;> rfl, by decide⟩
def rel_needlestoreref24_Event (M : Mem) (r : Rneedlestoreref24_Event) (x : Sneedlestoreref24_Event) : Prop := x = r.x /\ (RelB (α := BitVec 8)) M r.h0 x.fData
instance : Mono rel_needlestoreref24_Event := ⟨fun ⟨h0, h1⟩ hm => ⟨h0, Mono.mono h1 hm⟩⟩
theorem w_r24_open (M0 : Mem) (A00 : Option Addr) (n00 c00 : Nat) (rs00 : List Rneedlestoreref24_Op) (x00 : List (Sneedlestoreref24_Op)) (hf00 : SlT M0 A00 n00 c00 rs00) (hq00 : Rels (rel_needlestoreref24_Op M0) rs00 x00) (x01 : Int) {res : Int} (h : m_r24_open x00 x01 = some res) :
  Fn Try.prog 44 #[.slice A00 n00 c00, I64 x01] M0 fun r M' es => r = I64 res /\ es = [] := by
 refine Fn.intro (N := 35) Try.func44 rfl rfl (Nat.le_of_ble_eq_true rfl) fun w0 => ?_
 unfold m_r24_open at h
 refine sr fun _ k1 => asn rfl <| dn <| k1 _ _ <| ct (σ := Unit) (fun _ => []) (fun _ => [(0, .mem M0)]) (fun _ => m_r24_open_j0 = some res) (fun _ k2 => ?_) ?_
 ·refine sr fun _ k3 => ?_
  obtain ⟨x4, hx4, h⟩ := bnd h
  refine mv rfl <| ya (Yld.lenD (rs := rs00) (xs := x00) (Rels.len hq00) und_32 rfl (RdH.memM (k := 0) rfl hf00)) <| ya (Yld.subC rfl rfl hx4) <| asn rfl <| dn <| k3 _ _ <| bl <| lp (τ := Int) (fun x5 => [(0, .slice A00 n00 c00), (1, I64 x01), (5, I64 x5)]) (fun x5 => [(0, .mem M0)]) (fun q6 x5 => m_r24_open_l1 x00 x01 q6 x5 = some res) (x4) ?_ (by simp [m_r24_open_l1]) ?_
  ·exact h
  rintro q6 x5 h _ k7
  unfold m_r24_open_l1 at h
  refine sq fun _ k8 => sr fun _ k9 => mv rfl <| ya (Yld.geq rfl rfl) <| dn <| k9 _ _ <| cnd h rfl decide_eq_true decide_eq_false (fun hc10 h => ?_) fun hc10 h => ?_
  ·refine ss <| k8 _ _ <| sq fun _ k11 => bl <| sr fun _ k12 => ?_
   obtain ⟨x13, hx13, h⟩ := bnd h
   refine mv rfl <| mv rfl ?_
   obtain ⟨⟨_, r_14_0, r_14_1⟩, hr15, rfl, hq16_0, hq16_1⟩ := Rels.idx hq00 hx13
   refine ya (Yld.idxC (xs := rs00) sty_32 rfl rfl (RdH.memM (k := 0) rfl hf00) hr15) <| ya (Yld.fieldAddrC Try.underlying29 rfl nz_3 rfl rfl) <| ya (Yld.loadC (xs := rs00) (j := 0) scal_3 rfl (RdH.memM (k := 0) rfl hf00) hr15 rfl rfl) <| mv rfl <| ya (Yld.eqlI rfl rfl) <| dn <| k12 _ _ <| cnd h rfl beq_iff_eq.2 beq_eq_false_iff_ne.2 (fun hc17 h => ?_) fun hc17 h => ?_
   ·refine sq fun _ k18 => sr fun _ k19 => ?_
    obtain ⟨x20, hx20, h⟩ := bnd h
    refine mv rfl <| mv rfl ?_
    obtain ⟨⟨_, r_21_0, r_21_1⟩, hr22, rfl, hq23_0, hq23_1⟩ := Rels.idx hq00 hx20
    refine ya (Yld.idxC (xs := rs00) sty_32 rfl rfl (RdH.memM (k := 0) rfl hf00) hr22) <| ya (Yld.fieldAddrC Try.underlying29 rfl nz_3 rfl rfl) <| ya (Yld.loadC (xs := rs00) (j := 7) scal_3 rfl (RdH.memM (k := 0) rfl hf00) hr22 rfl rfl) <| ya (Yld.eqlI rfl rfl) <| mv rfl <| spl h beq_iff_eq.2 beq_eq_false_iff_ne.2 (fun hc24 h => ?_) fun hc24 h => ?_
    ·obtain ⟨x25, hx25, h⟩ := bnd h
     refine mvg rfl <| mvg rfl ?_
     obtain ⟨⟨_, r_26_0, r_26_1⟩, hr27, rfl, hq28_0, hq28_1⟩ := Rels.idx hq00 hx25
     refine yg (Yld.idxC (xs := rs00) sty_32 rfl rfl (RdH.memM (k := 0) rfl hf00) hr27) <| yg (Yld.fieldAddrC Try.underlying29 rfl nz_3 rfl rfl) <| yg (Yld.loadC (xs := rs00) (j := 8) scal_3 rfl (RdH.memM (k := 0) rfl hf00) hr27 rfl rfl) <| yg (Yld.eqlI rfl rfl) <| pt rfl rfl <| dn <| k19 _ _ <| cnd h rfl beq_iff_eq.2 beq_eq_false_iff_ne.2 (fun hc29 h => ?_) fun hc29 h => ?_
     ·refine sr fun _ k30 => mv rfl <| asn rfl <| dn <| k30 _ _ <| re <| tr <| br <| tr <| tr <| br <| tr ?_
      injection h with h; subst h
      exact rt0 (ResIs.one rfl rfl)
     refine ss <| k18 _ _ <| sr fun _ k31 => asn rfl <| dn <| k31 _ _ <| re <| br <| tr <| tr <| br <| tr ?_
     injection h with h; subst h
     exact rt0 (ResIs.one rfl rfl)
    refine sk <| sk <| sk <| sk <| sk <| sk <| pf rfl rfl <| dn <| k19 _ _ <| cdF rfl <| ss <| k18 _ _ <| sr fun _ k32 => asn rfl <| dn <| k32 _ _ <| re <| br <| tr <| tr <| br <| tr ?_
    injection h with h; subst h
    exact rt0 (ResIs.one rfl rfl)
   refine WC.skip <| bn <| tn <| k11 _ _ <| rg fun _ k33 => ?_
   obtain ⟨x34, hx34, h⟩ := bnd h
   exact mv rfl <| ya (Yld.subC rfl rfl hx34) <| asn rfl <| dn <| k33 _ _ <| tn <| kw (k7 (x34) h)
  exact xi <| te <| te <| bx <| tn <| kw (k2 () h)
 rintro _ h
 unfold m_r24_open_j0 at h
 refine sr fun _ k35 => asn rfl <| dn <| k35 _ _ <| re ?_
 injection h with h; subst h
 exact rt0 (ResIs.one rfl rfl)
theorem w_r24_Build (M0 : Mem) (A00 : Option Addr) (n00 c00 : Nat) (rs00 : List Rneedlestoreref24_Event) (x00 : List (Sneedlestoreref24_Event)) (hf00 : SlT M0 A00 n00 c00 rs00) (hq00 : Rels (rel_needlestoreref24_Event M0) rs00 x00) {res : (List (Sneedlestoreref24_Op)) × Int} (h : m_r24_Build x00 = some res) :
  Fn Try.prog 27 #[.slice A00 n00 c00] M0 fun r M' es => ∃ (A1 : Option Addr) (n1 c1 : Nat), ∃ rs1 : List Rneedlestoreref24_Op, r = .tuple #[.slice A1 n1 c1, I64 res.2] /\ es = [.own 29 (Lay.sz Rneedlestoreref24_Op) A1 n1 c1 (cel rs1)] /\ Rels (rel_needlestoreref24_Op M') rs1 res.1 := by
 refine Fn.intro (N := 132) Try.func27 rfl rfl (Nat.le_of_ble_eq_true rfl) fun w0 => ?_
 unfold m_r24_Build at h
 refine sr fun _ k1 => asn rfl <| asn rfl <| dn <| k1 _ _ <| sr fun _ k2 => asn rfl <| dn <| k2 _ _ <| ct (σ := Mem × (Option Addr) × Nat × Nat × (List (Sneedlestoreref24_Op)) × (List Rneedlestoreref24_Op)) (fun ⟨M3, A6, n7, c8, x9, rs10⟩ => [(4, .slice A6 n7 c8)]) (fun ⟨M3, A6, n7, c8, x9, rs10⟩ => [(0, .mem M3), (105, .own 29 (Lay.sz Rneedlestoreref24_Op) A6 n7 c8 (cel rs10))]) (fun ⟨M3, A6, n7, c8, x9, rs10⟩ => m_r24_Build_j0 x9 = some res /\ Ext w0.heap.size M0 M3 /\ Rels (rel_needlestoreref24_Op M3) rs10 x9) (fun _ k12 => ?_) ?_
 ·refine sr fun _ k13 => asn rfl <| dn <| k13 _ _ <| bl <| WC.nilOwn 116 29 (Lay.sz Rneedlestoreref24_Op) none <| lp (τ := Mem × (Option Addr) × Nat × Nat × (List (Sneedlestoreref24_Op)) × (List Rneedlestoreref24_Op) × Int) (fun ⟨M14, A17, n18, c19, x20, rs21, x23⟩ => [(0, .slice A00 n00 c00), (4, .slice A17 n18 c19), (5, I64 x23)]) (fun ⟨M14, A17, n18, c19, x20, rs21, x23⟩ => [(0, .mem M14), (116, .own 29 (Lay.sz Rneedlestoreref24_Op) A17 n18 c19 (cel rs21))]) (fun q24 ⟨M14, A17, n18, c19, x20, rs21, x23⟩ => m_r24_Build_l1 x00 q24 x20 x23 = some res /\ Ext w0.heap.size M0 M14 /\ Rels (rel_needlestoreref24_Op M14) rs21 x20) ⟨M0, none, 0, 0, ([] : List (Sneedlestoreref24_Op)), ([] : List Rneedlestoreref24_Op), (0 : Int)⟩ ?_ (by simp [m_r24_Build_l1]) ?_
  ·exact ⟨h, (Ext.refl _ _), (Rels.nil (R := rel_needlestoreref24_Op M0))⟩
  rintro q24 ⟨M14, A17, n18, c19, x20, rs21, x23⟩ ⟨h, hm_M14, hq22⟩ _ k25
  unfold m_r24_Build_l1 at h
  refine sq fun _ k26 => sr fun _ k27 => mv rfl <| mv rfl <| ya (Yld.lenD (rs := rs00) (xs := x00) (Rels.len (Rels.lift hq00 hm_M14)) und_69 rfl (RdH.memM (k := 0) rfl (SlRc.lift hf00 hm_M14))) <| ya (Yld.lss rfl rfl) <| dn <| k27 _ _ <| cnd h rfl decide_eq_true decide_eq_false (fun hc28 h => ?_) fun hc28 h => ?_
  ·refine ss <| k26 _ _ <| ct (σ := Mem × (Option Addr) × Nat × Nat × (List (Sneedlestoreref24_Op)) × (List Rneedlestoreref24_Op)) (fun ⟨M29, A30, n31, c32, x33, rs34⟩ => [(0, .slice A00 n00 c00), (4, .slice A30 n31 c32), (5, I64 x23)]) (fun ⟨M29, A30, n31, c32, x33, rs34⟩ => [(0, .mem M29), (116, .own 29 (Lay.sz Rneedlestoreref24_Op) A30 n31 c32 (cel rs34))]) (fun ⟨M29, A30, n31, c32, x33, rs34⟩ => m_r24_Build_j2 x23 (m_r24_Build_l1 x00 q24) x33 = some res /\ Ext w0.heap.size M14 M29 /\ Rels (rel_needlestoreref24_Op M29) rs34 x33) (fun _ k36 => ?_) ?_
   ·refine bl <| sr fun _ k37 => ?_
    obtain ⟨x38, hx38, h⟩ := bnd h
    refine mv rfl <| mv rfl ?_
    obtain ⟨⟨_, r_39_0⟩, hr40, rfl, hq41_0⟩ := Rels.idx (Rels.lift hq00 hm_M14) hx38
    refine ya (Yld.idxC (xs := rs00) sty_69 rfl rfl (RdH.memM (k := 0) rfl (SlRc.lift hf00 hm_M14)) hr40) <| ya (Yld.loadA (xs := rs00) agg_74 rfl (RdH.memM (k := 0) rfl (SlRc.lift hf00 hm_M14)) hr40 rfl) <| al 142 zr_74 fun g42 => sb 142 agg_74 rfl rfl rfl <| dn <| k37 _ _ <| sr fun _ k43 => ?_
    obtain ⟨x44, hx44, h⟩ := bnd h
    refine mv rfl <| ya (Yld.fieldAddr Try.underlying74 rfl nz_3 rfl rfl) <| ya (Yld.loadB (k := 142) scal_3 rfl rfl rfl) <| c0 Try.func44 rfl (fun w hb hh => w_r24_open (Mem.snap w) A17 n18 c19 rs21 _ (RdH.sn (RdH.own (k := 116) rfl) w hb hh) (Rels.sn hq22 (hh.sat 0 _ rfl)) x38.fClient hx44) <| asn rfl <| dn <| k43 _ _ <| bl <| ctr (σ := Bool) (fun x46 => [(0, .slice A00 n00 c00), (4, .slice A17 n18 c19), (5, I64 x23), (6, .pointer (some ⟨g42, 0, none⟩)), (7, I64 x44), (24, .bool x46)]) (fun x46 => [(0, .mem M14), (116, .own 29 (Lay.sz Rneedlestoreref24_Op) A17 n18 c19 (cel rs21)), (142, .blk g42 74 [I64 x38.fKind, I64 x38.fClient, I64 x38.fOp, U64 x38.fKey, U32 x38.fCookie, .slice r_39_0.A r_39_0.n r_39_0.c, I64 x38.fResult])]) (fun x46 => m_r24_Build_j3 x20 x23 x38 x44 (m_r24_Build_l1 x00 q24) x46 = some res) (fun _ k47 => ?_) ?_
    ·refine ya (Yld.fieldAddr Try.underlying74 rfl nz_3 rfl rfl) <| ya (Yld.loadB (k := 142) scal_3 rfl rfl rfl) <| ya (Yld.eqlI rfl rfl) <| mv rfl <| spl h beq_iff_eq.2 beq_eq_false_iff_ne.2 (fun hc49 h => ?_) fun hc49 h => ?_
     ·refine yg (Yld.fieldAddr Try.underlying74 rfl nz_3 rfl rfl) <| yg (Yld.loadB (k := 142) scal_3 rfl rfl rfl) <| yg (Yld.geq rfl rfl) <| pt rfl rfl <| mv rfl <| spl h decide_eq_true decide_eq_false (fun hc50 h => ?_) fun hc50 h => ?_
      ·refine yg (Yld.fieldAddr Try.underlying74 rfl nz_3 rfl rfl) <| yg (Yld.loadB (k := 142) scal_3 rfl rfl rfl) <| yg (Yld.leq rfl rfl) <| pt rfl rfl <| mv rfl <| spl h decide_eq_true decide_eq_false (fun hc51 h => ?_) fun hc51 h => ?_
       ·exact mvg rfl <| yg (Yld.lss rfl rfl) <| pt rfl rfl <| asn rfl <| WL.done <| kw (k47 (decide (x44 < (0 : Int))) h)
       exact sk <| sk <| pf rfl rfl <| asn rfl <| WL.done <| kw (k47 false h)
      exact sk <| sk <| sk <| pf rfl rfl <| mv rfl <| sk <| sk <| pf rfl rfl <| asn rfl <| WL.done <| kw (k47 false h)
     exact sk <| sk <| sk <| pf rfl rfl <| mv rfl <| sk <| sk <| sk <| pf rfl rfl <| mv rfl <| sk <| sk <| pf rfl rfl <| asn rfl <| WL.done <| kw (k47 false h)
    rintro x46 h
    unfold m_r24_Build_j3 at h
    refine cnd h rfl id Bool.eq_false_iff.2 (fun hc52 h => ?_) fun hc52 h => ?_
    ·refine sr fun _ k53 => ya (Yld.fieldAddr Try.underlying74 rfl nz_3 rfl rfl) <| ya (Yld.loadB (k := 142) scal_3 rfl rfl rfl) <| ya (Yld.fieldAddr Try.underlying74 rfl nz_3 rfl rfl) <| ya (Yld.loadB (k := 142) scal_3 rfl rfl rfl) <| ya (Yld.fieldAddr Try.underlying74 rfl nz_26 rfl rfl) <| ya (Yld.loadB (k := 142) scal_26 rfl rfl rfl) <| ya (Yld.fieldAddr Try.underlying74 rfl nz_22 rfl rfl) <| ya (Yld.loadB (k := 142) scal_22 rfl rfl rfl) <| mv rfl <| ya (Yld.build rfl (bu_29_0_1_2_3_6_7_8 x38.fClient x38.fOp x38.fKey x38.fCookie x23 (-1 : Int) (-1 : Int))) <| al 154 zr_29 fun g54 => sb 154 agg_29 rfl rfl rfl <| dn <| k53 _ _ <| sq fun _ k55 => sr fun _ k56 => ya (Yld.fieldAddr Try.underlying74 rfl nz_3 rfl rfl) <| ya (Yld.loadB (k := 142) scal_3 rfl rfl rfl) <| ya (Yld.eqlI rfl rfl) <| dn <| k56 _ _ <| cnd h rfl beq_iff_eq.2 beq_eq_false_iff_ne.2 (fun hc57 h => ?_) fun hc57 h => ?_
     ·refine rg fun _ k58 => ?_
      obtain ⟨x60, hx60, h⟩ := bnd h
      refine WL.eff (by decide) (Eff.buildC 159 ([] : List (BitVec 8)) sty_23 rfl rfl rfl rfl rfl (by decide)) ?_
      rintro _ _ ⟨g59, rfl, rfl⟩
      refine ya (Yld.fieldAddr Try.underlying74 rfl nz_23 rfl rfl) <| ya (Yld.loadB (k := 142) scal_23 rfl rfl rfl) <| ap 159 (xs := ([] : List (BitVec 8))) (ys := x38.fData) sty_23 rfl rfl rfl (RdH.memM (k := 0) rfl hq41_0) hx60 fun A61 c62 => ya (Yld.fieldAddr Try.underlying29 rfl nz_23 rfl rfl) <| WL.eff0 (Eff0.storeB 154 siz_23 rfl rfl rfl rfl (Nat.le_of_ble_eq_true rfl)) <| dn <| k58 _ _ <| tn <| k55 _ _ <| rg fun _ k63 => ?_
      obtain ⟨x68, hx68, h⟩ := bnd h
      refine mv rfl <| ya (Yld.loadBM (k := 154) agg_29 rfl rfl rfl) <| WL.freeze 159 rfl rfl rfl fun M65 hm_M65 hf66 => ?_
      have hq67 : Rels (rel_needlestoreref24_Op M65) ([(Rneedlestoreref24_Op.mk (Sneedlestoreref24_Op.mk x38.fClient x38.fOp x38.fKey x38.fCookie x60 ([] : List (BitVec 8)) x23 (-1 : Int) (-1 : Int) (0 : Int)) (⟨A61, x60.length, c62⟩ : Hdr) (⟨none, 0, 0⟩ : Hdr))] : List Rneedlestoreref24_Op) ([(Sneedlestoreref24_Op.mk x38.fClient x38.fOp x38.fKey x38.fCookie x60 ([] : List (BitVec 8)) x23 (-1 : Int) (-1 : Int) (0 : Int))] : List (Sneedlestoreref24_Op)) := (Rels.cons ⟨rfl, hf66, SlT.nil⟩ Rels.nil)
      refine WL.eff (by decide) (Eff.buildCA 164 ([(Rneedlestoreref24_Op.mk (Sneedlestoreref24_Op.mk x38.fClient x38.fOp x38.fKey x38.fCookie x60 ([] : List (BitVec 8)) x23 (-1 : Int) (-1 : Int) (0 : Int)) (⟨A61, x60.length, c62⟩ : Hdr) (⟨none, 0, 0⟩ : Hdr))] : List Rneedlestoreref24_Op) sty_32 rfl rfl rfl (by decide)) ?_
      rintro _ _ ⟨g64, rfl, rfl⟩
      obtain ⟨hu71, hq72⟩ := Rels.apd (Rels.lift hq22 hm_M65) hq67 hx68
      exact ap 116 (xs := rs21) (ys := ([(Rneedlestoreref24_Op.mk (Sneedlestoreref24_Op.mk x38.fClient x38.fOp x38.fKey x38.fCookie x60 ([] : List (BitVec 8)) x23 (-1 : Int) (-1 : Int) (0 : Int)) (⟨A61, x60.length, c62⟩ : Hdr) (⟨none, 0, 0⟩ : Hdr))] : List Rneedlestoreref24_Op)) sty_32 rfl rfl rfl (RdH.own (k := 164) rfl) hu71 fun A69 c70 => asn rfl <| dn <| k63 _ _ <| bn <| bn <| tn <| kw (k36 ⟨M65, A69, (rs21 ++ ([(Rneedlestoreref24_Op.mk (Sneedlestoreref24_Op.mk x38.fClient x38.fOp x38.fKey x38.fCookie x60 ([] : List (BitVec 8)) x23 (-1 : Int) (-1 : Int) (0 : Int)) (⟨A61, x60.length, c62⟩ : Hdr) (⟨none, 0, 0⟩ : Hdr))] : List Rneedlestoreref24_Op)).length, c70, x68, (rs21 ++ ([(Rneedlestoreref24_Op.mk (Sneedlestoreref24_Op.mk x38.fClient x38.fOp x38.fKey x38.fCookie x60 ([] : List (BitVec 8)) x23 (-1 : Int) (-1 : Int) (0 : Int)) (⟨A61, x60.length, c62⟩ : Hdr) (⟨none, 0, 0⟩ : Hdr))] : List Rneedlestoreref24_Op))⟩ ⟨h, hm_M65, hq72⟩)
     refine ss <| k55 _ _ <| rg fun _ k73 => ?_
     obtain ⟨x76, hx76, h⟩ := bnd h
     refine mv rfl <| ya (Yld.loadBM (k := 154) agg_29 rfl rfl rfl) ?_
     have hq75 : Rels (rel_needlestoreref24_Op M14) ([(Rneedlestoreref24_Op.mk (Sneedlestoreref24_Op.mk x38.fClient x38.fOp x38.fKey x38.fCookie ([] : List (BitVec 8)) ([] : List (BitVec 8)) x23 (-1 : Int) (-1 : Int) (0 : Int)) (⟨none, 0, 0⟩ : Hdr) (⟨none, 0, 0⟩ : Hdr))] : List Rneedlestoreref24_Op) ([(Sneedlestoreref24_Op.mk x38.fClient x38.fOp x38.fKey x38.fCookie ([] : List (BitVec 8)) ([] : List (BitVec 8)) x23 (-1 : Int) (-1 : Int) (0 : Int))] : List (Sneedlestoreref24_Op)) := (Rels.cons ⟨rfl, SlT.nil, SlT.nil⟩ Rels.nil)
     refine WL.eff (by decide) (Eff.buildCA 174 ([(Rneedlestoreref24_Op.mk (Sneedlestoreref24_Op.mk x38.fClient x38.fOp x38.fKey x38.fCookie ([] : List (BitVec 8)) ([] : List (BitVec 8)) x23 (-1 : Int) (-1 : Int) (0 : Int)) (⟨none, 0, 0⟩ : Hdr) (⟨none, 0, 0⟩ : Hdr))] : List Rneedlestoreref24_Op) sty_32 rfl rfl rfl (by decide)) ?_
     rintro _ _ ⟨g74, rfl, rfl⟩
     obtain ⟨hu79, hq80⟩ := Rels.apd hq22 hq75 hx76
     exact ap 116 (xs := rs21) (ys := ([(Rneedlestoreref24_Op.mk (Sneedlestoreref24_Op.mk x38.fClient x38.fOp x38.fKey x38.fCookie ([] : List (BitVec 8)) ([] : List (BitVec 8)) x23 (-1 : Int) (-1 : Int) (0 : Int)) (⟨none, 0, 0⟩ : Hdr) (⟨none, 0, 0⟩ : Hdr))] : List Rneedlestoreref24_Op)) sty_32 rfl rfl rfl (RdH.own (k := 174) rfl) hu79 fun A77 c78 => asn rfl <| dn <| k73 _ _ <| bn <| bn <| tn <| kw (k36 ⟨M14, A77, (rs21 ++ ([(Rneedlestoreref24_Op.mk (Sneedlestoreref24_Op.mk x38.fClient x38.fOp x38.fKey x38.fCookie ([] : List (BitVec 8)) ([] : List (BitVec 8)) x23 (-1 : Int) (-1 : Int) (0 : Int)) (⟨none, 0, 0⟩ : Hdr) (⟨none, 0, 0⟩ : Hdr))] : List Rneedlestoreref24_Op)).length, c78, x76, (rs21 ++ ([(Rneedlestoreref24_Op.mk (Sneedlestoreref24_Op.mk x38.fClient x38.fOp x38.fKey x38.fCookie ([] : List (BitVec 8)) ([] : List (BitVec 8)) x23 (-1 : Int) (-1 : Int) (0 : Int)) (⟨none, 0, 0⟩ : Hdr) (⟨none, 0, 0⟩ : Hdr))] : List Rneedlestoreref24_Op))⟩ ⟨h, (Ext.refl _ _), hq80⟩)
    refine ctr (σ := Bool) (fun x81 => [(0, .slice A00 n00 c00), (4, .slice A17 n18 c19), (5, I64 x23), (6, .pointer (some ⟨g42, 0, none⟩)), (7, I64 x44), (64, .bool x81)]) (fun x81 => [(0, .mem M14), (116, .own 29 (Lay.sz Rneedlestoreref24_Op) A17 n18 c19 (cel rs21)), (142, .blk g42 74 [I64 x38.fKind, I64 x38.fClient, I64 x38.fOp, U64 x38.fKey, U32 x38.fCookie, .slice r_39_0.A r_39_0.n r_39_0.c, I64 x38.fResult])]) (fun x81 => m_r24_Build_j4 x20 x23 x38 x44 (m_r24_Build_l1 x00 q24) x81 = some res) (fun _ k82 => ?_) ?_
    ·refine ya (Yld.fieldAddr Try.underlying74 rfl nz_3 rfl rfl) <| ya (Yld.loadB (k := 142) scal_3 rfl rfl rfl) <| ya (Yld.eqlI rfl rfl) <| mv rfl <| spl h beq_iff_eq.2 beq_eq_false_iff_ne.2 (fun hc84 h => ?_) fun hc84 h => ?_
     ·exact mvg rfl <| yg (Yld.geq rfl rfl) <| pt rfl rfl <| asn rfl <| WL.done <| kw (k82 (decide ((0 : Int) <= x44)) h)
     exact sk <| sk <| pf rfl rfl <| asn rfl <| WL.done <| kw (k82 false h)
    rintro x81 h
    unfold m_r24_Build_j4 at h
    refine cnd h rfl id Bool.eq_false_iff.2 (fun hc85 h => ?_) fun hc85 h => ?_
    ·refine sd [(0, _), (142, _)] mixed fun _ k86 => ?_
     obtain ⟨x87, hx87, h⟩ := bnd h
     obtain ⟨x91, hx91, h⟩ := bnd h
     obtain ⟨x92, hx92, h⟩ := bnd h
     obtain ⟨x98, hx98, h⟩ := bnd h
     obtain ⟨x102, hx102, h⟩ := bnd h
     obtain ⟨x103, hx103, h⟩ := bnd h
     refine dm 0 rfl rfl <| dm 1 rfl rfl <| dm 2 rfl rfl <| dm 3 rfl rfl <| dm 4 rfl rfl <| du 5 rfl (Yld.fieldAddr Try.underlying74 rfl nz_27 rfl rfl) <| du 6 rfl (Yld.loadB (k := 142) scal_27 rfl rfl rfl) <| on 7 ?_
     obtain ⟨⟨_, r_88_0, r_88_1⟩, hr89, rfl, hq90_0, hq90_1⟩ := Rels.idx hq22 hx87
     refine dy rfl (Yld.idxC (xs := rs21) sty_32 rfl rfl (RdH.own (k := 116) rfl) hr89) <| du 8 rfl (Yld.fieldAddrC Try.underlying29 rfl nz_3 rfl rfl) <| on 9 ?_
     obtain ⟨⟨_, r_93_0, r_93_1⟩, hr94, rfl, hq95_0, hq95_1⟩ := Rels.idx hq22 hx91
     obtain ⟨hu96, hq97⟩ := Rels.upd (r := (Rneedlestoreref24_Op.mk ({ x91 with fReturn := x23 } : Sneedlestoreref24_Op) r_93_0 r_93_1)) hq22 hx92 ⟨rfl, hq95_0, hq95_1⟩
     refine WS.eff0 rfl (Eff0.storeC 116 (xs := rs21) (j := 7) (a := (Rneedlestoreref24_Op.mk x91 r_93_0 r_93_1)) (a' := (Rneedlestoreref24_Op.mk ({ x91 with fReturn := x23 } : Sneedlestoreref24_Op) r_93_0 r_93_1)) siz_3 rfl rfl rfl rfl hr94 rfl rfl hu96) (sc (sc sn)) <| on 10 ?_
     obtain ⟨⟨_, r_99_0, r_99_1⟩, hr100, rfl, hq101_0, hq101_1⟩ := Rels.idx hq97 hx98
     refine dy rfl (Yld.idxC (xs := (rs21.set (x44).toNat (Rneedlestoreref24_Op.mk ({ x91 with fReturn := x23 } : Sneedlestoreref24_Op) r_93_0 r_93_1))) sty_32 rfl rfl (RdH.own (k := 116) rfl) hr100) <| du 11 rfl (Yld.fieldAddrC Try.underlying29 rfl nz_27 rfl rfl) <| on 12 ?_
     obtain ⟨⟨_, r_104_0, r_104_1⟩, hr105, rfl, hq106_0, hq106_1⟩ := Rels.idx hq97 hx102
     obtain ⟨hu107, hq108⟩ := Rels.upd (r := (Rneedlestoreref24_Op.mk ({ x102 with fResult := x38.fResult } : Sneedlestoreref24_Op) r_104_0 r_104_1)) hq97 hx103 ⟨rfl, hq106_0, hq106_1⟩
     refine WS.eff0 rfl (Eff0.storeC 116 (xs := (rs21.set (x44).toNat (Rneedlestoreref24_Op.mk ({ x91 with fReturn := x23 } : Sneedlestoreref24_Op) r_93_0 r_93_1))) (j := 9) (a := (Rneedlestoreref24_Op.mk x102 r_104_0 r_104_1)) (a' := (Rneedlestoreref24_Op.mk ({ x102 with fResult := x38.fResult } : Sneedlestoreref24_Op) r_104_0 r_104_1)) siz_27 rfl rfl rfl rfl hr105 rfl rfl hu107) (sc (sc sn)) <| dd <| k86 _ _ <| sr fun _ k109 => ?_
     obtain ⟨x110, hx110, h⟩ := bnd h
     refine mv rfl <| mv rfl ?_
     obtain ⟨⟨_, r_111_0, r_111_1⟩, hr112, rfl, hq113_0, hq113_1⟩ := Rels.idx hq108 hx110
     refine ya (Yld.idxC (xs := ((rs21.set (x44).toNat (Rneedlestoreref24_Op.mk ({ x91 with fReturn := x23 } : Sneedlestoreref24_Op) r_93_0 r_93_1)).set (x44).toNat (Rneedlestoreref24_Op.mk ({ x102 with fResult := x38.fResult } : Sneedlestoreref24_Op) r_104_0 r_104_1))) sty_32 rfl rfl (RdH.own (k := 116) rfl) hr112) <| ya (Yld.fieldAddrC Try.underlying29 rfl nz_3 rfl rfl) <| ya (Yld.loadC (xs := ((rs21.set (x44).toNat (Rneedlestoreref24_Op.mk ({ x91 with fReturn := x23 } : Sneedlestoreref24_Op) r_93_0 r_93_1)).set (x44).toNat (Rneedlestoreref24_Op.mk ({ x102 with fResult := x38.fResult } : Sneedlestoreref24_Op) r_104_0 r_104_1))) (j := 1) scal_3 rfl (RdH.own (k := 116) rfl) hr112 rfl rfl) <| ya (Yld.eqlI rfl rfl) <| mv rfl <| spl h beq_iff_eq.2 beq_eq_false_iff_ne.2 (fun hc114 h => ?_) fun hc114 h => ?_
     ·refine yg (Yld.fieldAddr Try.underlying74 rfl nz_27 rfl rfl) <| yg (Yld.loadB (k := 142) scal_27 rfl rfl rfl) <| yg (Yld.eqlI rfl rfl) <| pt rfl rfl <| dn <| k109 _ _ <| cnd h rfl beq_iff_eq.2 beq_eq_false_iff_ne.2 (fun hc115 h => ?_) fun hc115 h => ?_
      ·refine rg fun _ k116 => ?_
       obtain ⟨x118, hx118, h⟩ := bnd h
       obtain ⟨x121, hx121, h⟩ := bnd h
       obtain ⟨x125, hx125, h⟩ := bnd h
       obtain ⟨x126, hx126, h⟩ := bnd h
       refine mv rfl <| mv rfl <| WL.eff (by decide) (Eff.buildC 217 ([] : List (BitVec 8)) sty_23 rfl rfl rfl rfl rfl (by decide)) ?_
       rintro _ _ ⟨g117, rfl, rfl⟩
       refine ya (Yld.fieldAddr Try.underlying74 rfl nz_23 rfl rfl) <| ya (Yld.loadB (k := 142) scal_23 rfl rfl rfl) <| ap 217 (xs := ([] : List (BitVec 8))) (ys := x38.fData) sty_23 rfl rfl rfl (RdH.memM (k := 0) rfl hq41_0) hx118 fun A119 c120 => ?_
       obtain ⟨⟨_, r_122_0, r_122_1⟩, hr123, rfl, hq124_0, hq124_1⟩ := Rels.idx hq108 hx121
       refine ya (Yld.idxC (xs := ((rs21.set (x44).toNat (Rneedlestoreref24_Op.mk ({ x91 with fReturn := x23 } : Sneedlestoreref24_Op) r_93_0 r_93_1)).set (x44).toNat (Rneedlestoreref24_Op.mk ({ x102 with fResult := x38.fResult } : Sneedlestoreref24_Op) r_104_0 r_104_1))) sty_32 rfl rfl (RdH.own (k := 116) rfl) hr123) <| ya (Yld.fieldAddrC Try.underlying29 rfl nz_23 rfl rfl) <| WL.freeze 217 rfl rfl rfl fun M127 hm_M127 hf128 => ?_
       obtain ⟨⟨_, r_129_0, r_129_1⟩, hr130, rfl, hq131_0, hq131_1⟩ := Rels.idx (Rels.lift hq108 hm_M127) hx125
       obtain ⟨hu132, hq133⟩ := Rels.upd (r := (Rneedlestoreref24_Op.mk ({ x125 with fGot := x118 } : Sneedlestoreref24_Op) r_129_0 (⟨A119, x118.length, c120⟩ : Hdr))) (Rels.lift hq108 hm_M127) hx126 ⟨rfl, hq131_0, hf128⟩
       exact WL.eff0 (Eff0.storeC 116 (xs := ((rs21.set (x44).toNat (Rneedlestoreref24_Op.mk ({ x91 with fReturn := x23 } : Sneedlestoreref24_Op) r_93_0 r_93_1)).set (x44).toNat (Rneedlestoreref24_Op.mk ({ x102 with fResult := x38.fResult } : Sneedlestoreref24_Op) r_104_0 r_104_1))) (j := 5) (a := (Rneedlestoreref24_Op.mk x125 r_129_0 r_129_1)) (a' := (Rneedlestoreref24_Op.mk ({ x125 with fGot := x118 } : Sneedlestoreref24_Op) r_129_0 (⟨A119, x118.length, c120⟩ : Hdr))) siz_23 rfl rfl rfl rfl hr130 rfl rfl hu132) <| dn <| k116 _ _ <| bn <| bn <| tn <| kw (k36 ⟨M127, A17, n18, c19, x126, (((rs21.set (x44).toNat (Rneedlestoreref24_Op.mk ({ x91 with fReturn := x23 } : Sneedlestoreref24_Op) r_93_0 r_93_1)).set (x44).toNat (Rneedlestoreref24_Op.mk ({ x102 with fResult := x38.fResult } : Sneedlestoreref24_Op) r_104_0 r_104_1)).set (x44).toNat (Rneedlestoreref24_Op.mk ({ x125 with fGot := x118 } : Sneedlestoreref24_Op) r_129_0 (⟨A119, x118.length, c120⟩ : Hdr)))⟩ ⟨h, hm_M127, hq133⟩)
      exact WC.skip <| bn <| bn <| tn <| kw (k36 ⟨M14, A17, n18, c19, x103, ((rs21.set (x44).toNat (Rneedlestoreref24_Op.mk ({ x91 with fReturn := x23 } : Sneedlestoreref24_Op) r_93_0 r_93_1)).set (x44).toNat (Rneedlestoreref24_Op.mk ({ x102 with fResult := x38.fResult } : Sneedlestoreref24_Op) r_104_0 r_104_1))⟩ ⟨h, (Ext.refl _ _), hq108⟩)
     exact sk <| sk <| sk <| pf rfl rfl <| dn <| k109 _ _ <| cdF rfl <| WC.skip <| bn <| bn <| tn <| kw (k36 ⟨M14, A17, n18, c19, x103, ((rs21.set (x44).toNat (Rneedlestoreref24_Op.mk ({ x91 with fReturn := x23 } : Sneedlestoreref24_Op) r_93_0 r_93_1)).set (x44).toNat (Rneedlestoreref24_Op.mk ({ x102 with fResult := x38.fResult } : Sneedlestoreref24_Op) r_104_0 r_104_1))⟩ ⟨h, (Ext.refl _ _), hq108⟩)
    refine sr fun _ k134 => ya (Yld.fieldAddr Try.underlying74 rfl nz_3 rfl rfl) <| ya (Yld.loadB (k := 142) scal_3 rfl rfl rfl) <| ya (Yld.eqlI rfl rfl) <| asn rfl <| dn <| k134 _ _ <| cnd h rfl beq_iff_eq.2 beq_eq_false_iff_ne.2 (fun hc135 h => ?_) fun hc135 h => ?_
    ·refine sr fun _ k136 => asn rfl <| dn <| k136 _ _ <| bl <| lp (τ := (List (Sneedlestoreref24_Op)) × (List Rneedlestoreref24_Op) × Int) (fun ⟨x137, rs138, x140⟩ => [(0, .slice A00 n00 c00), (4, .slice A17 n18 c19), (5, I64 x23), (9, I64 x140)]) (fun ⟨x137, rs138, x140⟩ => [(0, .mem M14), (116, .own 29 (Lay.sz Rneedlestoreref24_Op) A17 n18 c19 (cel rs138))]) (fun q141 ⟨x137, rs138, x140⟩ => m_r24_Build_l5 x23 (m_r24_Build_l1 x00 q24) q141 x137 x140 = some res /\ Rels (rel_needlestoreref24_Op M14) rs138 x137) ⟨x20, rs21, (0 : Int)⟩ ?_ (by simp [m_r24_Build_l5]) ?_
     ·exact ⟨h, hq22⟩
     rintro q141 ⟨x137, rs138, x140⟩ ⟨h, hq139⟩ _ k142
     unfold m_r24_Build_l5 at h
     refine sq fun _ k143 => sr fun _ k144 => mv rfl <| mv rfl <| ya (Yld.lenD (rs := rs138) (xs := x137) (Rels.len hq139) und_32 rfl (RdH.own (k := 116) rfl)) <| ya (Yld.lss rfl rfl) <| dn <| k144 _ _ <| cnd h rfl decide_eq_true decide_eq_false (fun hc145 h => ?_) fun hc145 h => ?_
     ·refine ss <| k143 _ _ <| sq fun _ k146 => bl <| sr fun _ k147 => ?_
      obtain ⟨x148, hx148, h⟩ := bnd h
      refine mv rfl <| mv rfl ?_
      obtain ⟨⟨_, r_149_0, r_149_1⟩, hr150, rfl, hq151_0, hq151_1⟩ := Rels.idx hq139 hx148
      refine ya (Yld.idxC (xs := rs138) sty_32 rfl rfl (RdH.own (k := 116) rfl) hr150) <| ya (Yld.fieldAddrC Try.underlying29 rfl nz_3 rfl rfl) <| ya (Yld.loadC (xs := rs138) (j := 7) scal_3 rfl (RdH.own (k := 116) rfl) hr150 rfl rfl) <| ya (Yld.eqlI rfl rfl) <| mv rfl <| spl h beq_iff_eq.2 beq_eq_false_iff_ne.2 (fun hc152 h => ?_) fun hc152 h => ?_
      ·obtain ⟨x153, hx153, h⟩ := bnd h
       refine mvg rfl <| mvg rfl ?_
       obtain ⟨⟨_, r_154_0, r_154_1⟩, hr155, rfl, hq156_0, hq156_1⟩ := Rels.idx hq139 hx153
       refine yg (Yld.idxC (xs := rs138) sty_32 rfl rfl (RdH.own (k := 116) rfl) hr155) <| yg (Yld.fieldAddrC Try.underlying29 rfl nz_3 rfl rfl) <| yg (Yld.loadC (xs := rs138) (j := 8) scal_3 rfl (RdH.own (k := 116) rfl) hr155 rfl rfl) <| yg (Yld.eqlI rfl rfl) <| pt rfl rfl <| dn <| k147 _ _ <| cnd h rfl beq_iff_eq.2 beq_eq_false_iff_ne.2 (fun hc157 h => ?_) fun hc157 h => ?_
       ·refine rg fun _ k158 => ?_
        obtain ⟨x159, hx159, h⟩ := bnd h
        obtain ⟨x163, hx163, h⟩ := bnd h
        obtain ⟨x164, hx164, h⟩ := bnd h
        refine mv rfl <| mv rfl <| mv rfl ?_
        obtain ⟨⟨_, r_160_0, r_160_1⟩, hr161, rfl, hq162_0, hq162_1⟩ := Rels.idx hq139 hx159
        refine ya (Yld.idxC (xs := rs138) sty_32 rfl rfl (RdH.own (k := 116) rfl) hr161) <| ya (Yld.fieldAddrC Try.underlying29 rfl nz_3 rfl rfl) ?_
        obtain ⟨⟨_, r_165_0, r_165_1⟩, hr166, rfl, hq167_0, hq167_1⟩ := Rels.idx hq139 hx163
        obtain ⟨hu168, hq169⟩ := Rels.upd (r := (Rneedlestoreref24_Op.mk ({ x163 with fClosed := x23 } : Sneedlestoreref24_Op) r_165_0 r_165_1)) hq139 hx164 ⟨rfl, hq167_0, hq167_1⟩
        refine WL.eff0 (Eff0.storeC 116 (xs := rs138) (j := 8) (a := (Rneedlestoreref24_Op.mk x163 r_165_0 r_165_1)) (a' := (Rneedlestoreref24_Op.mk ({ x163 with fClosed := x23 } : Sneedlestoreref24_Op) r_165_0 r_165_1)) siz_3 rfl rfl rfl rfl hr166 rfl rfl hu168) <| dn <| k158 _ _ <| bn <| tn <| k146 _ _ <| rg fun _ k170 => ?_
        obtain ⟨x171, hx171, h⟩ := bnd h
        exact mv rfl <| ya (Yld.addC rfl rfl hx171) <| asn rfl <| dn <| k170 _ _ <| tn <| kw (k142 ⟨x164, (rs138.set (x140).toNat (Rneedlestoreref24_Op.mk ({ x163 with fClosed := x23 } : Sneedlestoreref24_Op) r_165_0 r_165_1)), x171⟩ ⟨h, hq169⟩)
       refine WC.skip <| bn <| tn <| k146 _ _ <| rg fun _ k172 => ?_
       obtain ⟨x173, hx173, h⟩ := bnd h
       exact mv rfl <| ya (Yld.addC rfl rfl hx173) <| asn rfl <| dn <| k172 _ _ <| tn <| kw (k142 ⟨x137, rs138, x173⟩ ⟨h, hq139⟩)
      refine sk <| sk <| sk <| sk <| sk <| sk <| pf rfl rfl <| dn <| k147 _ _ <| cdF rfl <| WC.skip <| bn <| tn <| k146 _ _ <| rg fun _ k174 => ?_
      obtain ⟨x175, hx175, h⟩ := bnd h
      exact mv rfl <| ya (Yld.addC rfl rfl hx175) <| asn rfl <| dn <| k174 _ _ <| tn <| kw (k142 ⟨x137, rs138, x175⟩ ⟨h, hq139⟩)
     exact xi <| te <| te <| bx <| bn <| bn <| tn <| kw (k36 ⟨M14, A17, n18, c19, x137, rs138⟩ ⟨h, (Ext.refl _ _), hq139⟩)
    refine sr fun _ k176 => asn rfl <| asn rfl <| dn <| k176 _ _ <| re <| br <| br <| tr <| tr <| br <| tr <| QK.nilOwn 277 29 (Lay.sz Rneedlestoreref24_Op) none ?_
    injection h with h; subst h
    exact rt [277] (ResIs.two rfl rfl rfl) hm_M14 ⟨none, 0, 0, ([] : List Rneedlestoreref24_Op), rfl, rfl, (Rels.nil (R := rel_needlestoreref24_Op M14))⟩
   rintro ⟨M29, A30, n31, c32, x33, rs34⟩ ⟨h, hm_M29, hq35⟩
   unfold m_r24_Build_j2 at h
   refine rg fun _ k178 => ?_
   obtain ⟨x179, hx179, h⟩ := bnd h
   exact mv rfl <| ya (Yld.addC rfl rfl hx179) <| asn rfl <| dn <| k178 _ _ <| tn <| kw (k25 ⟨M29, A30, n31, c32, x33, rs34, x179⟩ ⟨h, (Ext.trans hm_M14 hm_M29), hq35⟩)
  exact xi <| te <| te <| bx <| tn <| KK.move 116 105 rfl rfl <| kw (k12 ⟨M14, A17, n18, c19, x20, rs21⟩ ⟨h, hm_M14, hq22⟩)
 rintro ⟨M3, A6, n7, c8, x9, rs10⟩ ⟨h, hm_M3, hq11⟩
 unfold m_r24_Build_j0 at h
 refine sr fun _ k180 => mv rfl <| asn rfl <| asn rfl <| dn <| k180 _ _ <| re ?_
 injection h with h; subst h
 exact rt [105] (ResIs.two rfl rfl rfl) hm_M3 ⟨A6, n7, c8, rs10, rfl, rfl, hq11⟩
end Go.Proofs.Ytkcccenekglkoaa
