/-
 Walks (j4): what a function's model gives, the function returns. Printed by a program of ours (vcm.py) from the function's operations. Conditions: as each theorem says.
-/
import Derived.Test.YtkcccenekglkoaaWki
import Derived.Test.YtkcccenekglkoaaMdj4
import Derived.Test.YtkcccenekglkoaaX23
namespace Go.Proofs.Ytkcccenekglkoaa
set_option maxRecDepth 10000
open Go Go.RowKit
set_option linter.unusedVariables false
theorem und_91 : Try.prog.underlying 91 = some (.map 26 35) := by kernel_rfl
theorem und_92 : Try.prog.underlying 92 = some (.map 3 93) := by kernel_rfl
theorem und_93 : Try.prog.underlying 93 = some (.pointer 95) := by kernel_rfl
theorem bu_87_0 : ∀ (a0 : Int), Try.prog.built 87 [(0, I64 a0)] = some ([I64 a0, I64 (0 : Int), I64 (0 : Int), U64 0#64, U32 0#32, .slice none 0 0, I64 (0 : Int)] : List Value).toArray := fun a0 => by kernel_rfl
theorem bu_87_0_1_2_3_4_5 : ∀ (a0 : Int) (a1 : Int) (a2 : Int) (a3 : BitVec 64) (a4 : BitVec 32) (a5 : Option Addr) (n5 c5 : Nat), Try.prog.built 87 [(0, I64 a0), (1, I64 a1), (2, I64 a2), (3, U64 a3), (4, U32 a4), (5, .slice a5 n5 c5)] = some ([I64 a0, I64 a1, I64 a2, U64 a3, U32 a4, .slice a5 n5 c5, I64 (0 : Int)] : List Value).toArray := fun a0 a1 a2 a3 a4 a5 n5 c5 => by kernel_rfl
theorem bu_87_0_1_6_5 : ∀ (a0 : Int) (a1 : Int) (a6 : Int) (a5 : Option Addr) (n5 c5 : Nat), Try.prog.built 87 [(0, I64 a0), (1, I64 a1), (6, I64 a6), (5, .slice a5 n5 c5)] = some ([I64 a0, I64 a1, I64 (0 : Int), U64 0#64, U32 0#32, .slice a5 n5 c5, I64 a6] : List Value).toArray := fun a0 a1 a6 a5 n5 c5 => by kernel_rfl
theorem bu_95_0 : ∀ (a0 : Int), Try.prog.built 95 [(0, I64 a0)] = some ([I64 a0, I64 (0 : Int), I64 (0 : Int), .slice none 0 0] : List Value).toArray := fun a0 => by kernel_rfl
theorem keyl_26 : KeyL Try.prog 26 (MKey.ek (κ := BitVec 64)) := KeyL.flat (by kernel_rfl)
theorem nm_22 : (Try.f22.name == "runtime.NumGoroutine") = false := by kernel_rfl
theorem nm_23 : (Try.f23.name == "runtime.NumGoroutine") = false := by kernel_rfl
theorem zv_35 : (Try.prog.info? 35).map (·.zero) = some (some (.agg ([.bool false, U32 0#32, .slice none 0 0] : List Value).toArray)) := by kernel_rfl
theorem zv_93 : (Try.prog.info? 93).map (·.zero) = some (some (.pointer none)) := by kernel_rfl
structure Rlinear_State where
 x : Slinear_State
 h0 : Hdr
instance : Lay Rlinear_State := ⟨3, fun r => [.bool r.x.fHas, U32 r.x.fCookie, .slice r.h0.A r.h0.n r.h0.c], fun _ => rfl, fun _ u h => by simp only [List.mem_cons, List.not_mem_nil, or_false] at h; rcases h with rfl | rfl | rfl <;> rfl, by decide⟩
def rel_linear_State (M : Mem) (r : Rlinear_State) (x : Slinear_State) : Prop := x = r.x /\ (RelB (α := BitVec 8)) M r.h0 x.fData
instance : Mono rel_linear_State := ⟨fun ⟨h0, h1⟩ hm => ⟨h0, Mono.mono h1 hm⟩⟩
structure Rneedlestorelaw25_doing where
 x : Sneedlestorelaw25_doing
 h0 : Hdr
instance : Lay Rneedlestorelaw25_doing := ⟨4, fun r => [I64 r.x.fact, I64 r.x.fstage, I64 r.x.fresult, .slice r.h0.A r.h0.n r.h0.c], fun _ => rfl, fun _ u h => by simp only [List.mem_cons, List.not_mem_nil, or_false] at h; rcases h with rfl | rfl | rfl | rfl <;> rfl, by decide⟩
def rel_needlestorelaw25_doing (M : Mem) (r : Rneedlestorelaw25_doing) (x : Sneedlestorelaw25_doing) : Prop := x = r.x /\ (RelB (α := BitVec 8)) M r.h0 x.fgot
instance : Mono rel_needlestorelaw25_doing := ⟨fun ⟨h0, h1⟩ hm => ⟨h0, Mono.mono h1 hm⟩⟩
theorem w_law25_atomic (M0 : Mem) (A00 : Option Addr) (n00 c00 : Nat) (x00 : List (Sneedlestorelaw25_Act)) (hf00 : SlT M0 A00 n00 c00 x00) (A01 : Option Addr) (n01 c01 : Nat) (x01 : List (BitVec 8)) (hf01 : SlT M0 A01 n01 c01 x01) {res : (List (Shistory_Event))} (h : m_law25_atomic x00 x01 = some res) :
  Fn Try.prog 23 #[.slice A00 n00 c00, .slice A01 n01 c01] M0 fun r M' es => ∃ (A1 : Option Addr) (n1 c1 : Nat), ∃ rs1 : List Rhistory_Event, r = .slice A1 n1 c1 /\ es = [.own 87 (Lay.sz Rhistory_Event) A1 n1 c1 (cel rs1)] /\ Rels (rel_history_Event M') rs1 res := by
 refine Fn.intro (N := 222) Try.func23 rfl rfl (Nat.le_of_ble_eq_true rfl) fun w0 => ?_
 unfold m_law25_atomic at h
 refine sr fun _ k1 => asn rfl <| dn <| k1 _ _ <| sr fun _ k2 => ?_
 obtain ⟨x3, hx3, h⟩ := bnd h
 refine mv rfl <| c1 107 Try.func26 rfl (fun w hb hh => w_law25_short (Mem.snap w) A00 n00 c00 _ (RdH.sn (RdH.memM (k := 0) rfl hf00) w hb hh) (20 : Int) hx3) fun A8 n9 c10 => asn rfl <| dn <| k2 _ _ <| sr fun _ k11 => WL.eff (by decide) (Eff.makeMap 112 rfl) ?_
 rintro _ _ ⟨g12, rfl, rfl⟩
 refine asn rfl <| dn <| k11 _ _ <| sr fun _ k13 => WL.hs (HStep.rowsNil 115 95 (Lay.sz Rneedlestorelaw25_doing)) <| WL.eff (by decide) (Eff.makeMap 114 rfl) ?_
 rintro _ _ ⟨g14, rfl, rfl⟩
 refine asn rfl <| dn <| k13 _ _ <| sr fun _ k16 => asn rfl <| dn <| k16 _ _ <| sr fun _ k17 => asn rfl <| dn <| k17 _ _ <| ct (σ := Mem × (Option Addr) × Nat × Nat × (List (Shistory_Event)) × (List Rhistory_Event)) (fun ⟨M18, A21, n22, c23, x24, rs25⟩ => [(8, .slice A21 n22 c23)]) (fun ⟨M18, A21, n22, c23, x24, rs25⟩ => [(0, .mem M18), (120, .own 87 (Lay.sz Rhistory_Event) A21 n22 c23 (cel rs25))]) (fun ⟨M18, A21, n22, c23, x24, rs25⟩ => m_law25_atomic_j0 x24 = some res /\ Ext w0.heap.size M0 M18 /\ Rels (rel_history_Event M18) rs25 x24) (fun _ k27 => ?_) ?_
 ·refine sr fun _ k28 => asn rfl <| dn <| k28 _ _ <| bl <| WC.move 114 136 rfl rfl <| WC.move 115 138 rfl rfl <| WC.nilOwn 146 87 (Lay.sz Rhistory_Event) none <| lp (τ := Mem × (List MapEntry) × Nat × (List ((BitVec 64) × Rlinear_State)) × (List ((BitVec 64) × Slinear_State)) × Nat × (List MapEntry) × Nat × (List (Int × (Nat × Rneedlestorelaw25_doing))) × (List (Int × Sneedlestorelaw25_doing)) × (Option Addr) × Nat × Nat × (List (Shistory_Event)) × (List Rhistory_Event) × Int × Int) (fun ⟨M29, es30, cl31, rs32, x33, g37, es39, cl40, rs41, x42, A47, n48, c49, x50, rs51, x53, x54⟩ => [(1, .slice A01 n01 c01), (5, .slice A8 n9 c10), (6, .map (some g12)), (7, .map (some g37)), (8, .slice A47 n48 c49), (9, I64 x53), (10, I64 x54)]) (fun ⟨M29, es30, cl31, rs32, x33, g37, es39, cl40, rs41, x42, A47, n48, c49, x50, rs51, x53, x54⟩ => [(0, .mem M29), (107, .own 72 (Lay.sz Sneedlestorelaw25_Act) A8 n9 c10 (cel x3)), (112, .obj g12 (.map es30.toArray cl31)), (136, .obj g37 (.map es39.toArray cl40)), (138, .rows 95 (Lay.sz Rneedlestorelaw25_doing) (pmr rs41)), (146, .own 87 (Lay.sz Rhistory_Event) A47 n48 c49 (cel rs51))]) (fun q55 ⟨M29, es30, cl31, rs32, x33, g37, es39, cl40, rs41, x42, A47, n48, c49, x50, rs51, x53, x54⟩ => m_law25_atomic_l1 x01 x3 q55 x33 x42 x50 x53 x54 = some res /\ Ext w0.heap.size M0 M29 /\ MapK (MKey.ek (κ := BitVec 64)) (fun a : Rlinear_State => Value.agg (Lay.enc a).toArray) es30 rs32 /\ RelM (rel_linear_State M29) rs32 x33 /\ MapK (MKey.ek (κ := Int)) evp es39 (pme rs41) /\ RelM (PtrR rel_needlestorelaw25_doing M29) rs41 x42 /\ Rels (rel_history_Event M29) rs51 x50) ⟨M0, ([] : List MapEntry), 0, ([] : List ((BitVec 64) × Rlinear_State)), ([] : List ((BitVec 64) × Slinear_State)), g14, ([] : List MapEntry), 0, ([] : List (Int × (Nat × Rneedlestorelaw25_doing))), ([] : List (Int × Sneedlestorelaw25_doing)), none, 0, 0, ([] : List (Shistory_Event)), ([] : List Rhistory_Event), (0 : Int), (0 : Int)⟩ ?_ (by simp [m_law25_atomic_l1]) ?_
  ·exact ⟨h, (Ext.refl _ _), MapK.nil, RelM.nil, MapK.nil, RelM.nil, (Rels.nil (R := rel_history_Event M0))⟩
  rintro q55 ⟨M29, es30, cl31, rs32, x33, g37, es39, cl40, rs41, x42, A47, n48, c49, x50, rs51, x53, x54⟩ ⟨h, hm_M29, hmr34, hq35, hmr43, hq44, hq52⟩ _ k56
  unfold m_law25_atomic_l1 at h
  refine ct (σ := Unit) (fun _ => [(1, .slice A01 n01 c01), (5, .slice A8 n9 c10), (6, .map (some g12)), (7, .map (some g37)), (8, .slice A47 n48 c49), (9, I64 x53), (10, I64 x54)]) (fun _ => [(0, .mem M29), (107, .own 72 (Lay.sz Sneedlestorelaw25_Act) A8 n9 c10 (cel x3)), (112, .obj g12 (.map es30.toArray cl31)), (136, .obj g37 (.map es39.toArray cl40)), (138, .rows 95 (Lay.sz Rneedlestorelaw25_doing) (pmr rs41)), (146, .own 87 (Lay.sz Rhistory_Event) A47 n48 c49 (cel rs51))]) (fun _ => m_law25_atomic_j2 x01 x3 x33 x42 x50 x53 x54 (m_law25_atomic_l1 x01 x3 q55) = some res) (fun _ k57 => ?_) ?_
  ·refine sr fun _ k58 => mv rfl <| ya (Yld.lss rfl rfl) <| mv rfl <| spl h decide_eq_true decide_eq_false (fun hc59 h => ?_) fun hc59 h => ?_
   ·refine mvg rfl <| mvg rfl <| yg (Yld.lenC (xs := x3) und_30 rfl (RdH.own (k := 107) rfl)) <| yg (Yld.lss rfl rfl) <| mvg rfl <| spl h decide_eq_true decide_eq_false (fun hc60 h => ?_) fun hc60 h => ?_
    ·exact sk <| sk <| sk <| yg (Yld.pickT rfl rfl) <| pt rfl rfl <| dn <| k58 _ _ <| cdT rfl <| WC.skip <| tn <| kw (k57 () h)
    refine mvg rfl <| yg (Yld.lenMapR (k := 136) (ek := (MKey.ek (κ := Int))) (ev := evp) (m' := (pme rs41)) (pme_len.trans <| RelM.len hq44) und_92 rfl rfl hmr43) <| yg (Yld.gtr rfl rfl) <| yg (Yld.pickF rfl rfl) <| pt rfl rfl <| dn <| k58 _ _ <| cnd h rfl decide_eq_true decide_eq_false (fun hc61 h => ?_) fun hc61 h => ?_
    ·exact WC.skip <| tn <| kw (k57 () h)
    exact xi <| te <| te <| bx <| tn <| KK.move 146 120 rfl rfl <| kw (k27 ⟨M29, A47, n48, c49, x50, rs51⟩ ⟨h, hm_M29, hq52⟩)
   exact sk <| sk <| sk <| sk <| sk <| WL.skipU (by decide) rfl <| WL.skipU (by decide) rfl <| WL.skipU (by decide) rfl <| sk <| pf rfl rfl <| dn <| k58 _ _ <| cdF rfl <| xi <| te <| te <| bx <| tn <| KK.move 146 120 rfl rfl <| kw (k27 ⟨M29, A47, n48, c49, x50, rs51⟩ ⟨h, hm_M29, hq52⟩)
  rintro _ h
  unfold m_law25_atomic_j2 at h
  refine ct (σ := Mem × (List MapEntry) × Nat × (List ((BitVec 64) × Rlinear_State)) × (List ((BitVec 64) × Slinear_State)) × Nat × (List MapEntry) × Nat × (List (Int × (Nat × Rneedlestorelaw25_doing))) × (List (Int × Sneedlestorelaw25_doing)) × (Option Addr) × Nat × Nat × (List (Shistory_Event)) × (List Rhistory_Event) × Int) (fun ⟨M62, es63, cl64, rs65, x66, g70, es72, cl73, rs74, x75, A78, n79, c80, x81, rs82, x84⟩ => [(1, .slice A01 n01 c01), (5, .slice A8 n9 c10), (6, .map (some g12)), (7, .map (some g70)), (8, .slice A78 n79 c80), (9, I64 x84), (10, I64 x54)]) (fun ⟨M62, es63, cl64, rs65, x66, g70, es72, cl73, rs74, x75, A78, n79, c80, x81, rs82, x84⟩ => [(0, .mem M62), (107, .own 72 (Lay.sz Sneedlestorelaw25_Act) A8 n9 c10 (cel x3)), (112, .obj g12 (.map es63.toArray cl64)), (146, .own 87 (Lay.sz Rhistory_Event) A78 n79 c80 (cel rs82)), (169, .obj g70 (.map es72.toArray cl73)), (171, .rows 95 (Lay.sz Rneedlestorelaw25_doing) (pmr rs74))]) (fun ⟨M62, es63, cl64, rs65, x66, g70, es72, cl73, rs74, x75, A78, n79, c80, x81, rs82, x84⟩ => m_law25_atomic_j3 x54 (m_law25_atomic_l1 x01 x3 q55) x66 x75 x81 x84 = some res /\ Ext w0.heap.size M29 M62 /\ MapK (MKey.ek (κ := BitVec 64)) (fun a : Rlinear_State => Value.agg (Lay.enc a).toArray) es63 rs65 /\ RelM (rel_linear_State M62) rs65 x66 /\ MapK (MKey.ek (κ := Int)) evp es72 (pme rs74) /\ RelM (PtrR rel_needlestorelaw25_doing M62) rs74 x75 /\ Rels (rel_history_Event M62) rs82 x81) (fun _ k85 => ?_) ?_
  ·refine bl <| sr fun _ k86 => ?_
   obtain ⟨x87, hx87, h⟩ := bnd h
   refine mv rfl <| ya (Yld.mulC rfl rfl hx87) <| asn rfl <| dn <| k86 _ _ <| ct (σ := Int) (fun x88 => [(1, .slice A01 n01 c01), (5, .slice A8 n9 c10), (6, .map (some g12)), (7, .map (some g37)), (8, .slice A47 n48 c49), (9, I64 x53), (10, I64 x54), (11, I64 x88)]) (fun x88 => [(0, .mem M29), (107, .own 72 (Lay.sz Sneedlestorelaw25_Act) A8 n9 c10 (cel x3)), (112, .obj g12 (.map es30.toArray cl31)), (136, .obj g37 (.map es39.toArray cl40)), (138, .rows 95 (Lay.sz Rneedlestorelaw25_doing) (pmr rs41)), (146, .own 87 (Lay.sz Rhistory_Event) A47 n48 c49 (cel rs51))]) (fun x88 => m_law25_atomic_j4 x3 x33 x42 x50 x53 x54 (m_law25_atomic_l1 x01 x3 q55) x88 = some res) (fun _ k89 => ?_) ?_
   ·refine sr fun _ k90 => mv rfl <| mv rfl <| ya (Yld.lenC (xs := x01) und_23 rfl (RdH.memM (k := 0) rfl (SlRc.lift hf01 hm_M29))) <| ya (Yld.lss rfl rfl) <| dn <| k90 _ _ <| cnd h rfl decide_eq_true decide_eq_false (fun hc91 h => ?_) fun hc91 h => ?_
    ·refine rg fun _ k92 => ?_
     obtain ⟨x93, hx93, h⟩ := bnd h
     exact mv rfl <| mv rfl <| ya (Yld.idxC (xs := x01) sty_23 rfl rfl (RdH.memM (k := 0) rfl (SlRc.lift hf01 hm_M29)) hx93) <| ya (Yld.loadC0 (xs := x01) scal_5 rfl (RdH.memM (k := 0) rfl (SlRc.lift hf01 hm_M29)) hx93 rfl) <| ya (Yld.conv_u8_i64 (a := x93) some_5 und_3 rfl) <| asn rfl <| dn <| k92 _ _ <| tn <| kw (k89 (x93.toNat : Int) h)
    exact WC.skip <| tn <| kw (k89 x87 h)
   rintro x88 h
   unfold m_law25_atomic_j4 at h
   refine ct (σ := Unit) (fun _ => [(1, .slice A01 n01 c01), (5, .slice A8 n9 c10), (6, .map (some g12)), (7, .map (some g37)), (8, .slice A47 n48 c49), (9, I64 x53), (10, I64 x54), (11, I64 x88)]) (fun _ => [(0, .mem M29), (107, .own 72 (Lay.sz Sneedlestorelaw25_Act) A8 n9 c10 (cel x3)), (112, .obj g12 (.map es30.toArray cl31)), (136, .obj g37 (.map es39.toArray cl40)), (138, .rows 95 (Lay.sz Rneedlestorelaw25_doing) (pmr rs41)), (146, .own 87 (Lay.sz Rhistory_Event) A47 n48 c49 (cel rs51))]) (fun _ => m_law25_atomic_j5 x3 x33 x42 x50 x53 x54 x88 (m_law25_atomic_l1 x01 x3 q55) = some res) (fun _ k94 => ?_) ?_
   ·refine ctr (σ := Bool) (fun x95 => [(1, .slice A01 n01 c01), (5, .slice A8 n9 c10), (6, .map (some g12)), (7, .map (some g37)), (8, .slice A47 n48 c49), (9, I64 x53), (10, I64 x54), (11, I64 x88), (67, .bool x95)]) (fun x95 => [(0, .mem M29), (107, .own 72 (Lay.sz Sneedlestorelaw25_Act) A8 n9 c10 (cel x3)), (112, .obj g12 (.map es30.toArray cl31)), (136, .obj g37 (.map es39.toArray cl40)), (138, .rows 95 (Lay.sz Rneedlestorelaw25_doing) (pmr rs41)), (146, .own 87 (Lay.sz Rhistory_Event) A47 n48 c49 (cel rs51))]) (fun x95 => m_law25_atomic_j6 x3 x33 x42 x50 x53 x54 x88 (m_law25_atomic_l1 x01 x3 q55) x95 = some res) (fun _ k96 => ?_) ?_
    ·refine mv rfl <| mv rfl <| ya (Yld.lenC (xs := x3) und_30 rfl (RdH.own (k := 107) rfl)) <| ya (Yld.lss rfl rfl) <| mv rfl <| spl h decide_eq_true decide_eq_false (fun hc98 h => ?_) fun hc98 h => ?_
     ·refine mvg rfl <| yg (Yld.andC rfl rfl) <| yg (Yld.eqlI rfl rfl) <| pt rfl rfl <| mv rfl <| spl h beq_iff_eq.2 beq_eq_false_iff_ne.2 (fun hc99 h => ?_) fun hc99 h => ?_
      ·obtain ⟨x100, hx100, h⟩ := bnd h
       refine mvg rfl <| mvg rfl <| mvg rfl <| yg (Yld.idxC (xs := x3) sty_30 rfl rfl (RdH.own (k := 107) rfl) hx100) <| yg (Yld.fieldAddrC Try.underlying72 rfl nz_3 rfl rfl) <| yg (Yld.loadC (xs := x3) (j := 0) scal_3 rfl (RdH.own (k := 107) rfl) hx100 rfl rfl) ?_
       obtain ⟨r_101, hr102⟩ : ∃ p, pmg rs41 x100.fClient = p := ⟨_, rfl⟩
       exact yg (Yld.lookupP (k := 136) (rm := rs41) (q := x100.fClient) hr102 und_92 keyl_3 zv_93 rfl rfl rfl hmr43) <| yg (Yld.eqlPm (q := x100.fClient) hr102 hq44 und_93 rfl rfl) <| pt rfl rfl <| WL.done <| kw (k96 ((mget x42 x100.fClient).isNone) h)
      exact sk <| sk <| sk <| sk <| sk <| sk <| sk <| sk <| pf rfl rfl <| WL.done <| kw (k96 false h)
     exact sk <| sk <| sk <| pf rfl rfl <| mv rfl <| sk <| sk <| sk <| sk <| sk <| sk <| sk <| sk <| pf rfl rfl <| WL.done <| kw (k96 false h)
    rintro x95 h
    unfold m_law25_atomic_j6 at h
    refine cnd h rfl id Bool.eq_false_iff.2 (fun hc103 h => ?_) fun hc103 h => ?_
    ·refine sr fun _ k104 => ?_
     obtain ⟨x105, hx105, h⟩ := bnd h
     refine mv rfl <| mv rfl <| ya (Yld.idxC (xs := x3) sty_30 rfl rfl (RdH.own (k := 107) rfl) hx105) <| ya (Yld.loadA (xs := x3) agg_72 rfl (RdH.own (k := 107) rfl) hx105 rfl) <| al 206 zr_72 fun g106 => sb 206 agg_72 rfl rfl rfl <| dn <| k104 _ _ <| sr fun _ k107 => ?_
     obtain ⟨x113, hx113, h⟩ := bnd h
     refine mv rfl <| ya (Yld.fieldAddr Try.underlying72 rfl nz_3 rfl rfl) <| ya (Yld.loadB (k := 206) scal_3 rfl rfl rfl) <| ya (Yld.fieldAddr Try.underlying72 rfl nz_3 rfl rfl) <| ya (Yld.loadB (k := 206) scal_3 rfl rfl rfl) <| ya (Yld.fieldAddr Try.underlying72 rfl nz_26 rfl rfl) <| ya (Yld.loadB (k := 206) scal_26 rfl rfl rfl) <| ya (Yld.fieldAddr Try.underlying72 rfl nz_22 rfl rfl) <| ya (Yld.loadB (k := 206) scal_22 rfl rfl rfl) <| ya (Yld.fieldAddr Try.underlying72 rfl nz_5 rfl rfl) <| ya (Yld.loadB (k := 206) scal_5 rfl rfl rfl) <| WL.eff (by decide) (Eff.buildC 208 ([x105.fData] : List (BitVec 8)) sty_23 rfl rfl rfl rfl rfl (by decide)) ?_
     rintro _ _ ⟨g108, rfl, rfl⟩
     refine ya (Yld.build rfl (bu_87_0_1_2_3_4_5 (1 : Int) x105.fClient x105.fKind x105.fKey x105.fCookie (some ⟨g108, 0, none⟩) (([x105.fData] : List (BitVec 8)).length) (([x105.fData] : List (BitVec 8)).length))) <| WL.freeze 208 rfl rfl rfl fun M110 hm_M110 hf111 => ?_
     have hq112 : Rels (rel_history_Event M110) ([(Rhistory_Event.mk (Shistory_Event.mk (1 : Int) x105.fClient x105.fKind x105.fKey x105.fCookie ([x105.fData] : List (BitVec 8)) (0 : Int)) (⟨(some ⟨g108, 0, none⟩), ([x105.fData] : List (BitVec 8)).length, ([x105.fData] : List (BitVec 8)).length⟩ : Hdr))] : List Rhistory_Event) ([(Shistory_Event.mk (1 : Int) x105.fClient x105.fKind x105.fKey x105.fCookie ([x105.fData] : List (BitVec 8)) (0 : Int))] : List (Shistory_Event)) := (Rels.cons ⟨rfl, hf111⟩ Rels.nil)
     refine WL.eff (by decide) (Eff.buildCA 209 ([(Rhistory_Event.mk (Shistory_Event.mk (1 : Int) x105.fClient x105.fKind x105.fKey x105.fCookie ([x105.fData] : List (BitVec 8)) (0 : Int)) (⟨(some ⟨g108, 0, none⟩), ([x105.fData] : List (BitVec 8)).length, ([x105.fData] : List (BitVec 8)).length⟩ : Hdr))] : List Rhistory_Event) sty_61 rfl rfl rfl (by decide)) ?_
     rintro _ _ ⟨g109, rfl, rfl⟩
     obtain ⟨hu116, hq117⟩ := Rels.apd (Rels.lift hq52 hm_M110) hq112 hx113
     refine ap 146 (xs := rs51) (ys := ([(Rhistory_Event.mk (Shistory_Event.mk (1 : Int) x105.fClient x105.fKind x105.fKey x105.fCookie ([x105.fData] : List (BitVec 8)) (0 : Int)) (⟨(some ⟨g108, 0, none⟩), ([x105.fData] : List (BitVec 8)).length, ([x105.fData] : List (BitVec 8)).length⟩ : Hdr))] : List Rhistory_Event)) sty_61 rfl rfl rfl (RdH.own (k := 209) rfl) hu116 fun A114 c115 => asn rfl <| dn <| k107 _ _ <| sr fun _ k118 => mv rfl <| ya (Yld.fieldAddr Try.underlying72 rfl nz_3 rfl rfl) <| ya (Yld.loadB (k := 206) scal_3 rfl rfl rfl) <| mv rfl <| ya (Yld.build rfl (bu_95_0 x53)) <| bb 219 [I64 x53, I64 (0 : Int), I64 (0 : Int), .slice none 0 0] rfl fun g119 => ?_
     have hq123 : RelM (PtrR rel_needlestorelaw25_doing M110) (mset rs41 x105.fClient (g119, (Rneedlestorelaw25_doing.mk (Sneedlestorelaw25_doing.mk x53 (0 : Int) (0 : Int) ([] : List (BitVec 8))) (⟨none, 0, 0⟩ : Hdr)))) (mset x42 x105.fClient (Sneedlestorelaw25_doing.mk x53 (0 : Int) (0 : Int) ([] : List (BitVec 8)))) := RelM.set ⟨rfl, SlT.nil⟩ (RelM.lift hq44 hm_M110)
     refine WL.hs (HStep.pmPut 138 219 x105.fClient (Rneedlestorelaw25_doing.mk (Sneedlestorelaw25_doing.mk x53 (0 : Int) (0 : Int) ([] : List (BitVec 8))) (⟨none, 0, 0⟩ : Hdr)) rfl rfl rfl) <| WL.eff0R (Eff0R.mapUpdK 136 (ek := (MKey.ek (κ := Int))) (ev := evp) (m := (pme rs41)) (q := x105.fClient) (v := some g119) und_92 keyl_3 rfl rfl rfl rfl hmr43) ?_
     rintro _ ⟨es120, cl121, hmr122, rfl⟩
     rw [pme_set x105.fClient (g119, (Rneedlestorelaw25_doing.mk (Sneedlestorelaw25_doing.mk x53 (0 : Int) (0 : Int) ([] : List (BitVec 8))) (⟨none, 0, 0⟩ : Hdr)))] at hmr122
     refine dn <| k118 _ _ <| sr fun _ k124 => ?_
     obtain ⟨x125, hx125, h⟩ := bnd h
     exact mv rfl <| ya (Yld.addC rfl rfl hx125) <| asn rfl <| dn <| k124 _ _ <| xi <| te <| bx <| tn <| KK.move 136 169 rfl rfl <| KK.move 138 171 rfl rfl <| kw (k85 ⟨M110, es30, cl31, rs32, x33, g37, es120, cl121, (mset rs41 x105.fClient (g119, (Rneedlestorelaw25_doing.mk (Sneedlestorelaw25_doing.mk x53 (0 : Int) (0 : Int) ([] : List (BitVec 8))) (⟨none, 0, 0⟩ : Hdr)))), (mset x42 x105.fClient (Sneedlestorelaw25_doing.mk x53 (0 : Int) (0 : Int) ([] : List (BitVec 8)))), A114, (rs51 ++ ([(Rhistory_Event.mk (Shistory_Event.mk (1 : Int) x105.fClient x105.fKind x105.fKey x105.fCookie ([x105.fData] : List (BitVec 8)) (0 : Int)) (⟨(some ⟨g108, 0, none⟩), ([x105.fData] : List (BitVec 8)).length, ([x105.fData] : List (BitVec 8)).length⟩ : Hdr))] : List Rhistory_Event)).length, c115, x113, (rs51 ++ ([(Rhistory_Event.mk (Shistory_Event.mk (1 : Int) x105.fClient x105.fKind x105.fKey x105.fCookie ([x105.fData] : List (BitVec 8)) (0 : Int)) (⟨(some ⟨g108, 0, none⟩), ([x105.fData] : List (BitVec 8)).length, ([x105.fData] : List (BitVec 8)).length⟩ : Hdr))] : List Rhistory_Event)), x125⟩ ⟨h, hm_M110, hmr34, (RelM.lift hq35 hm_M110), hmr122, hq123, hq117⟩)
    exact WC.skip <| tn <| kw (k94 () h)
   rintro _ h
   unfold m_law25_atomic_j5 at h
   refine sr fun _ k126 => ?_
   obtain ⟨x127, hx127, h⟩ := bnd h
   obtain ⟨x128, hx128, h⟩ := bnd h
   refine mv rfl <| ya (Yld.shrC rfl rfl hx127) <| ya (Yld.remC rfl rfl hx128) <| asn rfl <| dn <| k126 _ _ <| ct (σ := Int) (fun x129 => [(1, .slice A01 n01 c01), (5, .slice A8 n9 c10), (6, .map (some g12)), (7, .map (some g37)), (8, .slice A47 n48 c49), (9, I64 x53), (10, I64 x54), (11, I64 x88), (13, I64 x129)]) (fun x129 => [(0, .mem M29), (107, .own 72 (Lay.sz Sneedlestorelaw25_Act) A8 n9 c10 (cel x3)), (112, .obj g12 (.map es30.toArray cl31)), (136, .obj g37 (.map es39.toArray cl40)), (138, .rows 95 (Lay.sz Rneedlestorelaw25_doing) (pmr rs41)), (146, .own 87 (Lay.sz Rhistory_Event) A47 n48 c49 (cel rs51))]) (fun x129 => m_law25_atomic_j7 x3 x33 x42 x50 x53 x54 x88 (m_law25_atomic_l1 x01 x3 q55) x129 = some res) (fun _ k130 => ?_) ?_
   ·refine sr fun _ k131 => asn rfl <| dn <| k131 _ _ <| bl <| lp (τ := Int × Int) (fun ⟨x132, x133⟩ => [(1, .slice A01 n01 c01), (5, .slice A8 n9 c10), (6, .map (some g12)), (7, .map (some g37)), (8, .slice A47 n48 c49), (9, I64 x53), (10, I64 x54), (11, I64 x88), (13, I64 x132), (14, I64 x133)]) (fun ⟨x132, x133⟩ => [(0, .mem M29), (107, .own 72 (Lay.sz Sneedlestorelaw25_Act) A8 n9 c10 (cel x3)), (112, .obj g12 (.map es30.toArray cl31)), (136, .obj g37 (.map es39.toArray cl40)), (138, .rows 95 (Lay.sz Rneedlestorelaw25_doing) (pmr rs41)), (146, .own 87 (Lay.sz Rhistory_Event) A47 n48 c49 (cel rs51))]) (fun q134 ⟨x132, x133⟩ => m_law25_atomic_l8 x3 x33 x42 x50 x53 x54 x88 (m_law25_atomic_l1 x01 x3 q55) q134 x132 x133 = some res) ⟨x128, (0 : Int)⟩ ?_ (by simp [m_law25_atomic_l8]) ?_
    ·exact h
    rintro q134 ⟨x132, x133⟩ h _ k135
    unfold m_law25_atomic_l8 at h
    refine sq fun _ k136 => sr fun _ k137 => mv rfl <| ya (Yld.lss rfl rfl) <| mv rfl <| spl h decide_eq_true decide_eq_false (fun hc138 h => ?_) fun hc138 h => ?_
    ·refine mvg rfl <| mvg rfl ?_
     obtain ⟨r_139, hr140⟩ : ∃ p, pmg rs41 x132 = p := ⟨_, rfl⟩
     refine yg (Yld.lookupP (k := 136) (rm := rs41) (q := x132) hr140 und_92 keyl_3 zv_93 rfl rfl rfl hmr43) <| yg (Yld.eqlPm (q := x132) hr140 hq44 und_93 rfl rfl) <| pt rfl rfl <| dn <| k137 _ _ <| cnd h rfl id Bool.eq_false_iff.2 (fun hc141 h => ?_) fun hc141 h => ?_
     ·refine ss <| k136 _ _ <| sq fun _ k142 => bl <| rg fun _ k143 => ?_
      obtain ⟨x144, hx144, h⟩ := bnd h
      obtain ⟨x145, hx145, h⟩ := bnd h
      refine mv rfl <| ya (Yld.addC rfl rfl hx144) <| ya (Yld.remC rfl rfl hx145) <| asn rfl <| dn <| k143 _ _ <| bn <| tn <| k142 _ _ <| rg fun _ k146 => ?_
      obtain ⟨x147, hx147, h⟩ := bnd h
      exact mv rfl <| ya (Yld.addC rfl rfl hx147) <| asn rfl <| dn <| k146 _ _ <| tn <| kw (k135 ⟨x145, x147⟩ h)
     exact xi <| te <| te <| bx <| tn <| kw (k130 x132 h)
    exact sk <| sk <| sk <| sk <| pf rfl rfl <| dn <| k137 _ _ <| cdF rfl <| xi <| te <| te <| bx <| tn <| kw (k130 x132 h)
   rintro x129 h
   unfold m_law25_atomic_j7 at h
   refine sr fun _ k148 => mv rfl <| mv rfl ?_
   obtain ⟨r_149, hr150⟩ : ∃ p, pmg rs41 x129 = p := ⟨_, rfl⟩
   refine ya (Yld.lookupP (k := 136) (rm := rs41) (q := x129) hr150 und_92 keyl_3 zv_93 rfl rfl rfl hmr43) <| asn rfl <| dn <| k148 _ _ <| sq fun _ k151 => sr fun _ k152 => mv rfl <| ya (Yld.eqlPm (q := x129) hr150 hq44 und_93 rfl rfl) <| dn <| k152 _ _ <| cnd h rfl id Bool.eq_false_iff.2 (fun hc153 h => ?_) fun hc153 h => ?_
   ·exact xi <| te <| bx <| tn <| KK.move 136 169 rfl rfl <| KK.move 138 171 rfl rfl <| kw (k85 ⟨M29, es30, cl31, rs32, x33, g37, es39, cl40, rs41, x42, A47, n48, c49, x50, rs51, x53⟩ ⟨h, (Ext.refl _ _), hmr34, hq35, hmr43, hq44, hq52⟩)
   refine ss <| k151 _ _ <| sr fun _ k154 => ?_
   obtain ⟨x155, hx155, h⟩ := bnd h
   obtain ⟨x160, hx160, h⟩ := bnd h
   refine mv rfl <| mv rfl ?_
   obtain ⟨⟨n156, ⟨_, r_157_0⟩⟩, hr158, rfl, hq159_0⟩ := RelM.at hq44 hx155
   refine ya (Yld.nilCheckPm (q := x129) hr150 hr158 rfl) <| ya (Yld.fieldAddr Try.underlying95 rfl nz_3 rfl rfl) <| ya (Yld.loadPm (k := 138) (rm := rs41) (q := x129) scal_3 rfl rfl hr158 rfl) <| ya (Yld.idxC (xs := x3) sty_30 rfl rfl (RdH.own (k := 107) rfl) hx160) <| ya (Yld.loadA (xs := x3) agg_72 rfl (RdH.own (k := 107) rfl) hx160 rfl) <| al 261 zr_72 fun g161 => sb 261 agg_72 rfl rfl rfl <| dn <| k154 _ _ <| bl <| ctr (σ := Bool) (fun x162 => [(1, .slice A01 n01 c01), (5, .slice A8 n9 c10), (6, .map (some g12)), (7, .map (some g37)), (8, .slice A47 n48 c49), (9, I64 x53), (10, I64 x54), (11, I64 x88), (13, I64 x129), (15, evp r_149), (16, .pointer (some ⟨g161, 0, none⟩)), (123, .bool x162)]) (fun x162 => [(0, .mem M29), (107, .own 72 (Lay.sz Sneedlestorelaw25_Act) A8 n9 c10 (cel x3)), (112, .obj g12 (.map es30.toArray cl31)), (136, .obj g37 (.map es39.toArray cl40)), (138, .rows 95 (Lay.sz Rneedlestorelaw25_doing) (pmr rs41)), (146, .own 87 (Lay.sz Rhistory_Event) A47 n48 c49 (cel rs51)), (261, .blk g161 72 [I64 x160.fClient, I64 x160.fKind, U64 x160.fKey, U32 x160.fCookie, U8 x160.fData, I64 x160.fResult, .bool x160.fLost, .bool x160.fCrash])]) (fun x162 => m_law25_atomic_j9 x33 x42 x50 x53 x54 x88 x129 x160 (m_law25_atomic_l1 x01 x3 q55) x162 = some res) (fun _ k163 => ?_) ?_
   ·refine ya (Yld.fieldAddr Try.underlying72 rfl nz_4 rfl rfl) <| ya (Yld.loadB (k := 261) scal_4 rfl rfl rfl) <| mv rfl <| spl h id Bool.eq_false_iff.2 (fun hc165 h => ?_) fun hc165 h => ?_
    ·exact mvg rfl <| yg (Yld.andC rfl rfl) <| yg (Yld.eqlI rfl rfl) <| pt rfl rfl <| asn rfl <| WL.done <| kw (k163 ((andi x88 (96 : Int)) == (96 : Int)) h)
    exact sk <| sk <| sk <| pf rfl rfl <| asn rfl <| WL.done <| kw (k163 false h)
   rintro x162 h
   unfold m_law25_atomic_j9 at h
   refine cnd h rfl id Bool.eq_false_iff.2 (fun hc166 h => ?_) fun hc166 h => ?_
   ·refine rg fun _ k167 => ?_
    obtain ⟨x170, hx170, h⟩ := bnd h
    refine mv rfl <| ya (Yld.build rfl (bu_87_0 (3 : Int))) ?_
    have hq169 : Rels (rel_history_Event M29) ([(Rhistory_Event.mk (Shistory_Event.mk (3 : Int) (0 : Int) (0 : Int) 0#64 0#32 ([] : List (BitVec 8)) (0 : Int)) (⟨none, 0, 0⟩ : Hdr))] : List Rhistory_Event) ([(Shistory_Event.mk (3 : Int) (0 : Int) (0 : Int) 0#64 0#32 ([] : List (BitVec 8)) (0 : Int))] : List (Shistory_Event)) := (Rels.cons ⟨rfl, SlT.nil⟩ Rels.nil)
    refine WL.eff (by decide) (Eff.buildCA 268 ([(Rhistory_Event.mk (Shistory_Event.mk (3 : Int) (0 : Int) (0 : Int) 0#64 0#32 ([] : List (BitVec 8)) (0 : Int)) (⟨none, 0, 0⟩ : Hdr))] : List Rhistory_Event) sty_61 rfl rfl rfl (by decide)) ?_
    rintro _ _ ⟨g168, rfl, rfl⟩
    obtain ⟨hu173, hq174⟩ := Rels.apd hq52 hq169 hx170
    refine ap 146 (xs := rs51) (ys := ([(Rhistory_Event.mk (Shistory_Event.mk (3 : Int) (0 : Int) (0 : Int) 0#64 0#32 ([] : List (BitVec 8)) (0 : Int)) (⟨none, 0, 0⟩ : Hdr))] : List Rhistory_Event)) sty_61 rfl rfl rfl (RdH.own (k := 268) rfl) hu173 fun A171 c172 => WL.hs (HStep.rowsNil 276 95 (Lay.sz Rneedlestorelaw25_doing)) <| WL.eff (by decide) (Eff.makeMap 275 rfl) ?_
    rintro _ _ ⟨g175, rfl, rfl⟩
    exact asn rfl <| asn rfl <| dn <| k167 _ _ <| bn <| bn <| tn <| KK.move 275 169 rfl rfl <| KK.move 276 171 rfl rfl <| kw (k85 ⟨M29, es30, cl31, rs32, x33, g175, ([] : List MapEntry), 0, ([] : List (Int × (Nat × Rneedlestorelaw25_doing))), ([] : List (Int × Sneedlestorelaw25_doing)), A171, (rs51 ++ ([(Rhistory_Event.mk (Shistory_Event.mk (3 : Int) (0 : Int) (0 : Int) 0#64 0#32 ([] : List (BitVec 8)) (0 : Int)) (⟨none, 0, 0⟩ : Hdr))] : List Rhistory_Event)).length, c172, x170, (rs51 ++ ([(Rhistory_Event.mk (Shistory_Event.mk (3 : Int) (0 : Int) (0 : Int) 0#64 0#32 ([] : List (BitVec 8)) (0 : Int)) (⟨none, 0, 0⟩ : Hdr))] : List Rhistory_Event)), x53⟩ ⟨h, (Ext.refl _ _), hmr34, hq35, MapK.nil, RelM.nil, hq174⟩)
   refine ctr (σ := Bool) (fun x177 => [(1, .slice A01 n01 c01), (5, .slice A8 n9 c10), (6, .map (some g12)), (7, .map (some g37)), (8, .slice A47 n48 c49), (9, I64 x53), (10, I64 x54), (13, I64 x129), (15, evp r_149), (16, .pointer (some ⟨g161, 0, none⟩)), (136, .bool x177)]) (fun x177 => [(0, .mem M29), (107, .own 72 (Lay.sz Sneedlestorelaw25_Act) A8 n9 c10 (cel x3)), (112, .obj g12 (.map es30.toArray cl31)), (136, .obj g37 (.map es39.toArray cl40)), (138, .rows 95 (Lay.sz Rneedlestorelaw25_doing) (pmr rs41)), (146, .own 87 (Lay.sz Rhistory_Event) A47 n48 c49 (cel rs51)), (261, .blk g161 72 [I64 x160.fClient, I64 x160.fKind, U64 x160.fKey, U32 x160.fCookie, U8 x160.fData, I64 x160.fResult, .bool x160.fLost, .bool x160.fCrash])]) (fun x177 => m_law25_atomic_j10 x33 x42 x50 x53 x54 x129 x160 (m_law25_atomic_l1 x01 x3 q55) x177 = some res) (fun _ k178 => ?_) ?_
   ·obtain ⟨x180, hx180, h⟩ := bnd h
    refine mv rfl ?_
    obtain ⟨⟨n181, ⟨_, r_182_0⟩⟩, hr183, rfl, hq184_0⟩ := RelM.at hq44 hx180
    refine ya (Yld.nilCheckPm (q := x129) hr150 hr183 rfl) <| ya (Yld.fieldAddr Try.underlying95 rfl nz_3 rfl rfl) <| ya (Yld.loadPm (k := 138) (rm := rs41) (q := x129) scal_3 rfl rfl hr183 rfl) <| ya (Yld.eqlI rfl rfl) <| mv rfl <| spl h beq_iff_eq.2 beq_eq_false_iff_ne.2 (fun hc185 h => ?_) fun hc185 h => ?_
    ·refine yg (Yld.fieldAddr Try.underlying72 rfl nz_4 rfl rfl) <| yg (Yld.loadB (k := 261) scal_4 rfl rfl rfl) <| mvg rfl <| spl h id Bool.eq_false_iff.2 (fun hc186 h => ?_) fun hc186 h => ?_
     ·exact mvg rfl <| yg (Yld.andC rfl rfl) <| yg (Yld.gtr rfl rfl) <| yg (Yld.pickT rfl rfl) <| yg (Yld.notB rfl) <| pt rfl rfl <| asn rfl <| WL.done <| kw (k178 (!(decide ((0 : Int) < (andi x88 (64 : Int))))) h)
     exact sk <| sk <| sk <| yg (Yld.pickF rfl rfl) <| yg (Yld.notB rfl) <| pt rfl rfl <| asn rfl <| WL.done <| kw (k178 true h)
    exact sk <| sk <| sk <| WL.skipU (by decide) rfl <| WL.skipU (by decide) rfl <| WL.skipU (by decide) rfl <| sk <| sk <| pf rfl rfl <| asn rfl <| WL.done <| kw (k178 false h)
   rintro x177 h
   unfold m_law25_atomic_j10 at h
   refine cnd h rfl id Bool.eq_false_iff.2 (fun hc187 h => ?_) fun hc187 h => ?_
   ·refine sr fun _ k188 => ?_
    obtain ⟨x189, hx189, h⟩ := bnd h
    refine mv rfl ?_
    obtain ⟨⟨n190, ⟨_, r_191_0⟩⟩, hr192, rfl, hq193_0⟩ := RelM.at hq44 hx189
    refine ya (Yld.nilCheckPm (q := x129) hr150 hr192 rfl) <| ya (Yld.fieldAddr Try.underlying95 rfl nz_3 rfl rfl) ?_
    have hq194 : RelM (PtrR rel_needlestorelaw25_doing M29) (mset rs41 x129 (n190, (Rneedlestorelaw25_doing.mk ({ x189 with fstage := (1 : Int) } : Sneedlestorelaw25_doing) r_191_0))) (mset x42 x129 ({ x189 with fstage := (1 : Int) } : Sneedlestorelaw25_doing)) := RelM.set ⟨rfl, hq193_0⟩ hq44
    refine WL.eff0 (Eff0.storePm 138 (rm := rs41) (q := x129) (Rneedlestorelaw25_doing.mk ({ x189 with fstage := (1 : Int) } : Sneedlestorelaw25_doing) r_191_0) siz_3 rfl rfl rfl rfl hr192 rfl rfl) <| dn <| k188 _ _ <| sr fun _ k195 => mv rfl <| ya (Yld.fieldAddr Try.underlying72 rfl nz_26 rfl rfl) <| ya (Yld.loadB (k := 261) scal_26 rfl rfl rfl) ?_
    obtain ⟨⟨_, r_196_0⟩, hr197, rfl, hq198_0⟩ := RelM.getD (q := x160.fKey) (za := (Rlinear_State.mk (Slinear_State.mk false 0#32 ([] : List (BitVec 8))) ⟨none, 0, 0⟩)) (zb := (Slinear_State.mk false 0#32 ([] : List (BitVec 8)))) hq35 ⟨rfl, SlT.nil⟩
    refine ya (Yld.lookupKR (k := 112) (ek := (MKey.ek (κ := BitVec 64))) (ev := (fun a : Rlinear_State => Value.agg (Lay.enc a).toArray)) (m' := rs32) (q := x160.fKey) (zv := (Rlinear_State.mk (Slinear_State.mk false 0#32 ([] : List (BitVec 8))) ⟨none, 0, 0⟩)) hr197 und_91 keyl_26 zv_35 rfl rfl rfl hmr34) <| al 299 zr_35 fun g199 => sb 299 agg_35 rfl rfl rfl <| dn <| k195 _ _ <| ctr (σ := Bool) (fun x200 => [(1, .slice A01 n01 c01), (5, .slice A8 n9 c10), (6, .map (some g12)), (7, .map (some g37)), (8, .slice A47 n48 c49), (9, I64 x53), (10, I64 x54), (15, evp r_149), (16, .pointer (some ⟨g161, 0, none⟩)), (17, .pointer (some ⟨g199, 0, none⟩)), (18, .bool x200)]) (fun x200 => [(0, .mem M29), (107, .own 72 (Lay.sz Sneedlestorelaw25_Act) A8 n9 c10 (cel x3)), (112, .obj g12 (.map es30.toArray cl31)), (136, .obj g37 (.map es39.toArray cl40)), (138, .rows 95 (Lay.sz Rneedlestorelaw25_doing) (pmr (mset rs41 x129 (n190, (Rneedlestorelaw25_doing.mk ({ x189 with fstage := (1 : Int) } : Sneedlestorelaw25_doing) r_191_0))))), (146, .own 87 (Lay.sz Rhistory_Event) A47 n48 c49 (cel rs51)), (261, .blk g161 72 [I64 x160.fClient, I64 x160.fKind, U64 x160.fKey, U32 x160.fCookie, U8 x160.fData, I64 x160.fResult, .bool x160.fLost, .bool x160.fCrash]), (299, .blk g199 35 [.bool (((mget x33 x160.fKey).getD (Slinear_State.mk false 0#32 ([] : List (BitVec 8)))).fHas), U32 (((mget x33 x160.fKey).getD (Slinear_State.mk false 0#32 ([] : List (BitVec 8)))).fCookie), .slice r_196_0.A r_196_0.n r_196_0.c])]) (fun x200 => m_law25_atomic_j11 x33 x42 x50 x53 x54 x129 x160 x189 (m_law25_atomic_l1 x01 x3 q55) x200 = some res) (fun _ k201 => ?_) ?_
    ·refine ya (Yld.fieldAddr Try.underlying35 rfl nz_4 rfl rfl) <| ya (Yld.loadB (k := 299) scal_4 rfl rfl rfl) <| mv rfl <| spl h id Bool.eq_false_iff.2 (fun hc203 h => ?_) fun hc203 h => ?_
     ·exact yg (Yld.fieldAddr Try.underlying35 rfl nz_22 rfl rfl) <| yg (Yld.loadB (k := 299) scal_22 rfl rfl rfl) <| yg (Yld.fieldAddr Try.underlying72 rfl nz_22 rfl rfl) <| yg (Yld.loadB (k := 261) scal_22 rfl rfl rfl) <| yg (Yld.eql_u32 (a := (((mget x33 x160.fKey).getD (Slinear_State.mk false 0#32 ([] : List (BitVec 8)))).fCookie)) (b := x160.fCookie) rfl rfl) <| pt rfl rfl <| asn rfl <| WL.done <| kw (k201 ((((mget x33 x160.fKey).getD (Slinear_State.mk false 0#32 ([] : List (BitVec 8)))).fCookie) == x160.fCookie) h)
     exact sk <| sk <| sk <| sk <| sk <| pf rfl rfl <| asn rfl <| WL.done <| kw (k201 false h)
    rintro x200 h
    unfold m_law25_atomic_j11 at h
    refine bl <| sr fun _ k204 => ya (Yld.fieldAddr Try.underlying72 rfl nz_3 rfl rfl) <| ya (Yld.loadB (k := 261) scal_3 rfl rfl rfl) <| ya (Yld.eqlI rfl rfl) <| asn rfl <| dn <| k204 _ _ <| cnd h rfl beq_iff_eq.2 beq_eq_false_iff_ne.2 (fun hc205 h => ?_) fun hc205 h => ?_
    ·refine rg fun _ k206 => mv rfl <| ya (Yld.fieldAddr Try.underlying72 rfl nz_26 rfl rfl) <| ya (Yld.loadB (k := 261) scal_26 rfl rfl rfl) <| ya (Yld.fieldAddr Try.underlying72 rfl nz_22 rfl rfl) <| ya (Yld.loadB (k := 261) scal_22 rfl rfl rfl) <| ya (Yld.fieldAddr Try.underlying72 rfl nz_5 rfl rfl) <| ya (Yld.loadB (k := 261) scal_5 rfl rfl rfl) <| WL.eff (by decide) (Eff.buildC 307 ([x160.fData] : List (BitVec 8)) sty_23 rfl rfl rfl rfl rfl (by decide)) ?_
     rintro _ _ ⟨g207, rfl, rfl⟩
     refine ya (Yld.build rfl (bu_35_0_1_2 true x160.fCookie (some ⟨g207, 0, none⟩) (([x160.fData] : List (BitVec 8)).length) (([x160.fData] : List (BitVec 8)).length))) <| WL.freeze 307 rfl rfl rfl fun M212 hm_M212 hf213 => ?_
     have hq211 : RelM (rel_linear_State M212) (mset rs32 x160.fKey (Rlinear_State.mk (Slinear_State.mk true x160.fCookie ([x160.fData] : List (BitVec 8))) (⟨(some ⟨g207, 0, none⟩), ([x160.fData] : List (BitVec 8)).length, ([x160.fData] : List (BitVec 8)).length⟩ : Hdr))) (mset x33 x160.fKey (Slinear_State.mk true x160.fCookie ([x160.fData] : List (BitVec 8)))) := RelM.set ⟨rfl, hf213⟩ (RelM.lift hq35 hm_M212)
     refine WL.eff0R (Eff0R.mapUpdK 112 (ek := (MKey.ek (κ := BitVec 64))) (ev := (fun a : Rlinear_State => Value.agg (Lay.enc a).toArray)) (m := rs32) (q := x160.fKey) (v := (Rlinear_State.mk (Slinear_State.mk true x160.fCookie ([x160.fData] : List (BitVec 8))) (⟨(some ⟨g207, 0, none⟩), ([x160.fData] : List (BitVec 8)).length, ([x160.fData] : List (BitVec 8)).length⟩ : Hdr))) und_91 keyl_26 rfl rfl rfl rfl hmr34) ?_
     rintro _ ⟨es208, cl209, hmr210, rfl⟩
     exact dn <| k206 _ _ <| bn <| bn <| bn <| tn <| KK.move 136 169 rfl rfl <| KK.move 138 171 rfl rfl <| kw (k85 ⟨M212, es208, cl209, (mset rs32 x160.fKey (Rlinear_State.mk (Slinear_State.mk true x160.fCookie ([x160.fData] : List (BitVec 8))) (⟨(some ⟨g207, 0, none⟩), ([x160.fData] : List (BitVec 8)).length, ([x160.fData] : List (BitVec 8)).length⟩ : Hdr))), (mset x33 x160.fKey (Slinear_State.mk true x160.fCookie ([x160.fData] : List (BitVec 8)))), g37, es39, cl40, (mset rs41 x129 (n190, (Rneedlestorelaw25_doing.mk ({ x189 with fstage := (1 : Int) } : Sneedlestorelaw25_doing) r_191_0))), (mset x42 x129 ({ x189 with fstage := (1 : Int) } : Sneedlestorelaw25_doing)), A47, n48, c49, x50, rs51, x53⟩ ⟨h, hm_M212, hmr210, hq211, (MapK.same (Rneedlestorelaw25_doing.mk ({ x189 with fstage := (1 : Int) } : Sneedlestorelaw25_doing) r_191_0) hr192 hmr43), (RelM.lift hq194 hm_M212), (Rels.lift hq52 hm_M212)⟩)
    refine sr fun _ k214 => mv rfl <| ya (Yld.notB rfl) <| asn rfl <| dn <| k214 _ _ <| cnn h rfl not_f (fun q => not_t (Bool.eq_false_iff.2 q)) (fun hc215 h => ?_) fun hc215 h => ?_
    ·refine sr fun _ k216 => ya (Yld.fieldAddr Try.underlying72 rfl nz_3 rfl rfl) <| ya (Yld.loadB (k := 261) scal_3 rfl rfl rfl) <| ya (Yld.eqlI rfl rfl) <| asn rfl <| dn <| k216 _ _ <| cnd h rfl beq_iff_eq.2 beq_eq_false_iff_ne.2 (fun hc217 h => ?_) fun hc217 h => ?_
     ·refine rg fun _ k218 => mv rfl <| ya (Yld.fieldAddr Try.underlying72 rfl nz_26 rfl rfl) <| ya (Yld.loadB (k := 261) scal_26 rfl rfl rfl) <| ya (Yld.build rfl (bu_35_)) ?_
      have hq222 : RelM (rel_linear_State M29) (mset rs32 x160.fKey (Rlinear_State.mk (Slinear_State.mk false 0#32 ([] : List (BitVec 8))) (⟨none, 0, 0⟩ : Hdr))) (mset x33 x160.fKey (Slinear_State.mk false 0#32 ([] : List (BitVec 8)))) := RelM.set ⟨rfl, SlT.nil⟩ hq35
      refine WL.eff0R (Eff0R.mapUpdK 112 (ek := (MKey.ek (κ := BitVec 64))) (ev := (fun a : Rlinear_State => Value.agg (Lay.enc a).toArray)) (m := rs32) (q := x160.fKey) (v := (Rlinear_State.mk (Slinear_State.mk false 0#32 ([] : List (BitVec 8))) (⟨none, 0, 0⟩ : Hdr))) und_91 keyl_26 rfl rfl rfl rfl hmr34) ?_
      rintro _ ⟨es219, cl220, hmr221, rfl⟩
      exact dn <| k218 _ _ <| bn <| bn <| bn <| tn <| KK.move 136 169 rfl rfl <| KK.move 138 171 rfl rfl <| kw (k85 ⟨M29, es219, cl220, (mset rs32 x160.fKey (Rlinear_State.mk (Slinear_State.mk false 0#32 ([] : List (BitVec 8))) (⟨none, 0, 0⟩ : Hdr))), (mset x33 x160.fKey (Slinear_State.mk false 0#32 ([] : List (BitVec 8)))), g37, es39, cl40, (mset rs41 x129 (n190, (Rneedlestorelaw25_doing.mk ({ x189 with fstage := (1 : Int) } : Sneedlestorelaw25_doing) r_191_0))), (mset x42 x129 ({ x189 with fstage := (1 : Int) } : Sneedlestorelaw25_doing)), A47, n48, c49, x50, rs51, x53⟩ ⟨h, (Ext.refl _ _), hmr221, hq222, (MapK.same (Rneedlestorelaw25_doing.mk ({ x189 with fstage := (1 : Int) } : Sneedlestorelaw25_doing) r_191_0) hr192 hmr43), hq194, hq52⟩)
     refine rg fun _ k223 => ?_
     obtain ⟨x224, hx224, h⟩ := bnd h
     refine mv rfl <| ya (Yld.fieldAddr Try.underlying35 rfl nz_23 rfl rfl) <| ya (Yld.loadB (k := 299) scal_23 rfl rfl rfl) ?_
     obtain ⟨⟨n225, ⟨_, r_226_0⟩⟩, hr227, rfl, hq228_0⟩ := RelM.at hq194 hx224
     refine ya (Yld.nilCheckPm (q := x129) (pmg_same (Rneedlestorelaw25_doing.mk ({ x189 with fstage := (1 : Int) } : Sneedlestorelaw25_doing) r_191_0) hr192 hr150) hr227 rfl) <| ya (Yld.fieldAddr Try.underlying95 rfl nz_23 rfl rfl) ?_
     have hq229 : RelM (PtrR rel_needlestorelaw25_doing M29) (mset (mset rs41 x129 (n190, (Rneedlestorelaw25_doing.mk ({ x189 with fstage := (1 : Int) } : Sneedlestorelaw25_doing) r_191_0))) x129 (n225, (Rneedlestorelaw25_doing.mk ({ x224 with fgot := ((mget x33 x160.fKey).getD (Slinear_State.mk false 0#32 ([] : List (BitVec 8)))).fData } : Sneedlestorelaw25_doing) (⟨r_196_0.A, r_196_0.n, r_196_0.c⟩ : Hdr)))) (mset (mset x42 x129 ({ x189 with fstage := (1 : Int) } : Sneedlestorelaw25_doing)) x129 ({ x224 with fgot := ((mget x33 x160.fKey).getD (Slinear_State.mk false 0#32 ([] : List (BitVec 8)))).fData } : Sneedlestorelaw25_doing)) := RelM.set ⟨rfl, hq198_0⟩ hq194
     exact WL.eff0 (Eff0.storePm 138 (rm := (mset rs41 x129 (n190, (Rneedlestorelaw25_doing.mk ({ x189 with fstage := (1 : Int) } : Sneedlestorelaw25_doing) r_191_0)))) (q := x129) (Rneedlestorelaw25_doing.mk ({ x224 with fgot := ((mget x33 x160.fKey).getD (Slinear_State.mk false 0#32 ([] : List (BitVec 8)))).fData } : Sneedlestorelaw25_doing) (⟨r_196_0.A, r_196_0.n, r_196_0.c⟩ : Hdr)) siz_23 rfl rfl rfl rfl hr227 rfl rfl) <| dn <| k223 _ _ <| bn <| bn <| bn <| tn <| KK.move 136 169 rfl rfl <| KK.move 138 171 rfl rfl <| kw (k85 ⟨M29, es30, cl31, rs32, x33, g37, es39, cl40, (mset (mset rs41 x129 (n190, (Rneedlestorelaw25_doing.mk ({ x189 with fstage := (1 : Int) } : Sneedlestorelaw25_doing) r_191_0))) x129 (n225, (Rneedlestorelaw25_doing.mk ({ x224 with fgot := ((mget x33 x160.fKey).getD (Slinear_State.mk false 0#32 ([] : List (BitVec 8)))).fData } : Sneedlestorelaw25_doing) (⟨r_196_0.A, r_196_0.n, r_196_0.c⟩ : Hdr)))), (mset (mset x42 x129 ({ x189 with fstage := (1 : Int) } : Sneedlestorelaw25_doing)) x129 ({ x224 with fgot := ((mget x33 x160.fKey).getD (Slinear_State.mk false 0#32 ([] : List (BitVec 8)))).fData } : Sneedlestorelaw25_doing)), A47, n48, c49, x50, rs51, x53⟩ ⟨h, (Ext.refl _ _), hmr34, hq35, (MapK.same (Rneedlestorelaw25_doing.mk ({ x224 with fgot := ((mget x33 x160.fKey).getD (Slinear_State.mk false 0#32 ([] : List (BitVec 8)))).fData } : Sneedlestorelaw25_doing) (⟨r_196_0.A, r_196_0.n, r_196_0.c⟩ : Hdr)) hr227 (MapK.same (Rneedlestorelaw25_doing.mk ({ x189 with fstage := (1 : Int) } : Sneedlestorelaw25_doing) r_191_0) hr192 hmr43)), hq229, hq52⟩)
    refine rg fun _ k230 => ?_
    obtain ⟨x231, hx231, h⟩ := bnd h
    refine mv rfl ?_
    obtain ⟨⟨n232, ⟨_, r_233_0⟩⟩, hr234, rfl, hq235_0⟩ := RelM.at hq194 hx231
    refine ya (Yld.nilCheckPm (q := x129) (pmg_same (Rneedlestorelaw25_doing.mk ({ x189 with fstage := (1 : Int) } : Sneedlestorelaw25_doing) r_191_0) hr192 hr150) hr234 rfl) <| ya (Yld.fieldAddr Try.underlying95 rfl nz_27 rfl rfl) ?_
    have hq236 : RelM (PtrR rel_needlestorelaw25_doing M29) (mset (mset rs41 x129 (n190, (Rneedlestorelaw25_doing.mk ({ x189 with fstage := (1 : Int) } : Sneedlestorelaw25_doing) r_191_0))) x129 (n232, (Rneedlestorelaw25_doing.mk ({ x231 with fresult := (6 : Int) } : Sneedlestorelaw25_doing) r_233_0))) (mset (mset x42 x129 ({ x189 with fstage := (1 : Int) } : Sneedlestorelaw25_doing)) x129 ({ x231 with fresult := (6 : Int) } : Sneedlestorelaw25_doing)) := RelM.set ⟨rfl, hq235_0⟩ hq194
    exact WL.eff0 (Eff0.storePm 138 (rm := (mset rs41 x129 (n190, (Rneedlestorelaw25_doing.mk ({ x189 with fstage := (1 : Int) } : Sneedlestorelaw25_doing) r_191_0)))) (q := x129) (Rneedlestorelaw25_doing.mk ({ x231 with fresult := (6 : Int) } : Sneedlestorelaw25_doing) r_233_0) siz_27 rfl rfl rfl rfl hr234 rfl rfl) <| dn <| k230 _ _ <| bn <| bn <| bn <| tn <| KK.move 136 169 rfl rfl <| KK.move 138 171 rfl rfl <| kw (k85 ⟨M29, es30, cl31, rs32, x33, g37, es39, cl40, (mset (mset rs41 x129 (n190, (Rneedlestorelaw25_doing.mk ({ x189 with fstage := (1 : Int) } : Sneedlestorelaw25_doing) r_191_0))) x129 (n232, (Rneedlestorelaw25_doing.mk ({ x231 with fresult := (6 : Int) } : Sneedlestorelaw25_doing) r_233_0))), (mset (mset x42 x129 ({ x189 with fstage := (1 : Int) } : Sneedlestorelaw25_doing)) x129 ({ x231 with fresult := (6 : Int) } : Sneedlestorelaw25_doing)), A47, n48, c49, x50, rs51, x53⟩ ⟨h, (Ext.refl _ _), hmr34, hq35, (MapK.same (Rneedlestorelaw25_doing.mk ({ x231 with fresult := (6 : Int) } : Sneedlestorelaw25_doing) r_233_0) hr234 (MapK.same (Rneedlestorelaw25_doing.mk ({ x189 with fstage := (1 : Int) } : Sneedlestorelaw25_doing) r_191_0) hr192 hmr43)), hq236, hq52⟩)
   refine sr fun _ k237 => ?_
   obtain ⟨x238, hx238, h⟩ := bnd h
   refine mv rfl ?_
   obtain ⟨⟨n239, ⟨_, r_240_0⟩⟩, hr241, rfl, hq242_0⟩ := RelM.at hq44 hx238
   refine ya (Yld.nilCheckPm (q := x129) hr150 hr241 rfl) <| ya (Yld.fieldAddr Try.underlying95 rfl nz_3 rfl rfl) <| ya (Yld.loadPm (k := 138) (rm := rs41) (q := x129) scal_3 rfl rfl hr241 rfl) <| ya (Yld.eqlI rfl rfl) <| asn rfl <| dn <| k237 _ _ <| cnd h rfl beq_iff_eq.2 beq_eq_false_iff_ne.2 (fun hc243 h => ?_) fun hc243 h => ?_
   ·refine sd [(0, _), (107, _), (112, _), (136, _), (138, _), (261, _)] mixed fun _ k244 => ?_
    obtain ⟨x245, hx245, h⟩ := bnd h
    obtain ⟨x250, hx250, h⟩ := bnd h
    obtain ⟨x257, hx257, h⟩ := bnd h
    refine dm 0 rfl rfl <| dm 1 rfl rfl <| dm 2 rfl rfl ?_
    obtain ⟨⟨n246, ⟨_, r_247_0⟩⟩, hr248, rfl, hq249_0⟩ := RelM.at hq44 hx245
    refine du 3 rfl (Yld.nilCheckPm (q := x129) hr150 hr248 rfl) <| du 4 rfl (Yld.fieldAddr Try.underlying95 rfl nz_27 rfl rfl) <| du 5 rfl (Yld.loadPm (k := 138) (rm := rs41) (q := x129) scal_27 rfl rfl hr248 rfl) <| dm 6 rfl rfl ?_
    obtain ⟨⟨n251, ⟨_, r_252_0⟩⟩, hr253, rfl, hq254_0⟩ := RelM.at hq44 hx250
    refine du 7 rfl (Yld.nilCheckPm (q := x129) hr150 hr253 rfl) <| du 8 rfl (Yld.fieldAddr Try.underlying95 rfl nz_23 rfl rfl) <| du 9 rfl (Yld.loadPm (k := 138) (rm := rs41) (q := x129) scal_23 rfl rfl hr253 rfl) <| du 10 rfl (Yld.build rfl (bu_87_0_1_6_5 (2 : Int) x129 x245.fresult r_252_0.A r_252_0.n r_252_0.c)) <| on 11 ?_
    have hq256 : Rels (rel_history_Event M29) ([(Rhistory_Event.mk (Shistory_Event.mk (2 : Int) x129 (0 : Int) 0#64 0#32 x250.fgot x245.fresult) (⟨r_252_0.A, r_252_0.n, r_252_0.c⟩ : Hdr))] : List Rhistory_Event) ([(Shistory_Event.mk (2 : Int) x129 (0 : Int) 0#64 0#32 x250.fgot x245.fresult)] : List (Shistory_Event)) := (Rels.cons ⟨rfl, hq254_0⟩ Rels.nil)
    refine WS.eff rfl (by decide) (Eff.buildCA 355 ([(Rhistory_Event.mk (Shistory_Event.mk (2 : Int) x129 (0 : Int) 0#64 0#32 x250.fgot x245.fresult) (⟨r_252_0.A, r_252_0.n, r_252_0.c⟩ : Hdr))] : List Rhistory_Event) sty_61 rfl rfl rfl (by decide)) ?_
    rintro _ _ ⟨g255, rfl, rfl⟩
    refine ad ?_ (by repeat (first | exact sn | refine sc ?_))
    refine on 12 ?_
    obtain ⟨hu260, hq261⟩ := Rels.apd hq52 hq256 hx257
    refine WS.eff rfl (by decide) (Eff.appendC 146 (xs := rs51) (ys := ([(Rhistory_Event.mk (Shistory_Event.mk (2 : Int) x129 (0 : Int) 0#64 0#32 x250.fgot x245.fresult) (⟨r_252_0.A, r_252_0.n, r_252_0.c⟩ : Hdr))] : List Rhistory_Event)) sty_61 rfl rfl rfl (RdH.own (k := 355) rfl) hu260) ?_
    rintro _ _ ⟨A258, c259, rfl, rfl⟩
    refine ad ?_ (by repeat (first | exact sn | refine sc ?_))
    refine du 13 rfl (Yld.assign rfl) <| dd <| k244 _ _ <| rg fun _ k262 => mv rfl <| mv rfl ?_
    have hq266 : RelM (PtrR rel_needlestorelaw25_doing M29) (mdel rs41 x129) (mdel x42 x129) := RelM.del hq44
    refine WL.hs (HStep.pmDel 138 x129 rfl) <| WL.eff0R (Eff0R.delK 136 (ek := (MKey.ek (κ := Int))) (ev := evp) (m := (pme rs41)) (q := x129) und_92 keyl_3 rfl rfl rfl hmr43) ?_
    rintro _ ⟨es263, cl264, hmr265, rfl⟩
    rw [pme_del] at hmr265
    exact dn <| k262 _ _ <| bn <| bn <| tn <| KK.move 136 169 rfl rfl <| KK.move 138 171 rfl rfl <| kw (k85 ⟨M29, es30, cl31, rs32, x33, g37, es263, cl264, (mdel rs41 x129), (mdel x42 x129), A258, (rs51 ++ ([(Rhistory_Event.mk (Shistory_Event.mk (2 : Int) x129 (0 : Int) 0#64 0#32 x250.fgot x245.fresult) (⟨r_252_0.A, r_252_0.n, r_252_0.c⟩ : Hdr))] : List Rhistory_Event)).length, c259, x257, (rs51 ++ ([(Rhistory_Event.mk (Shistory_Event.mk (2 : Int) x129 (0 : Int) 0#64 0#32 x250.fgot x245.fresult) (⟨r_252_0.A, r_252_0.n, r_252_0.c⟩ : Hdr))] : List Rhistory_Event)), x53⟩ ⟨h, (Ext.refl _ _), hmr34, hq35, hmr265, hq266, hq261⟩)
   exact WC.skip <| bn <| bn <| tn <| KK.move 136 169 rfl rfl <| KK.move 138 171 rfl rfl <| kw (k85 ⟨M29, es30, cl31, rs32, x33, g37, es39, cl40, rs41, x42, A47, n48, c49, x50, rs51, x53⟩ ⟨h, (Ext.refl _ _), hmr34, hq35, hmr43, hq44, hq52⟩)
  rintro ⟨M62, es63, cl64, rs65, x66, g70, es72, cl73, rs74, x75, A78, n79, c80, x81, rs82, x84⟩ ⟨h, hm_M62, hmr67, hq68, hmr76, hq77, hq83⟩
  unfold m_law25_atomic_j3 at h
  refine rg fun _ k267 => ?_
  obtain ⟨x268, hx268, h⟩ := bnd h
  exact mv rfl <| ya (Yld.addC rfl rfl hx268) <| asn rfl <| dn <| k267 _ _ <| tn <| KK.move 169 136 rfl rfl <| KK.move 171 138 rfl rfl <| kw (k56 ⟨M62, es63, cl64, rs65, x66, g70, es72, cl73, rs74, x75, A78, n79, c80, x81, rs82, x84, x268⟩ ⟨h, (Ext.trans hm_M29 hm_M62), hmr67, hq68, hmr76, hq77, hq83⟩)
 rintro ⟨M18, A21, n22, c23, x24, rs25⟩ ⟨h, hm_M18, hq26⟩
 unfold m_law25_atomic_j0 at h
 refine sr fun _ k269 => mv rfl <| asn rfl <| dn <| k269 _ _ <| re ?_
 injection h with h; subst h
 exact rt [120] (ResIs.one rfl rfl) hm_M18 ⟨A21, n22, c23, rs25, rfl, rfl, hq26⟩
theorem w_law25_LinearAtomic (M0 : Mem) (A00 : Option Addr) (n00 c00 : Nat) (x00 : List (Sneedlestorelaw25_Act)) (hf00 : SlT M0 A00 n00 c00 x00) (A01 : Option Addr) (n01 c01 : Nat) (x01 : List (BitVec 8)) (hf01 : SlT M0 A01 n01 c01 x01) {res : Bool} (h : m_law25_LinearAtomic x00 x01 = some res) :
  Fn Try.prog 7 #[.slice A00 n00 c00, .slice A01 n01 c01] M0 fun r M' es => r = .bool res /\ es = [] := by
 refine Fn.intro (N := 47) Try.func7 rfl rfl (Nat.le_of_ble_eq_true rfl) fun w0 => ?_
 unfold m_law25_LinearAtomic at h
 refine sr fun _ k1 => asn rfl <| dn <| k1 _ _ <| sr fun _ k2 => ?_
 obtain ⟨x3, hx3, h⟩ := bnd h
 obtain ⟨x21, hx21, h⟩ := bnd h
 refine mv rfl <| mv rfl <| WL.eff (by decide) (Eff.callM 109 rfl Try.func23 nm_23 rfl rfl rfl (w_law25_atomic _ A00 n00 c00 _ hf00 A01 n01 c01 _ hf01 hx3)) ?_
 rintro _ _ ⟨M15, _, ⟨A16, n17, c18, rs19, rfl, rfl, hq20⟩, hm_M15, rfl⟩
 refine WL.freeze 109 rfl rfl rfl fun M33 hm_M33 hf34 => WL.eff (by decide) (Eff.callM 127 rfl Try.func22 nm_22 rfl rfl rfl (w_history_Build _ A16 n17 c18 rs19 _ hf34 (Rels.lift hq20 hm_M33) hx21)) ?_
 rintro _ _ ⟨M35, _, ⟨A36, n37, c38, rs39, rfl, rfl, hq40⟩, hm_M35, rfl⟩
 refine mv rfl <| ya (Yld.extract rfl rfl) <| ya (Yld.extract rfl rfl) <| asn rfl <| asn rfl <| dn <| k2 _ _ <| sq fun _ k41 => sr fun _ k42 => mv rfl <| ya (Yld.neqI rfl rfl) <| dn <| k42 _ _ <| cnn h rfl bne_eq_false_iff_eq.2 bne_iff_ne.2 (fun hc43 h => ?_) fun hc43 h => ?_
 ·refine ss <| k41 _ _ <| ct (σ := Mem × (Option Addr) × Nat × Nat × (List (Shistory_Op)) × (List Rhistory_Op)) (fun ⟨M44, A45, n46, c47, x48, rs50⟩ => [(5, .slice A45 n46 c47)]) (fun ⟨M44, A45, n46, c47, x48, rs50⟩ => [(0, .mem M44)]) (fun ⟨M44, A45, n46, c47, x48, rs50⟩ => m_law25_LinearAtomic_j0 x48 = some res /\ Ext w0.heap.size M35 M44 /\ SlT M44 A45 n46 c47 rs50 /\ Rels (rel_history_Op M44) rs50 x48) (fun _ k52 => ?_) ?_
  ·refine sr fun _ k53 => ?_
   obtain ⟨x54, hx54, h⟩ := bnd h
   refine mv rfl <| WL.freeze 127 rfl rfl rfl fun M64 hm_M64 hf65 => WL.eff (by decide) (Eff.callM 159 rfl Try.func24 nm_24 rfl rfl rfl (w_history_Keys _ A36 n37 c38 rs39 _ hf65 (Rels.lift hq40 hm_M64) hx54)) ?_
   rintro _ _ ⟨M66, _, ⟨A67, n68, c69, rfl, rfl, hf70⟩, hm_M66, rfl⟩
   refine ya (Yld.lenC (xs := x54) und_63 rfl (RdH.memM (k := 0) rfl hf70)) <| mv rfl <| dn <| k53 _ _ <| bl <| lp (τ := Mem × Int) (fun ⟨M71, x72⟩ => [(5, .slice A36 n37 c38), (21, .slice A67 n68 c69), (22, I64 (x54.length : Int)), (23, I64 x72)]) (fun ⟨M71, x72⟩ => [(0, .mem M71)]) (fun q73 ⟨M71, x72⟩ => m_law25_LinearAtomic_l1 x21 x54 q73 x72 = some res /\ Ext w0.heap.size M66 M71) ⟨M66, (0 : Int)⟩ ?_ (by simp [m_law25_LinearAtomic_l1]) ?_
   ·exact ⟨h, (Ext.refl _ _)⟩
   rintro q73 ⟨M71, x72⟩ ⟨h, hm_M71⟩ _ k74
   unfold m_law25_LinearAtomic_l1 at h
   refine sr fun _ k75 => ya (Yld.lss rfl rfl) <| dn <| k75 _ _ <| sq fun _ k76 => cnd h rfl decide_eq_true decide_eq_false (fun hc77 h => ?_) fun hc77 h => ?_
   ·refine ss <| k76 _ _ <| sq fun _ k78 => bl <| sr fun _ k79 => ?_
    obtain ⟨x80, hx80, h⟩ := bnd h
    refine ya (Yld.idxC (xs := x54) sty_63 rfl rfl (RdH.memM (k := 0) rfl (SlRc.lift hf70 hm_M71)) hx80) <| ya (Yld.loadC0 (xs := x54) scal_26 rfl (RdH.memM (k := 0) rfl (SlRc.lift hf70 hm_M71)) hx80 rfl) <| asn rfl <| dn <| k79 _ _ <| sr fun _ k81 => ?_
    obtain ⟨x82, hx82, h⟩ := bnd h
    refine mv rfl <| mv rfl <| WL.eff (by decide) (Eff.callM 188 rfl Try.func25 nm_25 rfl rfl rfl (w_history_Only _ A36 n37 c38 rs39 _ (SlRc.lift (SlRc.lift hf65 hm_M66) hm_M71) (Rels.lift (Rels.lift (Rels.lift hq40 hm_M64) hm_M66) hm_M71) x80 hx82)) ?_
    rintro _ _ ⟨M94, _, ⟨A95, n96, c97, rs98, rfl, rfl, hq99⟩, hm_M94, rfl⟩
    refine ya (Yld.lenD (rs := rs98) (xs := x82) (Rels.len hq99) und_46 rfl (RdH.own (k := 188) rfl)) <| ya (Yld.gtr rfl rfl) <| dn <| k81 _ _ <| cnd h rfl decide_eq_true decide_eq_false (fun hc100 h => ?_) fun hc100 h => ?_
    ·refine sr fun _ k101 => ?_
     obtain ⟨x102, hx102, h⟩ := bnd h
     refine c0 Try.func8 rfl (fun w hb hh => w_law25_awake (Mem.snap w) hx102) <| asn rfl <| dn <| k101 _ _ <| re <| br <| tr <| tr <| br <| tr ?_
     injection h with h; subst h
     exact rt [] (ResIs.one rfl rfl) (Ext.trans (Ext.trans (Ext.trans (Ext.trans (Ext.trans (Ext.trans hm_M15 hm_M33) hm_M35) hm_M64) hm_M66) hm_M71) hm_M94) ⟨rfl, rfl⟩
    refine WC.skip <| bn <| tn <| k78 _ _ <| rg fun _ k104 => ?_
    obtain ⟨x105, hx105, h⟩ := bnd h
    exact ya (Yld.addC rfl rfl hx105) <| mv rfl <| dn <| k104 _ _ <| tn <| kw (k74 ⟨M94, x105⟩ ⟨h, (Ext.trans hm_M71 hm_M94)⟩)
   exact xi <| te <| te <| bx <| tn <| kw (k52 ⟨M71, A36, n37, c38, x21.1, rs39⟩ ⟨h, (Ext.trans (Ext.trans hm_M64 hm_M66) hm_M71), (SlRc.lift (SlRc.lift hf65 hm_M66) hm_M71), (Rels.lift (Rels.lift (Rels.lift hq40 hm_M64) hm_M66) hm_M71)⟩)
  rintro ⟨M44, A45, n46, c47, x48, rs50⟩ ⟨h, hm_M44, hf49, hq51⟩
  unfold m_law25_LinearAtomic_j0 at h
  refine sr fun _ k106 => ?_
  obtain ⟨x107, hx107, h⟩ := bnd h
  refine mv rfl <| c0 Try.func16 rfl (fun w hb hh => w_linear_Check (Mem.snap w) A45 n46 c47 rs50 _ (RdH.sn (RdH.memM (k := 0) rfl hf49) w hb hh) (Rels.sn hq51 (hh.sat 0 _ rfl)) hx107) <| mv rfl <| ya (Yld.extract rfl rfl) <| ya (Yld.extract rfl rfl) <| asn rfl <| asn rfl <| dn <| k106 _ _ <| sr fun _ k109 => mv rfl <| mv rfl <| spl h id Bool.eq_false_iff.2 (fun hc110 h => ?_) fun hc110 h => ?_
  ·refine mvg rfl <| yg (Yld.eqlI rfl rfl) <| pt rfl rfl <| mv rfl <| spl h beq_iff_eq.2 beq_eq_false_iff_ne.2 (fun hc111 h => ?_) fun hc111 h => ?_
   ·obtain ⟨x112, hx112, h⟩ := bnd h
    refine c0g Try.func8 rfl (fun w hb hh => w_law25_awake (Mem.snap w) hx112) <| pt rfl rfl <| asn rfl <| dn <| k109 _ _ <| re ?_
    injection h with h; subst h
    exact rt [] (ResIs.one rfl rfl) (Ext.trans (Ext.trans (Ext.trans hm_M15 hm_M33) hm_M35) hm_M44) ⟨rfl, rfl⟩
   refine sk <| pf rfl rfl <| asn rfl <| dn <| k109 _ _ <| re ?_
   injection h with h; subst h
   exact rt [] (ResIs.one rfl rfl) (Ext.trans (Ext.trans (Ext.trans hm_M15 hm_M33) hm_M35) hm_M44) ⟨rfl, rfl⟩
  refine sk <| sk <| pf rfl rfl <| mv rfl <| sk <| pf rfl rfl <| asn rfl <| dn <| k109 _ _ <| re ?_
  injection h with h; subst h
  exact rt [] (ResIs.one rfl rfl) (Ext.trans (Ext.trans (Ext.trans hm_M15 hm_M33) hm_M35) hm_M44) ⟨rfl, rfl⟩
 refine sr fun _ k114 => asn rfl <| dn <| k114 _ _ <| re <| tr ?_
 injection h with h; subst h
 exact rt [] (ResIs.one rfl rfl) (Ext.trans (Ext.trans hm_M15 hm_M33) hm_M35) ⟨rfl, rfl⟩
end Go.Proofs.Ytkcccenekglkoaa
