/- A part of the proof. Conditions: as each theorem says. -/
import Derived.Test.YthjnhlmfcejhkaaGreatWko
import Derived.Test.YthjnhlmfcejhkaaGreatMdr
namespace Go.Proofs.YthjnhlmfcejhkaaGreat
set_option maxRecDepth 10000
open Go Go.RowKit Yld
set_option linter.unusedVariables false
theorem und_49 : Tryz.prog.underlying 49 = some (.slice 30) := by kernel_rfl
theorem agg_113 : Agg Tryz.prog 113 3 := ⟨⟨_, Tryz.underlying113, rfl⟩, by kernel_rfl⟩
theorem bu_113_0_1_2 : ∀ (a0 : Int) (a1 : Int) (a2 : Int), Tryz.prog.built 113 [(0, I64 a0), (1, I64 a1), (2, I64 a2)] = some ([I64 a0, I64 a1, I64 a2] : List Value).toArray := fun a0 a1 a2 => by kernel_rfl
theorem nm_100 : (Tryz.f100.name == "runtime.NumGoroutine") = false := by kernel_rfl
theorem nm_40 : (Tryz.f40.name == "runtime.NumGoroutine") = false := by kernel_rfl
theorem nm_41 : (Tryz.f41.name == "runtime.NumGoroutine") = false := by kernel_rfl
theorem nm_69 : (Tryz.f69.name == "runtime.NumGoroutine") = false := by kernel_rfl
theorem nm_80 : (Tryz.f80.name == "runtime.NumGoroutine") = false := by kernel_rfl
theorem scal_30 : scal Tryz.prog 30 = true := by kernel_rfl
theorem siz_2 : (Tryz.prog.info? 2).map (·.size) = some 1 := by kernel_rfl
theorem siz_30 : (Tryz.prog.info? 30).map (·.size) = some 1 := by kernel_rfl
theorem sty_49 : STy Tryz.prog 49 30 (.slice none 0 0) 1 24 := STy.of und_49 (by kernel_rfl) rfl
theorem zr_113 : (Tryz.prog.info? 113).map (fun i => i.zero.map (·.cells)) = some (some ([I64 (0 : Int), I64 (0 : Int), I64 (0 : Int)] : List Value).toArray) := by kernel_rfl
theorem zr_30 : (Tryz.prog.info? 30).map (fun i => i.zero.map (·.cells)) = some (some ([.slice none 0 0] : List Value).toArray) := by kernel_rfl
namespace Z
theorem _root_.Go.Proofs.YthjnhlmfcejhkaaGreat.w_stripe_Split (M0 : Mem) (A00 : Option Addr) (n00 c00 : Nat) (x00 : By) (hf00 : SlT M0 A00 n00 c00 x00) {res : (List By)} (h : m_stripe_Split x00 = some res) :
  Fn Tryz.prog 36 #[.slice A00 n00 c00] M0 fun r M' es => ∃ (A1 : Option Addr) (n1 c1 : Nat), ∃ rs1 : List Hdr, r = .slice A1 n1 c1 /\ es = [.own 22 (Lay.sz Hdr) A1 n1 c1 (cel rs1)] /\ Rels ((RelB (α := BitVec 8)) M') rs1 res := by
 refine Fn.intro (N := 44) Tryz.func36 rfl rfl (nle rfl) fun w0 => ?_
 unfold m_stripe_Split at h
 refine sr fun _ k1 => bb 102 [.slice A00 n00 c00] rfl fun g2 => ak rfl k1 <| sr fun _ k3 => ?_
 obtain ⟨x5, hx5, h⟩ := bnd h
 obtain ⟨hu6, hl7, hr8⟩ := rows_mks hx5
 refine WL.eff (by decide) (Eff.makeC 104 (⟨none, 0, 0⟩ : Hdr) sty_30 rfl rfl rfl rfl rfl rfl hu6) ?_
 rintro _ _ ⟨g4, rfl, rfl⟩
 refine WL.hs (HStep.rowsRepE 109 5 (Lay.sz (BitVec 8)) hr8) <| al 110 zr_30 fun g10 => WL.eff0 (Eff0.storeB 110 siz_30 rfl rfl rfl rfl (nle rfl)) <| dz k3 <| ct (σ := (List By) × (List Hdr)) (fun ⟨x11, rs12⟩ => [(1, pv g2), (3, pv g10)]) (fun ⟨x11, rs12⟩ => [(0, .mem M0), (102, .blk g2 22 [.slice A00 n00 c00]), (104, .own 22 (Lay.sz Hdr) (some ⟨g4, 0, none⟩) ((List.replicate ((4 : Int)).toNat (⟨none, 0, 0⟩ : Hdr)).length) ((List.replicate ((4 : Int)).toNat (⟨none, 0, 0⟩ : Hdr)).length) (cel rs12)), (109, .rows 5 (Lay.sz (BitVec 8)) (rws rs12 x11)), (110, .blk g10 30 [.slice (some ⟨g4, 0, none⟩) ((List.replicate ((4 : Int)).toNat (⟨none, 0, 0⟩ : Hdr)).length) ((List.replicate ((4 : Int)).toNat (⟨none, 0, 0⟩ : Hdr)).length)])]) (fun ⟨x11, rs12⟩ => m_stripe_Split_j0 x00 x11 = some res /\ rs12.length = x11.length) (fun _ k15 => ?_) ?_
 ·refine sr fun _ k16 => ya (loadB (k := 110) scal_30 rfl rfl rfl) <| ya (lenD (rs := (List.replicate ((4 : Int)).toNat (⟨none, 0, 0⟩ : Hdr))) (xs := x5) hl7 und_30 rfl (rO 104 rfl)) <| mv rfl <| dz k16 <| bl <| lp (τ := (List By) × (List Hdr) × Int) (fun ⟨x17, rs18, x21⟩ => [(1, pv g2), (3, pv g10), (9, I64 (x5.length : Int)), (10, I64 x21)]) (fun ⟨x17, rs18, x21⟩ => [(0, .mem M0), (102, .blk g2 22 [.slice A00 n00 c00]), (104, .own 22 (Lay.sz Hdr) (some ⟨g4, 0, none⟩) ((List.replicate ((4 : Int)).toNat (⟨none, 0, 0⟩ : Hdr)).length) ((List.replicate ((4 : Int)).toNat (⟨none, 0, 0⟩ : Hdr)).length) (cel rs18)), (109, .rows 5 (Lay.sz (BitVec 8)) (rws rs18 x17)), (110, .blk g10 30 [.slice (some ⟨g4, 0, none⟩) ((List.replicate ((4 : Int)).toNat (⟨none, 0, 0⟩ : Hdr)).length) ((List.replicate ((4 : Int)).toNat (⟨none, 0, 0⟩ : Hdr)).length)])]) (fun q22 ⟨x17, rs18, x21⟩ => m_stripe_Split_l1 x00 x5 q22 x17 x21 = some res /\ rs18.length = x17.length) ⟨x5, (List.replicate ((4 : Int)).toNat (⟨none, 0, 0⟩ : Hdr)), (0 : Int)⟩ ?_ (by simp [m_stripe_Split_l1]) ?_
  ·exact ⟨h, hl7⟩
  rintro q22 ⟨x17, rs18, x21⟩ ⟨h, hl20⟩ _ k23
  unfold m_stripe_Split_l1 at h
  refine sr fun _ k24 => ya (lss rfl rfl) <| dz k24 <| sq fun _ k25 => cI h rfl (fun hc26 h => ?_) fun hc26 h => ?_
  ·refine ss <| k25 _ _ <| sq fun _ k27 => bl <| sr fun _ k28 => mv rfl <| ak rfl k28 <| rd [(102, _), (110, _)] mixed fun _ k29 => ?_
   obtain ⟨x30, hx30, h⟩ := bnd h
   obtain ⟨x33, hx33, h⟩ := bnd h
   obtain ⟨x34, hx34, h⟩ := bnd h
   obtain ⟨x37, hx37, h⟩ := bnd h
   refine du 0 rfl (loadB (k := 110) scal_30 rfl rfl rfl) <| dm 1 rfl rfl <| du 2 rfl (loadB (k := 102) scal_22 rfl rfl rfl) <| on 3 <| dy rfl (lenC (xs := x00) und_22 rfl (mM rfl hf00)) <| on 4 <| d0 rfl Tryz.func68 rfl (fun w hb hh => w_stripe_Size (Mem.snap w) (x00.length : Int) hx30) <| on 5 <| WS.eff rfl (by decide) (Eff.makeC 132 0#8 sty_22 rfl rfl rfl rfl rfl rfl hx33) ?_
   rintro _ _ ⟨g32, rfl, rfl⟩
   refine aq ?_
   refine on 6 ?_
   obtain ⟨r_35, hr36⟩ := rows_idx (hs := rs18) hl20 hx34
   refine dy rfl (idxC (xs := rs18) sty_30 rfl rfl (rO 104 rfl) hr36) <| on 7 ?_
   obtain ⟨hu38, hl39, hr40⟩ := rows_updH (⟨(some ⟨g32, 0, none⟩), x33.length, x33.length⟩ : Hdr) hl20 hx37
   refine WS.hs (HStep.rowsPutE 109 132 (x21).toNat rfl hr40 rfl rfl) (sc (sc sn)) <| WS.eff0 rfl (Eff0.storeC1 104 (xs := rs18) (a' := (⟨(some ⟨g32, 0, none⟩), x33.length, x33.length⟩ : Hdr)) siz_22 rfl rfl rfl rfl rfl rfl hu38) (sc (sc sn)) <| dd <| k29 _ _ <| bn <| tn <| k27 _ _ <| rg fun _ k41 => bd h fun x42 hx42 h => ya (addC rfl rfl hx42) <| mv rfl <| dz k41 <| tn <| kw (k23 ⟨x37, (rs18.set (x21).toNat (⟨(some ⟨g32, 0, none⟩), x33.length, x33.length⟩ : Hdr)), x42⟩ ⟨h, hl39⟩)
  exact xi <| te <| te <| bx <| tn <| kw (k15 ⟨x17, rs18⟩ ⟨h, hl20⟩)
 rintro ⟨x11, rs12⟩ ⟨h, hl14⟩
 unfold m_stripe_Split_j0 at h
 refine sq fun _ k43 => sr fun _ k44 => ya (loadB (k := 102) scal_22 rfl rfl rfl) <| ya (lenC (xs := x00) und_22 rfl (mM rfl hf00)) <| WL.inl (by decide) Tryz.func69 nm_69 rfl rfl (Tri.intro (N := 6) Tryz.func69 rfl rfl (nle rfl) ?_)
 refine sr fun _ k45 => bb 146 [I64 (0 : Int)] rfl fun g46 => bb 147 [I64 (x00.length : Int)] rfl fun g47 => ak rfl k45 <| sr fun _ k48 => ya (makeFunc rfl rfl) <| ak rfl k48 <| re <| Ret.go (ResIs.one rfl rfl) <| dz k44 <| bl <| WC.rangeFunc 98 97 rfl Tryz.func100 nm_100 rfl rfl rfl rfl fun D49 l50 rc51 hrc52 => Tri.intro (N := 37) Tryz.func100 rfl rfl (nle rfl) <| sr fun _ k53 => bd h fun x54 hx54 h => ya (loadB (k := 146) scal_2 rfl rfl rfl) <| ya (loadB (k := 147) scal_2 rfl rfl rfl) <| ya (addC rfl rfl hx54) <| ak rfl k53 <| bl <| lp (τ := (List By) × (List Hdr) × Int) (fun ⟨x55, rs56, x59⟩ => [(0, .func (.yield l50) #[] #[]), (1, pv g46), (4, I64 x54)]) (fun ⟨x55, rs56, x59⟩ => [(0, .mem M0), (97, .obj l50 (.loop (Rc .ready none rc51))), (98, .obj D49 (.deferred (some []))), (102, .blk g2 22 [.slice A00 n00 c00]), (104, .own 22 (Lay.sz Hdr) (some ⟨g4, 0, none⟩) ((List.replicate ((4 : Int)).toNat (⟨none, 0, 0⟩ : Hdr)).length) ((List.replicate ((4 : Int)).toNat (⟨none, 0, 0⟩ : Hdr)).length) (cel rs56)), (109, .rows 5 (Lay.sz (BitVec 8)) (rws rs56 x55)), (110, .blk g10 30 [.slice (some ⟨g4, 0, none⟩) ((List.replicate ((4 : Int)).toNat (⟨none, 0, 0⟩ : Hdr)).length) ((List.replicate ((4 : Int)).toNat (⟨none, 0, 0⟩ : Hdr)).length)]), (146, .blk g46 2 [I64 x59]), (147, .blk g47 2 [I64 (x00.length : Int)])]) (fun q60 ⟨x55, rs56, x59⟩ => m_stripe_Split_l2 x00 x54 q60 x55 x59 = some res /\ rs56.length = x55.length) ⟨x11, rs12, (0 : Int)⟩ ?_ (by simp [m_stripe_Split_l2]) ?_
 ·exact ⟨h, hl14⟩
 rintro q60 ⟨x55, rs56, x59⟩ ⟨h, hl58⟩ _ k61
 unfold m_stripe_Split_l2 at h
 refine sq fun _ k62 => sr fun _ k63 => ya (loadB (k := 146) scal_2 rfl rfl rfl) <| mv rfl <| ya (lss rfl rfl) <| dz k63 <| cI h rfl (fun hc64 h => ?_) fun hc64 h => ?_
 ·refine ss <| k62 _ _ <| bl <| sr fun _ k65 => ?_
  obtain ⟨x66, hx66, h⟩ := bnd h
  obtain ⟨x67, hx67, h⟩ := bnd h
  obtain ⟨x68, hx68, h⟩ := bnd h
  refine ya (loadB (k := 146) scal_2 rfl rfl rfl) <| ya (remC rfl rfl hx66) <| ya (subC rfl rfl hx67) <| mv rfl <| ya (loadB (k := 146) scal_2 rfl rfl rfl) <| ya (subC rfl rfl hx68) <| ya (minI rfl rfl) <| ak rfl k65 <| sr fun _ k69 => bd h fun x70 hx70 h => ya (loadB (k := 146) scal_2 rfl rfl rfl) <| c0 Tryz.func101 rfl (fun w hb hh => w_stripe_place (Mem.snap w) x59 hx70) <| mv rfl <| ya (extract rfl rfl) <| ya (extract rfl rfl) <| asn rfl <| ak rfl k69 <| sq fun _ k72 => sr fun _ k73 => mv rfl <| ya (loadB (k := 146) scal_2 rfl rfl rfl) <| mv rfl <| mv rfl <| mv rfl <| ya (build rfl (bu_113_0_1_2 x70.1 x70.2 (min x67 x68))) <| WL.round 97 (by decide) rfl rfl rfl hrc52 rfl rfl fun RQ74 hN75 hR76 hX77 KA78 hKA79 => sr fun _ k80 => ak rfl k80 <| rg fun _ k81 => al 182 zr_113 fun g82 => sb 182 agg_113 rfl rfl rfl <| dz k81 <| QK.thenN (hKA79 _ _ rfl ?_)
  refine bl <| rd [(0, _), (97, _), (98, _), (102, _), (104, _), (110, _), (146, _), (147, _), (182, _)] mixed fun _ k83 => ?_
  obtain ⟨x84, hx84, h⟩ := bnd h
  obtain ⟨x87, hx87, h⟩ := bnd h
  obtain ⟨x88, hx88, h⟩ := bnd h
  obtain ⟨x89, hx89, h⟩ := bnd h
  obtain ⟨x90, hx90, h⟩ := bnd h
  refine du 0 rfl (loadB (k := 110) scal_30 rfl rfl rfl) <| du 1 rfl (fieldAddr Tryz.underlying113 rfl nz_3 rfl rfl) <| du 2 rfl (loadB (k := 182) scal_3 rfl rfl rfl) ?_
  obtain ⟨r_85, hr86⟩ := rows_idx (hs := rs56) hl58 hx84
  refine du 3 rfl (idxC (xs := rs56) sty_30 rfl rfl (rO 104 rfl) hr86) <| du 4 rfl (loadC0 (xs := rs56) scal_22 rfl (rO 104 rfl) hr86 rfl) <| du 5 rfl (fieldAddr Tryz.underlying113 rfl nz_2 rfl rfl) <| du 6 rfl (loadB (k := 182) scal_2 rfl rfl rfl) <| du 7 rfl (fieldAddr Tryz.underlying113 rfl nz_2 rfl rfl) <| du 8 rfl (loadB (k := 182) scal_2 rfl rfl rfl) <| du 9 rfl (fieldAddr Tryz.underlying113 rfl nz_2 rfl rfl) <| du 10 rfl (loadB (k := 182) scal_2 rfl rfl rfl) <| du 11 rfl (addC rfl rfl hx87) <| du 13 rfl (loadB (k := 102) scal_22 rfl rfl rfl) <| dm 14 rfl rfl <| du 15 rfl (sliceLC (xs := x00) sty_22 rfl rfl (mM rfl hf00) hx89) <| on 12 <| dy rfl (sliceLHC (xs := x84) sty_22 rfl rfl rfl (RdT.row (k := 109) rfl hr86 hx84) hx88) <| on 16 <| WS.eff rfl (by decide) (Eff.copyRow 109 (lo := x70.2) (hi := x87) (hs := rs56) (e := x55) (b := x84) (bs := x88) (ys := x89) sty_22 rfl rfl hx88 rfl hr86 hx84 rfl rfl rfl (SlT.slc hf00 hx89) hx90) ?_
  rintro _ _ ⟨rfl, rfl⟩
  refine aq ?_
  refine dd <| k83 _ _ <| bn <| hN75 _ _ rfl <| ya (notB rfl) <| dz k73 <| cdF rfl <| ss <| k72 _ _ <| rg fun _ k91 => bd h fun x92 hx92 h => ya (loadB (k := 146) scal_2 rfl rfl rfl) <| mv rfl <| ya (addC rfl rfl hx92) <| WL.eff0 (Eff0.storeB 146 siz_2 rfl rfl rfl rfl (nle rfl)) <| dz k91 <| bn <| tn <| kw (k61 ⟨x90, rs56, x92⟩ ⟨h, (rows_upd hl58 hx90)⟩)
 refine xi <| te <| te <| bx <| Ret.goN (ResIs.zero rfl) <| After.go 97 rfl <| bn <| tn <| k43 _ _ <| sr fun _ k93 => ya (loadB (k := 110) scal_30 rfl rfl rfl) <| ak rfl k93 <| re <| QK.grow (HGrow.rows 109 rfl rfl rfl hl58) fun M94 ⟨hm_M94, hq95⟩ => QK.unmark 98 rfl ?_
 obtain rfl := si h
 exact rt [104] (ResIs.one rfl rfl) hm_M94 ⟨(some ⟨g4, 0, none⟩), (List.replicate ((4 : Int)).toNat (⟨none, 0, 0⟩ : Hdr)).length, (List.replicate ((4 : Int)).toNat (⟨none, 0, 0⟩ : Hdr)).length, rs56, rfl, rfl, hq95⟩
end Z
namespace Z
end Z
theorem w_r05_Split (M0 : Mem) (A00 : Option Addr) (n00 c00 : Nat) (x00 : By) (hf00 : SlT M0 A00 n00 c00 x00) {res : (List By)} (h : m_r05_Split x00 = some res) :
  Fn Tryz.prog 40 #[.slice A00 n00 c00] M0 fun r M' es => ∃ (A1 : Option Addr) (n1 c1 : Nat), ∃ rs1 : List Hdr, r = .slice A1 n1 c1 /\ es = [.own 22 (Lay.sz Hdr) A1 n1 c1 (cel rs1)] /\ Rels ((RelB (α := BitVec 8)) M') rs1 res := by
 refine Fn.intro (N := 43) Tryz.func40 rfl rfl (nle rfl) fun w0 => ?_
 unfold m_r05_Split at h
 refine sr fun _ k1 => ak rfl k1 <| sr fun _ k2 => ak rfl k2 <| ct (σ := (Option Addr) × Nat × Nat × (List By) × (List Hdr)) (fun ⟨A5, n6, c7, x8, rs10⟩ => [(0, .slice A00 n00 c00), (3, .slice A5 n6 c7)]) (fun ⟨A5, n6, c7, x8, rs10⟩ => [(0, .mem M0), (104, .own 22 (Lay.sz Hdr) A5 n6 c7 (cel rs10)), (109, .rows 5 (Lay.sz (BitVec 8)) (rws rs10 x8))]) (fun ⟨A5, n6, c7, x8, rs10⟩ => m_r05_Split_j0 x00 x8 = some res /\ rs10.length = x8.length) (fun _ k13 => ?_) ?_
 ·refine sr fun _ k14 => ak rfl k14 <| bl <| WC.nilOwn 116 22 (Lay.sz Hdr) none <| WC.hs (HStep.rowsNil 121 5 (Lay.sz (BitVec 8))) <| lp (τ := (Option Addr) × Nat × Nat × (List By) × (List Hdr) × Int) (fun ⟨A17, n18, c19, x20, rs22, x25⟩ => [(0, .slice A00 n00 c00), (3, .slice A17 n18 c19), (4, I64 x25)]) (fun ⟨A17, n18, c19, x20, rs22, x25⟩ => [(0, .mem M0), (116, .own 22 (Lay.sz Hdr) A17 n18 c19 (cel rs22)), (121, .rows 5 (Lay.sz (BitVec 8)) (rws rs22 x20))]) (fun q26 ⟨A17, n18, c19, x20, rs22, x25⟩ => m_r05_Split_l1 x00 q26 x20 x25 = some res /\ rs22.length = x20.length) ⟨none, 0, 0, ([] : List By), ([] : List Hdr), (0 : Int)⟩ ?_ (by simp [m_r05_Split_l1]) ?_
  ·exact ⟨h, rfl⟩
  rintro q26 ⟨A17, n18, c19, x20, rs22, x25⟩ ⟨h, hl24⟩ _ k27
  unfold m_r05_Split_l1 at h
  refine sq fun _ k28 => sr fun _ k29 => mv rfl <| ya (lss rfl rfl) <| dz k29 <| cI h rfl (fun hc30 h => ?_) fun hc30 h => ?_
  ·refine ss <| k28 _ _ <| sq fun _ k31 => bl <| rg fun _ k32 => ?_
   obtain ⟨x33, hx33, h⟩ := bnd h
   obtain ⟨x36, hx36, h⟩ := bnd h
   obtain ⟨x38, hx38, h⟩ := bnd h
   refine mv rfl <| mv rfl <| ya (lenC (xs := x00) und_22 rfl (mM rfl hf00)) <| c0 Tryz.func48 rfl (fun w hb hh => w_r05_Size (Mem.snap w) (x00.length : Int) hx33) <| WL.eff (by decide) (Eff.makeC 135 0#8 sty_22 rfl rfl rfl rfl rfl rfl hx36) ?_
   rintro _ _ ⟨g35, rfl, rfl⟩
   refine WL.hs (HStep.toRows 135 rfl) <| WL.eff (by decide) (Eff.buildC 137 ([(⟨(some ⟨g35, 0, none⟩), x36.length, x36.length⟩ : Hdr)] : List Hdr) sty_30 rfl rfl rfl rfl rfl (by decide)) ?_
   rintro _ _ ⟨g37, rfl, rfl⟩
   obtain ⟨hu41, hl42, hr43⟩ := rows_apd (hs := rs22) (hs' := ([(⟨(some ⟨g35, 0, none⟩), x36.length, x36.length⟩ : Hdr)] : List Hdr)) hl24 (rfl : ([(⟨(some ⟨g35, 0, none⟩), x36.length, x36.length⟩ : Hdr)] : List Hdr).length = ([x36] : List By).length) hx38
   refine WL.hs (HStep.rowsApd 121 135 rfl hr43 rfl rfl) <| ap 116 (xs := rs22) (ys := ([(⟨(some ⟨g35, 0, none⟩), x36.length, x36.length⟩ : Hdr)] : List Hdr)) sty_30 rfl rfl rfl (rO 137 rfl) hu41 fun A39 c40 => ak rfl k32 <| bn <| tn <| k31 _ _ <| rg fun _ k44 => bd h fun x45 hx45 h => mv rfl <| ya (addC rfl rfl hx45) <| ak rfl k44 <| tn <| kw (k27 ⟨A39, (rs22 ++ ([(⟨(some ⟨g35, 0, none⟩), x36.length, x36.length⟩ : Hdr)] : List Hdr)).length, c40, x38, (rs22 ++ ([(⟨(some ⟨g35, 0, none⟩), x36.length, x36.length⟩ : Hdr)] : List Hdr)), x45⟩ ⟨h, hl42⟩)
  exact xi <| te <| te <| bx <| tn <| KK.move 116 104 rfl rfl <| KK.move 121 109 rfl rfl <| kw (k13 ⟨A17, n18, c19, x20, rs22⟩ ⟨h, hl24⟩)
 rintro ⟨A5, n6, c7, x8, rs10⟩ ⟨h, hl12⟩
 unfold m_r05_Split_j0 at h
 refine ct (σ := (List By) × (List Hdr)) (fun ⟨x46, rs47⟩ => [(3, .slice A5 n6 c7)]) (fun ⟨x46, rs47⟩ => [(0, .mem M0), (104, .own 22 (Lay.sz Hdr) A5 n6 c7 (cel rs47)), (109, .rows 5 (Lay.sz (BitVec 8)) (rws rs47 x46))]) (fun ⟨x46, rs47⟩ => m_r05_Split_j2 x46 = some res /\ rs47.length = x46.length) (fun _ k50 => ?_) ?_
 ·refine sr fun _ k51 => ak rfl k51 <| bl <| lp (τ := (List By) × (List Hdr) × Int) (fun ⟨x52, rs53, x56⟩ => [(0, .slice A00 n00 c00), (3, .slice A5 n6 c7), (5, I64 x56)]) (fun ⟨x52, rs53, x56⟩ => [(0, .mem M0), (104, .own 22 (Lay.sz Hdr) A5 n6 c7 (cel rs53)), (109, .rows 5 (Lay.sz (BitVec 8)) (rws rs53 x52))]) (fun q57 ⟨x52, rs53, x56⟩ => m_r05_Split_l3 x00 q57 x52 x56 = some res /\ rs53.length = x52.length) ⟨x8, rs10, (0 : Int)⟩ ?_ (by simp [m_r05_Split_l3]) ?_
  ·exact ⟨h, hl12⟩
  rintro q57 ⟨x52, rs53, x56⟩ ⟨h, hl55⟩ _ k58
  unfold m_r05_Split_l3 at h
  refine sq fun _ k59 => sr fun _ k60 => mv rfl <| mv rfl <| ya (lenC (xs := x00) und_22 rfl (mM rfl hf00)) <| ya (lss rfl rfl) <| dz k60 <| cI h rfl (fun hc61 h => ?_) fun hc61 h => ?_
  ·refine ss <| k59 _ _ <| sq fun _ k62 => bl <| sr fun _ k63 => bd h fun x64 hx64 h => mv rfl <| c0 Tryz.func82 rfl (fun w hb hh => w_r05_Place (Mem.snap w) x56 hx64) <| mv rfl <| ya (extract rfl rfl) <| ya (extract rfl rfl) <| ya (extract rfl rfl) <| asn rfl <| asn rfl <| ak rfl k63 <| rd [(0, _), (104, _)] mixed fun _ k66 => ?_
   obtain ⟨x67, hx67, h⟩ := bnd h
   obtain ⟨x70, hx70, h⟩ := bnd h
   obtain ⟨x71, hx71, h⟩ := bnd h
   obtain ⟨x72, hx72, h⟩ := bnd h
   obtain ⟨x73, hx73, h⟩ := bnd h
   refine dm 0 rfl rfl <| dm 1 rfl rfl ?_
   obtain ⟨r_68, hr69⟩ := rows_idx (hs := rs53) hl55 hx67
   refine du 2 rfl (idxC (xs := rs53) sty_30 rfl rfl (rO 104 rfl) hr69) <| du 3 rfl (loadC0 (xs := rs53) scal_22 rfl (rO 104 rfl) hr69 rfl) <| dm 4 rfl rfl <| dm 5 rfl rfl <| dm 6 rfl rfl <| du 7 rfl (idxC (xs := x00) sty_22 rfl rfl (mM rfl hf00) hx70) <| du 8 rfl (loadC0 (xs := x00) scal_5 rfl (mM rfl hf00) hx70 rfl) <| on 9 <| dy rfl (idxC (xs := x67) sty_22 rfl rfl (RdT.row (k := 109) rfl hr69 hx67) hx71) <| on 10 <| WS.eff0 rfl (Eff0.storeRow 109 (hs := rs53) (e := x52) (b := x67) (a' := x70) siz_5 rfl rfl rfl rfl rfl hr69 hx67 rfl hx72 hx73) (sc (sc sn)) <| dd <| k66 _ _ <| bn <| tn <| k62 _ _ <| rg fun _ k74 => bd h fun x75 hx75 h => mv rfl <| ya (addC rfl rfl hx75) <| ak rfl k74 <| tn <| kw (k58 ⟨x73, rs53, x75⟩ ⟨h, (rows_upd hl55 hx73)⟩)
  exact xi <| te <| te <| bx <| tn <| kw (k50 ⟨x52, rs53⟩ ⟨h, hl55⟩)
 rintro ⟨x46, rs47⟩ ⟨h, hl49⟩
 unfold m_r05_Split_j2 at h
 refine sr fun _ k76 => mv rfl <| ak rfl k76 <| re <| QK.grow (HGrow.rows 109 rfl rfl rfl hl49) fun M77 ⟨hm_M77, hq78⟩ => ?_
 obtain rfl := si h
 exact rt [104] (ResIs.one rfl rfl) hm_M77 ⟨A5, n6, c7, rs47, rfl, rfl, hq78⟩
theorem w_slices_Concat_byte_byte (M0 : Mem) (A00 : Option Addr) (n00 c00 : Nat) (rs00 : List Hdr) (x00 : List (List By)) (hf00 : SlT M0 A00 n00 c00 rs00) (hq00 : Rels ((RelL (RelB (α := BitVec 8))) M0) rs00 x00) {res : (List By)} (h : m_slices_Concat_byte_byte x00 = some res) :
  Fn Tryz.prog 38 #[.slice A00 n00 c00] M0 fun r M' es => ∃ (A1 : Option Addr) (n1 c1 : Nat), ∃ rs1 : List Hdr, r = .slice A1 n1 c1 /\ es = [.own 22 (Lay.sz Hdr) A1 n1 c1 (cel rs1)] /\ Rels ((RelB (α := BitVec 8)) M') rs1 res := by
 refine Fn.intro (N := 36) Tryz.func38 rfl rfl (nle rfl) fun w0 => ?_
 unfold m_slices_Concat_byte_byte at h
 refine sr fun _ k1 => ak rfl k1 <| sr fun _ k2 => ak rfl k2 <| ct (σ := Int) (fun x3 => [(0, .slice A00 n00 c00), (3, I64 x3)]) (fun x3 => [(0, .mem M0)]) (fun x3 => m_slices_Concat_byte_byte_j0 x00 x3 = some res) (fun _ k4 => ?_) ?_
 ·refine sr fun _ k5 => mv rfl <| ya (lenD (rs := rs00) (xs := x00) (Rels.len hq00) und_49 rfl (mM rfl hf00)) <| mv rfl <| dz k5 <| bl <| lp (τ := Int × Int) (fun ⟨x6, x7⟩ => [(0, .slice A00 n00 c00), (3, I64 x6), (9, .slice A00 n00 c00), (10, I64 (x00.length : Int)), (11, I64 x7)]) (fun ⟨x6, x7⟩ => [(0, .mem M0)]) (fun q8 ⟨x6, x7⟩ => m_slices_Concat_byte_byte_l1 x00 q8 x6 x7 = some res) ⟨(0 : Int), (0 : Int)⟩ ?_ (by simp [m_slices_Concat_byte_byte_l1]) ?_
  ·exact h
  rintro q8 ⟨x6, x7⟩ h _ k9
  unfold m_slices_Concat_byte_byte_l1 at h
  refine sr fun _ k10 => ya (lss rfl rfl) <| dz k10 <| sq fun _ k11 => cI h rfl (fun hc12 h => ?_) fun hc12 h => ?_
  ·refine ss <| k11 _ _ <| sq fun _ k13 => bl <| sr fun _ k14 => ?_
   obtain ⟨x15, hx15, h⟩ := bnd h
   obtain ⟨r_16, hr17, hq18⟩ := Rels.idx hq00 hx15
   refine ya (idxC (xs := rs00) sty_49 rfl rfl (mM rfl hf00) hr17) ?_
   obtain ⟨rs19, hf20, hq21⟩ := hq18
   refine ya (loadC0 (xs := rs00) scal_30 rfl (mM rfl hf00) hr17 rfl) <| ak rfl k14 <| sr fun _ k22 => bd h fun x23 hx23 h => mv rfl <| mv rfl <| ya (lenD (rs := rs19) (xs := x15) (Rels.len hq21) und_30 rfl (mM rfl hf20)) <| ya (addC rfl rfl hx23) <| ak rfl k22 <| sr fun _ k24 => mv rfl <| ya (lss rfl rfl) <| dn <| k24 _ _ ?_
   by_cases hc25 : x23 < (0 : Int)
   ·replace h := of_t hc25 h
    cases h
   replace h := of_f hc25 h
   refine WC.condFe rfl (decide_eq_false hc25) <| WC.skip <| bn <| tn <| k13 _ _ <| rg fun _ k26 => bd h fun x27 hx27 h => ya (addC rfl rfl hx27) <| mv rfl <| dz k26 <| tn <| kw (k9 ⟨x23, x27⟩ h)
  exact xi <| te <| te <| bx <| tn <| kw (k4 x6 h)
 rintro x3 h
 unfold m_slices_Concat_byte_byte_j0 at h
 refine ctr (σ := (Option Addr) × Nat × Nat × (List By) × (List Hdr)) (fun ⟨A30, n31, c32, x33, rs34⟩ => [(0, .slice A00 n00 c00), (6, .slice A30 n31 c32)]) (fun ⟨A30, n31, c32, x33, rs34⟩ => [(0, .mem M0), (129, .own 22 (Lay.sz Hdr) A30 n31 c32 (cel rs34))]) (fun ⟨A30, n31, c32, x33, rs34⟩ => m_slices_Concat_byte_byte_j2 x00 x33 = some res /\ Rels ((RelB (α := BitVec 8)) M0) rs34 x33) (fun _ k36 => ?_) ?_
 ·refine mv rfl <| WL.inl (by decide) Tryz.func80 nm_80 rfl rfl (Tri.intro (N := 27) Tryz.func80 rfl rfl (nle rfl) ?_)
  refine sr fun _ k38 => ak rfl k38 <| sq fun _ k39 => sr fun _ k40 => mv rfl <| ya (lss rfl rfl) <| dn <| k40 _ _ ?_
  by_cases hc41 : x3 < (0 : Int)
  ·replace h := of_t hc41 h
   cases h
  replace h := of_f hc41 h
  refine WC.condFe rfl (decide_eq_false hc41) <| ss <| k39 _ _ <| sq fun _ k42 => sr fun _ k43 => ?_
  obtain ⟨x44, hx44, h⟩ := bnd h
  obtain ⟨x45, hx45, h⟩ := bnd h
  refine mv rfl <| mv rfl <| ya (capNil und_30 rfl) <| mv rfl <| ya (lenNil und_30 rfl) <| ya (subC rfl rfl hx44) <| ya (subC rfl rfl hx45) <| ak rfl k43 <| sr fun _ k46 => mv rfl <| ya (gtr rfl rfl) <| dz k46 <| cI h rfl (fun hc47 h => ?_) fun hc47 h => ?_
  ·refine rg fun _ k48 => ?_
   obtain ⟨x50, hx50, h⟩ := bnd h
   obtain ⟨x55, hx55, h⟩ := bnd h
   refine mv rfl <| mv rfl <| ya (capNil und_30 rfl) <| ya (sliceNil (α := Hdr) (h := 0) sty_30 rfl rfl) <| mv rfl ?_
   obtain ⟨hu53, hq54⟩ := Rels.mks (R := (RelB (α := BitVec 8)) M0) (r := (⟨none, 0, 0⟩ : Hdr)) hx50 RelB.nil
   refine WL.eff (by decide) (Eff.appendNZ 149 (⟨none, 0, 0⟩ : Hdr) sty_30 rfl rfl und_3 rfl rfl rfl (by omega) hu53) ?_
   rintro _ _ ⟨A51, c52, rfl, rfl⟩
   refine mv rfl <| ya (lenNil und_30 rfl) ?_
   obtain ⟨rs56, hs57, hq58⟩ := Rels.slc hq54 hx55
   exact ya (sliceHC (xs := (List.replicate (x45).toNat (⟨none, 0, 0⟩ : Hdr))) sty_30 rfl rfl (rO 149 rfl) hs57) <| WL.hs (HStep.cutTo (xs := (List.replicate (x45).toNat (⟨none, 0, 0⟩ : Hdr))) 149 rfl hs57) <| ak rfl k48 <| tn <| k42 _ _ <| sr fun _ k59 => mv rfl <| ak rfl k59 <| re <| Ret.go (ResIs.one rfl rfl) <| asn rfl <| WL.done <| KK.move 149 129 rfl rfl <| kw (k36 ⟨A51, rs56.length, c52, x55, rs56⟩ ⟨h, hq58⟩)
  exact ss <| k42 _ _ <| sr fun _ k60 => mv rfl <| ak rfl k60 <| re <| Ret.go (ResIs.one rfl rfl) <| asn rfl <| WL.done <| KK.nilOwn 129 22 (Lay.sz Hdr) none <| kw (k36 ⟨none, 0, 0, ([] : List By), ([] : List Hdr)⟩ ⟨h, (Rels.nil (R := (RelB (α := BitVec 8)) M0))⟩)
 rintro ⟨A30, n31, c32, x33, rs34⟩ ⟨h, hq35⟩
 unfold m_slices_Concat_byte_byte_j2 at h
 refine ct (σ := (Option Addr) × Nat × Nat × (List By) × (List Hdr)) (fun ⟨A61, n62, c63, x64, rs65⟩ => [(6, .slice A61 n62 c63)]) (fun ⟨A61, n62, c63, x64, rs65⟩ => [(0, .mem M0), (129, .own 22 (Lay.sz Hdr) A61 n62 c63 (cel rs65))]) (fun ⟨A61, n62, c63, x64, rs65⟩ => m_slices_Concat_byte_byte_j3 x64 = some res /\ Rels ((RelB (α := BitVec 8)) M0) rs65 x64) (fun _ k67 => ?_) ?_
 ·refine sr fun _ k68 => mv rfl <| ya (lenD (rs := rs00) (xs := x00) (Rels.len hq00) und_49 rfl (mM rfl hf00)) <| mv rfl <| dz k68 <| bl <| lp (τ := (Option Addr) × Nat × Nat × (List By) × (List Hdr) × Int) (fun ⟨A69, n70, c71, x72, rs73, x75⟩ => [(6, .slice A69 n70 c71), (25, .slice A00 n00 c00), (26, I64 (x00.length : Int)), (27, I64 x75)]) (fun ⟨A69, n70, c71, x72, rs73, x75⟩ => [(0, .mem M0), (129, .own 22 (Lay.sz Hdr) A69 n70 c71 (cel rs73))]) (fun q76 ⟨A69, n70, c71, x72, rs73, x75⟩ => m_slices_Concat_byte_byte_l4 x00 q76 x72 x75 = some res /\ Rels ((RelB (α := BitVec 8)) M0) rs73 x72) ⟨A30, n31, c32, x33, rs34, (0 : Int)⟩ ?_ (by simp [m_slices_Concat_byte_byte_l4]) ?_
  ·exact ⟨h, hq35⟩
  rintro q76 ⟨A69, n70, c71, x72, rs73, x75⟩ ⟨h, hq74⟩ _ k77
  unfold m_slices_Concat_byte_byte_l4 at h
  refine sr fun _ k78 => ya (lss rfl rfl) <| dz k78 <| sq fun _ k79 => cI h rfl (fun hc80 h => ?_) fun hc80 h => ?_
  ·refine ss <| k79 _ _ <| sq fun _ k81 => bl <| sr fun _ k82 => ?_
   obtain ⟨x83, hx83, h⟩ := bnd h
   obtain ⟨r_84, hr85, hq86⟩ := Rels.idx hq00 hx83
   refine ya (idxC (xs := rs00) sty_49 rfl rfl (mM rfl hf00) hr85) ?_
   obtain ⟨rs87, hf88, hq89⟩ := hq86
   refine ya (loadC0 (xs := rs00) scal_30 rfl (mM rfl hf00) hr85 rfl) <| ak rfl k82 <| rg fun _ k90 => bd h fun x91 hx91 h => mv rfl <| mv rfl ?_
   obtain ⟨hu94, hq95⟩ := Rels.apd hq74 hq89 hx91
   refine ap 129 (xs := rs73) (ys := rs87) sty_30 rfl rfl rfl (mM rfl hf88) hu94 fun A92 c93 => ak rfl k90 <| bn <| tn <| k81 _ _ <| rg fun _ k96 => bd h fun x97 hx97 h => ya (addC rfl rfl hx97) <| mv rfl <| dz k96 <| tn <| kw (k77 ⟨A92, (rs73 ++ rs87).length, c93, x91, (rs73 ++ rs87), x97⟩ ⟨h, hq95⟩)
  exact xi <| te <| te <| bx <| tn <| kw (k67 ⟨A69, n70, c71, x72, rs73⟩ ⟨h, hq74⟩)
 rintro ⟨A61, n62, c63, x64, rs65⟩ ⟨h, hq66⟩
 unfold m_slices_Concat_byte_byte_j3 at h
 refine sr fun _ k98 => mv rfl <| ak rfl k98 <| re ?_
 obtain rfl := si h
 exact rt [129] (ResIs.one rfl rfl) (Ext.refl _ _) ⟨A61, n62, c63, rs65, rfl, rfl, hq66⟩
theorem ws_r03_Apply (Mr M0 : Mem) (u0 u1 : Int) (A00_2 : Option Addr) (n00_2 c00_2 : Nat) (u2 : By) (hf00_2 : SlT M0 A00_2 n00_2 c00_2 u2) (A01 : Option Addr) (n01 c01 : Nat) (rs01 : List Hdr) (x01 : List By) (hf01 : SlT Mr A01 n01 c01 rs01) (hq01 : Rels ((RelB (α := BitVec 8)) M0) rs01 x01) {res : (List By) × Int} (h : m_r03_Apply u0 u1 u2 x01 = some res) :
  FnS Tryz.prog 91 #[.agg ([I64 u0, I64 u1, .slice A00_2 n00_2 c00_2] : List Value).toArray, .slice A01 n01 c01] Mr M0 fun r M' es => ∃ (A1 : Option Addr) (n1 c1 : Nat), ∃ rs1 : List Hdr, r = .tuple #[.slice A1 n1 c1, I64 res.2] /\ es = [.own 22 (Lay.sz Hdr) A1 n1 c1 (cel rs1)] /\ Rels ((RelB (α := BitVec 8)) M') rs1 res.1 := by
 refine FnS.intro (N := 78) Tryz.func91 rfl rfl (nle rfl) fun w0 => ?_
 unfold m_r03_Apply at h
 refine sr fun _ k1 => bb 102 [I64 u0, I64 u1, .slice A00_2 n00_2 c00_2] rfl fun g2 => asn rfl <| ak rfl k1 <| ct (σ := Unit) (fun _ => [(1, .slice A01 n01 c01), (2, pv g2)]) (fun _ => [(0, .mem M0), (7, .mem Mr), (102, .blk g2 140 [I64 u0, I64 u1, .slice A00_2 n00_2 c00_2])]) (fun _ => m_r03_Apply_j0 u0 u1 u2 x01 = some res) (fun _ k3 => ?_) ?_
 ·refine sr fun _ k4 => bd h fun x5 hx5 h => ya (loadBM (k := 102) agg_140 rfl rfl rfl) <| c0 Tryz.func115 rfl (fun w hb hh => w_r03_Valid (Mem.snap w) u0 u1 A00_2 n00_2 c00_2 _ (sM rfl hf00_2 w hb hh) hx5) <| ya (notB rfl) <| mv rfl <| spn h not_f (fun q => not_t (Bool.eq_false_iff.2 q)) (fun hc7 h => ?_) fun hc7 h => ?_
  ·refine mvg rfl <| yg (lenD (rs := rs01) (xs := x01) (Rels.len hq01) und_30 rfl (RdH.memM (k := 7) rfl hf01)) <| yg (fieldAddr Tryz.underlying140 rfl nz_3 rfl rfl) <| yg (loadB (k := 102) scal_3 rfl rfl rfl) <| yg (neqI rfl rfl) <| pf rfl rfl <| dz k4 <| cnn h rfl bne_eq_false_iff_eq.2 bne_iff_ne.2 (fun hc8 h => ?_) fun hc8 h => ?_
   ·exact WC.skip <| tn <| kw (k3 () h)
   refine sr fun _ k9 => asn rfl <| ak rfl k9 <| re <| tr <| QK.nilOwn 110 22 (Lay.sz Hdr) none ?_
   obtain rfl := si h
   exact rt [110] (ResIs.two rfl rfl rfl) (Ext.refl _ _) ⟨none, 0, 0, ([] : List Hdr), rfl, rfl, (Rels.nil (R := (RelB (α := BitVec 8)) M0))⟩
  refine sk <| sk <| sk <| sk <| sk <| pt rfl rfl <| dz k4 <| cdT rfl <| sr fun _ k11 => asn rfl <| ak rfl k11 <| re <| tr <| QK.nilOwn 112 22 (Lay.sz Hdr) none ?_
  obtain rfl := si h
  exact rt [112] (ResIs.two rfl rfl rfl) (Ext.refl _ _) ⟨none, 0, 0, ([] : List Hdr), rfl, rfl, (Rels.nil (R := (RelB (α := BitVec 8)) M0))⟩
 rintro _ h
 unfold m_r03_Apply_j0 at h
 refine ct (σ := Unit) (fun _ => [(1, .slice A01 n01 c01), (2, pv g2)]) (fun _ => [(0, .mem M0), (7, .mem Mr), (102, .blk g2 140 [I64 u0, I64 u1, .slice A00_2 n00_2 c00_2])]) (fun _ => m_r03_Apply_j1 u0 u1 u2 x01 = some res) (fun _ k13 => ?_) ?_
 ·refine sr fun _ k14 => ak rfl k14 <| bl <| lp (τ := Int) (fun x15 => [(1, .slice A01 n01 c01), (2, pv g2), (6, I64 x15)]) (fun x15 => [(0, .mem M0), (7, .mem Mr), (102, .blk g2 140 [I64 u0, I64 u1, .slice A00_2 n00_2 c00_2])]) (fun q16 x15 => m_r03_Apply_l2 u0 u1 u2 x01 q16 x15 = some res) ((0 : Int)) ?_ (by simp [m_r03_Apply_l2]) ?_
  ·exact h
  rintro q16 x15 h _ k17
  unfold m_r03_Apply_l2 at h
  refine sq fun _ k18 => sr fun _ k19 => mv rfl <| mv rfl <| ya (lenD (rs := rs01) (xs := x01) (Rels.len hq01) und_30 rfl (RdH.memM (k := 7) rfl hf01)) <| ya (lss rfl rfl) <| dz k19 <| cI h rfl (fun hc20 h => ?_) fun hc20 h => ?_
  ·refine ss <| k18 _ _ <| sq fun _ k21 => bl <| sd [(0, _), (7, _), (102, _)] mixed fun _ k22 => ?_
   obtain ⟨x23, hx23, h⟩ := bnd h
   obtain ⟨x27, hx27, h⟩ := bnd h
   refine dm 0 rfl rfl <| dm 1 rfl rfl ?_
   obtain ⟨r_24, hr25, hq26⟩ := Rels.idx hq01 hx23
   refine du 2 rfl (idxC (xs := rs01) sty_30 rfl rfl (RdH.memM (k := 7) rfl hf01) hr25) <| du 3 rfl (loadC0 (xs := rs01) scal_22 rfl (RdH.memM (k := 7) rfl hf01) hr25 rfl) <| du 4 rfl (lenC (xs := x23) und_22 rfl (mM rfl hq26)) <| dm 5 rfl rfl ?_
   obtain ⟨r_28, hr29, hq30⟩ := Rels.idx hq01 hx27
   refine du 6 rfl (idxC (xs := rs01) sty_30 rfl rfl (RdH.memM (k := 7) rfl hf01) hr29) <| du 7 rfl (loadC0 (xs := rs01) scal_22 rfl (RdH.memM (k := 7) rfl hf01) hr29 rfl) <| du 8 rfl (lenC (xs := x27) und_22 rfl (mM rfl hq30)) <| du 9 rfl (neqI rfl rfl) <| dd <| k22 _ _ <| cnn h rfl bne_eq_false_iff_eq.2 bne_iff_ne.2 (fun hc31 h => ?_) fun hc31 h => ?_
   ·refine WC.skip <| bn <| tn <| k21 _ _ <| rg fun _ k32 => bd h fun x33 hx33 h => mv rfl <| ya (addC rfl rfl hx33) <| ak rfl k32 <| tn <| kw (k17 (x33) h)
   refine sr fun _ k34 => asn rfl <| ak rfl k34 <| re <| br <| tr <| tr <| br <| tr <| QK.nilOwn 135 22 (Lay.sz Hdr) none ?_
   obtain rfl := si h
   exact rt [135] (ResIs.two rfl rfl rfl) (Ext.refl _ _) ⟨none, 0, 0, ([] : List Hdr), rfl, rfl, (Rels.nil (R := (RelB (α := BitVec 8)) M0))⟩
  exact xi <| te <| te <| bx <| tn <| kw (k13 () h)
 rintro _ h
 unfold m_r03_Apply_j1 at h
 refine sr fun _ k36 => ak rfl k36 <| ct (σ := Mem × (Option Addr) × Nat × Nat × (List By) × (List Hdr)) (fun ⟨M37, A40, n41, c42, x43, rs44⟩ => [(7, .slice A40 n41 c42)]) (fun ⟨M37, A40, n41, c42, x43, rs44⟩ => [(0, .mem M37), (7, .mem Mr), (139, .own 22 (Lay.sz Hdr) A40 n41 c42 (cel rs44))]) (fun ⟨M37, A40, n41, c42, x43, rs44⟩ => m_r03_Apply_j3 x43 = some res /\ Ext w0.heap.size M0 M37 /\ Rels ((RelB (α := BitVec 8)) M37) rs44 x43) (fun _ k46 => ?_) ?_
 ·refine sr fun _ k47 => ak rfl k47 <| bl <| WC.nilOwn 150 22 (Lay.sz Hdr) none <| lp (τ := Mem × (Option Addr) × Nat × Nat × (List By) × (List Hdr) × Int) (fun ⟨M48, A51, n52, c53, x54, rs55, x57⟩ => [(1, .slice A01 n01 c01), (2, pv g2), (7, .slice A51 n52 c53), (8, I64 x57)]) (fun ⟨M48, A51, n52, c53, x54, rs55, x57⟩ => [(0, .mem M48), (7, .mem Mr), (102, .blk g2 140 [I64 u0, I64 u1, .slice A00_2 n00_2 c00_2]), (150, .own 22 (Lay.sz Hdr) A51 n52 c53 (cel rs55))]) (fun q58 ⟨M48, A51, n52, c53, x54, rs55, x57⟩ => m_r03_Apply_l4 u0 u1 u2 x01 q58 x54 x57 = some res /\ Ext w0.heap.size M0 M48 /\ Rels ((RelB (α := BitVec 8)) M48) rs55 x54) ⟨M0, none, 0, 0, ([] : List By), ([] : List Hdr), (0 : Int)⟩ ?_ (by simp [m_r03_Apply_l4]) ?_
  ·exact ⟨h, (Ext.refl _ _), (Rels.nil (R := (RelB (α := BitVec 8)) M0))⟩
  rintro q58 ⟨M48, A51, n52, c53, x54, rs55, x57⟩ ⟨h, hm_M48, hq56⟩ _ k59
  unfold m_r03_Apply_l4 at h
  refine sq fun _ k60 => sr fun _ k61 => mv rfl <| ya (fieldAddr Tryz.underlying140 rfl nz_3 rfl rfl) <| ya (loadB (k := 102) scal_3 rfl rfl rfl) <| ya (lss rfl rfl) <| dz k61 <| cI h rfl (fun hc62 h => ?_) fun hc62 h => ?_
  ·refine ss <| k60 _ _ <| ct (σ := Mem × (Option Addr) × Nat × Nat × (List By) × (List Hdr)) (fun ⟨M63, A64, n65, c66, x67, rs68⟩ => [(1, .slice A01 n01 c01), (2, pv g2), (7, .slice A64 n65 c66), (8, I64 x57)]) (fun ⟨M63, A64, n65, c66, x67, rs68⟩ => [(0, .mem M63), (7, .mem Mr), (102, .blk g2 140 [I64 u0, I64 u1, .slice A00_2 n00_2 c00_2]), (150, .own 22 (Lay.sz Hdr) A64 n65 c66 (cel rs68))]) (fun ⟨M63, A64, n65, c66, x67, rs68⟩ => m_r03_Apply_j5 x57 (m_r03_Apply_l4 u0 u1 u2 x01 q58) x67 = some res /\ Ext w0.heap.size M48 M63 /\ Rels ((RelB (α := BitVec 8)) M63) rs68 x67) (fun _ k70 => ?_) ?_
   ·refine bl <| sr fun _ k71 => ?_
    obtain ⟨x72, hx72, h⟩ := bnd h
    obtain ⟨x77, hx77, h⟩ := bnd h
    refine mv rfl ?_
    obtain ⟨r_73, hr74, hq75⟩ := Rels.idx (Rels.lift hq01 hm_M48) hx72
    refine ya (idxC (xs := rs01) sty_30 rfl rfl (RdH.memM (k := 7) rfl hf01) hr74) <| ya (loadC0 (xs := rs01) scal_22 rfl (RdH.memM (k := 7) rfl hf01) hr74 rfl) <| ya (lenC (xs := x72) und_22 rfl (mM rfl hq75)) <| WL.eff (by decide) (Eff.makeC 176 0#8 sty_22 rfl rfl rfl rfl rfl rfl hx77) ?_
    rintro _ _ ⟨g76, rfl, rfl⟩
    refine ak rfl k71 <| ct (σ := (Option Addr) × Nat × Nat × By) (fun ⟨A80, n81, c82, x83⟩ => [(1, .slice A01 n01 c01), (2, pv g2), (7, .slice A51 n52 c53), (8, I64 x57), (9, .slice A80 n81 c82)]) (fun ⟨A80, n81, c82, x83⟩ => [(0, .mem M48), (7, .mem Mr), (102, .blk g2 140 [I64 u0, I64 u1, .slice A00_2 n00_2 c00_2]), (150, .own 22 (Lay.sz Hdr) A51 n52 c53 (cel rs55)), (179, .own 5 (Lay.sz (BitVec 8)) A80 n81 c82 (cel x83))]) (fun ⟨A80, n81, c82, x83⟩ => m_r03_Apply_j6 x54 x57 (m_r03_Apply_l4 u0 u1 u2 x01 q58) x83 = some res) (fun _ k84 => ?_) ?_
    ·refine sr fun _ k85 => ak rfl k85 <| bl <| WC.move 176 187 rfl rfl <| lp (τ := (Option Addr) × Nat × Nat × By × Int) (fun ⟨A88, n89, c90, x91, x92⟩ => [(1, .slice A01 n01 c01), (2, pv g2), (7, .slice A51 n52 c53), (8, I64 x57), (9, .slice A88 n89 c90), (10, I64 x92)]) (fun ⟨A88, n89, c90, x91, x92⟩ => [(0, .mem M48), (7, .mem Mr), (102, .blk g2 140 [I64 u0, I64 u1, .slice A00_2 n00_2 c00_2]), (150, .own 22 (Lay.sz Hdr) A51 n52 c53 (cel rs55)), (187, .own 5 (Lay.sz (BitVec 8)) A88 n89 c90 (cel x91))]) (fun q93 ⟨A88, n89, c90, x91, x92⟩ => m_r03_Apply_l7 u1 u2 x01 x54 x57 (m_r03_Apply_l4 u0 u1 u2 x01 q58) q93 x91 x92 = some res) ⟨(some ⟨g76, 0, none⟩), x77.length, x77.length, x77, (0 : Int)⟩ ?_ (by simp [m_r03_Apply_l7]) ?_
     ·exact h
     rintro q93 ⟨A88, n89, c90, x91, x92⟩ h _ k94
     unfold m_r03_Apply_l7 at h
     refine sq fun _ k95 => sr fun _ k96 => mv rfl <| ya (fieldAddr Tryz.underlying140 rfl nz_3 rfl rfl) <| ya (loadB (k := 102) scal_3 rfl rfl rfl) <| ya (lss rfl rfl) <| dz k96 <| cI h rfl (fun hc97 h => ?_) fun hc97 h => ?_
     ·refine ss <| k95 _ _ <| sq fun _ k98 => bl <| rd [(0, _), (7, _), (102, _), (150, _), (187, _)] mixed fun _ k99 => ?_
      obtain ⟨x100, hx100, h⟩ := bnd h
      obtain ⟨x104, hx104, h⟩ := bnd h
      obtain ⟨x105, hx105, h⟩ := bnd h
      obtain ⟨x106, hx106, h⟩ := bnd h
      obtain ⟨x107, hx107, h⟩ := bnd h
      refine dm 0 rfl rfl <| dm 1 rfl rfl <| dm 2 rfl rfl ?_
      obtain ⟨r_101, hr102, hq103⟩ := Rels.idx (Rels.lift hq01 hm_M48) hx100
      refine du 3 rfl (idxC (xs := rs01) sty_30 rfl rfl (RdH.memM (k := 7) rfl hf01) hr102) <| du 4 rfl (loadC0 (xs := rs01) scal_22 rfl (RdH.memM (k := 7) rfl hf01) hr102 rfl) <| du 5 rfl (fieldAddr Tryz.underlying140 rfl nz_22 rfl rfl) <| du 6 rfl (loadB (k := 102) scal_22 rfl rfl rfl) <| dm 7 rfl rfl <| du 8 rfl (fieldAddr Tryz.underlying140 rfl nz_3 rfl rfl) <| du 9 rfl (loadB (k := 102) scal_3 rfl rfl rfl) <| du 10 rfl (mulC rfl rfl hx104) <| dm 11 rfl rfl <| du 12 rfl (addC rfl rfl hx105) <| du 13 rfl (idxC (xs := u2) sty_22 rfl rfl (mM rfl (SlRc.lift hf00_2 hm_M48)) hx106) <| du 14 rfl (loadC0 (xs := u2) scal_5 rfl (mM rfl (SlRc.lift hf00_2 hm_M48)) hx106 rfl) <| on 15 <| WS.eff rfl (by decide) (Eff.callS 211 rfl Tryz.func122 nm_122 rfl rfl (fun w hb hh => w_r02_MulAdd (Mem.snap w) A88 n89 c90 _ (RdH.sn (rO 187 rfl) w hb hh) r_101.A r_101.n r_101.c _ (sM rfl hq103 w hb hh) x106 hx107)) ?_
      rintro _ _ ⟨_, ⟨A112, n113, c114, rfl, rfl⟩, rfl⟩
      refine aq ?_
      refine dm 16 rfl rfl <| du 17 rfl (extract rfl rfl) <| du 18 rfl (extract rfl rfl) <| du 19 rfl (Yld.assign rfl) <| dd <| k99 _ _ <| bn <| tn <| k98 _ _ <| rg fun _ k115 => bd h fun x116 hx116 h => mv rfl <| ya (addC rfl rfl hx116) <| ak rfl k115 <| tn <| KK.move 211 187 rfl rfl <| kw (k94 ⟨A112, n113, c114, x107.1, x116⟩ h)
     exact xi <| te <| te <| bx <| tn <| KK.move 187 179 rfl rfl <| kw (k84 ⟨A88, n89, c90, x91⟩ h)
    rintro ⟨A80, n81, c82, x83⟩ h
    unfold m_r03_Apply_j6 at h
    refine rg fun _ k117 => bd h fun x122 hx122 h => mv rfl <| mv rfl <| WL.freeze 179 rfl rfl rfl fun M119 hm_M119 hf120 => ?_
    have hq121 : Rels ((RelB (α := BitVec 8)) M119) ([(⟨A80, n81, c82⟩ : Hdr)] : List Hdr) ([x83] : List By) := (Rels.cons hf120 Rels.nil)
    refine WL.eff (by decide) (Eff.buildC 218 ([(⟨A80, n81, c82⟩ : Hdr)] : List Hdr) sty_30 rfl rfl rfl rfl rfl (by decide)) ?_
    rintro _ _ ⟨g118, rfl, rfl⟩
    obtain ⟨hu125, hq126⟩ := Rels.apd (Rels.lift hq56 hm_M119) hq121 hx122
    exact ap 150 (xs := rs55) (ys := ([(⟨A80, n81, c82⟩ : Hdr)] : List Hdr)) sty_30 rfl rfl rfl (rO 218 rfl) hu125 fun A123 c124 => ak rfl k117 <| bn <| tn <| kw (k70 ⟨M119, A123, (rs55 ++ ([(⟨A80, n81, c82⟩ : Hdr)] : List Hdr)).length, c124, x122, (rs55 ++ ([(⟨A80, n81, c82⟩ : Hdr)] : List Hdr))⟩ ⟨h, hm_M119, hq126⟩)
   rintro ⟨M63, A64, n65, c66, x67, rs68⟩ ⟨h, hm_M63, hq69⟩
   unfold m_r03_Apply_j5 at h
   refine rg fun _ k127 => bd h fun x128 hx128 h => mv rfl <| ya (addC rfl rfl hx128) <| ak rfl k127 <| tn <| kw (k59 ⟨M63, A64, n65, c66, x67, rs68, x128⟩ ⟨h, (Ext.trans hm_M48 hm_M63), hq69⟩)
  exact xi <| te <| te <| bx <| tn <| KK.move 150 139 rfl rfl <| kw (k46 ⟨M48, A51, n52, c53, x54, rs55⟩ ⟨h, hm_M48, hq56⟩)
 rintro ⟨M37, A40, n41, c42, x43, rs44⟩ ⟨h, hm_M37, hq45⟩
 unfold m_r03_Apply_j3 at h
 refine sr fun _ k129 => mv rfl <| asn rfl <| ak rfl k129 <| re ?_
 obtain rfl := si h
 exact rt [139] (ResIs.two rfl rfl rfl) hm_M37 ⟨A40, n41, c42, rs44, rfl, rfl, hq45⟩
theorem ws_r04_all (Mr M0 : Mem) (A00 : Option Addr) (n00 c00 : Nat) (rs00 : List Hdr) (x00 : List By) (hf00 : SlT Mr A00 n00 c00 rs00) (hq00 : Rels ((RelB (α := BitVec 8)) M0) rs00 x00) {res : (List By)} (h : m_r04_all x00 = some res) :
  FnS Tryz.prog 84 #[.slice A00 n00 c00] Mr M0 fun r M' es => ∃ (A1 : Option Addr) (n1 c1 : Nat), ∃ rs1 : List Hdr, r = .slice A1 n1 c1 /\ es = [.own 22 (Lay.sz Hdr) A1 n1 c1 (cel rs1)] /\ Rels ((RelB (α := BitVec 8)) M') rs1 res := by
 refine FnS.intro (N := 12) Tryz.func84 rfl rfl (nle rfl) fun w0 => ?_
 unfold m_r04_all at h
 refine sr fun _ k1 => ak rfl k1 <| sr fun _ k2 => ?_
 obtain ⟨x3, hx3, h⟩ := bnd h
 obtain ⟨x11, hx11, h⟩ := bnd h
 refine c1 107 Tryz.func89 rfl (fun w hb hh => w_r04_Code (Mem.snap w) hx3) fun A8 n9 c10 => mv rfl <| WL.freeze 107 rfl rfl rfl fun M23 hm_M23 hf24 => WL.eff (by decide) (Eff.callMS 117 rfl Tryz.func91 nm_91 rfl rfl rfl (fun w hb hh => ws_r03_Apply _ _ x3.1 x3.2.1 A8 n9 c10 _ hf24 A00 n00 c00 rs00 _ (RdH.mem_less (k := 7) rfl rfl rfl hf00 w hb hh) (Rels.lift hq00 hm_M23) hx11)) ?_
 rintro _ _ ⟨M25, _, ⟨A26, n27, c28, rs29, rfl, rfl, hq30⟩, hm_M25, rfl⟩
 refine mv rfl <| ya (extract rfl rfl) <| ya (extract rfl rfl) <| asn rfl <| ak rfl k2 <| sr fun _ k31 => mv rfl <| ak rfl k31 <| re ?_
 obtain rfl := si h
 exact rt [117] (ResIs.one rfl rfl) (Ext.trans hm_M23 hm_M25) ⟨A26, n27, c28, rs29, rfl, rfl, hq30⟩
theorem ws_r04_Encode (Mr M0 : Mem) (A00 : Option Addr) (n00 c00 : Nat) (rs00 : List Hdr) (x00 : List By) (hf00 : SlT Mr A00 n00 c00 rs00) (hq00 : Rels ((RelB (α := BitVec 8)) M0) rs00 x00) {res : (List By) × Int} (h : m_r04_Encode x00 = some res) :
  FnS Tryz.prog 41 #[.slice A00 n00 c00] Mr M0 fun r M' es => ∃ (A1 : Option Addr) (n1 c1 : Nat), ∃ rs1 : List Hdr, r = .tuple #[.slice A1 n1 c1, I64 res.2] /\ es = [] /\ SlT M' A1 n1 c1 rs1 /\ Rels ((RelB (α := BitVec 8)) M') rs1 res.1 := by
 refine FnS.intro (N := 10) Tryz.func41 rfl rfl (nle rfl) fun w0 => ?_
 unfold m_r04_Encode at h
 refine sr fun _ k1 => asn rfl <| ak rfl k1 <| sq fun _ k2 => sr fun _ k3 => bd h fun x4 hx4 h => mv rfl <| c0 Tryz.func83 rfl (fun w hb hh => w_r04_Level (Mem.snap w) A00 n00 c00 rs00 _ (RdH.sn (RdH.memM (k := 7) rfl hf00) w hb hh) (Rels.sn hq00 (hh.sat 0 _ rfl)) (4 : Int) hx4) <| ya (notB rfl) <| dz k3 <| cnn h rfl not_f (fun q => not_t (Bool.eq_false_iff.2 q)) (fun hc6 h => ?_) fun hc6 h => ?_
 ·refine ss <| k2 _ _ <| sr fun _ k7 => ?_
  obtain ⟨x8, hx8, h⟩ := bnd h
  obtain ⟨x26, hx26, h⟩ := bnd h
  refine mv rfl <| WL.eff (by decide) (Eff.callMS 114 rfl Tryz.func84 nm_84 rfl rfl rfl (fun w hb hh => ws_r04_all _ _ A00 n00 c00 rs00 _ (RdH.mem_less (k := 7) rfl rfl rfl hf00 w hb hh) hq00 hx8)) ?_
  rintro _ _ ⟨M20, _, ⟨A21, n22, c23, rs24, rfl, rfl, hq25⟩, hm_M20, rfl⟩
  obtain ⟨rs27, hs28, hq29⟩ := Rels.slc hq25 hx26
  rw [<- Rels.len hq25] at hs28
  refine ya (sliceLC (xs := rs24) sty_30 rfl rfl (rO 114 rfl) hs28) <| asn rfl <| ak rfl k7 <| re <| QK.freeze 114 rfl rfl rfl fun M30 hm_M30 hf31 => ?_
  obtain rfl := si h
  exact rt [] (ResIs.two rfl rfl rfl) (Ext.trans hm_M20 hm_M30) ⟨(subA A21 c23 ((4 : Int)).toNat (Lay.sz Hdr)), rs27.length, (c23 - ((4 : Int)).toNat), rs27, rfl, rfl, (SlT.slc hf31 hs28), (Rels.lift hq29 hm_M30)⟩
 refine sr fun _ k32 => asn rfl <| ak rfl k32 <| re <| tr ?_
 obtain rfl := si h
 exact rt [] (ResIs.two rfl rfl rfl) (Ext.refl _ _) ⟨none, 0, 0, ([] : List Hdr), rfl, rfl, SlT.nil, (Rels.nil (R := (RelB (α := BitVec 8)) M0))⟩
theorem w_r17_Make (M0 : Mem) (A00 : Option Addr) (n00 c00 : Nat) (x00 : By) (hf00 : SlT M0 A00 n00 c00 x00) (v0 v1 v2 : Int) (A02 : Option Addr) (n02 c02 : Nat) (x02 : List Sapi_Item) (hf02 : SlT M0 A02 n02 c02 x02) {res : (List By) × Int × Int × Int × Int × (BitVec 32) × (BitVec 32) × (BitVec 32) × (BitVec 32) × (BitVec 32) × (BitVec 32) × (List Sapi_Item) × Int} (h : m_r17_Make x00 v0 v1 v2 x02 = some res) :
  Fn Tryz.prog 12 #[.slice A00 n00 c00, .agg ([I64 v0, I64 v1, I64 v2] : List Value).toArray, .slice A02 n02 c02] M0 fun r M' es => ∃ (A1 : Option Addr) (n1 c1 : Nat), ∃ rs1 : List Hdr, ∃ (A2 : Option Addr) (n2 c2 : Nat), r = .tuple #[.slice A1 n1 c1, .agg ([I64 res.2.1, I64 res.2.2.1, I64 res.2.2.2.1, I64 res.2.2.2.2.1, U32 res.2.2.2.2.2.1, U32 res.2.2.2.2.2.2.1, U32 res.2.2.2.2.2.2.2.1, U32 res.2.2.2.2.2.2.2.2.1, U32 res.2.2.2.2.2.2.2.2.2.1, U32 res.2.2.2.2.2.2.2.2.2.2.1, .slice A2 n2 c2] : List Value).toArray, I64 res.2.2.2.2.2.2.2.2.2.2.2.2] /\ es = [.own 22 (Lay.sz Hdr) A1 n1 c1 (cel rs1), .own 59 (Lay.sz Sapi_Item) A2 n2 c2 (cel res.2.2.2.2.2.2.2.2.2.2.2.1)] /\ Rels ((RelB (α := BitVec 8)) M') rs1 res.1 := by
 refine Fn.intro (N := 49) Tryz.func12 rfl rfl (nle rfl) fun w0 => ?_
 unfold m_r17_Make at h
 refine sr fun _ k1 => bb 102 [I64 v0, I64 v1, I64 v2] rfl fun g2 => asn rfl <| al 103 zr_38 fun g3 => ak rfl k1 <| ctd [(0, _), (102, _), (103, _)] (σ := Nat × (Option Addr) × Nat × Nat × (List Sapi_Item)) (fun ⟨g4, A7, n8, c9, x10⟩ => [(0, .slice A00 n00 c00), (7, pv g3), (9, pv g4)]) (fun ⟨g4, A7, n8, c9, x10⟩ => [(0, .mem M0), (103, .blk g3 38 [I64 (0 : Int), I64 (0 : Int), I64 (0 : Int), I64 (0 : Int), U32 0#32, U32 0#32, U32 0#32, U32 0#32, U32 0#32, U32 0#32, .slice none 0 0]), (104, .blk g4 38 [I64 v0, I64 v1, I64 v2, I64 (x00.length : Int), U32 0#32, U32 0#32, U32 0#32, U32 0#32, U32 0#32, U32 0#32, .slice A7 n8 c9]), (106, .own 59 (Lay.sz Sapi_Item) A7 n8 c9 (cel x10))]) (fun ⟨g4, A7, n8, c9, x10⟩ => m_r17_Make_j0 x00 v0 v1 v2 x10 = some res) mixed (fun _ k11 => ?_) ?_
 ·obtain ⟨x14, hx14, h⟩ := bnd h
  refine du 0 rfl (loadBM (k := 102) agg_24 rfl rfl rfl) <| dm 1 rfl rfl <| du 2 rfl (lenC (xs := x00) und_22 rfl (mM rfl hf00)) <| dm 4 rfl rfl <| WD.two 3 7 (by kernel_rfl) ?_ ?_
  ·refine WS.eff rfl (by decide) (Eff.buildCA 113 ([] : List Sapi_Item) sty_25 rfl rfl rfl (by decide)) ?_
   rintro _ _ ⟨g13, rfl, rfl⟩
   refine aq ?_
   refine WD.two 5 7 (by kernel_rfl) ?_ ?_
   ·refine WS.eff rfl (by decide) (Eff.appendC 113 (xs := ([] : List Sapi_Item)) (ys := x02) sty_25 rfl rfl rfl (mM rfl hf02) hx14) ?_
    rintro _ _ ⟨A15, c16, rfl, rfl⟩
    refine aq ?_
    refine du 6 rfl (build rfl (bu_38_0_1_3 v0 v1 v2 (x00.length : Int) A15 x14.length c16)) <| on 7 <| WS.eff rfl (by decide) (Eff.alloc 117 rfl zr_38) ?_
    rintro _ _ ⟨g17, rfl, rfl⟩
    refine aq ?_
    exact on 8 <| ds 117 rfl agg_38 rfl rfl rfl <| WD.done (by kernel_rfl) <| KK.move 117 104 rfl rfl <| KK.move 113 106 rfl rfl <| kw (k11 ⟨g17, A15, x14.length, c16, x14⟩ h)
   skip
   refine WS.eff rfl (by decide) (Eff.alloc 117 rfl zr_38) ?_
   rintro _ _ ⟨g17, rfl, rfl⟩
   refine aq ?_
   refine on 5 <| WS.eff rfl (by decide) (Eff.appendC 113 (xs := ([] : List Sapi_Item)) (ys := x02) sty_25 rfl rfl rfl (mM rfl hf02) hx14) ?_
   rintro _ _ ⟨A15, c16, rfl, rfl⟩
   refine aq ?_
   exact du 6 rfl (build rfl (bu_38_0_1_3 v0 v1 v2 (x00.length : Int) A15 x14.length c16)) <| on 8 <| ds 117 rfl agg_38 rfl rfl rfl <| WD.done (by kernel_rfl) <| KK.move 117 104 rfl rfl <| KK.move 113 106 rfl rfl <| kw (k11 ⟨g17, A15, x14.length, c16, x14⟩ h)
  skip
  refine WS.eff rfl (by decide) (Eff.alloc 117 rfl zr_38) ?_
  rintro _ _ ⟨g17, rfl, rfl⟩
  refine aq ?_
  refine on 3 <| WS.eff rfl (by decide) (Eff.buildCA 113 ([] : List Sapi_Item) sty_25 rfl rfl rfl (by decide)) ?_
  rintro _ _ ⟨g13, rfl, rfl⟩
  refine aq ?_
  refine on 5 <| WS.eff rfl (by decide) (Eff.appendC 113 (xs := ([] : List Sapi_Item)) (ys := x02) sty_25 rfl rfl rfl (mM rfl hf02) hx14) ?_
  rintro _ _ ⟨A15, c16, rfl, rfl⟩
  refine aq ?_
  exact du 6 rfl (build rfl (bu_38_0_1_3 v0 v1 v2 (x00.length : Int) A15 x14.length c16)) <| on 8 <| ds 117 rfl agg_38 rfl rfl rfl <| WD.done (by kernel_rfl) <| KK.move 117 104 rfl rfl <| KK.move 113 106 rfl rfl <| kw (k11 ⟨g17, A15, x14.length, c16, x14⟩ h)
 rintro ⟨g4, A7, n8, c9, x10⟩ h
 unfold m_r17_Make_j0 at h
 refine sq fun _ k18 => sr fun _ k19 => bd h fun x20 hx20 h => ya (loadBM (k := 104) agg_38 rfl rfl rfl) <| c0 Tryz.func25 rfl (fun w hb hh => w_r17_Valid (Mem.snap w) v0 v1 v2 (x00.length : Int) 0#32 0#32 0#32 0#32 0#32 0#32 A7 n8 c9 _ (RdH.sn (rO 106 rfl) w hb hh) hx20) <| ya (notB rfl) <| dz k19 <| cnn h rfl not_f (fun q => not_t (Bool.eq_false_iff.2 q)) (fun hc22 h => ?_) fun hc22 h => ?_
 ·refine ss <| k18 _ _ <| sr fun _ k23 => bd h fun x24 hx24 h => mv rfl <| WL.eff (by decide) (Eff.callM 130 rfl Tryz.func40 nm_40 rfl rfl rfl (w_r05_Split _ A00 n00 c00 _ hf00 hx24)) ?_
  rintro _ _ ⟨M36, _, ⟨A37, n38, c39, rs40, rfl, rfl, hq41⟩, hm_M36, rfl⟩
  refine ak rfl k23 <| sr fun _ k42 => bd h fun x43 hx43 h => mv rfl <| WL.eff (by decide) (Eff.callMS 150 rfl Tryz.func41 nm_41 rfl rfl rfl (fun w hb hh => ws_r04_Encode _ _ A37 n38 c39 rs40 _ (RdH.own_less (k := 130) rfl rfl rfl w hb hh) hq41 hx43)) ?_
  rintro _ _ ⟨M57, _, ⟨A58, n59, c60, rs61, rfl, rfl, hf63, hq62⟩, hm_M57, rfl⟩
  refine mv rfl <| ya (extract rfl rfl) <| ya (extract rfl rfl) <| asn rfl <| ak rfl k42 <| sr fun _ k64 => bd h fun x65 hx65 h => mv rfl <| mv rfl ?_
  obtain ⟨hu68, hq69⟩ := Rels.apd (Rels.lift hq41 hm_M57) hq62 hx65
  refine ap 130 (xs := rs40) (ys := rs61) sty_30 rfl rfl rfl (mM rfl hf63) hu68 fun A66 c67 => ak rfl k64 <| ct (σ := (BitVec 32) × (BitVec 32) × (BitVec 32) × (BitVec 32) × (BitVec 32) × (BitVec 32)) (fun ⟨x70, x71, x72, x73, x74, x75⟩ => [(7, pv g3), (9, pv g4), (10, .slice A66 ((rs40 ++ rs61).length) c67)]) (fun ⟨x70, x71, x72, x73, x74, x75⟩ => [(0, .mem M57), (103, .blk g3 38 [I64 (0 : Int), I64 (0 : Int), I64 (0 : Int), I64 (0 : Int), U32 0#32, U32 0#32, U32 0#32, U32 0#32, U32 0#32, U32 0#32, .slice none 0 0]), (104, .blk g4 38 [I64 v0, I64 v1, I64 v2, I64 (x00.length : Int), U32 x70, U32 x71, U32 x72, U32 x73, U32 x74, U32 x75, .slice A7 n8 c9]), (106, .own 59 (Lay.sz Sapi_Item) A7 n8 c9 (cel x10)), (130, .own 22 (Lay.sz Hdr) A66 ((rs40 ++ rs61).length) c67 (cel (rs40 ++ rs61)))]) (fun ⟨x70, x71, x72, x73, x74, x75⟩ => m_r17_Make_j1 x00 v0 v1 v2 x10 x65 x70 x71 x72 x73 x74 x75 = some res) (fun _ k76 => ?_) ?_
  ·refine sr fun _ k77 => ak rfl k77 <| bl <| lp (τ := (BitVec 32) × (BitVec 32) × (BitVec 32) × (BitVec 32) × (BitVec 32) × (BitVec 32) × Int) (fun ⟨x78, x79, x80, x81, x82, x83, x84⟩ => [(7, pv g3), (9, pv g4), (10, .slice A66 ((rs40 ++ rs61).length) c67), (13, I64 x84)]) (fun ⟨x78, x79, x80, x81, x82, x83, x84⟩ => [(0, .mem M57), (103, .blk g3 38 [I64 (0 : Int), I64 (0 : Int), I64 (0 : Int), I64 (0 : Int), U32 0#32, U32 0#32, U32 0#32, U32 0#32, U32 0#32, U32 0#32, .slice none 0 0]), (104, .blk g4 38 [I64 v0, I64 v1, I64 v2, I64 (x00.length : Int), U32 x78, U32 x79, U32 x80, U32 x81, U32 x82, U32 x83, .slice A7 n8 c9]), (106, .own 59 (Lay.sz Sapi_Item) A7 n8 c9 (cel x10)), (130, .own 22 (Lay.sz Hdr) A66 ((rs40 ++ rs61).length) c67 (cel (rs40 ++ rs61)))]) (fun q85 ⟨x78, x79, x80, x81, x82, x83, x84⟩ => m_r17_Make_l2 x00 v0 v1 v2 x10 x65 q85 x78 x79 x80 x81 x82 x83 x84 = some res) ⟨0#32, 0#32, 0#32, 0#32, 0#32, 0#32, (0 : Int)⟩ ?_ (by simp [m_r17_Make_l2]) ?_
   ·exact h
   rintro q85 ⟨x78, x79, x80, x81, x82, x83, x84⟩ h _ k86
   unfold m_r17_Make_l2 at h
   refine sq fun _ k87 => sr fun _ k88 => mv rfl <| ya (lss rfl rfl) <| dz k88 <| cI h rfl (fun hc89 h => ?_) fun hc89 h => ?_
   ·refine ss <| k87 _ _ <| sq fun _ k90 => bl <| rg fun _ k91 => ?_
    obtain ⟨x92, hx92, h⟩ := bnd h
    obtain ⟨x96, hx96, h⟩ := bnd h
    obtain ⟨x98, hx98, h⟩ := bnd h
    obtain ⟨x99, hx99, h⟩ := bnd h
    refine mv rfl <| mv rfl <| mv rfl ?_
    obtain ⟨r_93, hr94, hq95⟩ := Rels.idx hq69 hx92
    refine ya (idxC (xs := (rs40 ++ rs61)) sty_30 rfl rfl (rO 130 rfl) hr94) <| ya (loadC0 (xs := (rs40 ++ rs61)) scal_22 rfl (rO 130 rfl) hr94 rfl) <| c0 Tryz.func42 rfl (fun w hb hh => w_r01_Sum (Mem.snap w) r_93.A r_93.n r_93.c _ (sM rfl hq95 w hb hh) hx96) <| ya (fieldAddr Tryz.underlying38 rfl nz_32 rfl rfl) <| ya (idxArrF (xs := ([x78, x79, x80, x81, x82, x83] : List (BitVec 32))) und_32 rfl rfl rfl rfl hx98) <| WL.eff0 (Eff0.storeArrF 104 (xs := ([x78, x79, x80, x81, x82, x83] : List (BitVec 32))) (pre := [I64 v0, I64 v1, I64 v2, I64 (x00.length : Int)]) (post := [.slice A7 n8 c9]) (zs := [(x99.getD 0 0#32), (x99.getD 1 0#32), (x99.getD 2 0#32), (x99.getD 3 0#32), (x99.getD 4 0#32), (x99.getD 5 0#32)]) (cs := [I64 v0, I64 v1, I64 v2, I64 (x00.length : Int), U32 (x99.getD 0 0#32), U32 (x99.getD 1 0#32), U32 (x99.getD 2 0#32), U32 (x99.getD 3 0#32), U32 (x99.getD 4 0#32), U32 (x99.getD 5 0#32), .slice A7 n8 c9]) (a' := x96) siz_31 rfl rfl rfl rfl rfl rfl rfl hx99 (eta_getD 0#32 (upd_len hx99 rfl)) rfl) <| dz k91 <| bn <| tn <| k90 _ _ <| rg fun _ k100 => bd h fun x101 hx101 h => mv rfl <| ya (addC rfl rfl hx101) <| ak rfl k100 <| tn <| kw (k86 ⟨(x99.getD 0 0#32), (x99.getD 1 0#32), (x99.getD 2 0#32), (x99.getD 3 0#32), (x99.getD 4 0#32), (x99.getD 5 0#32), x101⟩ h)
   exact xi <| te <| te <| bx <| tn <| kw (k76 ⟨x78, x79, x80, x81, x82, x83⟩ h)
  rintro ⟨x70, x71, x72, x73, x74, x75⟩ h
  unfold m_r17_Make_j1 at h
  refine sd [(0, _), (104, _), (106, _), (130, _)] mixed fun _ k102 => ?_
  refine dm 0 rfl rfl <| du 1 rfl (loadBM (k := 104) agg_38 rfl rfl rfl) <| du 2 rfl (Yld.assign rfl) <| on 3 <| ds 103 rfl agg_38 rfl rfl rfl <| du 4 rfl (Yld.assign rfl) <| dd <| k102 _ _ <| re ?_
  obtain rfl := si h
  exact rt [130, 106] (ResIs.tmpCellTmpM (k := 103) rfl agg_38 rfl rfl rfl rfl rfl) (Ext.trans hm_M36 hm_M57) ⟨A66, (rs40 ++ rs61).length, c67, (rs40 ++ rs61), A7, n8, c9, rfl, rfl, hq69⟩
 refine sr fun _ k103 => ya (build rfl (bu_38_)) <| asn rfl <| sb 103 agg_38 rfl rfl rfl <| ak rfl k103 <| re <| tr <| QK.nilOwn 204 22 (Lay.sz Hdr) none <| QK.nilOwn 205 59 (Lay.sz Sapi_Item) none ?_
 obtain rfl := si h
 exact rt [204, 205] (ResIs.tmpCellTmpM (k := 103) rfl agg_38 rfl rfl rfl rfl rfl) (Ext.refl _ _) ⟨none, 0, 0, ([] : List Hdr), none, 0, 0, rfl, rfl, (Rels.nil (R := (RelB (α := BitVec 8)) M0))⟩
end Go.Proofs.YthjnhlmfcejhkaaGreat
