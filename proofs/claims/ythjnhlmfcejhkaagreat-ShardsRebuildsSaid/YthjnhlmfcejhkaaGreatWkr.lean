/- A part of the proof. Conditions: as each theorem says. -/
import Derived.Test.YthjnhlmfcejhkaaGreatWko
import Derived.Test.YthjnhlmfcejhkaaGreatMdr
import Derived.Test.YthjnhlmfcejhkaaGreatLw
namespace Go.Proofs.YthjnhlmfcejhkaaGreat
set_option maxRecDepth 10000
open Go Go.RowKit Yld
set_option linter.unusedVariables false
theorem und_49 : Tryz.prog.underlying 49 = some (.slice 30) := by kernel_rfl
theorem agg_113 : Agg Tryz.prog 113 3 := ⟨⟨_, Tryz.underlying113, rfl⟩, by kernel_rfl⟩
theorem bu_113_0_1_2 : ∀ (a0 : Int) (a1 : Int) (a2 : Int), Tryz.prog.built 113 [(0, I64 a0), (1, I64 a1), (2, I64 a2)] = some ([I64 a0, I64 a1, I64 a2] : List Value).toArray := fun a0 a1 a2 => by kernel_rfl
theorem nm_100 : (Tryz.f100.name == "runtime.NumGoroutine") = false := by kernel_rfl
theorem nm_21 : (Tryz.f21.name == "runtime.NumGoroutine") = false := by kernel_rfl
theorem nm_40 : (Tryz.f40.name == "runtime.NumGoroutine") = false := by kernel_rfl
theorem nm_41 : (Tryz.f41.name == "runtime.NumGoroutine") = false := by kernel_rfl
theorem nm_46 : (Tryz.f46.name == "runtime.NumGoroutine") = false := by kernel_rfl
theorem nm_48 : (Tryz.f48.name == "runtime.NumGoroutine") = false := by kernel_rfl
theorem nm_69 : (Tryz.f69.name == "runtime.NumGoroutine") = false := by kernel_rfl
theorem nm_80 : (Tryz.f80.name == "runtime.NumGoroutine") = false := by kernel_rfl
theorem scal_30 : scal Tryz.prog 30 = true := by kernel_rfl
theorem siz_2 : (Tryz.prog.info? 2).map (·.size) = some 1 := by kernel_rfl
theorem siz_30 : (Tryz.prog.info? 30).map (·.size) = some 1 := by kernel_rfl
theorem sty_49 : STy Tryz.prog 49 30 (.slice none 0 0) 1 24 := STy.of und_49 (by kernel_rfl) rfl
theorem zr_113 : (Tryz.prog.info? 113).map (fun i => i.zero.map (·.cells)) = some (some ([I64 (0 : Int), I64 (0 : Int), I64 (0 : Int)] : List Value).toArray) := by kernel_rfl
theorem zr_30 : (Tryz.prog.info? 30).map (fun i => i.zero.map (·.cells)) = some (some ([.slice none 0 0] : List Value).toArray) := by kernel_rfl
namespace Z
theorem _root_.Go.Proofs.YthjnhlmfcejhkaaGreat.w_stripe_Split (M0 : Mem) (A00 : Option Addr) (n00 c00 : Nat) (x00 : By) (hf00 : SlT M0 A00 n00 c00 x00) {res : (List By)} (h : m_stripe_Split x00 = some res) :
  Fn Tryz.prog 36 #[.slice A00 n00 c00] M0 fun r M' es => ∃ (A1 : Option Addr) (n1 c1 : Nat), ∃ rs1 : List Hdr, r = .slice A1 n1 c1 /\ es = [.own 22 (Lay.sz Hdr) A1 n1 c1 (cel rs1)] /\ Rels ((RelB (α := BitVec 8)) M') rs1 res := by
 refine Fn.intro (N := 44) Tryz.func36 rfl rfl (nle rfl) fun w0 => ?_
 unfold m_stripe_Split at h
 refine sr fun _ k1 => bb 102 [.slice A00 n00 c00] rfl fun g2 => ak rfl k1 <| sr fun _ k3 => ?_
 obtain ⟨x5, hx5, h⟩ := bnd h
 obtain ⟨hu6, hl7, hr8⟩ := rows_mks hx5
 refine WL.eff (by decide) (Eff.makeC 104 (⟨none, 0, 0⟩ : Hdr) sty_30 rfl rfl rfl rfl rfl rfl hu6) ?_
 rintro _ _ ⟨g4, rfl, rfl⟩
 refine WL.hs (HStep.rowsRepE 109 5 (Lay.sz (BitVec 8)) hr8) <| al 110 zr_30 fun g10 => WL.eff0 (Eff0.storeB 110 siz_30 rfl rfl rfl rfl (nle rfl)) <| dz k3 <| ct (σ := (List By) × (List Hdr)) (fun ⟨x11, rs12⟩ => [(1, pv g2), (3, pv g10)]) (fun ⟨x11, rs12⟩ => [(0, .mem M0), (102, .blk g2 22 [.slice A00 n00 c00]), (104, .own 22 (Lay.sz Hdr) (some ⟨g4, 0, none⟩) ((List.replicate ((4 : Int)).toNat (⟨none, 0, 0⟩ : Hdr)).length) ((List.replicate ((4 : Int)).toNat (⟨none, 0, 0⟩ : Hdr)).length) (cel rs12)), (109, .rows 5 (Lay.sz (BitVec 8)) (rws rs12 x11)), (110, .blk g10 30 [.slice (some ⟨g4, 0, none⟩) ((List.replicate ((4 : Int)).toNat (⟨none, 0, 0⟩ : Hdr)).length) ((List.replicate ((4 : Int)).toNat (⟨none, 0, 0⟩ : Hdr)).length)])]) (fun ⟨x11, rs12⟩ => m_stripe_Split_j0 x00 x11 = some res /\ rs12.length = x11.length) (fun _ k15 => ?_) ?_
 ·refine sr fun _ k16 => ya (loadB (k := 110) scal_30 rfl rfl rfl) <| ya (lenD (rs := (List.replicate ((4 : Int)).toNat (⟨none, 0, 0⟩ : Hdr))) (xs := x5) hl7 und_30 rfl (rO 104 rfl)) <| mv rfl <| dz k16 <| bl <| lp (τ := (List By) × (List Hdr) × Int) (fun ⟨x17, rs18, x21⟩ => [(1, pv g2), (3, pv g10), (9, I64 (x5.length : Int)), (10, I64 x21)]) (fun ⟨x17, rs18, x21⟩ => [(0, .mem M0), (102, .blk g2 22 [.slice A00 n00 c00]), (104, .own 22 (Lay.sz Hdr) (some ⟨g4, 0, none⟩) ((List.replicate ((4 : Int)).toNat (⟨none, 0, 0⟩ : Hdr)).length) ((List.replicate ((4 : Int)).toNat (⟨none, 0, 0⟩ : Hdr)).length) (cel rs18)), (109, .rows 5 (Lay.sz (BitVec 8)) (rws rs18 x17)), (110, .blk g10 30 [.slice (some ⟨g4, 0, none⟩) ((List.replicate ((4 : Int)).toNat (⟨none, 0, 0⟩ : Hdr)).length) ((List.replicate ((4 : Int)).toNat (⟨none, 0, 0⟩ : Hdr)).length)])]) (fun q22 ⟨x17, rs18, x21⟩ => m_stripe_Split_l1 x00 x5 q22 x17 x21 = some res /\ rs18.length = x17.length) ⟨x5, (List.replicate ((4 : Int)).toNat (⟨none, 0, 0⟩ : Hdr)), (0 : Int)⟩ ?_ (by simp [m_stripe_Split_l1]) ?_
  ·exact ⟨h, hl7⟩
  rintro q22 ⟨x17, rs18, x21⟩ ⟨h, hl20⟩ _ k23
  unfold m_stripe_Split_l1 at h
  refine sr fun _ k24 => ya (lss rfl rfl) <| dz k24 <| sq fun _ k25 => cI h rfl (fun hc26 h => ?_) fun hc26 h => ?_
  ·refine ss <| k25 _ _ <| sq fun _ k27 => bl <| sr fun _ k28 => mv rfl <| ak rfl k28 <| rd [(102, _), (110, _)] mixed fun _ k29 => ?_
   obtain ⟨x30, hx30, h⟩ := bnd h
   obtain ⟨x33, hx33, h⟩ := bnd h
   obtain ⟨x34, hx34, h⟩ := bnd h
   obtain ⟨x37, hx37, h⟩ := bnd h
   refine du 0 rfl (loadB (k := 110) scal_30 rfl rfl rfl) <| dm 1 rfl rfl <| du 2 rfl (loadB (k := 102) scal_22 rfl rfl rfl) <| on 3 <| dy rfl (lenC (xs := x00) und_22 rfl (mM rfl hf00)) <| on 4 <| d0 rfl Tryz.func68 rfl (fun w hb hh => w_stripe_Size (Mem.snap w) (x00.length : Int) hx30) <| on 5 <| WS.eff rfl (by decide) (Eff.makeC 132 0#8 sty_22 rfl rfl rfl rfl rfl rfl hx33) ?_
   rintro _ _ ⟨g32, rfl, rfl⟩
   refine aq ?_
   refine on 6 ?_
   obtain ⟨r_35, hr36⟩ := rows_idx (hs := rs18) hl20 hx34
   refine dy rfl (idxC (xs := rs18) sty_30 rfl rfl (rO 104 rfl) hr36) <| on 7 ?_
   obtain ⟨hu38, hl39, hr40⟩ := rows_updH (⟨(some ⟨g32, 0, none⟩), x33.length, x33.length⟩ : Hdr) hl20 hx37
   refine WS.hs (HStep.rowsPutE 109 132 (x21).toNat rfl hr40 rfl rfl) (sc (sc sn)) <| WS.eff0 rfl (Eff0.storeC1 104 (xs := rs18) (a' := (⟨(some ⟨g32, 0, none⟩), x33.length, x33.length⟩ : Hdr)) siz_22 rfl rfl rfl rfl rfl rfl hu38) (sc (sc sn)) <| dd <| k29 _ _ <| bn <| tn <| k27 _ _ <| rg fun _ k41 => bd h fun x42 hx42 h => ya (addC rfl rfl hx42) <| mv rfl <| dz k41 <| tn <| kw (k23 ⟨x37, (rs18.set (x21).toNat (⟨(some ⟨g32, 0, none⟩), x33.length, x33.length⟩ : Hdr)), x42⟩ ⟨h, hl39⟩)
  exact xi <| te <| te <| bx <| tn <| kw (k15 ⟨x17, rs18⟩ ⟨h, hl20⟩)
 rintro ⟨x11, rs12⟩ ⟨h, hl14⟩
 unfold m_stripe_Split_j0 at h
 refine sq fun _ k43 => sr fun _ k44 => ya (loadB (k := 102) scal_22 rfl rfl rfl) <| ya (lenC (xs := x00) und_22 rfl (mM rfl hf00)) <| WL.inl (by decide) Tryz.func69 nm_69 rfl rfl (Tri.intro (N := 6) Tryz.func69 rfl rfl (nle rfl) ?_)
 refine sr fun _ k45 => bb 146 [I64 (0 : Int)] rfl fun g46 => bb 147 [I64 (x00.length : Int)] rfl fun g47 => ak rfl k45 <| sr fun _ k48 => ya (makeFunc rfl rfl) <| ak rfl k48 <| re <| Ret.go (ResIs.one rfl rfl) <| dz k44 <| bl <| WC.rangeFunc 98 97 rfl Tryz.func100 nm_100 rfl rfl rfl rfl fun D49 l50 rc51 hrc52 => Tri.intro (N := 37) Tryz.func100 rfl rfl (nle rfl) <| sr fun _ k53 => bd h fun x54 hx54 h => ya (loadB (k := 146) scal_2 rfl rfl rfl) <| ya (loadB (k := 147) scal_2 rfl rfl rfl) <| ya (addC rfl rfl hx54) <| ak rfl k53 <| bl <| lp (τ := (List By) × (List Hdr) × Int) (fun ⟨x55, rs56, x59⟩ => [(0, .func (.yield l50) #[] #[]), (1, pv g46), (4, I64 x54)]) (fun ⟨x55, rs56, x59⟩ => [(0, .mem M0), (97, .obj l50 (.loop (Rc .ready none rc51))), (98, .obj D49 (.deferred (some []))), (102, .blk g2 22 [.slice A00 n00 c00]), (104, .own 22 (Lay.sz Hdr) (some ⟨g4, 0, none⟩) ((List.replicate ((4 : Int)).toNat (⟨none, 0, 0⟩ : Hdr)).length) ((List.replicate ((4 : Int)).toNat (⟨none, 0, 0⟩ : Hdr)).length) (cel rs56)), (109, .rows 5 (Lay.sz (BitVec 8)) (rws rs56 x55)), (110, .blk g10 30 [.slice (some ⟨g4, 0, none⟩) ((List.replicate ((4 : Int)).toNat (⟨none, 0, 0⟩ : Hdr)).length) ((List.replicate ((4 : Int)).toNat (⟨none, 0, 0⟩ : Hdr)).length)]), (146, .blk g46 2 [I64 x59]), (147, .blk g47 2 [I64 (x00.length : Int)])]) (fun q60 ⟨x55, rs56, x59⟩ => m_stripe_Split_l2 x00 x54 q60 x55 x59 = some res /\ rs56.length = x55.length) ⟨x11, rs12, (0 : Int)⟩ ?_ (by simp [m_stripe_Split_l2]) ?_
 ·exact ⟨h, hl14⟩
 rintro q60 ⟨x55, rs56, x59⟩ ⟨h, hl58⟩ _ k61
 unfold m_stripe_Split_l2 at h
 refine sq fun _ k62 => sr fun _ k63 => ya (loadB (k := 146) scal_2 rfl rfl rfl) <| mv rfl <| ya (lss rfl rfl) <| dz k63 <| cI h rfl (fun hc64 h => ?_) fun hc64 h => ?_
 ·refine ss <| k62 _ _ <| bl <| sr fun _ k65 => ?_
  obtain ⟨x66, hx66, h⟩ := bnd h
  obtain ⟨x67, hx67, h⟩ := bnd h
  obtain ⟨x68, hx68, h⟩ := bnd h
  refine ya (loadB (k := 146) scal_2 rfl rfl rfl) <| ya (remC rfl rfl hx66) <| ya (subC rfl rfl hx67) <| mv rfl <| ya (loadB (k := 146) scal_2 rfl rfl rfl) <| ya (subC rfl rfl hx68) <| ya (minI rfl rfl) <| ak rfl k65 <| sr fun _ k69 => bd h fun x70 hx70 h => ya (loadB (k := 146) scal_2 rfl rfl rfl) <| c0 Tryz.func101 rfl (fun w hb hh => w_stripe_place (Mem.snap w) x59 hx70) <| mv rfl <| ya (extract rfl rfl) <| ya (extract rfl rfl) <| asn rfl <| ak rfl k69 <| sq fun _ k72 => sr fun _ k73 => mv rfl <| ya (loadB (k := 146) scal_2 rfl rfl rfl) <| mv rfl <| mv rfl <| mv rfl <| ya (build rfl (bu_113_0_1_2 x70.1 x70.2 (min x67 x68))) <| WL.round 97 (by decide) rfl rfl rfl hrc52 rfl rfl fun RQ74 hN75 hR76 hX77 KA78 hKA79 => sr fun _ k80 => ak rfl k80 <| rg fun _ k81 => al 182 zr_113 fun g82 => sb 182 agg_113 rfl rfl rfl <| dz k81 <| QK.thenN (hKA79 _ _ rfl ?_)
  refine bl <| rd [(0, _), (97, _), (98, _), (102, _), (104, _), (110, _), (146, _), (147, _), (182, _)] mixed fun _ k83 => ?_
  obtain ⟨x84, hx84, h⟩ := bnd h
  obtain ⟨x87, hx87, h⟩ := bnd h
  obtain ⟨x88, hx88, h⟩ := bnd h
  obtain ⟨x89, hx89, h⟩ := bnd h
  obtain ⟨x90, hx90, h⟩ := bnd h
  refine du 0 rfl (loadB (k := 110) scal_30 rfl rfl rfl) <| du 1 rfl (fieldAddr Tryz.underlying113 rfl nz_3 rfl rfl) <| du 2 rfl (loadB (k := 182) scal_3 rfl rfl rfl) ?_
  obtain ⟨r_85, hr86⟩ := rows_idx (hs := rs56) hl58 hx84
  refine du 3 rfl (idxC (xs := rs56) sty_30 rfl rfl (rO 104 rfl) hr86) <| du 4 rfl (loadC0 (xs := rs56) scal_22 rfl (rO 104 rfl) hr86 rfl) <| du 5 rfl (fieldAddr Tryz.underlying113 rfl nz_2 rfl rfl) <| du 6 rfl (loadB (k := 182) scal_2 rfl rfl rfl) <| du 7 rfl (fieldAddr Tryz.underlying113 rfl nz_2 rfl rfl) <| du 8 rfl (loadB (k := 182) scal_2 rfl rfl rfl) <| du 9 rfl (fieldAddr Tryz.underlying113 rfl nz_2 rfl rfl) <| du 10 rfl (loadB (k := 182) scal_2 rfl rfl rfl) <| du 11 rfl (addC rfl rfl hx87) <| du 13 rfl (loadB (k := 102) scal_22 rfl rfl rfl) <| dm 14 rfl rfl <| du 15 rfl (sliceLC (xs := x00) sty_22 rfl rfl (mM rfl hf00) hx89) <| on 12 <| dy rfl (sliceLHC (xs := x84) sty_22 rfl rfl rfl (RdT.row (k := 109) rfl hr86 hx84) hx88) <| on 16 <| WS.eff rfl (by decide) (Eff.copyRow 109 (lo := x70.2) (hi := x87) (hs := rs56) (e := x55) (b := x84) (bs := x88) (ys := x89) sty_22 rfl rfl hx88 rfl hr86 hx84 rfl rfl rfl (SlT.slc hf00 hx89) hx90) ?_
  rintro _ _ ⟨rfl, rfl⟩
  refine aq ?_
  refine dd <| k83 _ _ <| bn <| hN75 _ _ rfl <| ya (notB rfl) <| dz k73 <| cdF rfl <| ss <| k72 _ _ <| rg fun _ k91 => bd h fun x92 hx92 h => ya (loadB (k := 146) scal_2 rfl rfl rfl) <| mv rfl <| ya (addC rfl rfl hx92) <| WL.eff0 (Eff0.storeB 146 siz_2 rfl rfl rfl rfl (nle rfl)) <| dz k91 <| bn <| tn <| kw (k61 ⟨x90, rs56, x92⟩ ⟨h, (rows_upd hl58 hx90)⟩)
 refine xi <| te <| te <| bx <| Ret.goN (ResIs.zero rfl) <| After.go 97 rfl <| bn <| tn <| k43 _ _ <| sr fun _ k93 => ya (loadB (k := 110) scal_30 rfl rfl rfl) <| ak rfl k93 <| re <| QK.grow (HGrow.rows 109 rfl rfl rfl hl58) fun M94 ⟨hm_M94, hq95⟩ => QK.unmark 98 rfl ?_
 obtain rfl := si h
 exact rt [104] (ResIs.one rfl rfl) hm_M94 ⟨(some ⟨g4, 0, none⟩), (List.replicate ((4 : Int)).toNat (⟨none, 0, 0⟩ : Hdr)).length, (List.replicate ((4 : Int)).toNat (⟨none, 0, 0⟩ : Hdr)).length, rs56, rfl, rfl, hq95⟩
end Z
namespace Z
end Z
theorem w_r05_Split (M0 : Mem) (A00 : Option Addr) (n00 c00 : Nat) (x00 : By) (hf00 : SlT M0 A00 n00 c00 x00) {res : (List By)} (h : m_r05_Split x00 = some res) :
  Fn Tryz.prog 40 #[.slice A00 n00 c00] M0 fun r M' es => ∃ (A1 : Option Addr) (n1 c1 : Nat), ∃ rs1 : List Hdr, r = .slice A1 n1 c1 /\ es = [.own 22 (Lay.sz Hdr) A1 n1 c1 (cel rs1)] /\ Rels ((RelB (α := BitVec 8)) M') rs1 res := by
 refine Fn.intro (N := 43) Tryz.func40 rfl rfl (nle rfl) fun w0 => ?_
 unfold m_r05_Split at h
 refine sr fun _ k1 => ak rfl k1 <| sr fun _ k2 => ak rfl k2 <| ct (σ := (Option Addr) × Nat × Nat × (List By) × (List Hdr)) (fun ⟨A5, n6, c7, x8, rs10⟩ => [(0, .slice A00 n00 c00), (3, .slice A5 n6 c7)]) (fun ⟨A5, n6, c7, x8, rs10⟩ => [(0, .mem M0), (104, .own 22 (Lay.sz Hdr) A5 n6 c7 (cel rs10)), (109, .rows 5 (Lay.sz (BitVec 8)) (rws rs10 x8))]) (fun ⟨A5, n6, c7, x8, rs10⟩ => m_r05_Split_j0 x00 x8 = some res /\ rs10.length = x8.length) (fun _ k13 => ?_) ?_
 ·refine sr fun _ k14 => ak rfl k14 <| bl <| WC.nilOwn 116 22 (Lay.sz Hdr) none <| WC.hs (HStep.rowsNil 121 5 (Lay.sz (BitVec 8))) <| lp (τ := (Option Addr) × Nat × Nat × (List By) × (List Hdr) × Int) (fun ⟨A17, n18, c19, x20, rs22, x25⟩ => [(0, .slice A00 n00 c00), (3, .slice A17 n18 c19), (4, I64 x25)]) (fun ⟨A17, n18, c19, x20, rs22, x25⟩ => [(0, .mem M0), (116, .own 22 (Lay.sz Hdr) A17 n18 c19 (cel rs22)), (121, .rows 5 (Lay.sz (BitVec 8)) (rws rs22 x20))]) (fun q26 ⟨A17, n18, c19, x20, rs22, x25⟩ => m_r05_Split_l1 x00 q26 x20 x25 = some res /\ rs22.length = x20.length) ⟨none, 0, 0, ([] : List By), ([] : List Hdr), (0 : Int)⟩ ?_ (by simp [m_r05_Split_l1]) ?_
  ·exact ⟨h, rfl⟩
  rintro q26 ⟨A17, n18, c19, x20, rs22, x25⟩ ⟨h, hl24⟩ _ k27
  unfold m_r05_Split_l1 at h
  refine sq fun _ k28 => sr fun _ k29 => mv rfl <| ya (lss rfl rfl) <| dz k29 <| cI h rfl (fun hc30 h => ?_) fun hc30 h => ?_
  ·refine ss <| k28 _ _ <| sq fun _ k31 => bl <| rg fun _ k32 => ?_
   obtain ⟨x33, hx33, h⟩ := bnd h
   obtain ⟨x36, hx36, h⟩ := bnd h
   obtain ⟨x38, hx38, h⟩ := bnd h
   refine mv rfl <| mv rfl <| ya (lenC (xs := x00) und_22 rfl (mM rfl hf00)) <| c0 Tryz.func48 rfl (fun w hb hh => w_r05_Size (Mem.snap w) (x00.length : Int) hx33) <| WL.eff (by decide) (Eff.makeC 135 0#8 sty_22 rfl rfl rfl rfl rfl rfl hx36) ?_
   rintro _ _ ⟨g35, rfl, rfl⟩
   refine WL.hs (HStep.toRows 135 rfl) <| WL.eff (by decide) (Eff.buildC 137 ([(⟨(some ⟨g35, 0, none⟩), x36.length, x36.length⟩ : Hdr)] : List Hdr) sty_30 rfl rfl rfl rfl rfl (by decide)) ?_
   rintro _ _ ⟨g37, rfl, rfl⟩
   obtain ⟨hu41, hl42, hr43⟩ := rows_apd (hs := rs22) (hs' := ([(⟨(some ⟨g35, 0, none⟩), x36.length, x36.length⟩ : Hdr)] : List Hdr)) hl24 (rfl : ([(⟨(some ⟨g35, 0, none⟩), x36.length, x36.length⟩ : Hdr)] : List Hdr).length = ([x36] : List By).length) hx38
   refine WL.hs (HStep.rowsApd 121 135 rfl hr43 rfl rfl) <| ap 116 (xs := rs22) (ys := ([(⟨(some ⟨g35, 0, none⟩), x36.length, x36.length⟩ : Hdr)] : List Hdr)) sty_30 rfl rfl rfl (rO 137 rfl) hu41 fun A39 c40 => ak rfl k32 <| bn <| tn <| k31 _ _ <| rg fun _ k44 => bd h fun x45 hx45 h => mv rfl <| ya (addC rfl rfl hx45) <| ak rfl k44 <| tn <| kw (k27 ⟨A39, (rs22 ++ ([(⟨(some ⟨g35, 0, none⟩), x36.length, x36.length⟩ : Hdr)] : List Hdr)).length, c40, x38, (rs22 ++ ([(⟨(some ⟨g35, 0, none⟩), x36.length, x36.length⟩ : Hdr)] : List Hdr)), x45⟩ ⟨h, hl42⟩)
  exact xi <| te <| te <| bx <| tn <| KK.move 116 104 rfl rfl <| KK.move 121 109 rfl rfl <| kw (k13 ⟨A17, n18, c19, x20, rs22⟩ ⟨h, hl24⟩)
 rintro ⟨A5, n6, c7, x8, rs10⟩ ⟨h, hl12⟩
 unfold m_r05_Split_j0 at h
 refine ct (σ := (List By) × (List Hdr)) (fun ⟨x46, rs47⟩ => [(3, .slice A5 n6 c7)]) (fun ⟨x46, rs47⟩ => [(0, .mem M0), (104, .own 22 (Lay.sz Hdr) A5 n6 c7 (cel rs47)), (109, .rows 5 (Lay.sz (BitVec 8)) (rws rs47 x46))]) (fun ⟨x46, rs47⟩ => m_r05_Split_j2 x46 = some res /\ rs47.length = x46.length) (fun _ k50 => ?_) ?_
 ·refine sr fun _ k51 => ak rfl k51 <| bl <| lp (τ := (List By) × (List Hdr) × Int) (fun ⟨x52, rs53, x56⟩ => [(0, .slice A00 n00 c00), (3, .slice A5 n6 c7), (5, I64 x56)]) (fun ⟨x52, rs53, x56⟩ => [(0, .mem M0), (104, .own 22 (Lay.sz Hdr) A5 n6 c7 (cel rs53)), (109, .rows 5 (Lay.sz (BitVec 8)) (rws rs53 x52))]) (fun q57 ⟨x52, rs53, x56⟩ => m_r05_Split_l3 x00 q57 x52 x56 = some res /\ rs53.length = x52.length) ⟨x8, rs10, (0 : Int)⟩ ?_ (by simp [m_r05_Split_l3]) ?_
  ·exact ⟨h, hl12⟩
  rintro q57 ⟨x52, rs53, x56⟩ ⟨h, hl55⟩ _ k58
  unfold m_r05_Split_l3 at h
  refine sq fun _ k59 => sr fun _ k60 => mv rfl <| mv rfl <| ya (lenC (xs := x00) und_22 rfl (mM rfl hf00)) <| ya (lss rfl rfl) <| dz k60 <| cI h rfl (fun hc61 h => ?_) fun hc61 h => ?_
  ·refine ss <| k59 _ _ <| sq fun _ k62 => bl <| sr fun _ k63 => bd h fun x64 hx64 h => mv rfl <| c0 Tryz.func82 rfl (fun w hb hh => w_r05_Place (Mem.snap w) x56 hx64) <| mv rfl <| ya (extract rfl rfl) <| ya (extract rfl rfl) <| ya (extract rfl rfl) <| asn rfl <| asn rfl <| ak rfl k63 <| rd [(0, _), (104, _)] mixed fun _ k66 => ?_
   obtain ⟨x67, hx67, h⟩ := bnd h
   obtain ⟨x70, hx70, h⟩ := bnd h
   obtain ⟨x71, hx71, h⟩ := bnd h
   obtain ⟨x72, hx72, h⟩ := bnd h
   obtain ⟨x73, hx73, h⟩ := bnd h
   refine dm 0 rfl rfl <| dm 1 rfl rfl ?_
   obtain ⟨r_68, hr69⟩ := rows_idx (hs := rs53) hl55 hx67
   refine du 2 rfl (idxC (xs := rs53) sty_30 rfl rfl (rO 104 rfl) hr69) <| du 3 rfl (loadC0 (xs := rs53) scal_22 rfl (rO 104 rfl) hr69 rfl) <| dm 4 rfl rfl <| dm 5 rfl rfl <| dm 6 rfl rfl <| du 7 rfl (idxC (xs := x00) sty_22 rfl rfl (mM rfl hf00) hx70) <| du 8 rfl (loadC0 (xs := x00) scal_5 rfl (mM rfl hf00) hx70 rfl) <| on 9 <| dy rfl (idxC (xs := x67) sty_22 rfl rfl (RdT.row (k := 109) rfl hr69 hx67) hx71) <| on 10 <| WS.eff0 rfl (Eff0.storeRow 109 (hs := rs53) (e := x52) (b := x67) (a' := x70) siz_5 rfl rfl rfl rfl rfl hr69 hx67 rfl hx72 hx73) (sc (sc sn)) <| dd <| k66 _ _ <| bn <| tn <| k62 _ _ <| rg fun _ k74 => bd h fun x75 hx75 h => mv rfl <| ya (addC rfl rfl hx75) <| ak rfl k74 <| tn <| kw (k58 ⟨x73, rs53, x75⟩ ⟨h, (rows_upd hl55 hx73)⟩)
  exact xi <| te <| te <| bx <| tn <| kw (k50 ⟨x52, rs53⟩ ⟨h, hl55⟩)
 rintro ⟨x46, rs47⟩ ⟨h, hl49⟩
 unfold m_r05_Split_j2 at h
 refine sr fun _ k76 => mv rfl <| ak rfl k76 <| re <| QK.grow (HGrow.rows 109 rfl rfl rfl hl49) fun M77 ⟨hm_M77, hq78⟩ => ?_
 obtain rfl := si h
 exact rt [104] (ResIs.one rfl rfl) hm_M77 ⟨A5, n6, c7, rs47, rfl, rfl, hq78⟩
theorem w_slices_Concat_byte_byte (M0 : Mem) (A00 : Option Addr) (n00 c00 : Nat) (rs00 : List Hdr) (x00 : List (List By)) (hf00 : SlT M0 A00 n00 c00 rs00) (hq00 : Rels ((RelL (RelB (α := BitVec 8))) M0) rs00 x00) {res : (List By)} (h : m_slices_Concat_byte_byte x00 = some res) :
  Fn Tryz.prog 38 #[.slice A00 n00 c00] M0 fun r M' es => ∃ (A1 : Option Addr) (n1 c1 : Nat), ∃ rs1 : List Hdr, r = .slice A1 n1 c1 /\ es = [.own 22 (Lay.sz Hdr) A1 n1 c1 (cel rs1)] /\ Rels ((RelB (α := BitVec 8)) M') rs1 res := by
 refine Fn.intro (N := 36) Tryz.func38 rfl rfl (nle rfl) fun w0 => ?_
 unfold m_slices_Concat_byte_byte at h
 refine sr fun _ k1 => ak rfl k1 <| sr fun _ k2 => ak rfl k2 <| ct (σ := Int) (fun x3 => [(0, .slice A00 n00 c00), (3, I64 x3)]) (fun x3 => [(0, .mem M0)]) (fun x3 => m_slices_Concat_byte_byte_j0 x00 x3 = some res) (fun _ k4 => ?_) ?_
 ·refine sr fun _ k5 => mv rfl <| ya (lenD (rs := rs00) (xs := x00) (Rels.len hq00) und_49 rfl (mM rfl hf00)) <| mv rfl <| dz k5 <| bl <| lp (τ := Int × Int) (fun ⟨x6, x7⟩ => [(0, .slice A00 n00 c00), (3, I64 x6), (9, .slice A00 n00 c00), (10, I64 (x00.length : Int)), (11, I64 x7)]) (fun ⟨x6, x7⟩ => [(0, .mem M0)]) (fun q8 ⟨x6, x7⟩ => m_slices_Concat_byte_byte_l1 x00 q8 x6 x7 = some res) ⟨(0 : Int), (0 : Int)⟩ ?_ (by simp [m_slices_Concat_byte_byte_l1]) ?_
  ·exact h
  rintro q8 ⟨x6, x7⟩ h _ k9
  unfold m_slices_Concat_byte_byte_l1 at h
  refine sr fun _ k10 => ya (lss rfl rfl) <| dz k10 <| sq fun _ k11 => cI h rfl (fun hc12 h => ?_) fun hc12 h => ?_
  ·refine ss <| k11 _ _ <| sq fun _ k13 => bl <| sr fun _ k14 => ?_
   obtain ⟨x15, hx15, h⟩ := bnd h
   obtain ⟨r_16, hr17, hq18⟩ := Rels.idx hq00 hx15
   refine ya (idxC (xs := rs00) sty_49 rfl rfl (mM rfl hf00) hr17) ?_
   obtain ⟨rs19, hf20, hq21⟩ := hq18
   refine ya (loadC0 (xs := rs00) scal_30 rfl (mM rfl hf00) hr17 rfl) <| ak rfl k14 <| sr fun _ k22 => bd h fun x23 hx23 h => mv rfl <| mv rfl <| ya (lenD (rs := rs19) (xs := x15) (Rels.len hq21) und_30 rfl (mM rfl hf20)) <| ya (addC rfl rfl hx23) <| ak rfl k22 <| sr fun _ k24 => mv rfl <| ya (lss rfl rfl) <| dn <| k24 _ _ ?_
   by_cases hc25 : x23 < (0 : Int)
   ·replace h := of_t hc25 h
    cases h
   replace h := of_f hc25 h
   refine WC.condFe rfl (decide_eq_false hc25) <| WC.skip <| bn <| tn <| k13 _ _ <| rg fun _ k26 => bd h fun x27 hx27 h => ya (addC rfl rfl hx27) <| mv rfl <| dz k26 <| tn <| kw (k9 ⟨x23, x27⟩ h)
  exact xi <| te <| te <| bx <| tn <| kw (k4 x6 h)
 rintro x3 h
 unfold m_slices_Concat_byte_byte_j0 at h
 refine ctr (σ := (Option Addr) × Nat × Nat × (List By) × (List Hdr)) (fun ⟨A30, n31, c32, x33, rs34⟩ => [(0, .slice A00 n00 c00), (6, .slice A30 n31 c32)]) (fun ⟨A30, n31, c32, x33, rs34⟩ => [(0, .mem M0), (129, .own 22 (Lay.sz Hdr) A30 n31 c32 (cel rs34))]) (fun ⟨A30, n31, c32, x33, rs34⟩ => m_slices_Concat_byte_byte_j2 x00 x33 = some res /\ Rels ((RelB (α := BitVec 8)) M0) rs34 x33) (fun _ k36 => ?_) ?_
 ·refine mv rfl <| WL.inl (by decide) Tryz.func80 nm_80 rfl rfl (Tri.intro (N := 27) Tryz.func80 rfl rfl (nle rfl) ?_)
  refine sr fun _ k38 => ak rfl k38 <| sq fun _ k39 => sr fun _ k40 => mv rfl <| ya (lss rfl rfl) <| dn <| k40 _ _ ?_
  by_cases hc41 : x3 < (0 : Int)
  ·replace h := of_t hc41 h
   cases h
  replace h := of_f hc41 h
  refine WC.condFe rfl (decide_eq_false hc41) <| ss <| k39 _ _ <| sq fun _ k42 => sr fun _ k43 => ?_
  obtain ⟨x44, hx44, h⟩ := bnd h
  obtain ⟨x45, hx45, h⟩ := bnd h
  refine mv rfl <| mv rfl <| ya (capNil und_30 rfl) <| mv rfl <| ya (lenNil und_30 rfl) <| ya (subC rfl rfl hx44) <| ya (subC rfl rfl hx45) <| ak rfl k43 <| sr fun _ k46 => mv rfl <| ya (gtr rfl rfl) <| dz k46 <| cI h rfl (fun hc47 h => ?_) fun hc47 h => ?_
  ·refine rg fun _ k48 => ?_
   obtain ⟨x50, hx50, h⟩ := bnd h
   obtain ⟨x55, hx55, h⟩ := bnd h
   refine mv rfl <| mv rfl <| ya (capNil und_30 rfl) <| ya (sliceNil (α := Hdr) (h := 0) sty_30 rfl rfl) <| mv rfl ?_
   obtain ⟨hu53, hq54⟩ := Rels.mks (R := (RelB (α := BitVec 8)) M0) (r := (⟨none, 0, 0⟩ : Hdr)) hx50 RelB.nil
   refine WL.eff (by decide) (Eff.appendNZ 149 (⟨none, 0, 0⟩ : Hdr) sty_30 rfl rfl und_3 rfl rfl rfl (by omega) hu53) ?_
   rintro _ _ ⟨A51, c52, rfl, rfl⟩
   refine mv rfl <| ya (lenNil und_30 rfl) ?_
   obtain ⟨rs56, hs57, hq58⟩ := Rels.slc hq54 hx55
   exact ya (sliceHC (xs := (List.replicate (x45).toNat (⟨none, 0, 0⟩ : Hdr))) sty_30 rfl rfl (rO 149 rfl) hs57) <| WL.hs (HStep.cutTo (xs := (List.replicate (x45).toNat (⟨none, 0, 0⟩ : Hdr))) 149 rfl hs57) <| ak rfl k48 <| tn <| k42 _ _ <| sr fun _ k59 => mv rfl <| ak rfl k59 <| re <| Ret.go (ResIs.one rfl rfl) <| asn rfl <| WL.done <| KK.move 149 129 rfl rfl <| kw (k36 ⟨A51, rs56.length, c52, x55, rs56⟩ ⟨h, hq58⟩)
  exact ss <| k42 _ _ <| sr fun _ k60 => mv rfl <| ak rfl k60 <| re <| Ret.go (ResIs.one rfl rfl) <| asn rfl <| WL.done <| KK.nilOwn 129 22 (Lay.sz Hdr) none <| kw (k36 ⟨none, 0, 0, ([] : List By), ([] : List Hdr)⟩ ⟨h, (Rels.nil (R := (RelB (α := BitVec 8)) M0))⟩)
 rintro ⟨A30, n31, c32, x33, rs34⟩ ⟨h, hq35⟩
 unfold m_slices_Concat_byte_byte_j2 at h
 refine ct (σ := (Option Addr) × Nat × Nat × (List By) × (List Hdr)) (fun ⟨A61, n62, c63, x64, rs65⟩ => [(6, .slice A61 n62 c63)]) (fun ⟨A61, n62, c63, x64, rs65⟩ => [(0, .mem M0), (129, .own 22 (Lay.sz Hdr) A61 n62 c63 (cel rs65))]) (fun ⟨A61, n62, c63, x64, rs65⟩ => m_slices_Concat_byte_byte_j3 x64 = some res /\ Rels ((RelB (α := BitVec 8)) M0) rs65 x64) (fun _ k67 => ?_) ?_
 ·refine sr fun _ k68 => mv rfl <| ya (lenD (rs := rs00) (xs := x00) (Rels.len hq00) und_49 rfl (mM rfl hf00)) <| mv rfl <| dz k68 <| bl <| lp (τ := (Option Addr) × Nat × Nat × (List By) × (List Hdr) × Int) (fun ⟨A69, n70, c71, x72, rs73, x75⟩ => [(6, .slice A69 n70 c71), (25, .slice A00 n00 c00), (26, I64 (x00.length : Int)), (27, I64 x75)]) (fun ⟨A69, n70, c71, x72, rs73, x75⟩ => [(0, .mem M0), (129, .own 22 (Lay.sz Hdr) A69 n70 c71 (cel rs73))]) (fun q76 ⟨A69, n70, c71, x72, rs73, x75⟩ => m_slices_Concat_byte_byte_l4 x00 q76 x72 x75 = some res /\ Rels ((RelB (α := BitVec 8)) M0) rs73 x72) ⟨A30, n31, c32, x33, rs34, (0 : Int)⟩ ?_ (by simp [m_slices_Concat_byte_byte_l4]) ?_
  ·exact ⟨h, hq35⟩
  rintro q76 ⟨A69, n70, c71, x72, rs73, x75⟩ ⟨h, hq74⟩ _ k77
  unfold m_slices_Concat_byte_byte_l4 at h
  refine sr fun _ k78 => ya (lss rfl rfl) <| dz k78 <| sq fun _ k79 => cI h rfl (fun hc80 h => ?_) fun hc80 h => ?_
  ·refine ss <| k79 _ _ <| sq fun _ k81 => bl <| sr fun _ k82 => ?_
   obtain ⟨x83, hx83, h⟩ := bnd h
   obtain ⟨r_84, hr85, hq86⟩ := Rels.idx hq00 hx83
   refine ya (idxC (xs := rs00) sty_49 rfl rfl (mM rfl hf00) hr85) ?_
   obtain ⟨rs87, hf88, hq89⟩ := hq86
   refine ya (loadC0 (xs := rs00) scal_30 rfl (mM rfl hf00) hr85 rfl) <| ak rfl k82 <| rg fun _ k90 => bd h fun x91 hx91 h => mv rfl <| mv rfl ?_
   obtain ⟨hu94, hq95⟩ := Rels.apd hq74 hq89 hx91
   refine ap 129 (xs := rs73) (ys := rs87) sty_30 rfl rfl rfl (mM rfl hf88) hu94 fun A92 c93 => ak rfl k90 <| bn <| tn <| k81 _ _ <| rg fun _ k96 => bd h fun x97 hx97 h => ya (addC rfl rfl hx97) <| mv rfl <| dz k96 <| tn <| kw (k77 ⟨A92, (rs73 ++ rs87).length, c93, x91, (rs73 ++ rs87), x97⟩ ⟨h, hq95⟩)
  exact xi <| te <| te <| bx <| tn <| kw (k67 ⟨A69, n70, c71, x72, rs73⟩ ⟨h, hq74⟩)
 rintro ⟨A61, n62, c63, x64, rs65⟩ ⟨h, hq66⟩
 unfold m_slices_Concat_byte_byte_j3 at h
 refine sr fun _ k98 => mv rfl <| ak rfl k98 <| re ?_
 obtain rfl := si h
 exact rt [129] (ResIs.one rfl rfl) (Ext.refl _ _) ⟨A61, n62, c63, rs65, rfl, rfl, hq66⟩
theorem ws_r03_Apply (Mr M0 : Mem) (u0 u1 : Int) (A00_2 : Option Addr) (n00_2 c00_2 : Nat) (u2 : By) (hf00_2 : SlT M0 A00_2 n00_2 c00_2 u2) (A01 : Option Addr) (n01 c01 : Nat) (rs01 : List Hdr) (x01 : List By) (hf01 : SlT Mr A01 n01 c01 rs01) (hq01 : Rels ((RelB (α := BitVec 8)) M0) rs01 x01) {res : (List By) × Int} (h : m_r03_Apply u0 u1 u2 x01 = some res) :
  FnS Tryz.prog 91 #[.agg ([I64 u0, I64 u1, .slice A00_2 n00_2 c00_2] : List Value).toArray, .slice A01 n01 c01] Mr M0 fun r M' es => ∃ (A1 : Option Addr) (n1 c1 : Nat), ∃ rs1 : List Hdr, r = .tuple #[.slice A1 n1 c1, I64 res.2] /\ es = [.own 22 (Lay.sz Hdr) A1 n1 c1 (cel rs1)] /\ Rels ((RelB (α := BitVec 8)) M') rs1 res.1 := by
 refine FnS.intro (N := 78) Tryz.func91 rfl rfl (nle rfl) fun w0 => ?_
 unfold m_r03_Apply at h
 refine sr fun _ k1 => bb 102 [I64 u0, I64 u1, .slice A00_2 n00_2 c00_2] rfl fun g2 => asn rfl <| ak rfl k1 <| ct (σ := Unit) (fun _ => [(1, .slice A01 n01 c01), (2, pv g2)]) (fun _ => [(0, .mem M0), (7, .mem Mr), (102, .blk g2 140 [I64 u0, I64 u1, .slice A00_2 n00_2 c00_2])]) (fun _ => m_r03_Apply_j0 u0 u1 u2 x01 = some res) (fun _ k3 => ?_) ?_
 ·refine sr fun _ k4 => bd h fun x5 hx5 h => ya (loadBM (k := 102) agg_140 rfl rfl rfl) <| c0 Tryz.func115 rfl (fun w hb hh => w_r03_Valid (Mem.snap w) u0 u1 A00_2 n00_2 c00_2 _ (sM rfl hf00_2 w hb hh) hx5) <| ya (notB rfl) <| mv rfl <| spn h not_f (fun q => not_t (Bool.eq_false_iff.2 q)) (fun hc7 h => ?_) fun hc7 h => ?_
  ·refine mvg rfl <| yg (lenD (rs := rs01) (xs := x01) (Rels.len hq01) und_30 rfl (RdH.memM (k := 7) rfl hf01)) <| yg (fieldAddr Tryz.underlying140 rfl nz_3 rfl rfl) <| yg (loadB (k := 102) scal_3 rfl rfl rfl) <| yg (neqI rfl rfl) <| pf rfl rfl <| dz k4 <| cnn h rfl bne_eq_false_iff_eq.2 bne_iff_ne.2 (fun hc8 h => ?_) fun hc8 h => ?_
   ·exact WC.skip <| tn <| kw (k3 () h)
   refine sr fun _ k9 => asn rfl <| ak rfl k9 <| re <| tr <| QK.nilOwn 110 22 (Lay.sz Hdr) none ?_
   obtain rfl := si h
   exact rt [110] (ResIs.two rfl rfl rfl) (Ext.refl _ _) ⟨none, 0, 0, ([] : List Hdr), rfl, rfl, (Rels.nil (R := (RelB (α := BitVec 8)) M0))⟩
  refine sk <| sk <| sk <| sk <| sk <| pt rfl rfl <| dz k4 <| cdT rfl <| sr fun _ k11 => asn rfl <| ak rfl k11 <| re <| tr <| QK.nilOwn 112 22 (Lay.sz Hdr) none ?_
  obtain rfl := si h
  exact rt [112] (ResIs.two rfl rfl rfl) (Ext.refl _ _) ⟨none, 0, 0, ([] : List Hdr), rfl, rfl, (Rels.nil (R := (RelB (α := BitVec 8)) M0))⟩
 rintro _ h
 unfold m_r03_Apply_j0 at h
 refine ct (σ := Unit) (fun _ => [(1, .slice A01 n01 c01), (2, pv g2)]) (fun _ => [(0, .mem M0), (7, .mem Mr), (102, .blk g2 140 [I64 u0, I64 u1, .slice A00_2 n00_2 c00_2])]) (fun _ => m_r03_Apply_j1 u0 u1 u2 x01 = some res) (fun _ k13 => ?_) ?_
 ·refine sr fun _ k14 => ak rfl k14 <| bl <| lp (τ := Int) (fun x15 => [(1, .slice A01 n01 c01), (2, pv g2), (6, I64 x15)]) (fun x15 => [(0, .mem M0), (7, .mem Mr), (102, .blk g2 140 [I64 u0, I64 u1, .slice A00_2 n00_2 c00_2])]) (fun q16 x15 => m_r03_Apply_l2 u0 u1 u2 x01 q16 x15 = some res) ((0 : Int)) ?_ (by simp [m_r03_Apply_l2]) ?_
  ·exact h
  rintro q16 x15 h _ k17
  unfold m_r03_Apply_l2 at h
  refine sq fun _ k18 => sr fun _ k19 => mv rfl <| mv rfl <| ya (lenD (rs := rs01) (xs := x01) (Rels.len hq01) und_30 rfl (RdH.memM (k := 7) rfl hf01)) <| ya (lss rfl rfl) <| dz k19 <| cI h rfl (fun hc20 h => ?_) fun hc20 h => ?_
  ·refine ss <| k18 _ _ <| sq fun _ k21 => bl <| sd [(0, _), (7, _), (102, _)] mixed fun _ k22 => ?_
   obtain ⟨x23, hx23, h⟩ := bnd h
   obtain ⟨x27, hx27, h⟩ := bnd h
   refine dm 0 rfl rfl <| dm 1 rfl rfl ?_
   obtain ⟨r_24, hr25, hq26⟩ := Rels.idx hq01 hx23
   refine du 2 rfl (idxC (xs := rs01) sty_30 rfl rfl (RdH.memM (k := 7) rfl hf01) hr25) <| du 3 rfl (loadC0 (xs := rs01) scal_22 rfl (RdH.memM (k := 7) rfl hf01) hr25 rfl) <| du 4 rfl (lenC (xs := x23) und_22 rfl (mM rfl hq26)) <| dm 5 rfl rfl ?_
   obtain ⟨r_28, hr29, hq30⟩ := Rels.idx hq01 hx27
   refine du 6 rfl (idxC (xs := rs01) sty_30 rfl rfl (RdH.memM (k := 7) rfl hf01) hr29) <| du 7 rfl (loadC0 (xs := rs01) scal_22 rfl (RdH.memM (k := 7) rfl hf01) hr29 rfl) <| du 8 rfl (lenC (xs := x27) und_22 rfl (mM rfl hq30)) <| du 9 rfl (neqI rfl rfl) <| dd <| k22 _ _ <| cnn h rfl bne_eq_false_iff_eq.2 bne_iff_ne.2 (fun hc31 h => ?_) fun hc31 h => ?_
   ·refine WC.skip <| bn <| tn <| k21 _ _ <| rg fun _ k32 => bd h fun x33 hx33 h => mv rfl <| ya (addC rfl rfl hx33) <| ak rfl k32 <| tn <| kw (k17 (x33) h)
   refine sr fun _ k34 => asn rfl <| ak rfl k34 <| re <| br <| tr <| tr <| br <| tr <| QK.nilOwn 135 22 (Lay.sz Hdr) none ?_
   obtain rfl := si h
   exact rt [135] (ResIs.two rfl rfl rfl) (Ext.refl _ _) ⟨none, 0, 0, ([] : List Hdr), rfl, rfl, (Rels.nil (R := (RelB (α := BitVec 8)) M0))⟩
  exact xi <| te <| te <| bx <| tn <| kw (k13 () h)
 rintro _ h
 unfold m_r03_Apply_j1 at h
 refine sr fun _ k36 => ak rfl k36 <| ct (σ := Mem × (Option Addr) × Nat × Nat × (List By) × (List Hdr)) (fun ⟨M37, A40, n41, c42, x43, rs44⟩ => [(7, .slice A40 n41 c42)]) (fun ⟨M37, A40, n41, c42, x43, rs44⟩ => [(0, .mem M37), (7, .mem Mr), (139, .own 22 (Lay.sz Hdr) A40 n41 c42 (cel rs44))]) (fun ⟨M37, A40, n41, c42, x43, rs44⟩ => m_r03_Apply_j3 x43 = some res /\ Ext w0.heap.size M0 M37 /\ Rels ((RelB (α := BitVec 8)) M37) rs44 x43) (fun _ k46 => ?_) ?_
 ·refine sr fun _ k47 => ak rfl k47 <| bl <| WC.nilOwn 150 22 (Lay.sz Hdr) none <| lp (τ := Mem × (Option Addr) × Nat × Nat × (List By) × (List Hdr) × Int) (fun ⟨M48, A51, n52, c53, x54, rs55, x57⟩ => [(1, .slice A01 n01 c01), (2, pv g2), (7, .slice A51 n52 c53), (8, I64 x57)]) (fun ⟨M48, A51, n52, c53, x54, rs55, x57⟩ => [(0, .mem M48), (7, .mem Mr), (102, .blk g2 140 [I64 u0, I64 u1, .slice A00_2 n00_2 c00_2]), (150, .own 22 (Lay.sz Hdr) A51 n52 c53 (cel rs55))]) (fun q58 ⟨M48, A51, n52, c53, x54, rs55, x57⟩ => m_r03_Apply_l4 u0 u1 u2 x01 q58 x54 x57 = some res /\ Ext w0.heap.size M0 M48 /\ Rels ((RelB (α := BitVec 8)) M48) rs55 x54) ⟨M0, none, 0, 0, ([] : List By), ([] : List Hdr), (0 : Int)⟩ ?_ (by simp [m_r03_Apply_l4]) ?_
  ·exact ⟨h, (Ext.refl _ _), (Rels.nil (R := (RelB (α := BitVec 8)) M0))⟩
  rintro q58 ⟨M48, A51, n52, c53, x54, rs55, x57⟩ ⟨h, hm_M48, hq56⟩ _ k59
  unfold m_r03_Apply_l4 at h
  refine sq fun _ k60 => sr fun _ k61 => mv rfl <| ya (fieldAddr Tryz.underlying140 rfl nz_3 rfl rfl) <| ya (loadB (k := 102) scal_3 rfl rfl rfl) <| ya (lss rfl rfl) <| dz k61 <| cI h rfl (fun hc62 h => ?_) fun hc62 h => ?_
  ·refine ss <| k60 _ _ <| ct (σ := Mem × (Option Addr) × Nat × Nat × (List By) × (List Hdr)) (fun ⟨M63, A64, n65, c66, x67, rs68⟩ => [(1, .slice A01 n01 c01), (2, pv g2), (7, .slice A64 n65 c66), (8, I64 x57)]) (fun ⟨M63, A64, n65, c66, x67, rs68⟩ => [(0, .mem M63), (7, .mem Mr), (102, .blk g2 140 [I64 u0, I64 u1, .slice A00_2 n00_2 c00_2]), (150, .own 22 (Lay.sz Hdr) A64 n65 c66 (cel rs68))]) (fun ⟨M63, A64, n65, c66, x67, rs68⟩ => m_r03_Apply_j5 x57 (m_r03_Apply_l4 u0 u1 u2 x01 q58) x67 = some res /\ Ext w0.heap.size M48 M63 /\ Rels ((RelB (α := BitVec 8)) M63) rs68 x67) (fun _ k70 => ?_) ?_
   ·refine bl <| sr fun _ k71 => ?_
    obtain ⟨x72, hx72, h⟩ := bnd h
    obtain ⟨x77, hx77, h⟩ := bnd h
    refine mv rfl ?_
    obtain ⟨r_73, hr74, hq75⟩ := Rels.idx (Rels.lift hq01 hm_M48) hx72
    refine ya (idxC (xs := rs01) sty_30 rfl rfl (RdH.memM (k := 7) rfl hf01) hr74) <| ya (loadC0 (xs := rs01) scal_22 rfl (RdH.memM (k := 7) rfl hf01) hr74 rfl) <| ya (lenC (xs := x72) und_22 rfl (mM rfl hq75)) <| WL.eff (by decide) (Eff.makeC 176 0#8 sty_22 rfl rfl rfl rfl rfl rfl hx77) ?_
    rintro _ _ ⟨g76, rfl, rfl⟩
    refine ak rfl k71 <| ct (σ := (Option Addr) × Nat × Nat × By) (fun ⟨A80, n81, c82, x83⟩ => [(1, .slice A01 n01 c01), (2, pv g2), (7, .slice A51 n52 c53), (8, I64 x57), (9, .slice A80 n81 c82)]) (fun ⟨A80, n81, c82, x83⟩ => [(0, .mem M48), (7, .mem Mr), (102, .blk g2 140 [I64 u0, I64 u1, .slice A00_2 n00_2 c00_2]), (150, .own 22 (Lay.sz Hdr) A51 n52 c53 (cel rs55)), (179, .own 5 (Lay.sz (BitVec 8)) A80 n81 c82 (cel x83))]) (fun ⟨A80, n81, c82, x83⟩ => m_r03_Apply_j6 x54 x57 (m_r03_Apply_l4 u0 u1 u2 x01 q58) x83 = some res) (fun _ k84 => ?_) ?_
    ·refine sr fun _ k85 => ak rfl k85 <| bl <| WC.move 176 187 rfl rfl <| lp (τ := (Option Addr) × Nat × Nat × By × Int) (fun ⟨A88, n89, c90, x91, x92⟩ => [(1, .slice A01 n01 c01), (2, pv g2), (7, .slice A51 n52 c53), (8, I64 x57), (9, .slice A88 n89 c90), (10, I64 x92)]) (fun ⟨A88, n89, c90, x91, x92⟩ => [(0, .mem M48), (7, .mem Mr), (102, .blk g2 140 [I64 u0, I64 u1, .slice A00_2 n00_2 c00_2]), (150, .own 22 (Lay.sz Hdr) A51 n52 c53 (cel rs55)), (187, .own 5 (Lay.sz (BitVec 8)) A88 n89 c90 (cel x91))]) (fun q93 ⟨A88, n89, c90, x91, x92⟩ => m_r03_Apply_l7 u1 u2 x01 x54 x57 (m_r03_Apply_l4 u0 u1 u2 x01 q58) q93 x91 x92 = some res) ⟨(some ⟨g76, 0, none⟩), x77.length, x77.length, x77, (0 : Int)⟩ ?_ (by simp [m_r03_Apply_l7]) ?_
     ·exact h
     rintro q93 ⟨A88, n89, c90, x91, x92⟩ h _ k94
     unfold m_r03_Apply_l7 at h
     refine sq fun _ k95 => sr fun _ k96 => mv rfl <| ya (fieldAddr Tryz.underlying140 rfl nz_3 rfl rfl) <| ya (loadB (k := 102) scal_3 rfl rfl rfl) <| ya (lss rfl rfl) <| dz k96 <| cI h rfl (fun hc97 h => ?_) fun hc97 h => ?_
     ·refine ss <| k95 _ _ <| sq fun _ k98 => bl <| rd [(0, _), (7, _), (102, _), (150, _), (187, _)] mixed fun _ k99 => ?_
      obtain ⟨x100, hx100, h⟩ := bnd h
      obtain ⟨x104, hx104, h⟩ := bnd h
      obtain ⟨x105, hx105, h⟩ := bnd h
      obtain ⟨x106, hx106, h⟩ := bnd h
      obtain ⟨x107, hx107, h⟩ := bnd h
      refine dm 0 rfl rfl <| dm 1 rfl rfl <| dm 2 rfl rfl ?_
      obtain ⟨r_101, hr102, hq103⟩ := Rels.idx (Rels.lift hq01 hm_M48) hx100
      refine du 3 rfl (idxC (xs := rs01) sty_30 rfl rfl (RdH.memM (k := 7) rfl hf01) hr102) <| du 4 rfl (loadC0 (xs := rs01) scal_22 rfl (RdH.memM (k := 7) rfl hf01) hr102 rfl) <| du 5 rfl (fieldAddr Tryz.underlying140 rfl nz_22 rfl rfl) <| du 6 rfl (loadB (k := 102) scal_22 rfl rfl rfl) <| dm 7 rfl rfl <| du 8 rfl (fieldAddr Tryz.underlying140 rfl nz_3 rfl rfl) <| du 9 rfl (loadB (k := 102) scal_3 rfl rfl rfl) <| du 10 rfl (mulC rfl rfl hx104) <| dm 11 rfl rfl <| du 12 rfl (addC rfl rfl hx105) <| du 13 rfl (idxC (xs := u2) sty_22 rfl rfl (mM rfl (SlRc.lift hf00_2 hm_M48)) hx106) <| du 14 rfl (loadC0 (xs := u2) scal_5 rfl (mM rfl (SlRc.lift hf00_2 hm_M48)) hx106 rfl) <| on 15 <| WS.eff rfl (by decide) (Eff.callS 211 rfl Tryz.func122 nm_122 rfl rfl (fun w hb hh => w_r02_MulAdd (Mem.snap w) A88 n89 c90 _ (RdH.sn (rO 187 rfl) w hb hh) r_101.A r_101.n r_101.c _ (sM rfl hq103 w hb hh) x106 hx107)) ?_
      rintro _ _ ⟨_, ⟨A112, n113, c114, rfl, rfl⟩, rfl⟩
      refine aq ?_
      refine dm 16 rfl rfl <| du 17 rfl (extract rfl rfl) <| du 18 rfl (extract rfl rfl) <| du 19 rfl (Yld.assign rfl) <| dd <| k99 _ _ <| bn <| tn <| k98 _ _ <| rg fun _ k115 => bd h fun x116 hx116 h => mv rfl <| ya (addC rfl rfl hx116) <| ak rfl k115 <| tn <| KK.move 211 187 rfl rfl <| kw (k94 ⟨A112, n113, c114, x107.1, x116⟩ h)
     exact xi <| te <| te <| bx <| tn <| KK.move 187 179 rfl rfl <| kw (k84 ⟨A88, n89, c90, x91⟩ h)
    rintro ⟨A80, n81, c82, x83⟩ h
    unfold m_r03_Apply_j6 at h
    refine rg fun _ k117 => bd h fun x122 hx122 h => mv rfl <| mv rfl <| WL.freeze 179 rfl rfl rfl fun M119 hm_M119 hf120 => ?_
    have hq121 : Rels ((RelB (α := BitVec 8)) M119) ([(⟨A80, n81, c82⟩ : Hdr)] : List Hdr) ([x83] : List By) := (Rels.cons hf120 Rels.nil)
    refine WL.eff (by decide) (Eff.buildC 218 ([(⟨A80, n81, c82⟩ : Hdr)] : List Hdr) sty_30 rfl rfl rfl rfl rfl (by decide)) ?_
    rintro _ _ ⟨g118, rfl, rfl⟩
    obtain ⟨hu125, hq126⟩ := Rels.apd (Rels.lift hq56 hm_M119) hq121 hx122
    exact ap 150 (xs := rs55) (ys := ([(⟨A80, n81, c82⟩ : Hdr)] : List Hdr)) sty_30 rfl rfl rfl (rO 218 rfl) hu125 fun A123 c124 => ak rfl k117 <| bn <| tn <| kw (k70 ⟨M119, A123, (rs55 ++ ([(⟨A80, n81, c82⟩ : Hdr)] : List Hdr)).length, c124, x122, (rs55 ++ ([(⟨A80, n81, c82⟩ : Hdr)] : List Hdr))⟩ ⟨h, hm_M119, hq126⟩)
   rintro ⟨M63, A64, n65, c66, x67, rs68⟩ ⟨h, hm_M63, hq69⟩
   unfold m_r03_Apply_j5 at h
   refine rg fun _ k127 => bd h fun x128 hx128 h => mv rfl <| ya (addC rfl rfl hx128) <| ak rfl k127 <| tn <| kw (k59 ⟨M63, A64, n65, c66, x67, rs68, x128⟩ ⟨h, (Ext.trans hm_M48 hm_M63), hq69⟩)
  exact xi <| te <| te <| bx <| tn <| KK.move 150 139 rfl rfl <| kw (k46 ⟨M48, A51, n52, c53, x54, rs55⟩ ⟨h, hm_M48, hq56⟩)
 rintro ⟨M37, A40, n41, c42, x43, rs44⟩ ⟨h, hm_M37, hq45⟩
 unfold m_r03_Apply_j3 at h
 refine sr fun _ k129 => mv rfl <| asn rfl <| ak rfl k129 <| re ?_
 obtain rfl := si h
 exact rt [139] (ResIs.two rfl rfl rfl) hm_M37 ⟨A40, n41, c42, rs44, rfl, rfl, hq45⟩
theorem ws_r04_all (Mr M0 : Mem) (A00 : Option Addr) (n00 c00 : Nat) (rs00 : List Hdr) (x00 : List By) (hf00 : SlT Mr A00 n00 c00 rs00) (hq00 : Rels ((RelB (α := BitVec 8)) M0) rs00 x00) {res : (List By)} (h : m_r04_all x00 = some res) :
  FnS Tryz.prog 84 #[.slice A00 n00 c00] Mr M0 fun r M' es => ∃ (A1 : Option Addr) (n1 c1 : Nat), ∃ rs1 : List Hdr, r = .slice A1 n1 c1 /\ es = [.own 22 (Lay.sz Hdr) A1 n1 c1 (cel rs1)] /\ Rels ((RelB (α := BitVec 8)) M') rs1 res := by
 refine FnS.intro (N := 12) Tryz.func84 rfl rfl (nle rfl) fun w0 => ?_
 unfold m_r04_all at h
 refine sr fun _ k1 => ak rfl k1 <| sr fun _ k2 => ?_
 obtain ⟨x3, hx3, h⟩ := bnd h
 obtain ⟨x11, hx11, h⟩ := bnd h
 refine c1 107 Tryz.func89 rfl (fun w hb hh => w_r04_Code (Mem.snap w) hx3) fun A8 n9 c10 => mv rfl <| WL.freeze 107 rfl rfl rfl fun M23 hm_M23 hf24 => WL.eff (by decide) (Eff.callMS 117 rfl Tryz.func91 nm_91 rfl rfl rfl (fun w hb hh => ws_r03_Apply _ _ x3.1 x3.2.1 A8 n9 c10 _ hf24 A00 n00 c00 rs00 _ (RdH.mem_less (k := 7) rfl rfl rfl hf00 w hb hh) (Rels.lift hq00 hm_M23) hx11)) ?_
 rintro _ _ ⟨M25, _, ⟨A26, n27, c28, rs29, rfl, rfl, hq30⟩, hm_M25, rfl⟩
 refine mv rfl <| ya (extract rfl rfl) <| ya (extract rfl rfl) <| asn rfl <| ak rfl k2 <| sr fun _ k31 => mv rfl <| ak rfl k31 <| re ?_
 obtain rfl := si h
 exact rt [117] (ResIs.one rfl rfl) (Ext.trans hm_M23 hm_M25) ⟨A26, n27, c28, rs29, rfl, rfl, hq30⟩
theorem ws_r04_Encode (Mr M0 : Mem) (A00 : Option Addr) (n00 c00 : Nat) (rs00 : List Hdr) (x00 : List By) (hf00 : SlT Mr A00 n00 c00 rs00) (hq00 : Rels ((RelB (α := BitVec 8)) M0) rs00 x00) {res : (List By) × Int} (h : m_r04_Encode x00 = some res) :
  FnS Tryz.prog 41 #[.slice A00 n00 c00] Mr M0 fun r M' es => ∃ (A1 : Option Addr) (n1 c1 : Nat), ∃ rs1 : List Hdr, r = .tuple #[.slice A1 n1 c1, I64 res.2] /\ es = [] /\ SlT M' A1 n1 c1 rs1 /\ Rels ((RelB (α := BitVec 8)) M') rs1 res.1 := by
 refine FnS.intro (N := 10) Tryz.func41 rfl rfl (nle rfl) fun w0 => ?_
 unfold m_r04_Encode at h
 refine sr fun _ k1 => asn rfl <| ak rfl k1 <| sq fun _ k2 => sr fun _ k3 => bd h fun x4 hx4 h => mv rfl <| c0 Tryz.func83 rfl (fun w hb hh => w_r04_Level (Mem.snap w) A00 n00 c00 rs00 _ (RdH.sn (RdH.memM (k := 7) rfl hf00) w hb hh) (Rels.sn hq00 (hh.sat 0 _ rfl)) (4 : Int) hx4) <| ya (notB rfl) <| dz k3 <| cnn h rfl not_f (fun q => not_t (Bool.eq_false_iff.2 q)) (fun hc6 h => ?_) fun hc6 h => ?_
 ·refine ss <| k2 _ _ <| sr fun _ k7 => ?_
  obtain ⟨x8, hx8, h⟩ := bnd h
  obtain ⟨x26, hx26, h⟩ := bnd h
  refine mv rfl <| WL.eff (by decide) (Eff.callMS 114 rfl Tryz.func84 nm_84 rfl rfl rfl (fun w hb hh => ws_r04_all _ _ A00 n00 c00 rs00 _ (RdH.mem_less (k := 7) rfl rfl rfl hf00 w hb hh) hq00 hx8)) ?_
  rintro _ _ ⟨M20, _, ⟨A21, n22, c23, rs24, rfl, rfl, hq25⟩, hm_M20, rfl⟩
  obtain ⟨rs27, hs28, hq29⟩ := Rels.slc hq25 hx26
  rw [<- Rels.len hq25] at hs28
  refine ya (sliceLC (xs := rs24) sty_30 rfl rfl (rO 114 rfl) hs28) <| asn rfl <| ak rfl k7 <| re <| QK.freeze 114 rfl rfl rfl fun M30 hm_M30 hf31 => ?_
  obtain rfl := si h
  exact rt [] (ResIs.two rfl rfl rfl) (Ext.trans hm_M20 hm_M30) ⟨(subA A21 c23 ((4 : Int)).toNat (Lay.sz Hdr)), rs27.length, (c23 - ((4 : Int)).toNat), rs27, rfl, rfl, (SlT.slc hf31 hs28), (Rels.lift hq29 hm_M30)⟩
 refine sr fun _ k32 => asn rfl <| ak rfl k32 <| re <| tr ?_
 obtain rfl := si h
 exact rt [] (ResIs.two rfl rfl rfl) (Ext.refl _ _) ⟨none, 0, 0, ([] : List Hdr), rfl, rfl, SlT.nil, (Rels.nil (R := (RelB (α := BitVec 8)) M0))⟩
theorem w_r17_Make (M0 : Mem) (A00 : Option Addr) (n00 c00 : Nat) (x00 : By) (hf00 : SlT M0 A00 n00 c00 x00) (v0 v1 v2 : Int) (A02 : Option Addr) (n02 c02 : Nat) (x02 : List Sapi_Item) (hf02 : SlT M0 A02 n02 c02 x02) {res : (List By) × Int × Int × Int × Int × (BitVec 32) × (BitVec 32) × (BitVec 32) × (BitVec 32) × (BitVec 32) × (BitVec 32) × (List Sapi_Item) × Int} (h : m_r17_Make x00 v0 v1 v2 x02 = some res) :
  Fn Tryz.prog 12 #[.slice A00 n00 c00, .agg ([I64 v0, I64 v1, I64 v2] : List Value).toArray, .slice A02 n02 c02] M0 fun r M' es => ∃ (A1 : Option Addr) (n1 c1 : Nat), ∃ rs1 : List Hdr, ∃ (A2 : Option Addr) (n2 c2 : Nat), r = .tuple #[.slice A1 n1 c1, .agg ([I64 res.2.1, I64 res.2.2.1, I64 res.2.2.2.1, I64 res.2.2.2.2.1, U32 res.2.2.2.2.2.1, U32 res.2.2.2.2.2.2.1, U32 res.2.2.2.2.2.2.2.1, U32 res.2.2.2.2.2.2.2.2.1, U32 res.2.2.2.2.2.2.2.2.2.1, U32 res.2.2.2.2.2.2.2.2.2.2.1, .slice A2 n2 c2] : List Value).toArray, I64 res.2.2.2.2.2.2.2.2.2.2.2.2] /\ es = [.own 22 (Lay.sz Hdr) A1 n1 c1 (cel rs1), .own 59 (Lay.sz Sapi_Item) A2 n2 c2 (cel res.2.2.2.2.2.2.2.2.2.2.2.1)] /\ Rels ((RelB (α := BitVec 8)) M') rs1 res.1 := by
 refine Fn.intro (N := 49) Tryz.func12 rfl rfl (nle rfl) fun w0 => ?_
 unfold m_r17_Make at h
 refine sr fun _ k1 => bb 102 [I64 v0, I64 v1, I64 v2] rfl fun g2 => asn rfl <| al 103 zr_38 fun g3 => ak rfl k1 <| ctd [(0, _), (102, _), (103, _)] (σ := Nat × (Option Addr) × Nat × Nat × (List Sapi_Item)) (fun ⟨g4, A7, n8, c9, x10⟩ => [(0, .slice A00 n00 c00), (7, pv g3), (9, pv g4)]) (fun ⟨g4, A7, n8, c9, x10⟩ => [(0, .mem M0), (103, .blk g3 38 [I64 (0 : Int), I64 (0 : Int), I64 (0 : Int), I64 (0 : Int), U32 0#32, U32 0#32, U32 0#32, U32 0#32, U32 0#32, U32 0#32, .slice none 0 0]), (104, .blk g4 38 [I64 v0, I64 v1, I64 v2, I64 (x00.length : Int), U32 0#32, U32 0#32, U32 0#32, U32 0#32, U32 0#32, U32 0#32, .slice A7 n8 c9]), (106, .own 59 (Lay.sz Sapi_Item) A7 n8 c9 (cel x10))]) (fun ⟨g4, A7, n8, c9, x10⟩ => m_r17_Make_j0 x00 v0 v1 v2 x10 = some res) mixed (fun _ k11 => ?_) ?_
 ·obtain ⟨x14, hx14, h⟩ := bnd h
  refine du 0 rfl (loadBM (k := 102) agg_24 rfl rfl rfl) <| dm 1 rfl rfl <| du 2 rfl (lenC (xs := x00) und_22 rfl (mM rfl hf00)) <| dm 4 rfl rfl <| WD.two 3 7 (by kernel_rfl) ?_ ?_
  ·refine WS.eff rfl (by decide) (Eff.buildCA 113 ([] : List Sapi_Item) sty_25 rfl rfl rfl (by decide)) ?_
   rintro _ _ ⟨g13, rfl, rfl⟩
   refine aq ?_
   refine WD.two 5 7 (by kernel_rfl) ?_ ?_
   ·refine WS.eff rfl (by decide) (Eff.appendC 113 (xs := ([] : List Sapi_Item)) (ys := x02) sty_25 rfl rfl rfl (mM rfl hf02) hx14) ?_
    rintro _ _ ⟨A15, c16, rfl, rfl⟩
    refine aq ?_
    refine du 6 rfl (build rfl (bu_38_0_1_3 v0 v1 v2 (x00.length : Int) A15 x14.length c16)) <| on 7 <| WS.eff rfl (by decide) (Eff.alloc 117 rfl zr_38) ?_
    rintro _ _ ⟨g17, rfl, rfl⟩
    refine aq ?_
    exact on 8 <| ds 117 rfl agg_38 rfl rfl rfl <| WD.done (by kernel_rfl) <| KK.move 117 104 rfl rfl <| KK.move 113 106 rfl rfl <| kw (k11 ⟨g17, A15, x14.length, c16, x14⟩ h)
   skip
   refine WS.eff rfl (by decide) (Eff.alloc 117 rfl zr_38) ?_
   rintro _ _ ⟨g17, rfl, rfl⟩
   refine aq ?_
   refine on 5 <| WS.eff rfl (by decide) (Eff.appendC 113 (xs := ([] : List Sapi_Item)) (ys := x02) sty_25 rfl rfl rfl (mM rfl hf02) hx14) ?_
   rintro _ _ ⟨A15, c16, rfl, rfl⟩
   refine aq ?_
   exact du 6 rfl (build rfl (bu_38_0_1_3 v0 v1 v2 (x00.length : Int) A15 x14.length c16)) <| on 8 <| ds 117 rfl agg_38 rfl rfl rfl <| WD.done (by kernel_rfl) <| KK.move 117 104 rfl rfl <| KK.move 113 106 rfl rfl <| kw (k11 ⟨g17, A15, x14.length, c16, x14⟩ h)
  skip
  refine WS.eff rfl (by decide) (Eff.alloc 117 rfl zr_38) ?_
  rintro _ _ ⟨g17, rfl, rfl⟩
  refine aq ?_
  refine on 3 <| WS.eff rfl (by decide) (Eff.buildCA 113 ([] : List Sapi_Item) sty_25 rfl rfl rfl (by decide)) ?_
  rintro _ _ ⟨g13, rfl, rfl⟩
  refine aq ?_
  refine on 5 <| WS.eff rfl (by decide) (Eff.appendC 113 (xs := ([] : List Sapi_Item)) (ys := x02) sty_25 rfl rfl rfl (mM rfl hf02) hx14) ?_
  rintro _ _ ⟨A15, c16, rfl, rfl⟩
  refine aq ?_
  exact du 6 rfl (build rfl (bu_38_0_1_3 v0 v1 v2 (x00.length : Int) A15 x14.length c16)) <| on 8 <| ds 117 rfl agg_38 rfl rfl rfl <| WD.done (by kernel_rfl) <| KK.move 117 104 rfl rfl <| KK.move 113 106 rfl rfl <| kw (k11 ⟨g17, A15, x14.length, c16, x14⟩ h)
 rintro ⟨g4, A7, n8, c9, x10⟩ h
 unfold m_r17_Make_j0 at h
 refine sq fun _ k18 => sr fun _ k19 => bd h fun x20 hx20 h => ya (loadBM (k := 104) agg_38 rfl rfl rfl) <| c0 Tryz.func25 rfl (fun w hb hh => w_r17_Valid (Mem.snap w) v0 v1 v2 (x00.length : Int) 0#32 0#32 0#32 0#32 0#32 0#32 A7 n8 c9 _ (RdH.sn (rO 106 rfl) w hb hh) hx20) <| ya (notB rfl) <| dz k19 <| cnn h rfl not_f (fun q => not_t (Bool.eq_false_iff.2 q)) (fun hc22 h => ?_) fun hc22 h => ?_
 ·refine ss <| k18 _ _ <| sr fun _ k23 => bd h fun x24 hx24 h => mv rfl <| WL.eff (by decide) (Eff.callM 130 rfl Tryz.func40 nm_40 rfl rfl rfl (w_r05_Split _ A00 n00 c00 _ hf00 hx24)) ?_
  rintro _ _ ⟨M36, _, ⟨A37, n38, c39, rs40, rfl, rfl, hq41⟩, hm_M36, rfl⟩
  refine ak rfl k23 <| sr fun _ k42 => bd h fun x43 hx43 h => mv rfl <| WL.eff (by decide) (Eff.callMS 150 rfl Tryz.func41 nm_41 rfl rfl rfl (fun w hb hh => ws_r04_Encode _ _ A37 n38 c39 rs40 _ (RdH.own_less (k := 130) rfl rfl rfl w hb hh) hq41 hx43)) ?_
  rintro _ _ ⟨M57, _, ⟨A58, n59, c60, rs61, rfl, rfl, hf63, hq62⟩, hm_M57, rfl⟩
  refine mv rfl <| ya (extract rfl rfl) <| ya (extract rfl rfl) <| asn rfl <| ak rfl k42 <| sr fun _ k64 => bd h fun x65 hx65 h => mv rfl <| mv rfl ?_
  obtain ⟨hu68, hq69⟩ := Rels.apd (Rels.lift hq41 hm_M57) hq62 hx65
  refine ap 130 (xs := rs40) (ys := rs61) sty_30 rfl rfl rfl (mM rfl hf63) hu68 fun A66 c67 => ak rfl k64 <| ct (σ := (BitVec 32) × (BitVec 32) × (BitVec 32) × (BitVec 32) × (BitVec 32) × (BitVec 32)) (fun ⟨x70, x71, x72, x73, x74, x75⟩ => [(7, pv g3), (9, pv g4), (10, .slice A66 ((rs40 ++ rs61).length) c67)]) (fun ⟨x70, x71, x72, x73, x74, x75⟩ => [(0, .mem M57), (103, .blk g3 38 [I64 (0 : Int), I64 (0 : Int), I64 (0 : Int), I64 (0 : Int), U32 0#32, U32 0#32, U32 0#32, U32 0#32, U32 0#32, U32 0#32, .slice none 0 0]), (104, .blk g4 38 [I64 v0, I64 v1, I64 v2, I64 (x00.length : Int), U32 x70, U32 x71, U32 x72, U32 x73, U32 x74, U32 x75, .slice A7 n8 c9]), (106, .own 59 (Lay.sz Sapi_Item) A7 n8 c9 (cel x10)), (130, .own 22 (Lay.sz Hdr) A66 ((rs40 ++ rs61).length) c67 (cel (rs40 ++ rs61)))]) (fun ⟨x70, x71, x72, x73, x74, x75⟩ => m_r17_Make_j1 x00 v0 v1 v2 x10 x65 x70 x71 x72 x73 x74 x75 = some res) (fun _ k76 => ?_) ?_
  ·refine sr fun _ k77 => ak rfl k77 <| bl <| lp (τ := (BitVec 32) × (BitVec 32) × (BitVec 32) × (BitVec 32) × (BitVec 32) × (BitVec 32) × Int) (fun ⟨x78, x79, x80, x81, x82, x83, x84⟩ => [(7, pv g3), (9, pv g4), (10, .slice A66 ((rs40 ++ rs61).length) c67), (13, I64 x84)]) (fun ⟨x78, x79, x80, x81, x82, x83, x84⟩ => [(0, .mem M57), (103, .blk g3 38 [I64 (0 : Int), I64 (0 : Int), I64 (0 : Int), I64 (0 : Int), U32 0#32, U32 0#32, U32 0#32, U32 0#32, U32 0#32, U32 0#32, .slice none 0 0]), (104, .blk g4 38 [I64 v0, I64 v1, I64 v2, I64 (x00.length : Int), U32 x78, U32 x79, U32 x80, U32 x81, U32 x82, U32 x83, .slice A7 n8 c9]), (106, .own 59 (Lay.sz Sapi_Item) A7 n8 c9 (cel x10)), (130, .own 22 (Lay.sz Hdr) A66 ((rs40 ++ rs61).length) c67 (cel (rs40 ++ rs61)))]) (fun q85 ⟨x78, x79, x80, x81, x82, x83, x84⟩ => m_r17_Make_l2 x00 v0 v1 v2 x10 x65 q85 x78 x79 x80 x81 x82 x83 x84 = some res) ⟨0#32, 0#32, 0#32, 0#32, 0#32, 0#32, (0 : Int)⟩ ?_ (by simp [m_r17_Make_l2]) ?_
   ·exact h
   rintro q85 ⟨x78, x79, x80, x81, x82, x83, x84⟩ h _ k86
   unfold m_r17_Make_l2 at h
   refine sq fun _ k87 => sr fun _ k88 => mv rfl <| ya (lss rfl rfl) <| dz k88 <| cI h rfl (fun hc89 h => ?_) fun hc89 h => ?_
   ·refine ss <| k87 _ _ <| sq fun _ k90 => bl <| rg fun _ k91 => ?_
    obtain ⟨x92, hx92, h⟩ := bnd h
    obtain ⟨x96, hx96, h⟩ := bnd h
    obtain ⟨x98, hx98, h⟩ := bnd h
    obtain ⟨x99, hx99, h⟩ := bnd h
    refine mv rfl <| mv rfl <| mv rfl ?_
    obtain ⟨r_93, hr94, hq95⟩ := Rels.idx hq69 hx92
    refine ya (idxC (xs := (rs40 ++ rs61)) sty_30 rfl rfl (rO 130 rfl) hr94) <| ya (loadC0 (xs := (rs40 ++ rs61)) scal_22 rfl (rO 130 rfl) hr94 rfl) <| c0 Tryz.func42 rfl (fun w hb hh => w_r01_Sum (Mem.snap w) r_93.A r_93.n r_93.c _ (sM rfl hq95 w hb hh) hx96) <| ya (fieldAddr Tryz.underlying38 rfl nz_32 rfl rfl) <| ya (idxArrF (xs := ([x78, x79, x80, x81, x82, x83] : List (BitVec 32))) und_32 rfl rfl rfl rfl hx98) <| WL.eff0 (Eff0.storeArrF 104 (xs := ([x78, x79, x80, x81, x82, x83] : List (BitVec 32))) (pre := [I64 v0, I64 v1, I64 v2, I64 (x00.length : Int)]) (post := [.slice A7 n8 c9]) (zs := [(x99.getD 0 0#32), (x99.getD 1 0#32), (x99.getD 2 0#32), (x99.getD 3 0#32), (x99.getD 4 0#32), (x99.getD 5 0#32)]) (cs := [I64 v0, I64 v1, I64 v2, I64 (x00.length : Int), U32 (x99.getD 0 0#32), U32 (x99.getD 1 0#32), U32 (x99.getD 2 0#32), U32 (x99.getD 3 0#32), U32 (x99.getD 4 0#32), U32 (x99.getD 5 0#32), .slice A7 n8 c9]) (a' := x96) siz_31 rfl rfl rfl rfl rfl rfl rfl hx99 (eta_getD 0#32 (upd_len hx99 rfl)) rfl) <| dz k91 <| bn <| tn <| k90 _ _ <| rg fun _ k100 => bd h fun x101 hx101 h => mv rfl <| ya (addC rfl rfl hx101) <| ak rfl k100 <| tn <| kw (k86 ⟨(x99.getD 0 0#32), (x99.getD 1 0#32), (x99.getD 2 0#32), (x99.getD 3 0#32), (x99.getD 4 0#32), (x99.getD 5 0#32), x101⟩ h)
   exact xi <| te <| te <| bx <| tn <| kw (k76 ⟨x78, x79, x80, x81, x82, x83⟩ h)
  rintro ⟨x70, x71, x72, x73, x74, x75⟩ h
  unfold m_r17_Make_j1 at h
  refine sd [(0, _), (104, _), (106, _), (130, _)] mixed fun _ k102 => ?_
  refine dm 0 rfl rfl <| du 1 rfl (loadBM (k := 104) agg_38 rfl rfl rfl) <| du 2 rfl (Yld.assign rfl) <| on 3 <| ds 103 rfl agg_38 rfl rfl rfl <| du 4 rfl (Yld.assign rfl) <| dd <| k102 _ _ <| re ?_
  obtain rfl := si h
  exact rt [130, 106] (ResIs.tmpCellTmpM (k := 103) rfl agg_38 rfl rfl rfl rfl rfl) (Ext.trans hm_M36 hm_M57) ⟨A66, (rs40 ++ rs61).length, c67, (rs40 ++ rs61), A7, n8, c9, rfl, rfl, hq69⟩
 refine sr fun _ k103 => ya (build rfl (bu_38_)) <| asn rfl <| sb 103 agg_38 rfl rfl rfl <| ak rfl k103 <| re <| tr <| QK.nilOwn 204 22 (Lay.sz Hdr) none <| QK.nilOwn 205 59 (Lay.sz Sapi_Item) none ?_
 obtain rfl := si h
 exact rt [204, 205] (ResIs.tmpCellTmpM (k := 103) rfl agg_38 rfl rfl rfl rfl rfl) (Ext.refl _ _) ⟨none, 0, 0, ([] : List Hdr), none, 0, 0, rfl, rfl, (Rels.nil (R := (RelB (α := BitVec 8)) M0))⟩
theorem w_r17_Good (M0 : Mem) (u0 u1 u2 u3 : Int) (u4 u5 u6 u7 u8 u9 : BitVec 32) (A00_10 : Option Addr) (n00_10 c00_10 : Nat) (u10 : List Sapi_Item) (hf00_10 : SlT M0 A00_10 n00_10 c00_10 u10) (x01 : Int) (A02 : Option Addr) (n02 c02 : Nat) (x02 : By) (hf02 : SlT M0 A02 n02 c02 x02) {res : Bool} (h : m_r17_Good u0 u1 u2 u3 u4 u5 u6 u7 u8 u9 u10 x01 x02 = some res) :
  Fn Tryz.prog 21 #[.agg ([I64 u0, I64 u1, I64 u2, I64 u3, U32 u4, U32 u5, U32 u6, U32 u7, U32 u8, U32 u9, .slice A00_10 n00_10 c00_10] : List Value).toArray, I64 x01, .slice A02 n02 c02] M0 fun r M' es => r = .bool res /\ es = [] := by
 refine Fn.intro (N := 34) Tryz.func21 rfl rfl (nle rfl) fun w0 => ?_
 unfold m_r17_Good at h
 refine sr fun _ k1 => bb 102 [I64 u0, I64 u1, I64 u2, I64 u3, U32 u4, U32 u5, U32 u6, U32 u7, U32 u8, U32 u9, .slice A00_10 n00_10 c00_10] rfl fun g2 => ak rfl k1 <| sd [(0, _), (102, _)] mixed fun _ k3 => ?_
 by_cases hc4 : (0 : Int) <= x01
 ·replace h := of_t hc4 h
  by_cases hc5 : x01 < (6 : Int)
  ·replace h := of_t hc5 h
   obtain ⟨x6, hx6, h⟩ := bnd h
   by_cases hc8 : x6 = true
   ·replace h := of_t hc8 h
    obtain ⟨x9, hx9, h⟩ := bnd h
    by_cases hc11 : (x02.length : Int) = x9
    ·replace h := of_t hc11 h
     obtain ⟨x12, hx12, h⟩ := bnd h
     obtain ⟨x14, hx14, h⟩ := bnd h
     obtain ⟨x15, hx15, h⟩ := bnd h
     refine dm 0 rfl rfl <| du 1 rfl (geq rfl rfl) <| dm 2 rfl rfl <| WD.new (v' := .bool true) (congrArg Value.bool (decide_eq_true hc4)) <| dv 3 rfl (Yld.move rfl) <| dv 4 rfl (lss rfl rfl) <| du 5 rfl (pickT rfl rfl) <| dm 6 rfl rfl <| WD.new (v' := .bool true) (congrArg Value.bool (decide_eq_true hc5)) <| dv 7 rfl (loadBM (k := 102) agg_38 rfl rfl rfl) <| on 8 <| WS.effG rfl (by decide) rfl (Eff.callS 107 rfl Tryz.func25 nm_25 rfl rfl (fun w hb hh => w_r17_Valid (Mem.snap w) u0 u1 u2 u3 u4 u5 u6 u7 u8 u9 A00_10 n00_10 c00_10 _ (sM rfl hf00_10 w hb hh) hx6)) ?_
     rintro _ _ ⟨_, ⟨rfl, rfl⟩, rfl⟩
     refine aq ?_
     refine du 9 rfl (pickT rfl rfl) <| dm 10 rfl rfl <| WD.new (v' := .bool true) (congrArg Value.bool hc8) <| dv 11 rfl (Yld.move rfl) <| dv 12 rfl (lenC (xs := x02) und_22 rfl (mM rfl hf02)) <| dv 13 rfl (fieldAddr Tryz.underlying38 rfl nz_2 rfl rfl) <| dv 14 rfl (loadB (k := 102) scal_2 rfl rfl rfl) <| on 15 <| WS.effG rfl (by decide) rfl (Eff.callS 110 rfl Tryz.func48 nm_48 rfl rfl (fun w hb hh => w_r05_Size (Mem.snap w) u3 hx9)) ?_
     rintro _ _ ⟨_, ⟨rfl, rfl⟩, rfl⟩
     refine aq ?_
     refine dv 16 rfl (eqlI rfl rfl) <| du 17 rfl (pickT rfl rfl) <| dm 18 rfl rfl <| WD.new (v' := .bool true) (congrArg Value.bool (beq_iff_eq.2 hc11)) <| dv 19 rfl (Yld.move rfl) <| dv 21 rfl (Yld.move rfl) <| dv 22 rfl (fieldAddr Tryz.underlying38 rfl nz_32 rfl rfl) <| dv 23 rfl (idxArrF (xs := ([u4, u5, u6, u7, u8, u9] : List (BitVec 32))) und_32 rfl rfl rfl rfl hx14) <| dv 24 rfl (loadArrF (xs := ([u4, u5, u6, u7, u8, u9] : List (BitVec 32))) (pre := [I64 u0, I64 u1, I64 u2, I64 u3]) (post := [.slice A00_10 n00_10 c00_10]) (k := 102) scal_31 rfl rfl rfl hx15 rfl) <| on 20 <| WS.effG rfl (by decide) rfl (Eff.callS 113 rfl Tryz.func42 nm_42 rfl rfl (fun w hb hh => w_r01_Sum (Mem.snap w) A02 n02 c02 _ (sM rfl hf02 w hb hh) hx12)) ?_
     rintro _ _ ⟨_, ⟨rfl, rfl⟩, rfl⟩
     refine aq ?_
     refine dv 25 rfl (eql_u32 (a := x12) (b := x15) rfl rfl) <| du 26 rfl (pickT rfl rfl) <| du 27 rfl (Yld.assign rfl) <| dd <| k3 _ _ <| re ?_
     obtain rfl := si h
     exact rt0 (ResIs.one rfl rfl)
    replace h := of_f hc11 h
    refine dm 0 rfl rfl <| du 1 rfl (geq rfl rfl) <| dm 2 rfl rfl <| WD.new (v' := .bool true) (congrArg Value.bool (decide_eq_true hc4)) <| dv 3 rfl (Yld.move rfl) <| dv 4 rfl (lss rfl rfl) <| du 5 rfl (pickT rfl rfl) <| dm 6 rfl rfl <| WD.new (v' := .bool true) (congrArg Value.bool (decide_eq_true hc5)) <| dv 7 rfl (loadBM (k := 102) agg_38 rfl rfl rfl) <| on 8 <| WS.effG rfl (by decide) rfl (Eff.callS 107 rfl Tryz.func25 nm_25 rfl rfl (fun w hb hh => w_r17_Valid (Mem.snap w) u0 u1 u2 u3 u4 u5 u6 u7 u8 u9 A00_10 n00_10 c00_10 _ (sM rfl hf00_10 w hb hh) hx6)) ?_
    rintro _ _ ⟨_, ⟨rfl, rfl⟩, rfl⟩
    refine aq ?_
    refine du 9 rfl (pickT rfl rfl) <| dm 10 rfl rfl <| WD.new (v' := .bool true) (congrArg Value.bool hc8) <| dv 11 rfl (Yld.move rfl) <| dv 12 rfl (lenC (xs := x02) und_22 rfl (mM rfl hf02)) <| dv 13 rfl (fieldAddr Tryz.underlying38 rfl nz_2 rfl rfl) <| dv 14 rfl (loadB (k := 102) scal_2 rfl rfl rfl) <| on 15 <| WS.effG rfl (by decide) rfl (Eff.callS 110 rfl Tryz.func48 nm_48 rfl rfl (fun w hb hh => w_r05_Size (Mem.snap w) u3 hx9)) ?_
    rintro _ _ ⟨_, ⟨rfl, rfl⟩, rfl⟩
    refine aq ?_
    refine dv 16 rfl (eqlI rfl rfl) <| du 17 rfl (pickT rfl rfl) <| dm 18 rfl rfl <| WD.new (v' := .bool false) (congrArg Value.bool (beq_eq_false_iff_ne.2 hc11)) <| dw 19 rfl <| dw 20 rfl <| dw 21 rfl <| dw 22 rfl <| dw 23 rfl <| dw 24 rfl <| dw 25 rfl <| du 26 rfl (pickF rfl rfl) <| du 27 rfl (Yld.assign rfl) <| dd <| k3 _ _ <| re ?_
    obtain rfl := si h
    exact rt0 (ResIs.one rfl rfl)
   replace h := of_f hc8 h
   refine dm 0 rfl rfl <| du 1 rfl (geq rfl rfl) <| dm 2 rfl rfl <| WD.new (v' := .bool true) (congrArg Value.bool (decide_eq_true hc4)) <| dv 3 rfl (Yld.move rfl) <| dv 4 rfl (lss rfl rfl) <| du 5 rfl (pickT rfl rfl) <| dm 6 rfl rfl <| WD.new (v' := .bool true) (congrArg Value.bool (decide_eq_true hc5)) <| dv 7 rfl (loadBM (k := 102) agg_38 rfl rfl rfl) <| on 8 <| WS.effG rfl (by decide) rfl (Eff.callS 107 rfl Tryz.func25 nm_25 rfl rfl (fun w hb hh => w_r17_Valid (Mem.snap w) u0 u1 u2 u3 u4 u5 u6 u7 u8 u9 A00_10 n00_10 c00_10 _ (sM rfl hf00_10 w hb hh) hx6)) ?_
   rintro _ _ ⟨_, ⟨rfl, rfl⟩, rfl⟩
   refine aq ?_
   refine du 9 rfl (pickT rfl rfl) <| dm 10 rfl rfl <| WD.new (v' := .bool false) (congrArg Value.bool (Bool.eq_false_iff.2 hc8)) <| dw 11 rfl <| dw 12 rfl <| dw 13 rfl <| dw 14 rfl <| dw 15 rfl <| dw 16 rfl <| du 17 rfl (pickF rfl rfl) <| dm 18 rfl rfl <| dw 19 rfl <| dw 20 rfl <| dw 21 rfl <| dw 22 rfl <| dw 23 rfl <| dw 24 rfl <| dw 25 rfl <| du 26 rfl (pickF rfl rfl) <| du 27 rfl (Yld.assign rfl) <| dd <| k3 _ _ <| re ?_
   obtain rfl := si h
   exact rt0 (ResIs.one rfl rfl)
  replace h := of_f hc5 h
  refine dm 0 rfl rfl <| du 1 rfl (geq rfl rfl) <| dm 2 rfl rfl <| WD.new (v' := .bool true) (congrArg Value.bool (decide_eq_true hc4)) <| dv 3 rfl (Yld.move rfl) <| dv 4 rfl (lss rfl rfl) <| du 5 rfl (pickT rfl rfl) <| dm 6 rfl rfl <| WD.new (v' := .bool false) (congrArg Value.bool (decide_eq_false hc5)) <| dw 7 rfl <| dw 8 rfl <| du 9 rfl (pickF rfl rfl) <| dm 10 rfl rfl <| dw 11 rfl <| dw 12 rfl <| dw 13 rfl <| dw 14 rfl <| dw 15 rfl <| dw 16 rfl <| du 17 rfl (pickF rfl rfl) <| dm 18 rfl rfl <| dw 19 rfl <| dw 20 rfl <| dw 21 rfl <| dw 22 rfl <| dw 23 rfl <| dw 24 rfl <| dw 25 rfl <| du 26 rfl (pickF rfl rfl) <| du 27 rfl (Yld.assign rfl) <| dd <| k3 _ _ <| re ?_
  obtain rfl := si h
  exact rt0 (ResIs.one rfl rfl)
 replace h := of_f hc4 h
 refine dm 0 rfl rfl <| du 1 rfl (geq rfl rfl) <| dm 2 rfl rfl <| WD.new (v' := .bool false) (congrArg Value.bool (decide_eq_false hc4)) <| dw 3 rfl <| dw 4 rfl <| du 5 rfl (pickF rfl rfl) <| dm 6 rfl rfl <| dw 7 rfl <| dw 8 rfl <| du 9 rfl (pickF rfl rfl) <| dm 10 rfl rfl <| dw 11 rfl <| dw 12 rfl <| dw 13 rfl <| dw 14 rfl <| dw 15 rfl <| dw 16 rfl <| du 17 rfl (pickF rfl rfl) <| dm 18 rfl rfl <| dw 19 rfl <| dw 20 rfl <| dw 21 rfl <| dw 22 rfl <| dw 23 rfl <| dw 24 rfl <| dw 25 rfl <| du 26 rfl (pickF rfl rfl) <| du 27 rfl (Yld.assign rfl) <| dd <| k3 _ _ <| re ?_
 obtain rfl := si h
 exact rt0 (ResIs.one rfl rfl)
theorem w_r17_Rebuild (M0 : Mem) (u0 u1 u2 u3 : Int) (u4 u5 u6 u7 u8 u9 : BitVec 32) (A00_10 : Option Addr) (n00_10 c00_10 : Nat) (u10 : List Sapi_Item) (hf00_10 : SlT M0 A00_10 n00_10 c00_10 u10) (A01 : Option Addr) (n01 c01 : Nat) (rs01 : List Hdr) (x01 : List By) (hf01 : SlT M0 A01 n01 c01 rs01) (hq01 : Rels ((RelB (α := BitVec 8)) M0) rs01 x01) {res : (List By) × (List Int) × Int} (h : m_r17_Rebuild u0 u1 u2 u3 u4 u5 u6 u7 u8 u9 u10 x01 = some res) :
  Fn Tryz.prog 19 #[.agg ([I64 u0, I64 u1, I64 u2, I64 u3, U32 u4, U32 u5, U32 u6, U32 u7, U32 u8, U32 u9, .slice A00_10 n00_10 c00_10] : List Value).toArray, .slice A01 n01 c01] M0 fun r M' es => ∃ (A1 : Option Addr) (n1 c1 : Nat), ∃ rs1 : List Hdr, ∃ (A2 : Option Addr) (n2 c2 : Nat), r = .tuple #[.slice A1 n1 c1, .slice A2 n2 c2, I64 res.2.2] /\ es = [.own 22 (Lay.sz Hdr) A1 n1 c1 (cel rs1), .own 3 (Lay.sz Int) A2 n2 c2 (cel res.2.1)] /\ Rels ((RelB (α := BitVec 8)) M') rs1 res.1 := by
 refine Fn.intro (N := 68) Tryz.func19 rfl rfl (nle rfl) fun w0 => ?_
 unfold m_r17_Rebuild at h
 refine sr fun _ k1 => bb 102 [I64 u0, I64 u1, I64 u2, I64 u3, U32 u4, U32 u5, U32 u6, U32 u7, U32 u8, U32 u9, .slice A00_10 n00_10 c00_10] rfl fun g2 => asn rfl <| asn rfl <| ak rfl k1 <| ct (σ := Unit) (fun _ => [(1, .slice A01 n01 c01), (2, pv g2)]) (fun _ => [(0, .mem M0), (102, .blk g2 38 [I64 u0, I64 u1, I64 u2, I64 u3, U32 u4, U32 u5, U32 u6, U32 u7, U32 u8, U32 u9, .slice A00_10 n00_10 c00_10])]) (fun _ => m_r17_Rebuild_j0 u0 u1 u10 u2 u3 u4 u5 u6 u7 u8 u9 x01 = some res) (fun _ k3 => ?_) ?_
 ·refine sr fun _ k4 => bd h fun x5 hx5 h => ya (loadBM (k := 102) agg_38 rfl rfl rfl) <| c0 Tryz.func25 rfl (fun w hb hh => w_r17_Valid (Mem.snap w) u0 u1 u2 u3 u4 u5 u6 u7 u8 u9 A00_10 n00_10 c00_10 _ (sM rfl hf00_10 w hb hh) hx5) <| ya (notB rfl) <| mv rfl <| spn h not_f (fun q => not_t (Bool.eq_false_iff.2 q)) (fun hc7 h => ?_) fun hc7 h => ?_
  ·refine mvg rfl <| yg (lenD (rs := rs01) (xs := x01) (Rels.len hq01) und_30 rfl (mM rfl hf01)) <| yg (neqI rfl rfl) <| pf rfl rfl <| dz k4 <| cnn h rfl bne_eq_false_iff_eq.2 bne_iff_ne.2 (fun hc8 h => ?_) fun hc8 h => ?_
   ·exact WC.skip <| tn <| kw (k3 () h)
   refine sr fun _ k9 => asn rfl <| asn rfl <| ak rfl k9 <| re <| tr <| QK.nilOwn 110 22 (Lay.sz Hdr) none <| QK.nilOwn 111 3 (Lay.sz Int) none ?_
   obtain rfl := si h
   exact rt [110, 111] (ResIs.three rfl rfl rfl rfl) (Ext.refl _ _) ⟨none, 0, 0, ([] : List Hdr), none, 0, 0, rfl, rfl, (Rels.nil (R := (RelB (α := BitVec 8)) M0))⟩
  refine sk <| sk <| sk <| pt rfl rfl <| dz k4 <| cdT rfl <| sr fun _ k12 => asn rfl <| asn rfl <| ak rfl k12 <| re <| tr <| QK.nilOwn 113 22 (Lay.sz Hdr) none <| QK.nilOwn 114 3 (Lay.sz Int) none ?_
  obtain rfl := si h
  exact rt [113, 114] (ResIs.three rfl rfl rfl rfl) (Ext.refl _ _) ⟨none, 0, 0, ([] : List Hdr), none, 0, 0, rfl, rfl, (Rels.nil (R := (RelB (α := BitVec 8)) M0))⟩
 rintro _ h
 unfold m_r17_Rebuild_j0 at h
 refine sr fun _ k15 => bd h fun x17 hx17 h => WL.eff (by decide) (Eff.makeC 116 false sty_91 rfl rfl rfl rfl rfl rfl hx17) ?_
 rintro _ _ ⟨g16, rfl, rfl⟩
 refine ak rfl k15 <| sr fun _ k18 => ak rfl k18 <| ct (σ := (List Bool) × (Option Addr) × Nat × Nat × (List Int)) (fun ⟨x19, A22, n23, c24, x25⟩ => [(1, .slice A01 n01 c01), (2, pv g2), (7, .slice (some ⟨g16, 0, none⟩) x17.length x17.length), (8, .slice A22 n23 c24)]) (fun ⟨x19, A22, n23, c24, x25⟩ => [(0, .mem M0), (102, .blk g2 38 [I64 u0, I64 u1, I64 u2, I64 u3, U32 u4, U32 u5, U32 u6, U32 u7, U32 u8, U32 u9, .slice A00_10 n00_10 c00_10]), (116, .own 4 (Lay.sz Bool) (some ⟨g16, 0, none⟩) x17.length x17.length (cel x19)), (121, .own 3 (Lay.sz Int) A22 n23 c24 (cel x25))]) (fun ⟨x19, A22, n23, c24, x25⟩ => m_r17_Rebuild_j1 u0 u1 u10 u2 u3 u4 u5 u6 u7 u8 u9 x01 x19 x25 = some res) (fun _ k26 => ?_) ?_
 ·refine sr fun _ k27 => ak rfl k27 <| bl <| WC.nilOwn 130 3 (Lay.sz Int) none <| lp (τ := (List Bool) × (Option Addr) × Nat × Nat × (List Int) × Int) (fun ⟨x28, A31, n32, c33, x34, x35⟩ => [(1, .slice A01 n01 c01), (2, pv g2), (7, .slice (some ⟨g16, 0, none⟩) x17.length x17.length), (8, .slice A31 n32 c33), (9, I64 x35)]) (fun ⟨x28, A31, n32, c33, x34, x35⟩ => [(0, .mem M0), (102, .blk g2 38 [I64 u0, I64 u1, I64 u2, I64 u3, U32 u4, U32 u5, U32 u6, U32 u7, U32 u8, U32 u9, .slice A00_10 n00_10 c00_10]), (116, .own 4 (Lay.sz Bool) (some ⟨g16, 0, none⟩) x17.length x17.length (cel x28)), (130, .own 3 (Lay.sz Int) A31 n32 c33 (cel x34))]) (fun q36 ⟨x28, A31, n32, c33, x34, x35⟩ => m_r17_Rebuild_l2 u0 u1 u10 u2 u3 u4 u5 u6 u7 u8 u9 x01 q36 x28 x34 x35 = some res) ⟨x17, none, 0, 0, ([] : List Int), (0 : Int)⟩ ?_ (by simp [m_r17_Rebuild_l2]) ?_
  ·exact h
  rintro q36 ⟨x28, A31, n32, c33, x34, x35⟩ h _ k37
  unfold m_r17_Rebuild_l2 at h
  refine sq fun _ k38 => sr fun _ k39 => mv rfl <| ya (lss rfl rfl) <| dz k39 <| cI h rfl (fun hc40 h => ?_) fun hc40 h => ?_
  ·refine ss <| k38 _ _ <| sq fun _ k41 => bl <| sd [(0, _), (102, _), (130, _)] mixed fun _ k42 => ?_
   obtain ⟨x43, hx43, h⟩ := bnd h
   obtain ⟨x47, hx47, h⟩ := bnd h
   obtain ⟨x49, hx49, h⟩ := bnd h
   obtain ⟨x50, hx50, h⟩ := bnd h
   refine dm 0 rfl rfl <| dm 1 rfl rfl <| du 2 rfl (loadBM (k := 102) agg_38 rfl rfl rfl) <| dm 3 rfl rfl <| dm 4 rfl rfl <| dm 5 rfl rfl ?_
   obtain ⟨r_44, hr45, hq46⟩ := Rels.idx hq01 hx43
   refine du 6 rfl (idxC (xs := rs01) sty_30 rfl rfl (mM rfl hf01) hr45) <| du 7 rfl (loadC0 (xs := rs01) scal_22 rfl (mM rfl hf01) hr45 rfl) <| on 8 <| d0 rfl Tryz.func21 rfl (fun w hb hh => w_r17_Good (Mem.snap w) u0 u1 u2 u3 u4 u5 u6 u7 u8 u9 A00_10 n00_10 c00_10 _ (sM rfl hf00_10 w hb hh) x35 r_44.A r_44.n r_44.c _ (sM rfl hq46 w hb hh) hx47) <| on 9 <| dy rfl (idxC (xs := x28) sty_91 rfl rfl (rO 116 rfl) hx49) <| on 10 <| WS.eff0 rfl (Eff0.storeC1 116 (xs := x28) (a' := x47) siz_4 rfl rfl rfl rfl rfl rfl hx50) (sc (sc (sc sn))) <| dd <| k42 _ _ <| sr fun _ k51 => bd h fun x52 hx52 h => mv rfl <| mv rfl <| ya (idxC (xs := x50) sty_91 rfl rfl (rO 116 rfl) hx52) <| ya (loadC0 (xs := x50) scal_4 rfl (rO 116 rfl) hx52 rfl) <| ya (notB rfl) <| dz k51 <| cnn h rfl not_f (fun q => not_t (Bool.eq_false_iff.2 q)) (fun hc53 h => ?_) fun hc53 h => ?_
   ·refine WC.skip <| bn <| tn <| k41 _ _ <| rg fun _ k54 => bd h fun x55 hx55 h => mv rfl <| ya (addC rfl rfl hx55) <| ak rfl k54 <| tn <| kw (k37 ⟨x50, A31, n32, c33, x34, x55⟩ h)
   refine rg fun _ k56 => bd h fun x58 hx58 h => mv rfl <| mv rfl <| WL.eff (by decide) (Eff.buildC 157 ([x35] : List Int) sty_45 rfl rfl rfl rfl rfl (by decide)) ?_
   rintro _ _ ⟨g57, rfl, rfl⟩
   refine ap 130 (xs := x34) (ys := ([x35] : List Int)) sty_45 rfl rfl rfl (rO 157 rfl) hx58 fun A59 c60 => ak rfl k56 <| bn <| tn <| k41 _ _ <| rg fun _ k61 => bd h fun x62 hx62 h => mv rfl <| ya (addC rfl rfl hx62) <| ak rfl k61 <| tn <| kw (k37 ⟨x50, A59, x58.length, c60, x58, x62⟩ h)
  exact xi <| te <| te <| bx <| tn <| KK.move 130 121 rfl rfl <| kw (k26 ⟨x28, A31, n32, c33, x34⟩ h)
 rintro ⟨x19, A22, n23, c24, x25⟩ h
 unfold m_r17_Rebuild_j1 at h
 refine sr fun _ k63 => bd h fun x64 hx64 h => mv rfl <| mv rfl <| WL.freeze 116 rfl rfl rfl fun M76 hm_M76 hf77 => WL.eff (by decide) (Eff.callM 170 rfl Tryz.func46 nm_46 rfl rfl rfl (w_r04_Restore _ A01 n01 c01 rs01 _ (SlRc.lift hf01 hm_M76) (Rels.lift hq01 hm_M76) (some ⟨g16, 0, none⟩) x17.length x17.length _ hf77 hx64)) ?_
 rintro _ _ ⟨M78, _, ⟨A79, n80, c81, rs82, rfl, rfl, hq83⟩, hm_M78, rfl⟩
 refine mv rfl <| ya (extract rfl rfl) <| ya (extract rfl rfl) <| asn rfl <| ak rfl k63 <| sq fun _ k84 => sr fun _ k85 => mv rfl <| ya (neqI rfl rfl) <| dz k85 <| cnn h rfl bne_eq_false_iff_eq.2 bne_iff_ne.2 (fun hc86 h => ?_) fun hc86 h => ?_
 ·refine ss <| k84 _ _ <| ct (σ := Unit) (fun _ => [(8, .slice A22 n23 c24), (10, .slice A79 n80 c81)]) (fun _ => [(0, .mem M78), (121, .own 3 (Lay.sz Int) A22 n23 c24 (cel x25)), (170, .own 22 (Lay.sz Hdr) A79 n80 c81 (cel rs82))]) (fun _ => m_r17_Rebuild_j3 x25 x64 = some res) (fun _ k87 => ?_) ?_
  ·refine sr fun _ k88 => ak rfl k88 <| bl <| lp (τ := Int) (fun x89 => [(2, pv g2), (8, .slice A22 n23 c24), (10, .slice A79 n80 c81), (12, I64 x89)]) (fun x89 => [(0, .mem M78), (102, .blk g2 38 [I64 u0, I64 u1, I64 u2, I64 u3, U32 u4, U32 u5, U32 u6, U32 u7, U32 u8, U32 u9, .slice A00_10 n00_10 c00_10]), (121, .own 3 (Lay.sz Int) A22 n23 c24 (cel x25)), (170, .own 22 (Lay.sz Hdr) A79 n80 c81 (cel rs82))]) (fun q90 x89 => m_r17_Rebuild_l4 u0 u1 u10 u2 u3 u4 u5 u6 u7 u8 u9 x25 x64 q90 x89 = some res) ((0 : Int)) ?_ (by simp [m_r17_Rebuild_l4]) ?_
   ·exact h
   rintro q90 x89 h _ k91
   unfold m_r17_Rebuild_l4 at h
   refine sq fun _ k92 => sr fun _ k93 => mv rfl <| ya (lss rfl rfl) <| dz k93 <| cI h rfl (fun hc94 h => ?_) fun hc94 h => ?_
   ·refine ss <| k92 _ _ <| sq fun _ k95 => bl <| sd [(0, _), (102, _), (121, _), (170, _)] mixed fun _ k96 => ?_
    obtain ⟨x97, hx97, h⟩ := bnd h
    obtain ⟨x101, hx101, h⟩ := bnd h
    refine du 0 rfl (loadBM (k := 102) agg_38 rfl rfl rfl) <| dm 1 rfl rfl <| dm 2 rfl rfl <| dm 3 rfl rfl ?_
    obtain ⟨r_98, hr99, hq100⟩ := Rels.idx hq83 hx97
    refine du 4 rfl (idxC (xs := rs82) sty_30 rfl rfl (rO 170 rfl) hr99) <| du 5 rfl (loadC0 (xs := rs82) scal_22 rfl (rO 170 rfl) hr99 rfl) <| on 6 <| d0 rfl Tryz.func21 rfl (fun w hb hh => w_r17_Good (Mem.snap w) u0 u1 u2 u3 u4 u5 u6 u7 u8 u9 A00_10 n00_10 c00_10 _ (RdH.sn (mM rfl (SlRc.lift (SlRc.lift hf00_10 hm_M76) hm_M78)) w hb hh) x89 r_98.A r_98.n r_98.c _ (sM rfl hq100 w hb hh) hx101) <| du 7 rfl (notB rfl) <| dd <| k96 _ _ <| cnn h rfl not_f (fun q => not_t (Bool.eq_false_iff.2 q)) (fun hc103 h => ?_) fun hc103 h => ?_
    ·refine WC.skip <| bn <| tn <| k95 _ _ <| rg fun _ k104 => bd h fun x105 hx105 h => mv rfl <| ya (addC rfl rfl hx105) <| ak rfl k104 <| tn <| kw (k91 (x105) h)
    refine sr fun _ k106 => asn rfl <| asn rfl <| ak rfl k106 <| re <| br <| tr <| tr <| br <| tr <| QK.nilOwn 207 22 (Lay.sz Hdr) none <| QK.nilOwn 208 3 (Lay.sz Int) none ?_
    obtain rfl := si h
    exact rt [207, 208] (ResIs.three rfl rfl rfl rfl) (Ext.trans hm_M76 hm_M78) ⟨none, 0, 0, ([] : List Hdr), none, 0, 0, rfl, rfl, (Rels.nil (R := (RelB (α := BitVec 8)) M78))⟩
   exact xi <| te <| te <| bx <| tn <| kw (k87 () h)
  rintro _ h
  unfold m_r17_Rebuild_j3 at h
  refine sr fun _ k109 => mv rfl <| mv rfl <| asn rfl <| asn rfl <| ak rfl k109 <| re ?_
  obtain rfl := si h
  exact rt [170, 121] (ResIs.three rfl rfl rfl rfl) (Ext.trans hm_M76 hm_M78) ⟨A79, n80, c81, rs82, A22, n23, c24, rfl, rfl, hq83⟩
 refine sr fun _ k110 => mv rfl <| asn rfl <| asn rfl <| ak rfl k110 <| re <| tr <| QK.nilOwn 211 22 (Lay.sz Hdr) none <| QK.nilOwn 212 3 (Lay.sz Int) none ?_
 obtain rfl := si h
 exact rt [211, 212] (ResIs.three rfl rfl rfl rfl) (Ext.trans hm_M76 hm_M78) ⟨none, 0, 0, ([] : List Hdr), none, 0, 0, rfl, rfl, (Rels.nil (R := (RelB (α := BitVec 8)) M78))⟩
theorem und_135 : Tryz.prog.underlying 135 = some (.map 3 4) := by kernel_rfl
theorem bu_34_0_1_3 : ∀ (a0_0 : Int) (a0_1 : Int) (a0_2 : Int) (a1 : Int) (a3 : Option Addr) (n3 c3 : Nat), Tryz.prog.built 34 [(0, .agg ([I64 a0_0, I64 a0_1, I64 a0_2] : List Value).toArray), (1, I64 a1), (3, .slice a3 n3 c3)] = some ([I64 a0_0, I64 a0_1, I64 a0_2, I64 a1, U32 0#32, U32 0#32, U32 0#32, U32 0#32, U32 0#32, U32 0#32, .slice a3 n3 c3] : List Value).toArray := fun a0_0 a0_1 a0_2 a1 a3 n3 c3 => by kernel_rfl
theorem nm_35 : (Tryz.f35.name == "runtime.NumGoroutine") = false := by kernel_rfl
theorem nm_36 : (Tryz.f36.name == "runtime.NumGoroutine") = false := by kernel_rfl
theorem nm_38 : (Tryz.f38.name == "runtime.NumGoroutine") = false := by kernel_rfl
theorem nm_45 : (Tryz.f45.name == "runtime.NumGoroutine") = false := by kernel_rfl
theorem nm_86 : (Tryz.f86.name == "runtime.NumGoroutine") = false := by kernel_rfl
theorem w_shards_Make (M0 : Mem) (A00 : Option Addr) (n00 c00 : Nat) (x00 : By) (hf00 : SlT M0 A00 n00 c00 x00) (v0 v1 v2 : Int) (A02 : Option Addr) (n02 c02 : Nat) (x02 : List Sapi_Item) (hf02 : SlT M0 A02 n02 c02 x02) {res : (List By) × Int × Int × Int × Int × (BitVec 32) × (BitVec 32) × (BitVec 32) × (BitVec 32) × (BitVec 32) × (BitVec 32) × (List Sapi_Item) × Int} (h : m_shards_Make x00 v0 v1 v2 x02 = some res) :
  Fn Tryz.prog 11 #[.slice A00 n00 c00, .agg ([I64 v0, I64 v1, I64 v2] : List Value).toArray, .slice A02 n02 c02] M0 fun r M' es => ∃ (A1 : Option Addr) (n1 c1 : Nat), ∃ rs1 : List Hdr, ∃ (A2 : Option Addr) (n2 c2 : Nat), r = .tuple #[.slice A1 n1 c1, .agg ([I64 res.2.1, I64 res.2.2.1, I64 res.2.2.2.1, I64 res.2.2.2.2.1, U32 res.2.2.2.2.2.1, U32 res.2.2.2.2.2.2.1, U32 res.2.2.2.2.2.2.2.1, U32 res.2.2.2.2.2.2.2.2.1, U32 res.2.2.2.2.2.2.2.2.2.1, U32 res.2.2.2.2.2.2.2.2.2.2.1, .slice A2 n2 c2] : List Value).toArray, I64 res.2.2.2.2.2.2.2.2.2.2.2.2] /\ es = [.own 22 (Lay.sz Hdr) A1 n1 c1 (cel rs1), .own 59 (Lay.sz Sapi_Item) A2 n2 c2 (cel res.2.2.2.2.2.2.2.2.2.2.2.1)] /\ Rels ((RelB (α := BitVec 8)) M') rs1 res.1 := by
 refine Fn.intro (N := 53) Tryz.func11 rfl rfl (nle rfl) fun w0 => ?_
 unfold m_shards_Make at h
 refine sr fun _ k1 => bb 102 [I64 v0, I64 v1, I64 v2] rfl fun g2 => asn rfl <| al 103 zr_34 fun g3 => ak rfl k1 <| ctd [(0, _), (102, _), (103, _)] (σ := Nat × (Option Addr) × Nat × Nat × (List Sapi_Item)) (fun ⟨g4, A7, n8, c9, x10⟩ => [(0, .slice A00 n00 c00), (7, pv g3), (9, pv g4)]) (fun ⟨g4, A7, n8, c9, x10⟩ => [(0, .mem M0), (103, .blk g3 34 [I64 (0 : Int), I64 (0 : Int), I64 (0 : Int), I64 (0 : Int), U32 0#32, U32 0#32, U32 0#32, U32 0#32, U32 0#32, U32 0#32, .slice none 0 0]), (104, .blk g4 34 [I64 v0, I64 v1, I64 v2, I64 (x00.length : Int), U32 0#32, U32 0#32, U32 0#32, U32 0#32, U32 0#32, U32 0#32, .slice A7 n8 c9]), (106, .own 59 (Lay.sz Sapi_Item) A7 n8 c9 (cel x10))]) (fun ⟨g4, A7, n8, c9, x10⟩ => m_shards_Make_j0 x00 v0 v1 v2 x10 = some res) mixed (fun _ k11 => ?_) ?_
 ·obtain ⟨x13, hx13, h⟩ := bnd h
  refine du 0 rfl (loadBM (k := 102) agg_24 rfl rfl rfl) <| dm 1 rfl rfl <| du 2 rfl (lenC (xs := x00) und_22 rfl (mM rfl hf00)) <| dm 3 rfl rfl <| WD.two 4 6 (by kernel_rfl) ?_ ?_
  ·refine WS.eff rfl (by decide) (Eff.callS 117 rfl Tryz.func35 nm_35 rfl rfl (fun w hb hh => w_slices_Clone_api_Item_api_Item (Mem.snap w) A02 n02 c02 _ (sM rfl hf02 w hb hh) hx13)) ?_
   rintro _ _ ⟨_, ⟨A18, n19, c20, rfl, rfl⟩, rfl⟩
   refine aq ?_
   refine du 5 rfl (build rfl (bu_34_0_1_3 v0 v1 v2 (x00.length : Int) A18 n19 c20)) <| on 6 <| WS.eff rfl (by decide) (Eff.alloc 121 rfl zr_34) ?_
   rintro _ _ ⟨g21, rfl, rfl⟩
   refine aq ?_
   exact on 7 <| ds 121 rfl agg_34 rfl rfl rfl <| WD.done (by kernel_rfl) <| KK.move 121 104 rfl rfl <| KK.move 117 106 rfl rfl <| kw (k11 ⟨g21, A18, n19, c20, x13⟩ h)
  skip
  refine WS.eff rfl (by decide) (Eff.alloc 121 rfl zr_34) ?_
  rintro _ _ ⟨g21, rfl, rfl⟩
  refine aq ?_
  refine on 4 <| WS.eff rfl (by decide) (Eff.callS 117 rfl Tryz.func35 nm_35 rfl rfl (fun w hb hh => w_slices_Clone_api_Item_api_Item (Mem.snap w) A02 n02 c02 _ (sM rfl hf02 w hb hh) hx13)) ?_
  rintro _ _ ⟨_, ⟨A18, n19, c20, rfl, rfl⟩, rfl⟩
  refine aq ?_
  exact du 5 rfl (build rfl (bu_34_0_1_3 v0 v1 v2 (x00.length : Int) A18 n19 c20)) <| on 7 <| ds 121 rfl agg_34 rfl rfl rfl <| WD.done (by kernel_rfl) <| KK.move 121 104 rfl rfl <| KK.move 117 106 rfl rfl <| kw (k11 ⟨g21, A18, n19, c20, x13⟩ h)
 rintro ⟨g4, A7, n8, c9, x10⟩ h
 unfold m_shards_Make_j0 at h
 refine sq fun _ k22 => sr fun _ k23 => bd h fun x24 hx24 h => ya (loadBM (k := 104) agg_34 rfl rfl rfl) <| c0 Tryz.func24 rfl (fun w hb hh => w_shards_Valid (Mem.snap w) v0 v1 v2 (x00.length : Int) 0#32 0#32 0#32 0#32 0#32 0#32 A7 n8 c9 _ (RdH.sn (rO 106 rfl) w hb hh) hx24) <| ya (notB rfl) <| dz k23 <| cnn h rfl not_f (fun q => not_t (Bool.eq_false_iff.2 q)) (fun hc26 h => ?_) fun hc26 h => ?_
 ·refine ss <| k22 _ _ <| sr fun _ k27 => bd h fun x28 hx28 h => mv rfl <| WL.eff (by decide) (Eff.callM 134 rfl Tryz.func36 nm_36 rfl rfl rfl (w_stripe_Split _ A00 n00 c00 _ hf00 hx28)) ?_
  rintro _ _ ⟨M40, _, ⟨A41, n42, c43, rs44, rfl, rfl, hq45⟩, hm_M40, rfl⟩
  refine ak rfl k27 <| sr fun _ k46 => bd h fun x47 hx47 h => mv rfl <| WL.freeze 134 rfl rfl rfl fun M59 hm_M59 hf60 => WL.eff (by decide) (Eff.callM 153 rfl Tryz.func37 nm_37 rfl rfl rfl (w_rs_Encode _ A41 n42 c43 rs44 _ hf60 (Rels.lift hq45 hm_M59) hx47)) ?_
  rintro _ _ ⟨M61, _, ⟨A62, n63, c64, rs65, rfl, rfl, hq66⟩, hm_M61, rfl⟩
  refine mv rfl <| ya (extract rfl rfl) <| ya (extract rfl rfl) <| asn rfl <| ak rfl k46 <| sr fun _ k67 => bd h fun x72 hx72 h => mv rfl <| mv rfl <| WL.freeze 153 rfl rfl rfl fun M69 hm_M69 hf70 => ?_
  have hq71 : Rels ((RelL (RelB (α := BitVec 8))) M69) ([(⟨A41, n42, c43⟩ : Hdr), (⟨A62, n63, c64⟩ : Hdr)] : List Hdr) ([x28, x47.1] : List (List By)) := (Rels.cons ⟨rs44, (SlRc.lift (SlRc.lift hf60 hm_M61) hm_M69), (Rels.lift (Rels.lift (Rels.lift hq45 hm_M59) hm_M61) hm_M69)⟩ (Rels.cons ⟨rs65, hf70, (Rels.lift hq66 hm_M69)⟩ Rels.nil))
  refine WL.eff (by decide) (Eff.buildC 168 ([(⟨A41, n42, c43⟩ : Hdr), (⟨A62, n63, c64⟩ : Hdr)] : List Hdr) sty_49 rfl rfl rfl rfl rfl (by decide)) ?_
  rintro _ _ ⟨g68, rfl, rfl⟩
  refine WL.freeze 168 rfl rfl rfl fun M84 hm_M84 hf85 => WL.eff (by decide) (Eff.callM 178 rfl Tryz.func38 nm_38 rfl rfl rfl (w_slices_Concat_byte_byte _ (some ⟨g68, 0, none⟩) (([(⟨A41, n42, c43⟩ : Hdr), (⟨A62, n63, c64⟩ : Hdr)] : List Hdr).length) (([(⟨A41, n42, c43⟩ : Hdr), (⟨A62, n63, c64⟩ : Hdr)] : List Hdr).length) ([(⟨A41, n42, c43⟩ : Hdr), (⟨A62, n63, c64⟩ : Hdr)] : List Hdr) _ hf85 (Rels.lift hq71 hm_M84) hx72)) ?_
  rintro _ _ ⟨M86, _, ⟨A87, n88, c89, rs90, rfl, rfl, hq91⟩, hm_M86, rfl⟩
  refine ak rfl k67 <| ct (σ := (BitVec 32) × (BitVec 32) × (BitVec 32) × (BitVec 32) × (BitVec 32) × (BitVec 32)) (fun ⟨x92, x93, x94, x95, x96, x97⟩ => [(7, pv g3), (9, pv g4), (12, I64 x47.2), (13, .slice A87 n88 c89)]) (fun ⟨x92, x93, x94, x95, x96, x97⟩ => [(0, .mem M86), (103, .blk g3 34 [I64 (0 : Int), I64 (0 : Int), I64 (0 : Int), I64 (0 : Int), U32 0#32, U32 0#32, U32 0#32, U32 0#32, U32 0#32, U32 0#32, .slice none 0 0]), (104, .blk g4 34 [I64 v0, I64 v1, I64 v2, I64 (x00.length : Int), U32 x92, U32 x93, U32 x94, U32 x95, U32 x96, U32 x97, .slice A7 n8 c9]), (106, .own 59 (Lay.sz Sapi_Item) A7 n8 c9 (cel x10)), (178, .own 22 (Lay.sz Hdr) A87 n88 c89 (cel rs90))]) (fun ⟨x92, x93, x94, x95, x96, x97⟩ => m_shards_Make_j1 x00 v0 v1 v2 x10 x47 x72 x92 x93 x94 x95 x96 x97 = some res) (fun _ k98 => ?_) ?_
  ·refine sr fun _ k99 => mv rfl <| ya (lenD (rs := rs90) (xs := x72) (Rels.len hq91) und_30 rfl (rO 178 rfl)) <| mv rfl <| dz k99 <| bl <| lp (τ := (BitVec 32) × (BitVec 32) × (BitVec 32) × (BitVec 32) × (BitVec 32) × (BitVec 32) × Int) (fun ⟨x100, x101, x102, x103, x104, x105, x106⟩ => [(7, pv g3), (9, pv g4), (12, I64 x47.2), (13, .slice A87 n88 c89), (37, .slice A87 n88 c89), (38, I64 (x72.length : Int)), (39, I64 x106)]) (fun ⟨x100, x101, x102, x103, x104, x105, x106⟩ => [(0, .mem M86), (103, .blk g3 34 [I64 (0 : Int), I64 (0 : Int), I64 (0 : Int), I64 (0 : Int), U32 0#32, U32 0#32, U32 0#32, U32 0#32, U32 0#32, U32 0#32, .slice none 0 0]), (104, .blk g4 34 [I64 v0, I64 v1, I64 v2, I64 (x00.length : Int), U32 x100, U32 x101, U32 x102, U32 x103, U32 x104, U32 x105, .slice A7 n8 c9]), (106, .own 59 (Lay.sz Sapi_Item) A7 n8 c9 (cel x10)), (178, .own 22 (Lay.sz Hdr) A87 n88 c89 (cel rs90))]) (fun q107 ⟨x100, x101, x102, x103, x104, x105, x106⟩ => m_shards_Make_l2 x00 v0 v1 v2 x10 x47 x72 q107 x100 x101 x102 x103 x104 x105 x106 = some res) ⟨0#32, 0#32, 0#32, 0#32, 0#32, 0#32, (0 : Int)⟩ ?_ (by simp [m_shards_Make_l2]) ?_
   ·exact h
   rintro q107 ⟨x100, x101, x102, x103, x104, x105, x106⟩ h _ k108
   unfold m_shards_Make_l2 at h
   refine sr fun _ k109 => ya (lss rfl rfl) <| dz k109 <| sq fun _ k110 => cI h rfl (fun hc111 h => ?_) fun hc111 h => ?_
   ·refine ss <| k110 _ _ <| sq fun _ k112 => bl <| sr fun _ k113 => bd h fun x114 hx114 h => mv rfl ?_
    obtain ⟨r_115, hr116, hq117⟩ := Rels.idx hq91 hx114
    refine ya (idxC (xs := rs90) sty_30 rfl rfl (rO 178 rfl) hr116) <| ya (loadC0 (xs := rs90) scal_22 rfl (rO 178 rfl) hr116 rfl) <| asn rfl <| ak rfl k113 <| rg fun _ k118 => ?_
    obtain ⟨x119, hx119, h⟩ := bnd h
    obtain ⟨x121, hx121, h⟩ := bnd h
    obtain ⟨x122, hx122, h⟩ := bnd h
    refine mv rfl <| mv rfl <| c0 Tryz.func39 rfl (fun w hb hh => w_crc32c_Sum (Mem.snap w) r_115.A r_115.n r_115.c _ (sM rfl hq117 w hb hh) hx119) <| ya (fieldAddr Tryz.underlying34 rfl nz_32 rfl rfl) <| ya (idxArrF (xs := ([x100, x101, x102, x103, x104, x105] : List (BitVec 32))) und_32 rfl rfl rfl rfl hx121) <| WL.eff0 (Eff0.storeArrF 104 (xs := ([x100, x101, x102, x103, x104, x105] : List (BitVec 32))) (pre := [I64 v0, I64 v1, I64 v2, I64 (x00.length : Int)]) (post := [.slice A7 n8 c9]) (zs := [(x122.getD 0 0#32), (x122.getD 1 0#32), (x122.getD 2 0#32), (x122.getD 3 0#32), (x122.getD 4 0#32), (x122.getD 5 0#32)]) (cs := [I64 v0, I64 v1, I64 v2, I64 (x00.length : Int), U32 (x122.getD 0 0#32), U32 (x122.getD 1 0#32), U32 (x122.getD 2 0#32), U32 (x122.getD 3 0#32), U32 (x122.getD 4 0#32), U32 (x122.getD 5 0#32), .slice A7 n8 c9]) (a' := x119) siz_31 rfl rfl rfl rfl rfl rfl rfl hx122 (eta_getD 0#32 (upd_len hx122 rfl)) rfl) <| dz k118 <| bn <| tn <| k112 _ _ <| rg fun _ k123 => bd h fun x124 hx124 h => ya (addC rfl rfl hx124) <| mv rfl <| dz k123 <| tn <| kw (k108 ⟨(x122.getD 0 0#32), (x122.getD 1 0#32), (x122.getD 2 0#32), (x122.getD 3 0#32), (x122.getD 4 0#32), (x122.getD 5 0#32), x124⟩ h)
   exact xi <| te <| te <| bx <| tn <| kw (k98 ⟨x100, x101, x102, x103, x104, x105⟩ h)
  rintro ⟨x92, x93, x94, x95, x96, x97⟩ h
  unfold m_shards_Make_j1 at h
  refine sd [(0, _), (104, _), (106, _), (178, _)] mixed fun _ k125 => ?_
  refine dm 0 rfl rfl <| du 1 rfl (loadBM (k := 104) agg_34 rfl rfl rfl) <| dm 2 rfl rfl <| du 3 rfl (Yld.assign rfl) <| on 4 <| ds 103 rfl agg_34 rfl rfl rfl <| du 5 rfl (Yld.assign rfl) <| dd <| k125 _ _ <| re ?_
  obtain rfl := si h
  exact rt [178, 106] (ResIs.tmpCellTmpM (k := 103) rfl agg_34 rfl rfl rfl rfl rfl) (Ext.trans (Ext.trans (Ext.trans (Ext.trans (Ext.trans hm_M40 hm_M59) hm_M61) hm_M69) hm_M84) hm_M86) ⟨A87, n88, c89, rs90, A7, n8, c9, rfl, rfl, hq91⟩
 refine sr fun _ k126 => ya (build rfl (bu_34_)) <| asn rfl <| sb 103 agg_34 rfl rfl rfl <| ak rfl k126 <| re <| tr <| QK.nilOwn 227 22 (Lay.sz Hdr) none <| QK.nilOwn 228 59 (Lay.sz Sapi_Item) none ?_
 obtain rfl := si h
 exact rt [227, 228] (ResIs.tmpCellTmpM (k := 103) rfl agg_34 rfl rfl rfl rfl rfl) (Ext.refl _ _) ⟨none, 0, 0, ([] : List Hdr), none, 0, 0, rfl, rfl, (Rels.nil (R := (RelB (α := BitVec 8)) M0))⟩
theorem w_shards_Head_good (M0 : Mem) (u0 u1 u2 u3 : Int) (u4 u5 u6 u7 u8 u9 : BitVec 32) (A00_10 : Option Addr) (n00_10 c00_10 : Nat) (u10 : List Sapi_Item) (hf00_10 : SlT M0 A00_10 n00_10 c00_10 u10) (x01 : Int) (A02 : Option Addr) (n02 c02 : Nat) (x02 : By) (hf02 : SlT M0 A02 n02 c02 x02) {res : Bool} (h : m_shards_Head_good u0 u1 u2 u3 u4 u5 u6 u7 u8 u9 u10 x01 x02 = some res) :
  Fn Tryz.prog 47 #[.agg ([I64 u0, I64 u1, I64 u2, I64 u3, U32 u4, U32 u5, U32 u6, U32 u7, U32 u8, U32 u9, .slice A00_10 n00_10 c00_10] : List Value).toArray, I64 x01, .slice A02 n02 c02] M0 fun r M' es => r = .bool res /\ es = [] := by
 refine Fn.intro (N := 22) Tryz.func47 rfl rfl (nle rfl) fun w0 => ?_
 unfold m_shards_Head_good at h
 refine sr fun _ k1 => bb 102 [I64 u0, I64 u1, I64 u2, I64 u3, U32 u4, U32 u5, U32 u6, U32 u7, U32 u8, U32 u9, .slice A00_10 n00_10 c00_10] rfl fun g2 => ak rfl k1 <| sd [(0, _), (102, _)] mixed fun _ k3 => ?_
 obtain ⟨x4, hx4, h⟩ := bnd h
 by_cases hc6 : (x02.length : Int) = x4
 ·replace h := of_t hc6 h
  obtain ⟨x7, hx7, h⟩ := bnd h
  obtain ⟨x9, hx9, h⟩ := bnd h
  obtain ⟨x10, hx10, h⟩ := bnd h
  refine dm 0 rfl rfl <| du 1 rfl (lenC (xs := x02) und_22 rfl (mM rfl hf02)) <| du 2 rfl (fieldAddr Tryz.underlying34 rfl nz_2 rfl rfl) <| du 3 rfl (loadB (k := 102) scal_2 rfl rfl rfl) <| on 4 <| d0 rfl Tryz.func68 rfl (fun w hb hh => w_stripe_Size (Mem.snap w) u3 hx4) <| du 5 rfl (eqlI rfl rfl) <| dm 6 rfl rfl <| WD.new (v' := .bool true) (congrArg Value.bool (beq_iff_eq.2 hc6)) <| dv 7 rfl (Yld.move rfl) <| dv 9 rfl (Yld.move rfl) <| dv 10 rfl (fieldAddr Tryz.underlying34 rfl nz_32 rfl rfl) <| dv 11 rfl (idxArrF (xs := ([u4, u5, u6, u7, u8, u9] : List (BitVec 32))) und_32 rfl rfl rfl rfl hx9) <| dv 12 rfl (loadArrF (xs := ([u4, u5, u6, u7, u8, u9] : List (BitVec 32))) (pre := [I64 u0, I64 u1, I64 u2, I64 u3]) (post := [.slice A00_10 n00_10 c00_10]) (k := 102) scal_31 rfl rfl rfl hx10 rfl) <| on 8 <| WS.effG rfl (by decide) rfl (Eff.callS 108 rfl Tryz.func39 nm_39 rfl rfl (fun w hb hh => w_crc32c_Sum (Mem.snap w) A02 n02 c02 _ (sM rfl hf02 w hb hh) hx7)) ?_
  rintro _ _ ⟨_, ⟨rfl, rfl⟩, rfl⟩
  refine aq ?_
  refine dv 13 rfl (eql_u32 (a := x7) (b := x10) rfl rfl) <| du 14 rfl (pickT rfl rfl) <| du 15 rfl (Yld.assign rfl) <| dd <| k3 _ _ <| re ?_
  obtain rfl := si h
  exact rt0 (ResIs.one rfl rfl)
 replace h := of_f hc6 h
 refine dm 0 rfl rfl <| du 1 rfl (lenC (xs := x02) und_22 rfl (mM rfl hf02)) <| du 2 rfl (fieldAddr Tryz.underlying34 rfl nz_2 rfl rfl) <| du 3 rfl (loadB (k := 102) scal_2 rfl rfl rfl) <| on 4 <| d0 rfl Tryz.func68 rfl (fun w hb hh => w_stripe_Size (Mem.snap w) u3 hx4) <| du 5 rfl (eqlI rfl rfl) <| dm 6 rfl rfl <| WD.new (v' := .bool false) (congrArg Value.bool (beq_eq_false_iff_ne.2 hc6)) <| dw 7 rfl <| dw 8 rfl <| dw 9 rfl <| dw 10 rfl <| dw 11 rfl <| dw 12 rfl <| dw 13 rfl <| du 14 rfl (pickF rfl rfl) <| du 15 rfl (Yld.assign rfl) <| dd <| k3 _ _ <| re ?_
 obtain rfl := si h
 exact rt0 (ResIs.one rfl rfl)
theorem w_shards_Head_damaged (M0 : Mem) (u0 u1 u2 u3 : Int) (u4 u5 u6 u7 u8 u9 : BitVec 32) (A00_10 : Option Addr) (n00_10 c00_10 : Nat) (u10 : List Sapi_Item) (hf00_10 : SlT M0 A00_10 n00_10 c00_10 u10) (A01 : Option Addr) (n01 c01 : Nat) (rs01 : List Hdr) (x01 : List By) (hf01 : SlT M0 A01 n01 c01 rs01) (hq01 : Rels ((RelB (α := BitVec 8)) M0) rs01 x01) {res : (List Int)} (h : m_shards_Head_damaged u0 u1 u2 u3 u4 u5 u6 u7 u8 u9 u10 x01 = some res) :
  Fn Tryz.prog 44 #[.agg ([I64 u0, I64 u1, I64 u2, I64 u3, U32 u4, U32 u5, U32 u6, U32 u7, U32 u8, U32 u9, .slice A00_10 n00_10 c00_10] : List Value).toArray, .slice A01 n01 c01] M0 fun r M' es => ∃ (A1 : Option Addr) (n1 c1 : Nat), r = .slice A1 n1 c1 /\ es = [.own 3 (Lay.sz Int) A1 n1 c1 (cel res)] := by
 refine Fn.intro (N := 42) Tryz.func44 rfl rfl (nle rfl) fun w0 => ?_
 unfold m_shards_Head_damaged at h
 refine sr fun _ k1 => bb 102 [I64 u0, I64 u1, I64 u2, I64 u3, U32 u4, U32 u5, U32 u6, U32 u7, U32 u8, U32 u9, .slice A00_10 n00_10 c00_10] rfl fun g2 => ak rfl k1 <| sr fun _ k3 => WL.eff (by decide) (Eff.makeMap 104 rfl) ?_
 rintro _ _ ⟨g4, rfl, rfl⟩
 refine ak rfl k3 <| ct (σ := (List MapEntry) × Nat × (List (Int × Bool))) (fun ⟨es5, cl6, x7⟩ => [(5, .map (some g4))]) (fun ⟨es5, cl6, x7⟩ => [(0, .mem M0), (104, .obj g4 (.map es5.toArray cl6))]) (fun ⟨es5, cl6, x7⟩ => m_shards_Head_damaged_j0 x7 = some res /\ MapT Value.bool es5 cl6 x7) (fun _ k9 => ?_) ?_
 ·refine sr fun _ k10 => mv rfl <| ya (lenD (rs := rs01) (xs := x01) (Rels.len hq01) und_30 rfl (mM rfl hf01)) <| mv rfl <| dz k10 <| bl <| lp (τ := (List MapEntry) × Nat × (List (Int × Bool)) × Int) (fun ⟨es11, cl12, x13, x15⟩ => [(2, pv g2), (5, .map (some g4)), (12, .slice A01 n01 c01), (13, I64 (x01.length : Int)), (14, I64 x15)]) (fun ⟨es11, cl12, x13, x15⟩ => [(0, .mem M0), (102, .blk g2 34 [I64 u0, I64 u1, I64 u2, I64 u3, U32 u4, U32 u5, U32 u6, U32 u7, U32 u8, U32 u9, .slice A00_10 n00_10 c00_10]), (104, .obj g4 (.map es11.toArray cl12))]) (fun q16 ⟨es11, cl12, x13, x15⟩ => m_shards_Head_damaged_l1 u0 u1 u10 u2 u3 u4 u5 u6 u7 u8 u9 x01 q16 x13 x15 = some res /\ MapT Value.bool es11 cl12 x13) ⟨([] : List MapEntry), 0, ([] : List (Int × Bool)), (0 : Int)⟩ ?_ (by simp [m_shards_Head_damaged_l1]) ?_
  ·exact ⟨h, MapT.nil⟩
  rintro q16 ⟨es11, cl12, x13, x15⟩ ⟨h, hmr14⟩ _ k17
  unfold m_shards_Head_damaged_l1 at h
  refine sr fun _ k18 => ya (lss rfl rfl) <| dz k18 <| sq fun _ k19 => cI h rfl (fun hc20 h => ?_) fun hc20 h => ?_
  ·refine ss <| k19 _ _ <| sq fun _ k21 => bl <| sr fun _ k22 => bd h fun x23 hx23 h => mv rfl ?_
   obtain ⟨r_24, hr25, hq26⟩ := Rels.idx hq01 hx23
   refine ya (idxC (xs := rs01) sty_30 rfl rfl (mM rfl hf01) hr25) <| ya (loadC0 (xs := rs01) scal_22 rfl (mM rfl hf01) hr25 rfl) <| asn rfl <| ak rfl k22 <| rg fun _ k27 => bd h fun x28 hx28 h => mv rfl <| mv rfl <| ya (loadBM (k := 102) agg_34 rfl rfl rfl) <| mv rfl <| mv rfl <| c0 Tryz.func47 rfl (fun w hb hh => w_shards_Head_good (Mem.snap w) u0 u1 u2 u3 u4 u5 u6 u7 u8 u9 A00_10 n00_10 c00_10 _ (sM rfl hf00_10 w hb hh) x15 r_24.A r_24.n r_24.c _ (sM rfl hq26 w hb hh) hx28) <| WL.eff0R (Eff0R.mapUpdT 104 (ev := Value.bool) (m := x13) (q := x15) (v := x28) und_135 und_3 rfl rfl rfl rfl hmr14) ?_
   rintro _ ⟨es30, cl31, hmr32, rfl⟩
   refine dz k27 <| bn <| tn <| k21 _ _ <| rg fun _ k33 => bd h fun x34 hx34 h => ya (addC rfl rfl hx34) <| mv rfl <| dz k33 <| tn <| kw (k17 ⟨es30, cl31, (mset x13 x15 x28), x34⟩ ⟨h, hmr32⟩)
  exact xi <| te <| te <| bx <| tn <| kw (k9 ⟨es11, cl12, x13⟩ ⟨h, hmr14⟩)
 rintro ⟨es5, cl6, x7⟩ ⟨h, hmr8⟩
 unfold m_shards_Head_damaged_j0 at h
 refine sr fun _ k35 => ak rfl k35 <| ct (σ := (Option Addr) × Nat × Nat × (List Int)) (fun ⟨A38, n39, c40, x41⟩ => [(8, .slice A38 n39 c40)]) (fun ⟨A38, n39, c40, x41⟩ => [(0, .mem M0), (137, .own 3 (Lay.sz Int) A38 n39 c40 (cel x41))]) (fun ⟨A38, n39, c40, x41⟩ => m_shards_Head_damaged_j2 x41 = some res) (fun _ k42 => ?_) ?_
 ·refine sr fun _ k43 => mv rfl <| WL.eff (by decide) (Eff.rangeM 104 144 und_135 rfl rfl rfl) ?_
  rintro _ _ ⟨g44, rfl, rfl⟩
  refine dz k43 <| bl <| WC.nilOwn 146 3 (Lay.sz Int) none ?_
  have hu57 := mrangeK_some h
  refine WC.loop (σ := (Option Addr) × Nat × Nat × (List Int) × (Array Nat) × (List (Int × Bool))) (fun ⟨A47, n48, c49, x50, es51, x52⟩ => [(8, .slice A47 n48 c49), (27, pv g44)]) (fun ⟨A47, n48, c49, x50, es51, x52⟩ => [(0, .mem M0), (104, .obj g4 (.map es5.toArray cl6)), (144, .obj g44 (.mapIter (some g4) cl6 es51 cl6)), (146, .own 3 (Lay.sz Int) A47 n48 c49 (cel x50))]) (fun ⟨A47, n48, c49, x50, es51, x52⟩ => (∀ l : List (Int × Bool), l.Perm x52 -> (mfold (fun x60 => fun x50 => if x60.2 = true then some (x50) else (apd 8 x50 ([x60.1] : List Int)).bind fun x76 => some (x76)) l x50).bind (fun x50 => m_shards_Head_damaged_j2 x50) = some res) /\ ItR es5 x7 es51 x52) (fun ⟨A47, n48, c49, x50, es51, x52⟩ => x52.length) ⟨none, 0, 0, ([] : List Int), #[], x7⟩ ?_ (sc (sc sn)) (sc (sc (sc (sc sn)))) ?_
  ·exact ⟨hu57, (ItR.start hmr8)⟩
  rintro ⟨A47, n48, c49, x50, es51, x52⟩ ⟨hu57, hmr53⟩ K58 k58
  refine sr fun _ k59 => WL.nextM 104 144 (by decide) rfl rfl rfl hmr8 hmr53 (fun hx66 => ?_) (fun x60 x61 es62 hu63 hmr64 hs65 => ?_)
  ·subst hx66
   have h := mfoldK_done hu57
   exact ya (extract rfl rfl) <| dz k59 <| sq fun _ k67 => cdF rfl <| xi <| te <| te <| bx <| tn <| KK.move 146 137 rfl rfl <| kw (k42 ⟨A47, n48, c49, x50⟩ h)
  obtain ⟨q68, h, hu69⟩ := mfoldK_next hu57 hu63
  refine ya (extract rfl rfl) <| dz k59 <| sq fun _ k70 => cdT rfl <| ss <| k70 _ _ <| bl <| sr fun _ k71 => ya (entryM 104 144 rfl rfl rfl hmr8 hs65) <| ya (extract rfl rfl) <| ya (extract rfl rfl) <| asn rfl <| ak rfl k71 <| sr fun _ k72 => mv rfl <| ya (notB rfl) <| dz k72 <| cnn h rfl not_f (fun q => not_t (Bool.eq_false_iff.2 q)) (fun hc73 h => ?_) fun hc73 h => ?_
  ·refine WC.skip <| bn <| tn ?_
   obtain rfl := Option.some.inj h
   refine k58 ⟨A47, n48, c49, x50, es62, x61⟩ _ _ ?_ (perm_lt hu63) (sc (sc sn)) (sc (sc (sc (sc sn))))
   exact ⟨hu69, hmr64⟩
  refine rg fun _ k74 => bd h fun x76 hx76 h => mv rfl <| mv rfl <| WL.eff (by decide) (Eff.buildC 175 ([x60.1] : List Int) sty_45 rfl rfl rfl rfl rfl (by decide)) ?_
  rintro _ _ ⟨g75, rfl, rfl⟩
  refine ap 146 (xs := x50) (ys := ([x60.1] : List Int)) sty_45 rfl rfl rfl (rO 175 rfl) hx76 fun A77 c78 => ak rfl k74 <| bn <| tn ?_
  obtain rfl := Option.some.inj h
  refine k58 ⟨A77, x76.length, c78, x76, es62, x61⟩ _ _ ?_ (perm_lt hu63) (sc (sc sn)) (sc (sc (sc (sc sn))))
  exact ⟨hu69, hmr64⟩
 rintro ⟨A38, n39, c40, x41⟩ h
 unfold m_shards_Head_damaged_j2 at h
 refine sr fun _ k79 => bd h fun x80 hx80 h => mv rfl <| WL.eff (by decide) (Eff.callMut 137 rfl Tryz.func86 nm_86 rfl rfl rfl (w_sort A38 n39 c40 x41 hx80)) ?_
 rintro _ _ ⟨_, ⟨rfl, rfl⟩, rfl⟩
 refine dz k79 <| sr fun _ k81 => mv rfl <| ak rfl k81 <| re ?_
 obtain rfl := si h
 exact rt [137] (ResIs.one rfl rfl) (Ext.refl _ _) ⟨A38, n39, c40, rfl, rfl⟩
theorem w_shards_Good (M0 : Mem) (u0 u1 u2 u3 : Int) (u4 u5 u6 u7 u8 u9 : BitVec 32) (A00_10 : Option Addr) (n00_10 c00_10 : Nat) (u10 : List Sapi_Item) (hf00_10 : SlT M0 A00_10 n00_10 c00_10 u10) (x01 : Int) (A02 : Option Addr) (n02 c02 : Nat) (x02 : By) (hf02 : SlT M0 A02 n02 c02 x02) {res : Bool} (h : m_shards_Good u0 u1 u2 u3 u4 u5 u6 u7 u8 u9 u10 x01 x02 = some res) :
  Fn Tryz.prog 20 #[.agg ([I64 u0, I64 u1, I64 u2, I64 u3, U32 u4, U32 u5, U32 u6, U32 u7, U32 u8, U32 u9, .slice A00_10 n00_10 c00_10] : List Value).toArray, I64 x01, .slice A02 n02 c02] M0 fun r M' es => r = .bool res /\ es = [] := by
 refine Fn.intro (N := 23) Tryz.func20 rfl rfl (nle rfl) fun w0 => ?_
 unfold m_shards_Good at h
 refine sr fun _ k1 => bb 102 [I64 u0, I64 u1, I64 u2, I64 u3, U32 u4, U32 u5, U32 u6, U32 u7, U32 u8, U32 u9, .slice A00_10 n00_10 c00_10] rfl fun g2 => ak rfl k1 <| sr fun _ k3 => mv rfl <| ya (geq rfl rfl) <| mv rfl <| spl h decide_eq_true decide_eq_false (fun hc4 h => ?_) fun hc4 h => ?_
 ·refine mvg rfl <| yg (lss rfl rfl) <| pt rfl rfl <| mv rfl <| spl h decide_eq_true decide_eq_false (fun hc5 h => ?_) fun hc5 h => ?_
  ·obtain ⟨x6, hx6, h⟩ := bnd h
   refine yg (loadBM (k := 102) agg_34 rfl rfl rfl) <| c0g Tryz.func24 rfl (fun w hb hh => w_shards_Valid (Mem.snap w) u0 u1 u2 u3 u4 u5 u6 u7 u8 u9 A00_10 n00_10 c00_10 _ (sM rfl hf00_10 w hb hh) hx6) <| pt rfl rfl <| mv rfl <| spl h id Bool.eq_false_iff.2 (fun hc8 h => ?_) fun hc8 h => ?_
   ·obtain ⟨x9, hx9, h⟩ := bnd h
    refine yg (loadBM (k := 102) agg_34 rfl rfl rfl) <| mvg rfl <| mvg rfl <| c0g Tryz.func47 rfl (fun w hb hh => w_shards_Head_good (Mem.snap w) u0 u1 u2 u3 u4 u5 u6 u7 u8 u9 A00_10 n00_10 c00_10 _ (sM rfl hf00_10 w hb hh) x01 A02 n02 c02 _ (sM rfl hf02 w hb hh) hx9) <| pt rfl rfl <| ak rfl k3 <| re ?_
    obtain rfl := si h
    exact rt0 (ResIs.one rfl rfl)
   refine sk <| sk <| sk <| sk <| pf rfl rfl <| ak rfl k3 <| re ?_
   obtain rfl := si h
   exact rt0 (ResIs.one rfl rfl)
  refine sk <| sk <| pf rfl rfl <| mv rfl <| sk <| sk <| sk <| sk <| pf rfl rfl <| ak rfl k3 <| re ?_
  obtain rfl := si h
  exact rt0 (ResIs.one rfl rfl)
 refine sk <| sk <| pf rfl rfl <| mv rfl <| sk <| sk <| pf rfl rfl <| mv rfl <| sk <| sk <| sk <| sk <| pf rfl rfl <| ak rfl k3 <| re ?_
 obtain rfl := si h
 exact rt0 (ResIs.one rfl rfl)
theorem w_shards_Rebuild (M0 : Mem) (u0 u1 u2 u3 : Int) (u4 u5 u6 u7 u8 u9 : BitVec 32) (A00_10 : Option Addr) (n00_10 c00_10 : Nat) (u10 : List Sapi_Item) (hf00_10 : SlT M0 A00_10 n00_10 c00_10 u10) (A01 : Option Addr) (n01 c01 : Nat) (rs01 : List Hdr) (x01 : List By) (hf01 : SlT M0 A01 n01 c01 rs01) (hq01 : Rels ((RelB (α := BitVec 8)) M0) rs01 x01) {res : (List By) × (List Int) × Int} (h : m_shards_Rebuild u0 u1 u2 u3 u4 u5 u6 u7 u8 u9 u10 x01 = some res) :
  Fn Tryz.prog 17 #[.agg ([I64 u0, I64 u1, I64 u2, I64 u3, U32 u4, U32 u5, U32 u6, U32 u7, U32 u8, U32 u9, .slice A00_10 n00_10 c00_10] : List Value).toArray, .slice A01 n01 c01] M0 fun r M' es => ∃ (A1 : Option Addr) (n1 c1 : Nat), ∃ rs1 : List Hdr, ∃ (A2 : Option Addr) (n2 c2 : Nat), r = .tuple #[.slice A1 n1 c1, .slice A2 n2 c2, I64 res.2.2] /\ es = [.own 22 (Lay.sz Hdr) A1 n1 c1 (cel rs1), .own 3 (Lay.sz Int) A2 n2 c2 (cel res.2.1)] /\ Rels ((RelB (α := BitVec 8)) M') rs1 res.1 := by
 refine Fn.intro (N := 51) Tryz.func17 rfl rfl (nle rfl) fun w0 => ?_
 unfold m_shards_Rebuild at h
 refine sr fun _ k1 => bb 102 [I64 u0, I64 u1, I64 u2, I64 u3, U32 u4, U32 u5, U32 u6, U32 u7, U32 u8, U32 u9, .slice A00_10 n00_10 c00_10] rfl fun g2 => asn rfl <| asn rfl <| ak rfl k1 <| ct (σ := Unit) (fun _ => [(1, .slice A01 n01 c01), (2, pv g2)]) (fun _ => [(0, .mem M0), (102, .blk g2 34 [I64 u0, I64 u1, I64 u2, I64 u3, U32 u4, U32 u5, U32 u6, U32 u7, U32 u8, U32 u9, .slice A00_10 n00_10 c00_10])]) (fun _ => m_shards_Rebuild_j0 u0 u1 u10 u2 u3 u4 u5 u6 u7 u8 u9 x01 = some res) (fun _ k3 => ?_) ?_
 ·refine sr fun _ k4 => bd h fun x5 hx5 h => ya (loadBM (k := 102) agg_34 rfl rfl rfl) <| c0 Tryz.func24 rfl (fun w hb hh => w_shards_Valid (Mem.snap w) u0 u1 u2 u3 u4 u5 u6 u7 u8 u9 A00_10 n00_10 c00_10 _ (sM rfl hf00_10 w hb hh) hx5) <| ya (notB rfl) <| mv rfl <| spn h not_f (fun q => not_t (Bool.eq_false_iff.2 q)) (fun hc7 h => ?_) fun hc7 h => ?_
  ·refine mvg rfl <| yg (lenD (rs := rs01) (xs := x01) (Rels.len hq01) und_30 rfl (mM rfl hf01)) <| yg (neqI rfl rfl) <| pf rfl rfl <| dz k4 <| cnn h rfl bne_eq_false_iff_eq.2 bne_iff_ne.2 (fun hc8 h => ?_) fun hc8 h => ?_
   ·exact WC.skip <| tn <| kw (k3 () h)
   refine sr fun _ k9 => asn rfl <| asn rfl <| ak rfl k9 <| re <| tr <| QK.nilOwn 110 22 (Lay.sz Hdr) none <| QK.nilOwn 111 3 (Lay.sz Int) none ?_
   obtain rfl := si h
   exact rt [110, 111] (ResIs.three rfl rfl rfl rfl) (Ext.refl _ _) ⟨none, 0, 0, ([] : List Hdr), none, 0, 0, rfl, rfl, (Rels.nil (R := (RelB (α := BitVec 8)) M0))⟩
  refine sk <| sk <| sk <| pt rfl rfl <| dz k4 <| cdT rfl <| sr fun _ k12 => asn rfl <| asn rfl <| ak rfl k12 <| re <| tr <| QK.nilOwn 113 22 (Lay.sz Hdr) none <| QK.nilOwn 114 3 (Lay.sz Int) none ?_
  obtain rfl := si h
  exact rt [113, 114] (ResIs.three rfl rfl rfl rfl) (Ext.refl _ _) ⟨none, 0, 0, ([] : List Hdr), none, 0, 0, rfl, rfl, (Rels.nil (R := (RelB (α := BitVec 8)) M0))⟩
 rintro _ h
 unfold m_shards_Rebuild_j0 at h
 refine sr fun _ k15 => bd h fun x16 hx16 h => ya (loadBM (k := 102) agg_34 rfl rfl rfl) <| mv rfl <| c1 120 Tryz.func44 rfl (fun w hb hh => w_shards_Head_damaged (Mem.snap w) u0 u1 u2 u3 u4 u5 u6 u7 u8 u9 A00_10 n00_10 c00_10 _ (sM rfl hf00_10 w hb hh) A01 n01 c01 rs01 _ (sM rfl hf01 w hb hh) (Rels.sn hq01 (hh.sat 0 _ rfl)) hx16) fun A21 n22 c23 => ak rfl k15 <| sr fun _ k24 => WL.eff (by decide) (Eff.buildC 125 ([true, true, true, true, true, true] : List Bool) sty_91 rfl rfl rfl rfl rfl (by decide)) ?_
 rintro _ _ ⟨g25, rfl, rfl⟩
 refine ak rfl k24 <| ct (σ := (List Bool)) (fun x26 => [(1, .slice A01 n01 c01), (2, pv g2), (7, .slice A21 n22 c23), (8, .slice (some ⟨g25, 0, none⟩) (([true, true, true, true, true, true] : List Bool).length) (([true, true, true, true, true, true] : List Bool).length))]) (fun x26 => [(0, .mem M0), (102, .blk g2 34 [I64 u0, I64 u1, I64 u2, I64 u3, U32 u4, U32 u5, U32 u6, U32 u7, U32 u8, U32 u9, .slice A00_10 n00_10 c00_10]), (120, .own 3 (Lay.sz Int) A21 n22 c23 (cel x16)), (125, .own 4 (Lay.sz Bool) (some ⟨g25, 0, none⟩) (([true, true, true, true, true, true] : List Bool).length) (([true, true, true, true, true, true] : List Bool).length) (cel x26))]) (fun x26 => m_shards_Rebuild_j1 u0 u1 u10 u2 u3 u4 u5 u6 u7 u8 u9 x01 x16 x26 = some res) (fun _ k27 => ?_) ?_
 ·refine sr fun _ k28 => mv rfl <| ya (lenC (xs := x16) und_45 rfl (rO 120 rfl)) <| mv rfl <| dz k28 <| bl <| lp (τ := (List Bool) × Int) (fun ⟨x29, x30⟩ => [(1, .slice A01 n01 c01), (2, pv g2), (7, .slice A21 n22 c23), (8, .slice (some ⟨g25, 0, none⟩) (([true, true, true, true, true, true] : List Bool).length) (([true, true, true, true, true, true] : List Bool).length)), (25, .slice A21 n22 c23), (26, I64 (x16.length : Int)), (27, I64 x30)]) (fun ⟨x29, x30⟩ => [(0, .mem M0), (102, .blk g2 34 [I64 u0, I64 u1, I64 u2, I64 u3, U32 u4, U32 u5, U32 u6, U32 u7, U32 u8, U32 u9, .slice A00_10 n00_10 c00_10]), (120, .own 3 (Lay.sz Int) A21 n22 c23 (cel x16)), (125, .own 4 (Lay.sz Bool) (some ⟨g25, 0, none⟩) (([true, true, true, true, true, true] : List Bool).length) (([true, true, true, true, true, true] : List Bool).length) (cel x29))]) (fun q31 ⟨x29, x30⟩ => m_shards_Rebuild_l2 u0 u1 u10 u2 u3 u4 u5 u6 u7 u8 u9 x01 x16 q31 x29 x30 = some res) ⟨([true, true, true, true, true, true] : List Bool), (0 : Int)⟩ ?_ (by simp [m_shards_Rebuild_l2]) ?_
  ·exact h
  rintro q31 ⟨x29, x30⟩ h _ k32
  unfold m_shards_Rebuild_l2 at h
  refine sr fun _ k33 => ya (lss rfl rfl) <| dz k33 <| sq fun _ k34 => cI h rfl (fun hc35 h => ?_) fun hc35 h => ?_
  ·refine ss <| k34 _ _ <| sq fun _ k36 => bl <| sr fun _ k37 => bd h fun x38 hx38 h => ya (idxC (xs := x16) sty_45 rfl rfl (rO 120 rfl) hx38) <| ya (loadC0 (xs := x16) scal_3 rfl (rO 120 rfl) hx38 rfl) <| ak rfl k37 <| rg fun _ k39 => ?_
   obtain ⟨x40, hx40, h⟩ := bnd h
   obtain ⟨x41, hx41, h⟩ := bnd h
   refine mv rfl <| mv rfl <| ya (idxC (xs := x29) sty_91 rfl rfl (rO 125 rfl) hx40) <| WL.eff0 (Eff0.storeC1 125 (xs := x29) (a' := false) siz_4 rfl rfl rfl rfl rfl rfl hx41) <| dz k39 <| bn <| tn <| k36 _ _ <| rg fun _ k42 => bd h fun x43 hx43 h => ya (addC rfl rfl hx43) <| mv rfl <| dz k42 <| tn <| kw (k32 ⟨x41, x43⟩ h)
  exact xi <| te <| te <| bx <| tn <| kw (k27 x29 h)
 rintro x26 h
 unfold m_shards_Rebuild_j1 at h
 refine sr fun _ k44 => bd h fun x45 hx45 h => mv rfl <| mv rfl <| WL.freeze 125 rfl rfl rfl fun M57 hm_M57 hf58 => WL.eff (by decide) (Eff.callM 151 rfl Tryz.func45 nm_45 rfl rfl rfl (w_rs_Restore _ A01 n01 c01 rs01 _ (SlRc.lift hf01 hm_M57) (Rels.lift hq01 hm_M57) (some ⟨g25, 0, none⟩) (([true, true, true, true, true, true] : List Bool).length) (([true, true, true, true, true, true] : List Bool).length) _ hf58 hx45)) ?_
 rintro _ _ ⟨M59, _, ⟨A60, n61, c62, rs63, rfl, rfl, hq64⟩, hm_M59, rfl⟩
 refine mv rfl <| ya (extract rfl rfl) <| ya (extract rfl rfl) <| asn rfl <| ak rfl k44 <| sq fun _ k65 => sr fun _ k66 => mv rfl <| ya (neqI rfl rfl) <| dz k66 <| cnn h rfl bne_eq_false_iff_eq.2 bne_iff_ne.2 (fun hc67 h => ?_) fun hc67 h => ?_
 ·refine ss <| k65 _ _ <| sq fun _ k68 => sr fun _ k69 => bd h fun x70 hx70 h => ya (loadBM (k := 102) agg_34 rfl rfl rfl) <| mv rfl <| c1 174 Tryz.func44 rfl (fun w hb hh => w_shards_Head_damaged (Mem.snap w) u0 u1 u2 u3 u4 u5 u6 u7 u8 u9 A00_10 n00_10 c00_10 _ (RdH.sn (mM rfl (SlRc.lift (SlRc.lift hf00_10 hm_M57) hm_M59)) w hb hh) A60 n61 c62 rs63 _ (RdH.sn (rO 151 rfl) w hb hh) (Rels.sn hq64 (hh.sat 0 _ rfl)) hx70) fun A75 n76 c77 => ya (lenC (xs := x70) und_45 rfl (rO 174 rfl)) <| ya (gtr rfl rfl) <| dz k69 <| cI h rfl (fun hc78 h => ?_) fun hc78 h => ?_
  ·refine sr fun _ k79 => asn rfl <| asn rfl <| ak rfl k79 <| re <| tr <| QK.nilOwn 180 22 (Lay.sz Hdr) none <| QK.nilOwn 181 3 (Lay.sz Int) none ?_
   obtain rfl := si h
   exact rt [180, 181] (ResIs.three rfl rfl rfl rfl) (Ext.trans hm_M57 hm_M59) ⟨none, 0, 0, ([] : List Hdr), none, 0, 0, rfl, rfl, (Rels.nil (R := (RelB (α := BitVec 8)) M59))⟩
  refine ss <| k68 _ _ <| sr fun _ k82 => mv rfl <| mv rfl <| asn rfl <| asn rfl <| ak rfl k82 <| re ?_
  obtain rfl := si h
  exact rt [151, 120] (ResIs.three rfl rfl rfl rfl) (Ext.trans hm_M57 hm_M59) ⟨A60, n61, c62, rs63, A21, n22, c23, rfl, rfl, hq64⟩
 refine sr fun _ k83 => mv rfl <| asn rfl <| asn rfl <| ak rfl k83 <| re <| tr <| QK.nilOwn 184 22 (Lay.sz Hdr) none <| QK.nilOwn 185 3 (Lay.sz Int) none ?_
 obtain rfl := si h
 exact rt [184, 185] (ResIs.three rfl rfl rfl rfl) (Ext.trans hm_M57 hm_M59) ⟨none, 0, 0, ([] : List Hdr), none, 0, 0, rfl, rfl, (Rels.nil (R := (RelB (α := BitVec 8)) M59))⟩
theorem und_26 : Tryz.prog.underlying 26 = some (.slice 77) := by kernel_rfl
theorem und_79 : Tryz.prog.underlying 79 = some (.slice 120) := by kernel_rfl
theorem bu_120_0_1 : ∀ (a0 : Int) (a1_0 : BitVec 64) (a1_1 : BitVec 32) (a1_2 : Bool) (a1_3 : Option Addr) (n1_3 c1_3 : Nat), Tryz.prog.built 120 [(0, I64 a0), (1, .agg ([U64 a1_0, U32 a1_1, .bool a1_2, .slice a1_3 n1_3 c1_3] : List Value).toArray)] = some ([I64 a0, U64 a1_0, U32 a1_1, .bool a1_2, .slice a1_3 n1_3 c1_3] : List Value).toArray := fun a0 a1_0 a1_1 a1_2 a1_3 n1_3 c1_3 => by kernel_rfl
theorem bu_34_0_1_2_3 : ∀ (a0_0 : Int) (a0_1 : Int) (a0_2 : Int) (a1 : Int) (a2_0 : BitVec 32) (a2_1 : BitVec 32) (a2_2 : BitVec 32) (a2_3 : BitVec 32) (a2_4 : BitVec 32) (a2_5 : BitVec 32) (a3 : Option Addr) (n3 c3 : Nat), Tryz.prog.built 34 [(0, .agg ([I64 a0_0, I64 a0_1, I64 a0_2] : List Value).toArray), (1, I64 a1), (2, .agg ([U32 a2_0, U32 a2_1, U32 a2_2, U32 a2_3, U32 a2_4, U32 a2_5] : List Value).toArray), (3, .slice a3 n3 c3)] = some ([I64 a0_0, I64 a0_1, I64 a0_2, I64 a1, U32 a2_0, U32 a2_1, U32 a2_2, U32 a2_3, U32 a2_4, U32 a2_5, .slice a3 n3 c3] : List Value).toArray := fun a0_0 a0_1 a0_2 a1 a2_0 a2_1 a2_2 a2_3 a2_4 a2_5 a3 n3 c3 => by kernel_rfl
theorem nm_10 : (Tryz.f10.name == "runtime.NumGoroutine") = false := by kernel_rfl
theorem nm_11 : (Tryz.f11.name == "runtime.NumGoroutine") = false := by kernel_rfl
theorem nm_17 : (Tryz.f17.name == "runtime.NumGoroutine") = false := by kernel_rfl
theorem nm_33 : (Tryz.f33.name == "runtime.NumGoroutine") = false := by kernel_rfl
theorem nm_34 : (Tryz.f34.name == "runtime.NumGoroutine") = false := by kernel_rfl
theorem nm_74 : (Tryz.f74.name == "runtime.NumGoroutine") = false := by kernel_rfl
theorem nm_76 : (Tryz.f76.name == "runtime.NumGoroutine") = false := by kernel_rfl
theorem nz_77 : (Tryz.prog.info? 77).map (fun i => decide (i.size = 0)) = some false := by kernel_rfl
theorem siz_57 : (Tryz.prog.info? 57).map (·.size) = some 1 := by kernel_rfl
theorem sty_26 : STy Tryz.prog 26 77 (.agg #[(U64 0#64), (U32 0#32), (.bool false), (.slice none 0 0)]) 4 40 := STy.of und_26 (by kernel_rfl) rfl
theorem sty_79 : STy Tryz.prog 79 120 (.agg #[(I64 0), (U64 0#64), (U32 0#32), (.bool false), (.slice none 0 0)]) 5 48 := STy.of und_79 (by kernel_rfl) rfl
structure Rapi_Needle where
 x : Sapi_Needle
 h0 : Hdr
instance : Lay Rapi_Needle := ⟨4, fun r => [U64 r.x.fKey, U32 r.x.fCookie, .bool r.x.fDeleted, .slice r.h0.A r.h0.n r.h0.c], fun _ => rfl, fun _ u h => by simp only [List.mem_cons, List.not_mem_nil, or_false] at h; rcases h with rfl | rfl | rfl | rfl <;> rfl, by decide⟩
def rel_api_Needle (M : Mem) (r : Rapi_Needle) (x : Sapi_Needle) : Prop := x = r.x /\ (RelB (α := BitVec 8)) M r.h0 x.fData
instance : Mono rel_api_Needle := ⟨fun ⟨h0, h1⟩ hm => ⟨h0, Mono.mono h1 hm⟩⟩
structure Rneedlestoreref09_Record where
 x : Sneedlestoreref09_Record
 h0 : Hdr
instance : Lay Rneedlestoreref09_Record := ⟨5, fun r => [I64 r.x.fOff, U64 r.x.fNeedle.fKey, U32 r.x.fNeedle.fCookie, .bool r.x.fNeedle.fDeleted, .slice r.h0.A r.h0.n r.h0.c], fun _ => rfl, fun _ u h => by simp only [List.mem_cons, List.not_mem_nil, or_false] at h; rcases h with rfl | rfl | rfl | rfl | rfl <;> rfl, by decide⟩
def rel_needlestoreref09_Record (M : Mem) (r : Rneedlestoreref09_Record) (x : Sneedlestoreref09_Record) : Prop := x = r.x /\ (RelB (α := BitVec 8)) M r.h0 x.fNeedle.fData
instance : Mono rel_needlestoreref09_Record := ⟨fun ⟨h0, h1⟩ hm => ⟨h0, Mono.mono h1 hm⟩⟩
theorem w_r09_Records (M0 : Mem) (A00 : Option Addr) (n00 c00 : Nat) (x00 : By) (hf00 : SlT M0 A00 n00 c00 x00) (x01 : Int) {res : (List Sneedlestoreref09_Record) × Int} (h : m_r09_Records x00 x01 = some res) :
  Fn Tryz.prog 74 #[.slice A00 n00 c00, I64 x01] M0 fun r M' es => ∃ (A1 : Option Addr) (n1 c1 : Nat), ∃ rs1 : List Rneedlestoreref09_Record, r = .tuple #[.slice A1 n1 c1, I64 res.2] /\ es = [.own 120 (Lay.sz Rneedlestoreref09_Record) A1 n1 c1 (cel rs1)] /\ Rels (rel_needlestoreref09_Record M') rs1 res.1 := by
 refine Fn.intro (N := 35) Tryz.func74 rfl rfl (nle rfl) fun w0 => ?_
 unfold m_r09_Records at h
 refine sr fun _ k1 => asn rfl <| ak rfl k1 <| sr fun _ k2 => ak rfl k2 <| ct (σ := Mem × Int × (Option Addr) × Nat × Nat × (List Sneedlestoreref09_Record) × (List Rneedlestoreref09_Record)) (fun ⟨M3, x4, A7, n8, c9, x10, rs11⟩ => [(1, I64 x4), (6, .slice A7 n8 c9)]) (fun ⟨M3, x4, A7, n8, c9, x10, rs11⟩ => [(0, .mem M3), (106, .own 120 (Lay.sz Rneedlestoreref09_Record) A7 n8 c9 (cel rs11))]) (fun ⟨M3, x4, A7, n8, c9, x10, rs11⟩ => m_r09_Records_j0 x4 x10 = some res /\ Ext w0.heap.size M0 M3 /\ Rels (rel_needlestoreref09_Record M3) rs11 x10) (fun _ k13 => ?_) ?_
 ·refine bl <| WC.nilOwn 117 120 (Lay.sz Rneedlestoreref09_Record) none <| lp (τ := Mem × Int × (Option Addr) × Nat × Nat × (List Sneedlestoreref09_Record) × (List Rneedlestoreref09_Record)) (fun ⟨M14, x15, A18, n19, c20, x21, rs22⟩ => [(0, .slice A00 n00 c00), (1, I64 x15), (6, .slice A18 n19 c20)]) (fun ⟨M14, x15, A18, n19, c20, x21, rs22⟩ => [(0, .mem M14), (117, .own 120 (Lay.sz Rneedlestoreref09_Record) A18 n19 c20 (cel rs22))]) (fun q24 ⟨M14, x15, A18, n19, c20, x21, rs22⟩ => m_r09_Records_l1 x00 q24 x15 x21 = some res /\ Ext w0.heap.size M0 M14 /\ Rels (rel_needlestoreref09_Record M14) rs22 x21) ⟨M0, x01, none, 0, 0, ([] : List Sneedlestoreref09_Record), ([] : List Rneedlestoreref09_Record)⟩ ?_ (by simp [m_r09_Records_l1]) ?_
  ·exact ⟨h, (Ext.refl _ _), (Rels.nil (R := rel_needlestoreref09_Record M0))⟩
  rintro q24 ⟨M14, x15, A18, n19, c20, x21, rs22⟩ ⟨h, hm_M14, hq23⟩ _ k25
  unfold m_r09_Records_l1 at h
  refine sq fun _ k26 => sr fun _ k27 => mv rfl <| mv rfl <| ya (lenC (xs := x00) und_22 rfl (mM rfl (SlRc.lift hf00 hm_M14))) <| ya (leq rfl rfl) <| dz k27 <| cI h rfl (fun hc28 h => ?_) fun hc28 h => ?_
  ·refine ss <| k26 _ _ <| bl <| sr fun _ k29 => ?_
   obtain ⟨x30, hx30, h⟩ := bnd h
   obtain ⟨x31, hx31, h⟩ := bnd h
   refine mv rfl <| mv rfl <| ya (sliceLC (xs := x00) sty_22 rfl rfl (mM rfl (SlRc.lift hf00 hm_M14)) hx30) <| c1 135 Tryz.func102 rfl (fun w hb hh => w_r06_Decode (Mem.snap w) (subA A00 c00 (x15).toNat (Lay.sz (BitVec 8))) x30.length (c00 - (x15).toNat) _ (RdH.sn (RdT.slc (mM rfl (SlRc.lift hf00 hm_M14)) hx30) w hb hh) hx31) fun A36 n37 c38 => mv rfl <| ya (extract rfl rfl) <| ya (extract rfl rfl) <| ya (extract rfl rfl) <| al 139 zr_77 fun g39 => sb 139 agg_77 rfl rfl rfl <| asn rfl <| ak rfl k29 <| sq fun _ k40 => sr fun _ k41 => mv rfl <| ya (neqI rfl rfl) <| dz k41 <| cnn h rfl bne_eq_false_iff_eq.2 bne_iff_ne.2 (fun hc42 h => ?_) fun hc42 h => ?_
   ·refine ss <| k40 _ _ <| sr fun _ k43 => bd h fun x48 hx48 h => mv rfl <| mv rfl <| ya (loadBM (k := 139) agg_77 rfl rfl rfl) <| ya (build rfl (bu_120_0_1 x15 x31.1 x31.2.1 x31.2.2.1 A36 n37 c38)) <| WL.freeze 135 rfl rfl rfl fun M45 hm_M45 hf46 => ?_
    have hq47 : Rels (rel_needlestoreref09_Record M45) ([(Rneedlestoreref09_Record.mk (Sneedlestoreref09_Record.mk x15 (Sapi_Needle.mk x31.1 x31.2.1 x31.2.2.1 x31.2.2.2.1)) (⟨A36, n37, c38⟩ : Hdr))] : List Rneedlestoreref09_Record) ([(Sneedlestoreref09_Record.mk x15 (Sapi_Needle.mk x31.1 x31.2.1 x31.2.2.1 x31.2.2.2.1))] : List Sneedlestoreref09_Record) := (Rels.cons ⟨rfl, hf46⟩ Rels.nil)
    refine WL.eff (by decide) (Eff.buildCA 144 ([(Rneedlestoreref09_Record.mk (Sneedlestoreref09_Record.mk x15 (Sapi_Needle.mk x31.1 x31.2.1 x31.2.2.1 x31.2.2.2.1)) (⟨A36, n37, c38⟩ : Hdr))] : List Rneedlestoreref09_Record) sty_79 rfl rfl rfl (by decide)) ?_
    rintro _ _ ⟨g44, rfl, rfl⟩
    obtain ⟨hu51, hq52⟩ := Rels.apd (Rels.lift hq23 hm_M45) hq47 hx48
    refine ap 117 (xs := rs22) (ys := ([(Rneedlestoreref09_Record.mk (Sneedlestoreref09_Record.mk x15 (Sapi_Needle.mk x31.1 x31.2.1 x31.2.2.1 x31.2.2.2.1)) (⟨A36, n37, c38⟩ : Hdr))] : List Rneedlestoreref09_Record)) sty_79 rfl rfl rfl (rO 144 rfl) hu51 fun A49 c50 => ak rfl k43 <| rg fun _ k53 => bd h fun x54 hx54 h => mv rfl <| mv rfl <| ya (addC rfl rfl hx54) <| ak rfl k53 <| bn <| tn <| kw (k25 ⟨M45, x54, A49, (rs22 ++ ([(Rneedlestoreref09_Record.mk (Sneedlestoreref09_Record.mk x15 (Sapi_Needle.mk x31.1 x31.2.1 x31.2.2.1 x31.2.2.2.1)) (⟨A36, n37, c38⟩ : Hdr))] : List Rneedlestoreref09_Record)).length, c50, x48, (rs22 ++ ([(Rneedlestoreref09_Record.mk (Sneedlestoreref09_Record.mk x15 (Sapi_Needle.mk x31.1 x31.2.1 x31.2.2.1 x31.2.2.2.1)) (⟨A36, n37, c38⟩ : Hdr))] : List Rneedlestoreref09_Record))⟩ ⟨h, (Ext.trans hm_M14 hm_M45), hq52⟩)
   exact xi <| te <| bo <| te <| bx <| tn <| KK.move 117 106 rfl rfl <| kw (k13 ⟨M14, x15, A18, n19, c20, x21, rs22⟩ ⟨h, hm_M14, hq23⟩)
  exact xi <| te <| te <| bx <| tn <| KK.move 117 106 rfl rfl <| kw (k13 ⟨M14, x15, A18, n19, c20, x21, rs22⟩ ⟨h, hm_M14, hq23⟩)
 rintro ⟨M3, x4, A7, n8, c9, x10, rs11⟩ ⟨h, hm_M3, hq12⟩
 unfold m_r09_Records_j0 at h
 refine sr fun _ k55 => mv rfl <| mv rfl <| asn rfl <| ak rfl k55 <| re ?_
 obtain rfl := si h
 exact rt [106] (ResIs.two rfl rfl rfl) hm_M3 ⟨A7, n8, c9, rs11, rfl, rfl, hq12⟩
theorem w_r09_Open (M0 : Mem) (A00 : Option Addr) (n00 c00 : Nat) (x00 : By) (hf00 : SlT M0 A00 n00 c00 x00) {res : Int × Int × Int × (List Sneedlestoreref09_Record) × Int × Int} (h : m_r09_Open x00 = some res) :
  Fn Tryz.prog 33 #[.slice A00 n00 c00] M0 fun r M' es => ∃ (A1 : Option Addr) (n1 c1 : Nat), ∃ rs1 : List Rneedlestoreref09_Record, r = .tuple #[.agg ([I64 res.1, I64 res.2.1, I64 res.2.2.1] : List Value).toArray, .slice A1 n1 c1, I64 res.2.2.2.2.1, I64 res.2.2.2.2.2] /\ es = [.own 120 (Lay.sz Rneedlestoreref09_Record) A1 n1 c1 (cel rs1)] /\ Rels (rel_needlestoreref09_Record M') rs1 res.2.2.2.1 := by
 refine Fn.intro (N := 27) Tryz.func33 rfl rfl (nle rfl) fun w0 => ?_
 unfold m_r09_Open at h
 refine sr fun _ k1 => al 102 zr_24 fun g2 => asn rfl <| asn rfl <| ak rfl k1 <| sr fun _ k3 => bd h fun x4 hx4 h => mv rfl <| c0 Tryz.func73 rfl (fun w hb hh => w_r07_Decode (Mem.snap w) A00 n00 c00 _ (sM rfl hf00 w hb hh) hx4) <| mv rfl <| ya (extract rfl rfl) <| ya (extract rfl rfl) <| al 106 zr_24 fun g6 => sb 106 agg_24 rfl rfl rfl <| ak rfl k3 <| sq fun _ k7 => sr fun _ k8 => mv rfl <| ya (neqI rfl rfl) <| dz k8 <| cnn h rfl bne_eq_false_iff_eq.2 bne_iff_ne.2 (fun hc9 h => ?_) fun hc9 h => ?_
 ·refine ss <| k7 _ _ <| sr fun _ k10 => bd h fun x11 hx11 h => mv rfl <| WL.eff (by decide) (Eff.callM 117 rfl Tryz.func74 nm_74 rfl rfl rfl (w_r09_Records _ A00 n00 c00 _ hf00 (16 : Int) hx11)) ?_
  rintro _ _ ⟨M23, _, ⟨A24, n25, c26, rs27, rfl, rfl, hq28⟩, hm_M23, rfl⟩
  refine mv rfl <| ya (extract rfl rfl) <| ya (extract rfl rfl) <| asn rfl <| ak rfl k10 <| sr fun _ k29 => ya (loadBM (k := 106) agg_24 rfl rfl rfl) <| mv rfl <| mv rfl <| sb 102 agg_24 rfl rfl rfl <| asn rfl <| asn rfl <| ak rfl k29 <| re ?_
  obtain rfl := si h
  exact rt [117] (ResIs.cellTmp3M (k := 102) rfl agg_24 rfl rfl rfl rfl rfl rfl) hm_M23 ⟨A24, n25, c26, rs27, rfl, rfl, hq28⟩
 refine sr fun _ k30 => ya (build rfl (bu_24_)) <| mv rfl <| sb 102 agg_24 rfl rfl rfl <| asn rfl <| asn rfl <| ak rfl k30 <| re <| tr <| QK.nilOwn 131 120 (Lay.sz Rneedlestoreref09_Record) none ?_
 obtain rfl := si h
 exact rt [131] (ResIs.cellTmp3M (k := 102) rfl agg_24 rfl rfl rfl rfl rfl rfl) (Ext.refl _ _) ⟨none, 0, 0, ([] : List Rneedlestoreref09_Record), rfl, rfl, (Rels.nil (R := rel_needlestoreref09_Record M0))⟩
theorem w_r09_Items (M0 : Mem) (A00 : Option Addr) (n00 c00 : Nat) (rs00 : List Rneedlestoreref09_Record) (x00 : List Sneedlestoreref09_Record) (hf00 : SlT M0 A00 n00 c00 rs00) (hq00 : Rels (rel_needlestoreref09_Record M0) rs00 x00) {res : (List Sapi_Item)} (h : m_r09_Items x00 = some res) :
  Fn Tryz.prog 34 #[.slice A00 n00 c00] M0 fun r M' es => ∃ (A1 : Option Addr) (n1 c1 : Nat), r = .slice A1 n1 c1 /\ es = [.own 59 (Lay.sz Sapi_Item) A1 n1 c1 (cel res)] := by
 refine Fn.intro (N := 39) Tryz.func34 rfl rfl (nle rfl) fun w0 => ?_
 unfold m_r09_Items at h
 refine sr fun _ k1 => ak rfl k1 <| sr fun _ k2 => ak rfl k2 <| ct (σ := (Option Addr) × Nat × Nat × (List Sapi_Item)) (fun ⟨A5, n6, c7, x8⟩ => [(3, .slice A5 n6 c7)]) (fun ⟨A5, n6, c7, x8⟩ => [(0, .mem M0), (104, .own 59 (Lay.sz Sapi_Item) A5 n6 c7 (cel x8))]) (fun ⟨A5, n6, c7, x8⟩ => m_r09_Items_j0 x8 = some res) (fun _ k9 => ?_) ?_
 ·refine sr fun _ k10 => ak rfl k10 <| bl <| WC.nilOwn 112 59 (Lay.sz Sapi_Item) none <| lp (τ := (Option Addr) × Nat × Nat × (List Sapi_Item) × Int) (fun ⟨A13, n14, c15, x16, x17⟩ => [(0, .slice A00 n00 c00), (3, .slice A13 n14 c15), (4, I64 x17)]) (fun ⟨A13, n14, c15, x16, x17⟩ => [(0, .mem M0), (112, .own 59 (Lay.sz Sapi_Item) A13 n14 c15 (cel x16))]) (fun q18 ⟨A13, n14, c15, x16, x17⟩ => m_r09_Items_l1 x00 q18 x16 x17 = some res) ⟨none, 0, 0, ([] : List Sapi_Item), (0 : Int)⟩ ?_ (by simp [m_r09_Items_l1]) ?_
  ·exact h
  rintro q18 ⟨A13, n14, c15, x16, x17⟩ h _ k19
  unfold m_r09_Items_l1 at h
  refine sq fun _ k20 => sr fun _ k21 => mv rfl <| mv rfl <| ya (lenD (rs := rs00) (xs := x00) (Rels.len hq00) und_79 rfl (mM rfl hf00)) <| ya (lss rfl rfl) <| dz k21 <| cI h rfl (fun hc22 h => ?_) fun hc22 h => ?_
  ·refine ss <| k20 _ _ <| sq fun _ k23 => bl <| sr fun _ k24 => bd h fun x25 hx25 h => mv rfl <| mv rfl ?_
   obtain ⟨⟨_, r_26_0⟩, hr27, rfl, hq28_0⟩ := Rels.idx hq00 hx25
   refine ya (idxC (xs := rs00) sty_79 rfl rfl (mM rfl hf00) hr27) <| ya (fieldAddrC Tryz.underlying120 rfl nz_77 rfl rfl) <| ya (loadAP (xs := rs00) (j := 1) agg_77 rfl (mM rfl hf00) hr27 rfl rfl) <| al 129 zr_77 fun g29 => sb 129 agg_77 rfl rfl rfl <| dz k24 <| sr fun _ k30 => ya (fieldAddr Tryz.underlying77 rfl nz_4 rfl rfl) <| ya (loadB (k := 129) scal_4 rfl rfl rfl) <| dz k30 <| cnd h rfl id Bool.eq_false_iff.2 (fun hc31 h => ?_) fun hc31 h => ?_
   ·refine rg fun _ k32 => bd h fun x33 hx33 h => mv rfl <| ya (fieldAddr Tryz.underlying77 rfl nz_57 rfl rfl) <| ya (loadB (k := 129) scal_57 rfl rfl rfl) <| c1 137 Tryz.func75 rfl (fun w hb hh => w_r08_Drop (Mem.snap w) A13 n14 c15 _ (RdH.sn (rO 112 rfl) w hb hh) x25.fNeedle.fKey hx33) fun A38 n39 c40 => ak rfl k32 <| bn <| tn <| k23 _ _ <| rg fun _ k41 => bd h fun x42 hx42 h => mv rfl <| ya (addC rfl rfl hx42) <| ak rfl k41 <| tn <| KK.move 137 112 rfl rfl <| kw (k19 ⟨A38, n39, c40, x33, x42⟩ h)
   refine rd [(0, _), (112, _), (129, _)] mixed fun _ k43 => ?_
   obtain ⟨x44, hx44, h⟩ := bnd h
   obtain ⟨x48, hx48, h⟩ := bnd h
   refine dm 0 rfl rfl <| du 1 rfl (fieldAddr Tryz.underlying77 rfl nz_57 rfl rfl) <| du 2 rfl (loadB (k := 129) scal_57 rfl rfl rfl) <| du 3 rfl (fieldAddr Tryz.underlying77 rfl nz_31 rfl rfl) <| du 4 rfl (loadB (k := 129) scal_31 rfl rfl rfl) <| dm 5 rfl rfl <| dm 6 rfl rfl ?_
   obtain ⟨⟨_, r_45_0⟩, hr46, rfl, hq47_0⟩ := Rels.idx hq00 hx44
   refine du 7 rfl (idxC (xs := rs00) sty_79 rfl rfl (mM rfl hf00) hr46) <| du 8 rfl (fieldAddrC Tryz.underlying120 rfl nz_2 rfl rfl) <| du 9 rfl (loadC (xs := rs00) (j := 0) scal_2 rfl (mM rfl hf00) hr46 rfl rfl) <| du 10 rfl (fieldAddr Tryz.underlying77 rfl nz_22 rfl rfl) <| du 11 rfl (loadB (k := 129) scal_22 rfl rfl rfl) <| du 12 rfl (lenC (xs := x25.fNeedle.fData) und_22 rfl (mM rfl hq28_0)) <| du 13 rfl (build rfl (bu_59_0_1_2_3 x25.fNeedle.fKey x25.fNeedle.fCookie x44.fOff (x25.fNeedle.fData.length : Int))) <| on 14 <| WS.eff rfl (by decide) (Eff.callS 152 rfl Tryz.func76 nm_76 rfl rfl (fun w hb hh => w_r08_Put (Mem.snap w) A13 n14 c15 _ (RdH.sn (rO 112 rfl) w hb hh) x25.fNeedle.fKey x25.fNeedle.fCookie x44.fOff (x25.fNeedle.fData.length : Int) hx48)) ?_
   rintro _ _ ⟨_, ⟨A53, n54, c55, rfl, rfl⟩, rfl⟩
   refine aq ?_
   refine du 15 rfl (Yld.assign rfl) <| dd <| k43 _ _ <| bn <| tn <| k23 _ _ <| rg fun _ k56 => bd h fun x57 hx57 h => mv rfl <| ya (addC rfl rfl hx57) <| ak rfl k56 <| tn <| KK.move 152 112 rfl rfl <| kw (k19 ⟨A53, n54, c55, x48, x57⟩ h)
  exact xi <| te <| te <| bx <| tn <| KK.move 112 104 rfl rfl <| kw (k9 ⟨A13, n14, c15, x16⟩ h)
 rintro ⟨A5, n6, c7, x8⟩ h
 unfold m_r09_Items_j0 at h
 refine sr fun _ k58 => mv rfl <| ak rfl k58 <| re ?_
 obtain rfl := si h
 exact rt [104] (ResIs.one rfl rfl) (Ext.refl _ _) ⟨A5, n6, c7, rfl, rfl⟩
theorem w_law17_file (M0 : Mem) (A00 : Option Addr) (n00 c00 : Nat) (rs00 : List Rapi_Needle) (x00 : List Sapi_Needle) (hf00 : SlT M0 A00 n00 c00 rs00) (hq00 : Rels (rel_api_Needle M0) rs00 x00) {res : By × Int × Int × Int × (List Sapi_Item)} (h : m_law17_file x00 = some res) :
  Fn Tryz.prog 10 #[.slice A00 n00 c00] M0 fun r M' es => ∃ (A1 : Option Addr) (n1 c1 : Nat), ∃ (A2 : Option Addr) (n2 c2 : Nat), r = .tuple #[.slice A1 n1 c1, .agg ([I64 res.2.1, I64 res.2.2.1, I64 res.2.2.2.1] : List Value).toArray, .slice A2 n2 c2] /\ es = [.own 59 (Lay.sz Sapi_Item) A2 n2 c2 (cel res.2.2.2.2)] /\ SlT M' A1 n1 c1 res.1 := by
 refine Fn.intro (N := 73) Tryz.func10 rfl rfl (nle rfl) fun w0 => ?_
 unfold m_law17_file at h
 refine sr fun _ k1 => asn rfl <| al 102 zr_24 fun g2 => ak rfl k1 <| sr fun _ k3 => ya (build rfl (bu_24_0_1_2 (1 : Int) (2 : Int) (3 : Int))) <| al 104 zr_24 fun g4 => sb 104 agg_24 rfl rfl rfl <| dz k3 <| sr fun _ k5 => bd h fun x6 hx6 h => ya (loadBM (k := 104) agg_24 rfl rfl rfl) <| c1 110 Tryz.func31 rfl (fun w hb hh => w_r07_Encode (Mem.snap w) (1 : Int) (2 : Int) (3 : Int) hx6) fun A11 n12 c13 => mv rfl <| ya (extract rfl rfl) <| ya (extract rfl rfl) <| asn rfl <| ak rfl k5 <| ct (σ := (Option Addr) × Nat × Nat × By) (fun ⟨A14, n15, c16, x17⟩ => [(3, pv g2), (5, pv g4), (6, .slice A14 n15 c16)]) (fun ⟨A14, n15, c16, x17⟩ => [(0, .mem M0), (102, .blk g2 24 [I64 (0 : Int), I64 (0 : Int), I64 (0 : Int)]), (104, .blk g4 24 [I64 (1 : Int), I64 (2 : Int), I64 (3 : Int)]), (110, .own 5 (Lay.sz (BitVec 8)) A14 n15 c16 (cel x17))]) (fun ⟨A14, n15, c16, x17⟩ => m_law17_file_j0 x17 = some res) (fun _ k18 => ?_) ?_
 ·refine sr fun _ k19 => ak rfl k19 <| bl <| lp (τ := (Option Addr) × Nat × Nat × By × Int) (fun ⟨A20, n21, c22, x23, x24⟩ => [(0, .slice A00 n00 c00), (3, pv g2), (5, pv g4), (6, .slice A20 n21 c22), (8, I64 x24)]) (fun ⟨A20, n21, c22, x23, x24⟩ => [(0, .mem M0), (102, .blk g2 24 [I64 (0 : Int), I64 (0 : Int), I64 (0 : Int)]), (104, .blk g4 24 [I64 (1 : Int), I64 (2 : Int), I64 (3 : Int)]), (110, .own 5 (Lay.sz (BitVec 8)) A20 n21 c22 (cel x23))]) (fun q25 ⟨A20, n21, c22, x23, x24⟩ => m_law17_file_l1 x00 q25 x23 x24 = some res) ⟨A11, n12, c13, x6.1, (0 : Int)⟩ ?_ (by simp [m_law17_file_l1]) ?_
  ·exact h
  rintro q25 ⟨A20, n21, c22, x23, x24⟩ h _ k26
  unfold m_law17_file_l1 at h
  refine ct (σ := Unit) (fun _ => [(0, .slice A00 n00 c00), (3, pv g2), (5, pv g4), (6, .slice A20 n21 c22), (8, I64 x24)]) (fun _ => [(0, .mem M0), (102, .blk g2 24 [I64 (0 : Int), I64 (0 : Int), I64 (0 : Int)]), (104, .blk g4 24 [I64 (1 : Int), I64 (2 : Int), I64 (3 : Int)]), (110, .own 5 (Lay.sz (BitVec 8)) A20 n21 c22 (cel x23))]) (fun _ => m_law17_file_j2 x00 x23 x24 (m_law17_file_l1 x00 q25) = some res) (fun _ k27 => ?_) ?_
  ·refine sr fun _ k28 => mv rfl <| mv rfl <| ya (lenD (rs := rs00) (xs := x00) (Rels.len hq00) und_26 rfl (mM rfl hf00)) <| ya (lss rfl rfl) <| mv rfl <| spl h decide_eq_true decide_eq_false (fun hc29 h => ?_) fun hc29 h => ?_
   ·refine mvg rfl <| yg (lss rfl rfl) <| pt rfl rfl <| dz k28 <| cI h rfl (fun hc30 h => ?_) fun hc30 h => ?_
    ·exact WC.skip <| tn <| kw (k27 () h)
    exact xi <| te <| te <| bx <| tn <| kw (k18 ⟨A20, n21, c22, x23⟩ h)
   exact sk <| sk <| pf rfl rfl <| dz k28 <| cdF rfl <| xi <| te <| te <| bx <| tn <| kw (k18 ⟨A20, n21, c22, x23⟩ h)
  rintro _ h
  unfold m_law17_file_j2 at h
  refine sq fun _ k31 => bl <| sr fun _ k32 => bd h fun x33 hx33 h => mv rfl <| mv rfl ?_
  obtain ⟨⟨_, r_34_0⟩, hr35, rfl, hq36_0⟩ := Rels.idx hq00 hx33
  refine ya (idxC (xs := rs00) sty_26 rfl rfl (mM rfl hf00) hr35) <| ya (loadA (xs := rs00) agg_77 rfl (mM rfl hf00) hr35 rfl) <| al 137 zr_77 fun g37 => sb 137 agg_77 rfl rfl rfl <| dz k32 <| ct (σ := (Option Addr) × Nat × Nat × By) (fun ⟨A38, n39, c40, x41⟩ => [(0, .slice A00 n00 c00), (3, pv g2), (5, pv g4), (6, .slice A20 n21 c22), (8, I64 x24), (9, pv g37)]) (fun ⟨A38, n39, c40, x41⟩ => [(0, .mem M0), (102, .blk g2 24 [I64 (0 : Int), I64 (0 : Int), I64 (0 : Int)]), (104, .blk g4 24 [I64 (1 : Int), I64 (2 : Int), I64 (3 : Int)]), (110, .own 5 (Lay.sz (BitVec 8)) A20 n21 c22 (cel x23)), (137, .blk g37 77 [U64 x33.fKey, U32 x33.fCookie, .bool x33.fDeleted, .slice A38 n39 c40])]) (fun ⟨A38, n39, c40, x41⟩ => m_law17_file_j3 x23 x24 x33 (m_law17_file_l1 x00 q25) x41 = some res /\ SlT M0 A38 n39 c40 x41) (fun _ k43 => ?_) ?_
  ·refine sr fun _ k44 => ya (fieldAddr Tryz.underlying77 rfl nz_22 rfl rfl) <| ya (loadB (k := 137) scal_22 rfl rfl rfl) <| ya (lenC (xs := x33.fData) und_22 rfl (mM rfl hq36_0)) <| ya (gtr rfl rfl) <| dz k44 <| cI h rfl (fun hc45 h => ?_) fun hc45 h => ?_
   ·refine rg fun _ k46 => bd h fun x47 hx47 h => ya (fieldAddr Tryz.underlying77 rfl nz_22 rfl rfl) <| ya (loadB (k := 137) scal_22 rfl rfl rfl) <| ya (sliceHC (xs := x33.fData) sty_22 rfl rfl (mM rfl hq36_0) hx47) <| ya (fieldAddr Tryz.underlying77 rfl nz_22 rfl rfl) <| WL.eff0 (Eff0.storeB 137 siz_22 rfl rfl rfl rfl (nle rfl)) <| dz k46 <| tn <| kw (k43 ⟨r_34_0.A, x47.length, r_34_0.c, x47⟩ ⟨h, (SlT.slc0 hq36_0 hx47)⟩)
   exact WC.skip <| tn <| kw (k43 ⟨r_34_0.A, r_34_0.n, r_34_0.c, x33.fData⟩ ⟨h, hq36_0⟩)
  rintro ⟨A38, n39, c40, x41⟩ ⟨h, hf42⟩
  unfold m_law17_file_j3 at h
  refine ct (σ := (Option Addr) × Nat × Nat × By) (fun ⟨A48, n49, c50, x51⟩ => [(0, .slice A00 n00 c00), (3, pv g2), (5, pv g4), (6, .slice A20 n21 c22), (8, I64 x24), (9, pv g37)]) (fun ⟨A48, n49, c50, x51⟩ => [(0, .mem M0), (102, .blk g2 24 [I64 (0 : Int), I64 (0 : Int), I64 (0 : Int)]), (104, .blk g4 24 [I64 (1 : Int), I64 (2 : Int), I64 (3 : Int)]), (110, .own 5 (Lay.sz (BitVec 8)) A20 n21 c22 (cel x23)), (137, .blk g37 77 [U64 x33.fKey, U32 x33.fCookie, .bool x33.fDeleted, .slice A48 n49 c50])]) (fun ⟨A48, n49, c50, x51⟩ => m_law17_file_j4 x23 x24 x33 (m_law17_file_l1 x00 q25) x51 = some res /\ SlT M0 A48 n49 c50 x51) (fun _ k53 => ?_) ?_
  ·refine sr fun _ k54 => ya (fieldAddr Tryz.underlying77 rfl nz_4 rfl rfl) <| ya (loadB (k := 137) scal_4 rfl rfl rfl) <| dz k54 <| cnd h rfl id Bool.eq_false_iff.2 (fun hc55 h => ?_) fun hc55 h => ?_
   ·exact rg fun _ k56 => ya (fieldAddr Tryz.underlying77 rfl nz_22 rfl rfl) <| WL.eff0 (Eff0.storeB 137 siz_22 rfl rfl rfl rfl (nle rfl)) <| dz k56 <| tn <| kw (k53 ⟨none, 0, 0, ([] : By)⟩ ⟨h, SlT.nil⟩)
   exact WC.skip <| tn <| kw (k53 ⟨A38, n39, c40, x41⟩ ⟨h, hf42⟩)
  rintro ⟨A48, n49, c50, x51⟩ ⟨h, hf52⟩
  unfold m_law17_file_j4 at h
  refine sq fun _ k57 => sr fun _ k58 => ya (fieldAddr Tryz.underlying77 rfl nz_57 rfl rfl) <| ya (loadB (k := 137) scal_57 rfl rfl rfl) <| ya (gtr_u64 (a := x33.fKey) (b := 1000#64) rfl rfl) <| dz k58 <| cI h rfl (fun hc59 h => ?_) fun hc59 h => ?_
  ·refine rg fun _ k60 => ya (fieldAddr Tryz.underlying77 rfl nz_57 rfl rfl) <| ya (loadB (k := 137) scal_57 rfl rfl rfl) <| ya (and_u64 (a := x33.fKey) (b := 15#64) rfl rfl) <| ya (fieldAddr Tryz.underlying77 rfl nz_57 rfl rfl) <| WL.eff0 (Eff0.storeB 137 siz_57 rfl rfl rfl rfl (nle rfl)) <| dz k60 <| tn <| k57 _ _ <| sr fun _ k61 => bd h fun x62 hx62 h => ya (loadBM (k := 137) agg_77 rfl rfl rfl) <| c1 166 Tryz.func32 rfl (fun w hb hh => w_r06_Encode (Mem.snap w) (x33.fKey &&& 15#64) x33.fCookie x33.fDeleted A48 n49 c50 _ (sM rfl hf52 w hb hh) hx62) fun A67 n68 c69 => mv rfl <| ya (extract rfl rfl) <| ya (extract rfl rfl) <| asn rfl <| ak rfl k61 <| rg fun _ k70 => bd h fun x71 hx71 h => mv rfl <| mv rfl <| ap 110 (xs := x23) (ys := x62.1) sty_22 rfl rfl rfl (rO 166 rfl) hx71 fun A72 c73 => ak rfl k70 <| bn <| tn <| k31 _ _ <| rg fun _ k74 => bd h fun x75 hx75 h => mv rfl <| ya (addC rfl rfl hx75) <| ak rfl k74 <| tn <| kw (k26 ⟨A72, x71.length, c73, x71, x75⟩ h)
  refine ss <| k57 _ _ <| sr fun _ k76 => bd h fun x77 hx77 h => ya (loadBM (k := 137) agg_77 rfl rfl rfl) <| c1 181 Tryz.func32 rfl (fun w hb hh => w_r06_Encode (Mem.snap w) x33.fKey x33.fCookie x33.fDeleted A48 n49 c50 _ (sM rfl hf52 w hb hh) hx77) fun A82 n83 c84 => mv rfl <| ya (extract rfl rfl) <| ya (extract rfl rfl) <| asn rfl <| ak rfl k76 <| rg fun _ k85 => bd h fun x86 hx86 h => mv rfl <| mv rfl <| ap 110 (xs := x23) (ys := x77.1) sty_22 rfl rfl rfl (rO 181 rfl) hx86 fun A87 c88 => ak rfl k85 <| bn <| tn <| k31 _ _ <| rg fun _ k89 => bd h fun x90 hx90 h => mv rfl <| ya (addC rfl rfl hx90) <| ak rfl k89 <| tn <| kw (k26 ⟨A87, x86.length, c88, x86, x90⟩ h)
 rintro ⟨A14, n15, c16, x17⟩ h
 unfold m_law17_file_j0 at h
 refine sr fun _ k91 => bd h fun x92 hx92 h => mv rfl <| WL.freeze 110 rfl rfl rfl fun M104 hm_M104 hf105 => WL.eff (by decide) (Eff.callM 198 rfl Tryz.func33 nm_33 rfl rfl rfl (w_r09_Open _ A14 n15 c16 _ hf105 hx92)) ?_
 rintro _ _ ⟨M106, _, ⟨A107, n108, c109, rs110, rfl, rfl, hq111⟩, hm_M106, rfl⟩
 refine mv rfl <| ya (extract rfl rfl) <| ya (extract rfl rfl) <| ya (extract rfl rfl) <| ya (extract rfl rfl) <| al 212 zr_24 fun g112 => sb 212 agg_24 rfl rfl rfl <| asn rfl <| asn rfl <| ak rfl k91 <| sd [(0, _), (104, _), (198, _), (212, _)] mixed fun _ k113 => bd h fun x114 hx114 h => dm 0 rfl rfl <| du 1 rfl (loadBM (k := 104) agg_24 rfl rfl rfl) <| dm 2 rfl rfl <| on 3 <| WS.eff rfl (by decide) (Eff.callS 218 rfl Tryz.func34 nm_34 rfl rfl (fun w hb hh => w_r09_Items (Mem.snap w) A107 n108 c109 rs110 _ (RdH.sn (rO 198 rfl) w hb hh) (Rels.sn hq111 (hh.sat 0 _ rfl)) hx114)) ?_
 rintro _ _ ⟨_, ⟨A119, n120, c121, rfl, rfl⟩, rfl⟩
 refine aq ?_
 refine du 4 rfl (Yld.assign rfl) <| on 5 <| ds 102 rfl agg_24 rfl rfl rfl <| du 6 rfl (Yld.assign rfl) <| dd <| k113 _ _ <| re ?_
 obtain rfl := si h
 exact rt [218] (ResIs.tmpCellTmpM (k := 102) rfl agg_24 rfl rfl rfl rfl rfl) (Ext.trans hm_M104 hm_M106) ⟨A14, n15, c16, A119, n120, c121, rfl, rfl, (SlRc.lift hf105 hm_M106)⟩
theorem w_law17_light (M0 : Mem) (u0 u1 u2 u3 : Int) (u4 u5 u6 u7 u8 u9 : BitVec 32) (A00_10 : Option Addr) (n00_10 c00_10 : Nat) (u10 : List Sapi_Item) (hf00_10 : SlT M0 A00_10 n00_10 c00_10 u10) {res : Bool} (h : m_law17_light u0 u1 u2 u3 u4 u5 u6 u7 u8 u9 u10 = some res) :
  Fn Tryz.prog 16 #[.agg ([I64 u0, I64 u1, I64 u2, I64 u3, U32 u4, U32 u5, U32 u6, U32 u7, U32 u8, U32 u9, .slice A00_10 n00_10 c00_10] : List Value).toArray] M0 fun r M' es => r = .bool res /\ es = [] := by
 refine Fn.intro (N := 7) Tryz.func16 rfl rfl (nle rfl) fun w0 => ?_
 unfold m_law17_light at h
 refine sr fun _ k1 => bb 102 [I64 u0, I64 u1, I64 u2, I64 u3, U32 u4, U32 u5, U32 u6, U32 u7, U32 u8, U32 u9, .slice A00_10 n00_10 c00_10] rfl fun g2 => ak rfl k1 <| sr fun _ k3 => ya (fieldAddr Tryz.underlying38 rfl nz_25 rfl rfl) <| ya (loadB (k := 102) scal_25 rfl rfl rfl) <| ya (lenC (xs := u10) und_25 rfl (mM rfl hf00_10)) <| ya (leq rfl rfl) <| ak rfl k3 <| re ?_
 obtain rfl := si h
 exact rt0 (ResIs.one rfl rfl)
theorem w_law17_given (M0 : Mem) (u0 u1 u2 u3 : Int) (u4 u5 u6 u7 u8 u9 : BitVec 32) (A00_10 : Option Addr) (n00_10 c00_10 : Nat) (u10 : List Sapi_Item) (hf00_10 : SlT M0 A00_10 n00_10 c00_10 u10) {res : Int × Int × Int × Int × (BitVec 32) × (BitVec 32) × (BitVec 32) × (BitVec 32) × (BitVec 32) × (BitVec 32) × (List Sapi_Item)} (h : m_law17_given u0 u1 u2 u3 u4 u5 u6 u7 u8 u9 u10 = some res) :
  Fn Tryz.prog 18 #[.agg ([I64 u0, I64 u1, I64 u2, I64 u3, U32 u4, U32 u5, U32 u6, U32 u7, U32 u8, U32 u9, .slice A00_10 n00_10 c00_10] : List Value).toArray] M0 fun r M' es => ∃ (A1 : Option Addr) (n1 c1 : Nat), r = .agg ([I64 res.1, I64 res.2.1, I64 res.2.2.1, I64 res.2.2.2.1, U32 res.2.2.2.2.1, U32 res.2.2.2.2.2.1, U32 res.2.2.2.2.2.2.1, U32 res.2.2.2.2.2.2.2.1, U32 res.2.2.2.2.2.2.2.2.1, U32 res.2.2.2.2.2.2.2.2.2.1, .slice A1 n1 c1] : List Value).toArray /\ es = [] /\ SlT M0 A1 n1 c1 res.2.2.2.2.2.2.2.2.2.2 := by
 refine Fn.intro (N := 12) Tryz.func18 rfl rfl (nle rfl) fun w0 => ?_
 unfold m_law17_given at h
 refine sr fun _ k1 => bb 102 [I64 u0, I64 u1, I64 u2, I64 u3, U32 u4, U32 u5, U32 u6, U32 u7, U32 u8, U32 u9, .slice A00_10 n00_10 c00_10] rfl fun g2 => al 103 zr_34 fun g3 => dz k1 <| sr fun _ k4 => ya (fieldAddr Tryz.underlying38 rfl nz_24 rfl rfl) <| ya (loadBP (k := 102) (us := [I64 u0, I64 u1, I64 u2]) agg_24 rfl rfl rfl rfl) <| ya (fieldAddr Tryz.underlying38 rfl nz_2 rfl rfl) <| ya (loadB (k := 102) scal_2 rfl rfl rfl) <| ya (fieldAddr Tryz.underlying38 rfl nz_32 rfl rfl) <| ya (loadBP (k := 102) (us := [U32 u4, U32 u5, U32 u6, U32 u7, U32 u8, U32 u9]) agg_32 rfl rfl rfl rfl) <| ya (fieldAddr Tryz.underlying38 rfl nz_25 rfl rfl) <| ya (loadB (k := 102) scal_25 rfl rfl rfl) <| ya (build rfl (bu_34_0_1_2_3 u0 u1 u2 u3 u4 u5 u6 u7 u8 u9 A00_10 n00_10 c00_10)) <| sb 103 agg_34 rfl rfl rfl <| dz k4 <| re ?_
 obtain rfl := si h
 exact rt [] (ResIs.cellM (k := 103) rfl agg_34 rfl rfl (rfl)) (Ext.refl _ _) ⟨A00_10, n00_10, c00_10, rfl, rfl, hf00_10⟩
theorem w_law17_awake (M0 : Mem)  {res : Bool} (h : m_law17_awake = some res) :
  Fn Tryz.prog 9 #[] M0 fun r M' es => r = .bool res /\ es = [] := by
 refine Fn.intro (N := 60) Tryz.func9 rfl rfl (nle rfl) fun w0 => ?_
 unfold m_law17_awake at h
 refine sr fun _ k1 => ak rfl k1 <| sr fun _ k2 => bd h fun x3 hx3 h => WL.eff (by decide) (Eff.callM 111 rfl Tryz.func10 nm_10 rfl rfl rfl (w_law17_file _ none 0 0 ([] : List Rapi_Needle) _ SlT.nil (Rels.nil (R := rel_api_Needle M0)) hx3)) ?_
 rintro _ _ ⟨M19, _, ⟨A20, n21, c22, A24, n25, c26, rfl, rfl, hf23⟩, hm_M19, rfl⟩
 refine mv rfl <| ya (extract rfl rfl) <| ya (extract rfl rfl) <| ya (extract rfl rfl) <| al 127 zr_24 fun g27 => asn rfl <| sb 127 agg_24 rfl rfl rfl <| ak rfl k2 <| sr fun _ k28 => bd h fun x29 hx29 h => mv rfl <| ya (loadBM (k := 127) agg_24 rfl rfl rfl) <| WL.eff (by decide) (Eff.callM 138 rfl Tryz.func11 nm_11 rfl rfl rfl (w_shards_Make _ A20 n21 c22 _ hf23 x3.2.1 x3.2.2.1 x3.2.2.2.1 none 0 0 _ SlT.nil hx29)) ?_
 rintro _ _ ⟨M48, _, ⟨A49, n50, c51, rs52, A54, n55, c56, rfl, rfl, hq53⟩, hm_M48, rfl⟩
 refine mv rfl <| ya (extract rfl rfl) <| ya (extract rfl rfl) <| ya (extract rfl rfl) <| al 157 zr_34 fun g57 => asn rfl <| sb 157 agg_34 rfl rfl rfl <| ak rfl k28 <| sr fun _ k58 => bd h fun x59 hx59 h => ya (loadBM (k := 157) agg_34 rfl rfl rfl) <| WL.freeze 139 rfl rfl rfl fun M78 hm_M78 hf79 => WL.eff (by decide) (Eff.callM 168 rfl Tryz.func17 nm_17 rfl rfl rfl (w_shards_Rebuild _ x29.2.1 x29.2.2.1 x29.2.2.2.1 x29.2.2.2.2.1 x29.2.2.2.2.2.1 x29.2.2.2.2.2.2.1 x29.2.2.2.2.2.2.2.1 x29.2.2.2.2.2.2.2.2.1 x29.2.2.2.2.2.2.2.2.2.1 x29.2.2.2.2.2.2.2.2.2.2.1 A54 n55 c56 _ hf79 none 0 0 ([] : List Hdr) _ SlT.nil (Rels.nil (R := (RelB (α := BitVec 8)) M78)) hx59)) ?_
 rintro _ _ ⟨M80, _, ⟨A81, n82, c83, rs84, A86, n87, c88, rfl, rfl, hq85⟩, hm_M80, rfl⟩
 refine mv rfl <| ya (extract rfl rfl) <| ya (extract rfl rfl) <| ya (extract rfl rfl) <| asn rfl <| asn rfl <| ak rfl k58 <| sd [(111, _), (127, _), (138, _), (157, _), (168, _), (169, _)] mixed fun _ k89 => ?_
 obtain ⟨x91, hx91, h⟩ := bnd h
 obtain ⟨x94, hx94, h⟩ := bnd h
 refine du 0 rfl (loadBM (k := 157) agg_34 rfl rfl rfl) <| on 1 ?_
 obtain ⟨hu92, hq93⟩ := Rels.mks (R := (RelB (α := BitVec 8)) M80) (r := (⟨none, 0, 0⟩ : Hdr)) hx91 RelB.nil
 refine WS.eff rfl (by decide) (Eff.makeC 190 (⟨none, 0, 0⟩ : Hdr) sty_30 rfl rfl rfl rfl rfl rfl hu92) ?_
 rintro _ _ ⟨g90, rfl, rfl⟩
 refine aq ?_
 refine on 2 <| WS.freeze 190 rfl rfl rfl rfl rfl fun M113 hm_M113 hf114 => WS.eff rfl (by decide) (Eff.callM 203 rfl Tryz.func17 nm_17 rfl rfl rfl (w_shards_Rebuild _ x29.2.1 x29.2.2.1 x29.2.2.2.1 x29.2.2.2.2.1 x29.2.2.2.2.2.1 x29.2.2.2.2.2.2.1 x29.2.2.2.2.2.2.2.1 x29.2.2.2.2.2.2.2.2.1 x29.2.2.2.2.2.2.2.2.2.1 x29.2.2.2.2.2.2.2.2.2.2.1 A54 n55 c56 _ (SlRc.lift (SlRc.lift hf79 hm_M80) hm_M113) (some ⟨g90, 0, none⟩) ((List.replicate ((6 : Int)).toNat (⟨none, 0, 0⟩ : Hdr)).length) ((List.replicate ((6 : Int)).toNat (⟨none, 0, 0⟩ : Hdr)).length) (List.replicate ((6 : Int)).toNat (⟨none, 0, 0⟩ : Hdr)) _ hf114 (Rels.lift hq93 hm_M113) hx94)) ?_
 rintro _ _ ⟨M115, _, ⟨A116, n117, c118, rs119, A121, n122, c123, rfl, rfl, hq120⟩, hm_M115, rfl⟩
 refine aq ?_
 refine dm 3 rfl rfl <| du 4 rfl (extract rfl rfl) <| du 5 rfl (extract rfl rfl) <| du 6 rfl (extract rfl rfl) <| du 7 rfl (Yld.assign rfl) <| du 8 rfl (Yld.assign rfl) <| du 9 rfl (Yld.assign rfl) <| dd <| k89 _ _ <| sr fun _ k124 => mv rfl <| ya (eqlI rfl rfl) <| mv rfl <| spl h beq_iff_eq.2 beq_eq_false_iff_ne.2 (fun hc125 h => ?_) fun hc125 h => ?_
 ·refine mvg rfl <| yg (lenD (rs := rs52) (xs := x29.1) (Rels.len (Rels.lift (Rels.lift (Rels.lift (Rels.lift hq53 hm_M78) hm_M80) hm_M113) hm_M115)) und_30 rfl (rO 138 rfl)) <| yg (eqlI rfl rfl) <| pt rfl rfl <| mv rfl <| spl h beq_iff_eq.2 beq_eq_false_iff_ne.2 (fun hc126 h => ?_) fun hc126 h => ?_
  ·obtain ⟨x127, hx127, h⟩ := bnd h
   refine mvg rfl ?_
   obtain ⟨r_128, hr129, hq130⟩ := Rels.idx (Rels.lift (Rels.lift (Rels.lift (Rels.lift hq53 hm_M78) hm_M80) hm_M113) hm_M115) hx127
   refine yg (idxC (xs := rs52) sty_30 rfl rfl (rO 138 rfl) hr129) <| yg (loadC0 (xs := rs52) scal_22 rfl (rO 138 rfl) hr129 rfl) <| yg (lenC (xs := x127) und_22 rfl (mM rfl hq130)) <| yg (eqlI rfl rfl) <| pt rfl rfl <| mv rfl <| spl h beq_iff_eq.2 beq_eq_false_iff_ne.2 (fun hc131 h => ?_) fun hc131 h => ?_
   ·refine mvg rfl <| yg (eqlI rfl rfl) <| pt rfl rfl <| mv rfl <| spl h beq_iff_eq.2 beq_eq_false_iff_ne.2 (fun hc132 h => ?_) fun hc132 h => ?_
    ·refine mvg rfl <| yg (eqlI rfl rfl) <| pt rfl rfl <| ak rfl k124 <| re ?_
     obtain rfl := si h
     exact rt [] (ResIs.one rfl rfl) (Ext.trans (Ext.trans (Ext.trans (Ext.trans (Ext.trans hm_M19 hm_M48) hm_M78) hm_M80) hm_M113) hm_M115) ⟨rfl, rfl⟩
    refine sk <| sk <| pf rfl rfl <| ak rfl k124 <| re ?_
    obtain rfl := si h
    exact rt [] (ResIs.one rfl rfl) (Ext.trans (Ext.trans (Ext.trans (Ext.trans (Ext.trans hm_M19 hm_M48) hm_M78) hm_M80) hm_M113) hm_M115) ⟨rfl, rfl⟩
   refine sk <| sk <| pf rfl rfl <| mv rfl <| sk <| sk <| pf rfl rfl <| ak rfl k124 <| re ?_
   obtain rfl := si h
   exact rt [] (ResIs.one rfl rfl) (Ext.trans (Ext.trans (Ext.trans (Ext.trans (Ext.trans hm_M19 hm_M48) hm_M78) hm_M80) hm_M113) hm_M115) ⟨rfl, rfl⟩
  refine sk <| sk <| sk <| sk <| sk <| pf rfl rfl <| mv rfl <| sk <| sk <| pf rfl rfl <| mv rfl <| sk <| sk <| pf rfl rfl <| ak rfl k124 <| re ?_
  obtain rfl := si h
  exact rt [] (ResIs.one rfl rfl) (Ext.trans (Ext.trans (Ext.trans (Ext.trans (Ext.trans hm_M19 hm_M48) hm_M78) hm_M80) hm_M113) hm_M115) ⟨rfl, rfl⟩
 refine sk <| sk <| sk <| pf rfl rfl <| mv rfl <| sk <| sk <| sk <| sk <| sk <| pf rfl rfl <| mv rfl <| sk <| sk <| pf rfl rfl <| mv rfl <| sk <| sk <| pf rfl rfl <| ak rfl k124 <| re ?_
 obtain rfl := si h
 exact rt [] (ResIs.one rfl rfl) (Ext.trans (Ext.trans (Ext.trans (Ext.trans (Ext.trans hm_M19 hm_M48) hm_M78) hm_M80) hm_M113) hm_M115) ⟨rfl, rfl⟩
end Go.Proofs.YthjnhlmfcejhkaaGreat
