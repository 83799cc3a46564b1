/- A part of the proof. Conditions: as each theorem says. -/
import Derived.Test.YthjnhlmfcejhkaaGreatWko
import Derived.Test.YthjnhlmfcejhkaaGreatMdr
namespace Go.Proofs.YthjnhlmfcejhkaaGreat
set_option maxRecDepth 10000
open Go Go.RowKit Yld
set_option linter.unusedVariables false
theorem und_49 : Tryz.prog.underlying 49 = some (.slice 30) := by kernel_rfl
theorem agg_113 : Agg Tryz.prog 113 3 := ⟨⟨_, Tryz.underlying113, rfl⟩, by kernel_rfl⟩
theorem bu_113_0_1_2 : ∀ (a0 : Int) (a1 : Int) (a2 : Int), Tryz.prog.built 113 [(0, I64 a0), (1, I64 a1), (2, I64 a2)] = some ([I64 a0, I64 a1, I64 a2] : List Value).toArray := fun a0 a1 a2 => by kernel_rfl
theorem nm_100 : (Tryz.f100.name == "runtime.NumGoroutine") = false := by kernel_rfl
theorem nm_69 : (Tryz.f69.name == "runtime.NumGoroutine") = false := by kernel_rfl
theorem nm_80 : (Tryz.f80.name == "runtime.NumGoroutine") = false := by kernel_rfl
theorem scal_30 : scal Tryz.prog 30 = true := by kernel_rfl
theorem siz_2 : (Tryz.prog.info? 2).map (·.size) = some 1 := by kernel_rfl
theorem siz_30 : (Tryz.prog.info? 30).map (·.size) = some 1 := by kernel_rfl
theorem sty_49 : STy Tryz.prog 49 30 (.slice none 0 0) 1 24 := STy.of und_49 (by kernel_rfl) rfl
theorem zr_113 : (Tryz.prog.info? 113).map (fun i => i.zero.map (·.cells)) = some (some ([I64 (0 : Int), I64 (0 : Int), I64 (0 : Int)] : List Value).toArray) := by kernel_rfl
theorem zr_30 : (Tryz.prog.info? 30).map (fun i => i.zero.map (·.cells)) = some (some ([.slice none 0 0] : List Value).toArray) := by kernel_rfl
namespace Z
theorem _root_.Go.Proofs.YthjnhlmfcejhkaaGreat.w_stripe_Split (M0 : Mem) (A00 : Option Addr) (n00 c00 : Nat) (x00 : By) (hf00 : SlT M0 A00 n00 c00 x00) {res : (List By)} (h : m_stripe_Split x00 = some res) :
  Fn Tryz.prog 36 #[.slice A00 n00 c00] M0 fun r M' es => ∃ (A1 : Option Addr) (n1 c1 : Nat), ∃ rs1 : List Hdr, r = .slice A1 n1 c1 /\ es = [.own 22 (Lay.sz Hdr) A1 n1 c1 (cel rs1)] /\ Rels ((RelB (α := BitVec 8)) M') rs1 res := by
 refine Fn.intro (N := 44) Tryz.func36 rfl rfl (nle rfl) fun w0 => ?_
 unfold m_stripe_Split at h
 refine sr fun _ k1 => bb 102 [.slice A00 n00 c00] rfl fun g2 => ak rfl k1 <| sr fun _ k3 => ?_
 obtain ⟨x5, hx5, h⟩ := bnd h
 obtain ⟨hu6, hl7, hr8⟩ := rows_mks hx5
 refine WL.eff (by decide) (Eff.makeC 104 (⟨none, 0, 0⟩ : Hdr) sty_30 rfl rfl rfl rfl rfl rfl hu6) ?_
 rintro _ _ ⟨g4, rfl, rfl⟩
 refine WL.hs (HStep.rowsRepE 109 5 (Lay.sz (BitVec 8)) hr8) <| al 110 zr_30 fun g10 => WL.eff0 (Eff0.storeB 110 siz_30 rfl rfl rfl rfl (nle rfl)) <| dz k3 <| ct (σ := (List By) × (List Hdr)) (fun ⟨x11, rs12⟩ => [(1, pv g2), (3, pv g10)]) (fun ⟨x11, rs12⟩ => [(0, .mem M0), (102, .blk g2 22 [.slice A00 n00 c00]), (104, .own 22 (Lay.sz Hdr) (some ⟨g4, 0, none⟩) ((List.replicate ((4 : Int)).toNat (⟨none, 0, 0⟩ : Hdr)).length) ((List.replicate ((4 : Int)).toNat (⟨none, 0, 0⟩ : Hdr)).length) (cel rs12)), (109, .rows 5 (Lay.sz (BitVec 8)) (rws rs12 x11)), (110, .blk g10 30 [.slice (some ⟨g4, 0, none⟩) ((List.replicate ((4 : Int)).toNat (⟨none, 0, 0⟩ : Hdr)).length) ((List.replicate ((4 : Int)).toNat (⟨none, 0, 0⟩ : Hdr)).length)])]) (fun ⟨x11, rs12⟩ => m_stripe_Split_j0 x00 x11 = some res /\ rs12.length = x11.length) (fun _ k15 => ?_) ?_
 ·refine sr fun _ k16 => ya (loadB (k := 110) scal_30 rfl rfl rfl) <| ya (lenD (rs := (List.replicate ((4 : Int)).toNat (⟨none, 0, 0⟩ : Hdr))) (xs := x5) hl7 und_30 rfl (rO 104 rfl)) <| mv rfl <| dz k16 <| bl <| lp (τ := (List By) × (List Hdr) × Int) (fun ⟨x17, rs18, x21⟩ => [(1, pv g2), (3, pv g10), (9, I64 (x5.length : Int)), (10, I64 x21)]) (fun ⟨x17, rs18, x21⟩ => [(0, .mem M0), (102, .blk g2 22 [.slice A00 n00 c00]), (104, .own 22 (Lay.sz Hdr) (some ⟨g4, 0, none⟩) ((List.replicate ((4 : Int)).toNat (⟨none, 0, 0⟩ : Hdr)).length) ((List.replicate ((4 : Int)).toNat (⟨none, 0, 0⟩ : Hdr)).length) (cel rs18)), (109, .rows 5 (Lay.sz (BitVec 8)) (rws rs18 x17)), (110, .blk g10 30 [.slice (some ⟨g4, 0, none⟩) ((List.replicate ((4 : Int)).toNat (⟨none, 0, 0⟩ : Hdr)).length) ((List.replicate ((4 : Int)).toNat (⟨none, 0, 0⟩ : Hdr)).length)])]) (fun q22 ⟨x17, rs18, x21⟩ => m_stripe_Split_l1 x00 x5 q22 x17 x21 = some res /\ rs18.length = x17.length) ⟨x5, (List.replicate ((4 : Int)).toNat (⟨none, 0, 0⟩ : Hdr)), (0 : Int)⟩ ?_ (by simp [m_stripe_Split_l1]) ?_
  ·exact ⟨h, hl7⟩
  rintro q22 ⟨x17, rs18, x21⟩ ⟨h, hl20⟩ _ k23
  unfold m_stripe_Split_l1 at h
  refine sr fun _ k24 => ya (lss rfl rfl) <| dz k24 <| sq fun _ k25 => cI h rfl (fun hc26 h => ?_) fun hc26 h => ?_
  ·refine ss <| k25 _ _ <| sq fun _ k27 => bl <| sr fun _ k28 => mv rfl <| ak rfl k28 <| rd [(102, _), (110, _)] mixed fun _ k29 => ?_
   obtain ⟨x30, hx30, h⟩ := bnd h
   obtain ⟨x33, hx33, h⟩ := bnd h
   obtain ⟨x34, hx34, h⟩ := bnd h
   obtain ⟨x37, hx37, h⟩ := bnd h
   refine du 0 rfl (loadB (k := 110) scal_30 rfl rfl rfl) <| dm 1 rfl rfl <| du 2 rfl (loadB (k := 102) scal_22 rfl rfl rfl) <| on 3 <| dy rfl (lenC (xs := x00) und_22 rfl (mM rfl hf00)) <| on 4 <| d0 rfl Tryz.func68 rfl (fun w hb hh => w_stripe_Size (Mem.snap w) (x00.length : Int) hx30) <| on 5 <| WS.eff rfl (by decide) (Eff.makeC 132 0#8 sty_22 rfl rfl rfl rfl rfl rfl hx33) ?_
   rintro _ _ ⟨g32, rfl, rfl⟩
   refine aq ?_
   refine on 6 ?_
   obtain ⟨r_35, hr36⟩ := rows_idx (hs := rs18) hl20 hx34
   refine dy rfl (idxC (xs := rs18) sty_30 rfl rfl (rO 104 rfl) hr36) <| on 7 ?_
   obtain ⟨hu38, hl39, hr40⟩ := rows_updH (⟨(some ⟨g32, 0, none⟩), x33.length, x33.length⟩ : Hdr) hl20 hx37
   refine WS.hs (HStep.rowsPutE 109 132 (x21).toNat rfl hr40 rfl rfl) (sc (sc sn)) <| WS.eff0 rfl (Eff0.storeC1 104 (xs := rs18) (a' := (⟨(some ⟨g32, 0, none⟩), x33.length, x33.length⟩ : Hdr)) siz_22 rfl rfl rfl rfl rfl rfl hu38) (sc (sc sn)) <| dd <| k29 _ _ <| bn <| tn <| k27 _ _ <| rg fun _ k41 => bd h fun x42 hx42 h => ya (addC rfl rfl hx42) <| mv rfl <| dz k41 <| tn <| kw (k23 ⟨x37, (rs18.set (x21).toNat (⟨(some ⟨g32, 0, none⟩), x33.length, x33.length⟩ : Hdr)), x42⟩ ⟨h, hl39⟩)
  exact xi <| te <| te <| bx <| tn <| kw (k15 ⟨x17, rs18⟩ ⟨h, hl20⟩)
 rintro ⟨x11, rs12⟩ ⟨h, hl14⟩
 unfold m_stripe_Split_j0 at h
 refine sq fun _ k43 => sr fun _ k44 => ya (loadB (k := 102) scal_22 rfl rfl rfl) <| ya (lenC (xs := x00) und_22 rfl (mM rfl hf00)) <| WL.inl (by decide) Tryz.func69 nm_69 rfl rfl (Tri.intro (N := 6) Tryz.func69 rfl rfl (nle rfl) ?_)
 refine sr fun _ k45 => bb 146 [I64 (0 : Int)] rfl fun g46 => bb 147 [I64 (x00.length : Int)] rfl fun g47 => ak rfl k45 <| sr fun _ k48 => ya (makeFunc rfl rfl) <| ak rfl k48 <| re <| Ret.go (ResIs.one rfl rfl) <| dz k44 <| bl <| WC.rangeFunc 98 97 rfl Tryz.func100 nm_100 rfl rfl rfl rfl fun D49 l50 rc51 hrc52 => Tri.intro (N := 37) Tryz.func100 rfl rfl (nle rfl) <| sr fun _ k53 => bd h fun x54 hx54 h => ya (loadB (k := 146) scal_2 rfl rfl rfl) <| ya (loadB (k := 147) scal_2 rfl rfl rfl) <| ya (addC rfl rfl hx54) <| ak rfl k53 <| bl <| lp (τ := (List By) × (List Hdr) × Int) (fun ⟨x55, rs56, x59⟩ => [(0, .func (.yield l50) #[] #[]), (1, pv g46), (4, I64 x54)]) (fun ⟨x55, rs56, x59⟩ => [(0, .mem M0), (97, .obj l50 (.loop (Rc .ready none rc51))), (98, .obj D49 (.deferred (some []))), (102, .blk g2 22 [.slice A00 n00 c00]), (104, .own 22 (Lay.sz Hdr) (some ⟨g4, 0, none⟩) ((List.replicate ((4 : Int)).toNat (⟨none, 0, 0⟩ : Hdr)).length) ((List.replicate ((4 : Int)).toNat (⟨none, 0, 0⟩ : Hdr)).length) (cel rs56)), (109, .rows 5 (Lay.sz (BitVec 8)) (rws rs56 x55)), (110, .blk g10 30 [.slice (some ⟨g4, 0, none⟩) ((List.replicate ((4 : Int)).toNat (⟨none, 0, 0⟩ : Hdr)).length) ((List.replicate ((4 : Int)).toNat (⟨none, 0, 0⟩ : Hdr)).length)]), (146, .blk g46 2 [I64 x59]), (147, .blk g47 2 [I64 (x00.length : Int)])]) (fun q60 ⟨x55, rs56, x59⟩ => m_stripe_Split_l2 x00 x54 q60 x55 x59 = some res /\ rs56.length = x55.length) ⟨x11, rs12, (0 : Int)⟩ ?_ (by simp [m_stripe_Split_l2]) ?_
 ·exact ⟨h, hl14⟩
 rintro q60 ⟨x55, rs56, x59⟩ ⟨h, hl58⟩ _ k61
 unfold m_stripe_Split_l2 at h
 refine sq fun _ k62 => sr fun _ k63 => ya (loadB (k := 146) scal_2 rfl rfl rfl) <| mv rfl <| ya (lss rfl rfl) <| dz k63 <| cI h rfl (fun hc64 h => ?_) fun hc64 h => ?_
 ·refine ss <| k62 _ _ <| bl <| sr fun _ k65 => ?_
  obtain ⟨x66, hx66, h⟩ := bnd h
  obtain ⟨x67, hx67, h⟩ := bnd h
  obtain ⟨x68, hx68, h⟩ := bnd h
  refine ya (loadB (k := 146) scal_2 rfl rfl rfl) <| ya (remC rfl rfl hx66) <| ya (subC rfl rfl hx67) <| mv rfl <| ya (loadB (k := 146) scal_2 rfl rfl rfl) <| ya (subC rfl rfl hx68) <| ya (minI rfl rfl) <| ak rfl k65 <| sr fun _ k69 => bd h fun x70 hx70 h => ya (loadB (k := 146) scal_2 rfl rfl rfl) <| c0 Tryz.func101 rfl (fun w hb hh => w_stripe_place (Mem.snap w) x59 hx70) <| mv rfl <| ya (extract rfl rfl) <| ya (extract rfl rfl) <| asn rfl <| ak rfl k69 <| sq fun _ k72 => sr fun _ k73 => mv rfl <| ya (loadB (k := 146) scal_2 rfl rfl rfl) <| mv rfl <| mv rfl <| mv rfl <| ya (build rfl (bu_113_0_1_2 x70.1 x70.2 (min x67 x68))) <| WL.round 97 (by decide) rfl rfl rfl hrc52 rfl rfl fun RQ74 hN75 hR76 hX77 KA78 hKA79 => sr fun _ k80 => ak rfl k80 <| rg fun _ k81 => al 182 zr_113 fun g82 => sb 182 agg_113 rfl rfl rfl <| dz k81 <| QK.thenN (hKA79 _ _ rfl ?_)
  refine bl <| rd [(0, _), (97, _), (98, _), (102, _), (104, _), (110, _), (146, _), (147, _), (182, _)] mixed fun _ k83 => ?_
  obtain ⟨x84, hx84, h⟩ := bnd h
  obtain ⟨x87, hx87, h⟩ := bnd h
  obtain ⟨x88, hx88, h⟩ := bnd h
  obtain ⟨x89, hx89, h⟩ := bnd h
  obtain ⟨x90, hx90, h⟩ := bnd h
  refine du 0 rfl (loadB (k := 110) scal_30 rfl rfl rfl) <| du 1 rfl (fieldAddr Tryz.underlying113 rfl nz_3 rfl rfl) <| du 2 rfl (loadB (k := 182) scal_3 rfl rfl rfl) ?_
  obtain ⟨r_85, hr86⟩ := rows_idx (hs := rs56) hl58 hx84
  refine du 3 rfl (idxC (xs := rs56) sty_30 rfl rfl (rO 104 rfl) hr86) <| du 4 rfl (loadC0 (xs := rs56) scal_22 rfl (rO 104 rfl) hr86 rfl) <| du 5 rfl (fieldAddr Tryz.underlying113 rfl nz_2 rfl rfl) <| du 6 rfl (loadB (k := 182) scal_2 rfl rfl rfl) <| du 7 rfl (fieldAddr Tryz.underlying113 rfl nz_2 rfl rfl) <| du 8 rfl (loadB (k := 182) scal_2 rfl rfl rfl) <| du 9 rfl (fieldAddr Tryz.underlying113 rfl nz_2 rfl rfl) <| du 10 rfl (loadB (k := 182) scal_2 rfl rfl rfl) <| du 11 rfl (addC rfl rfl hx87) <| du 13 rfl (loadB (k := 102) scal_22 rfl rfl rfl) <| dm 14 rfl rfl <| du 15 rfl (sliceLC (xs := x00) sty_22 rfl rfl (mM rfl hf00) hx89) <| on 12 <| dy rfl (sliceLHC (xs := x84) sty_22 rfl rfl rfl (RdT.row (k := 109) rfl hr86 hx84) hx88) <| on 16 <| WS.eff rfl (by decide) (Eff.copyRow 109 (lo := x70.2) (hi := x87) (hs := rs56) (e := x55) (b := x84) (bs := x88) (ys := x89) sty_22 rfl rfl hx88 rfl hr86 hx84 rfl rfl rfl (SlT.slc hf00 hx89) hx90) ?_
  rintro _ _ ⟨rfl, rfl⟩
  refine aq ?_
  refine dd <| k83 _ _ <| bn <| hN75 _ _ rfl <| ya (notB rfl) <| dz k73 <| cdF rfl <| ss <| k72 _ _ <| rg fun _ k91 => bd h fun x92 hx92 h => ya (loadB (k := 146) scal_2 rfl rfl rfl) <| mv rfl <| ya (addC rfl rfl hx92) <| WL.eff0 (Eff0.storeB 146 siz_2 rfl rfl rfl rfl (nle rfl)) <| dz k91 <| bn <| tn <| kw (k61 ⟨x90, rs56, x92⟩ ⟨h, (rows_upd hl58 hx90)⟩)
 refine xi <| te <| te <| bx <| Ret.goN (ResIs.zero rfl) <| After.go 97 rfl <| bn <| tn <| k43 _ _ <| sr fun _ k93 => ya (loadB (k := 110) scal_30 rfl rfl rfl) <| ak rfl k93 <| re <| QK.grow (HGrow.rows 109 rfl rfl rfl hl58) fun M94 ⟨hm_M94, hq95⟩ => QK.unmark 98 rfl ?_
 obtain rfl := si h
 exact rt [104] (ResIs.one rfl rfl) hm_M94 ⟨(some ⟨g4, 0, none⟩), (List.replicate ((4 : Int)).toNat (⟨none, 0, 0⟩ : Hdr)).length, (List.replicate ((4 : Int)).toNat (⟨none, 0, 0⟩ : Hdr)).length, rs56, rfl, rfl, hq95⟩
end Z
namespace Z
end Z
theorem w_slices_Concat_byte_byte (M0 : Mem) (A00 : Option Addr) (n00 c00 : Nat) (rs00 : List Hdr) (x00 : List (List By)) (hf00 : SlT M0 A00 n00 c00 rs00) (hq00 : Rels ((RelL (RelB (α := BitVec 8))) M0) rs00 x00) {res : (List By)} (h : m_slices_Concat_byte_byte x00 = some res) :
  Fn Tryz.prog 38 #[.slice A00 n00 c00] M0 fun r M' es => ∃ (A1 : Option Addr) (n1 c1 : Nat), ∃ rs1 : List Hdr, r = .slice A1 n1 c1 /\ es = [.own 22 (Lay.sz Hdr) A1 n1 c1 (cel rs1)] /\ Rels ((RelB (α := BitVec 8)) M') rs1 res := by
 refine Fn.intro (N := 36) Tryz.func38 rfl rfl (nle rfl) fun w0 => ?_
 unfold m_slices_Concat_byte_byte at h
 refine sr fun _ k1 => ak rfl k1 <| sr fun _ k2 => ak rfl k2 <| ct (σ := Int) (fun x3 => [(0, .slice A00 n00 c00), (3, I64 x3)]) (fun x3 => [(0, .mem M0)]) (fun x3 => m_slices_Concat_byte_byte_j0 x00 x3 = some res) (fun _ k4 => ?_) ?_
 ·refine sr fun _ k5 => mv rfl <| ya (lenD (rs := rs00) (xs := x00) (Rels.len hq00) und_49 rfl (mM rfl hf00)) <| mv rfl <| dz k5 <| bl <| lp (τ := Int × Int) (fun ⟨x6, x7⟩ => [(0, .slice A00 n00 c00), (3, I64 x6), (9, .slice A00 n00 c00), (10, I64 (x00.length : Int)), (11, I64 x7)]) (fun ⟨x6, x7⟩ => [(0, .mem M0)]) (fun q8 ⟨x6, x7⟩ => m_slices_Concat_byte_byte_l1 x00 q8 x6 x7 = some res) ⟨(0 : Int), (0 : Int)⟩ ?_ (by simp [m_slices_Concat_byte_byte_l1]) ?_
  ·exact h
  rintro q8 ⟨x6, x7⟩ h _ k9
  unfold m_slices_Concat_byte_byte_l1 at h
  refine sr fun _ k10 => ya (lss rfl rfl) <| dz k10 <| sq fun _ k11 => cI h rfl (fun hc12 h => ?_) fun hc12 h => ?_
  ·refine ss <| k11 _ _ <| sq fun _ k13 => bl <| sr fun _ k14 => ?_
   obtain ⟨x15, hx15, h⟩ := bnd h
   obtain ⟨r_16, hr17, hq18⟩ := Rels.idx hq00 hx15
   refine ya (idxC (xs := rs00) sty_49 rfl rfl (mM rfl hf00) hr17) ?_
   obtain ⟨rs19, hf20, hq21⟩ := hq18
   refine ya (loadC0 (xs := rs00) scal_30 rfl (mM rfl hf00) hr17 rfl) <| ak rfl k14 <| sr fun _ k22 => bd h fun x23 hx23 h => mv rfl <| mv rfl <| ya (lenD (rs := rs19) (xs := x15) (Rels.len hq21) und_30 rfl (mM rfl hf20)) <| ya (addC rfl rfl hx23) <| ak rfl k22 <| sr fun _ k24 => mv rfl <| ya (lss rfl rfl) <| dn <| k24 _ _ ?_
   by_cases hc25 : x23 < (0 : Int)
   ·replace h := of_t hc25 h
    cases h
   replace h := of_f hc25 h
   refine WC.condFe rfl (decide_eq_false hc25) <| WC.skip <| bn <| tn <| k13 _ _ <| rg fun _ k26 => bd h fun x27 hx27 h => ya (addC rfl rfl hx27) <| mv rfl <| dz k26 <| tn <| kw (k9 ⟨x23, x27⟩ h)
  exact xi <| te <| te <| bx <| tn <| kw (k4 x6 h)
 rintro x3 h
 unfold m_slices_Concat_byte_byte_j0 at h
 refine ctr (σ := (Option Addr) × Nat × Nat × (List By) × (List Hdr)) (fun ⟨A30, n31, c32, x33, rs34⟩ => [(0, .slice A00 n00 c00), (6, .slice A30 n31 c32)]) (fun ⟨A30, n31, c32, x33, rs34⟩ => [(0, .mem M0), (129, .own 22 (Lay.sz Hdr) A30 n31 c32 (cel rs34))]) (fun ⟨A30, n31, c32, x33, rs34⟩ => m_slices_Concat_byte_byte_j2 x00 x33 = some res /\ Rels ((RelB (α := BitVec 8)) M0) rs34 x33) (fun _ k36 => ?_) ?_
 ·refine mv rfl <| WL.inl (by decide) Tryz.func80 nm_80 rfl rfl (Tri.intro (N := 27) Tryz.func80 rfl rfl (nle rfl) ?_)
  refine sr fun _ k38 => ak rfl k38 <| sq fun _ k39 => sr fun _ k40 => mv rfl <| ya (lss rfl rfl) <| dn <| k40 _ _ ?_
  by_cases hc41 : x3 < (0 : Int)
  ·replace h := of_t hc41 h
   cases h
  replace h := of_f hc41 h
  refine WC.condFe rfl (decide_eq_false hc41) <| ss <| k39 _ _ <| sq fun _ k42 => sr fun _ k43 => ?_
  obtain ⟨x44, hx44, h⟩ := bnd h
  obtain ⟨x45, hx45, h⟩ := bnd h
  refine mv rfl <| mv rfl <| ya (capNil und_30 rfl) <| mv rfl <| ya (lenNil und_30 rfl) <| ya (subC rfl rfl hx44) <| ya (subC rfl rfl hx45) <| ak rfl k43 <| sr fun _ k46 => mv rfl <| ya (gtr rfl rfl) <| dz k46 <| cI h rfl (fun hc47 h => ?_) fun hc47 h => ?_
  ·refine rg fun _ k48 => ?_
   obtain ⟨x50, hx50, h⟩ := bnd h
   obtain ⟨x55, hx55, h⟩ := bnd h
   refine mv rfl <| mv rfl <| ya (capNil und_30 rfl) <| ya (sliceNil (α := Hdr) (h := 0) sty_30 rfl rfl) <| mv rfl ?_
   obtain ⟨hu53, hq54⟩ := Rels.mks (R := (RelB (α := BitVec 8)) M0) (r := (⟨none, 0, 0⟩ : Hdr)) hx50 RelB.nil
   refine WL.eff (by decide) (Eff.appendNZ 149 (⟨none, 0, 0⟩ : Hdr) sty_30 rfl rfl und_3 rfl rfl rfl (by omega) hu53) ?_
   rintro _ _ ⟨A51, c52, rfl, rfl⟩
   refine mv rfl <| ya (lenNil und_30 rfl) ?_
   obtain ⟨rs56, hs57, hq58⟩ := Rels.slc hq54 hx55
   exact ya (sliceHC (xs := (List.replicate (x45).toNat (⟨none, 0, 0⟩ : Hdr))) sty_30 rfl rfl (rO 149 rfl) hs57) <| WL.hs (HStep.cutTo (xs := (List.replicate (x45).toNat (⟨none, 0, 0⟩ : Hdr))) 149 rfl hs57) <| ak rfl k48 <| tn <| k42 _ _ <| sr fun _ k59 => mv rfl <| ak rfl k59 <| re <| Ret.go (ResIs.one rfl rfl) <| asn rfl <| WL.done <| KK.move 149 129 rfl rfl <| kw (k36 ⟨A51, rs56.length, c52, x55, rs56⟩ ⟨h, hq58⟩)
  exact ss <| k42 _ _ <| sr fun _ k60 => mv rfl <| ak rfl k60 <| re <| Ret.go (ResIs.one rfl rfl) <| asn rfl <| WL.done <| KK.nilOwn 129 22 (Lay.sz Hdr) none <| kw (k36 ⟨none, 0, 0, ([] : List By), ([] : List Hdr)⟩ ⟨h, (Rels.nil (R := (RelB (α := BitVec 8)) M0))⟩)
 rintro ⟨A30, n31, c32, x33, rs34⟩ ⟨h, hq35⟩
 unfold m_slices_Concat_byte_byte_j2 at h
 refine ct (σ := (Option Addr) × Nat × Nat × (List By) × (List Hdr)) (fun ⟨A61, n62, c63, x64, rs65⟩ => [(6, .slice A61 n62 c63)]) (fun ⟨A61, n62, c63, x64, rs65⟩ => [(0, .mem M0), (129, .own 22 (Lay.sz Hdr) A61 n62 c63 (cel rs65))]) (fun ⟨A61, n62, c63, x64, rs65⟩ => m_slices_Concat_byte_byte_j3 x64 = some res /\ Rels ((RelB (α := BitVec 8)) M0) rs65 x64) (fun _ k67 => ?_) ?_
 ·refine sr fun _ k68 => mv rfl <| ya (lenD (rs := rs00) (xs := x00) (Rels.len hq00) und_49 rfl (mM rfl hf00)) <| mv rfl <| dz k68 <| bl <| lp (τ := (Option Addr) × Nat × Nat × (List By) × (List Hdr) × Int) (fun ⟨A69, n70, c71, x72, rs73, x75⟩ => [(6, .slice A69 n70 c71), (25, .slice A00 n00 c00), (26, I64 (x00.length : Int)), (27, I64 x75)]) (fun ⟨A69, n70, c71, x72, rs73, x75⟩ => [(0, .mem M0), (129, .own 22 (Lay.sz Hdr) A69 n70 c71 (cel rs73))]) (fun q76 ⟨A69, n70, c71, x72, rs73, x75⟩ => m_slices_Concat_byte_byte_l4 x00 q76 x72 x75 = some res /\ Rels ((RelB (α := BitVec 8)) M0) rs73 x72) ⟨A30, n31, c32, x33, rs34, (0 : Int)⟩ ?_ (by simp [m_slices_Concat_byte_byte_l4]) ?_
  ·exact ⟨h, hq35⟩
  rintro q76 ⟨A69, n70, c71, x72, rs73, x75⟩ ⟨h, hq74⟩ _ k77
  unfold m_slices_Concat_byte_byte_l4 at h
  refine sr fun _ k78 => ya (lss rfl rfl) <| dz k78 <| sq fun _ k79 => cI h rfl (fun hc80 h => ?_) fun hc80 h => ?_
  ·refine ss <| k79 _ _ <| sq fun _ k81 => bl <| sr fun _ k82 => ?_
   obtain ⟨x83, hx83, h⟩ := bnd h
   obtain ⟨r_84, hr85, hq86⟩ := Rels.idx hq00 hx83
   refine ya (idxC (xs := rs00) sty_49 rfl rfl (mM rfl hf00) hr85) ?_
   obtain ⟨rs87, hf88, hq89⟩ := hq86
   refine ya (loadC0 (xs := rs00) scal_30 rfl (mM rfl hf00) hr85 rfl) <| ak rfl k82 <| rg fun _ k90 => bd h fun x91 hx91 h => mv rfl <| mv rfl ?_
   obtain ⟨hu94, hq95⟩ := Rels.apd hq74 hq89 hx91
   refine ap 129 (xs := rs73) (ys := rs87) sty_30 rfl rfl rfl (mM rfl hf88) hu94 fun A92 c93 => ak rfl k90 <| bn <| tn <| k81 _ _ <| rg fun _ k96 => bd h fun x97 hx97 h => ya (addC rfl rfl hx97) <| mv rfl <| dz k96 <| tn <| kw (k77 ⟨A92, (rs73 ++ rs87).length, c93, x91, (rs73 ++ rs87), x97⟩ ⟨h, hq95⟩)
  exact xi <| te <| te <| bx <| tn <| kw (k67 ⟨A69, n70, c71, x72, rs73⟩ ⟨h, hq74⟩)
 rintro ⟨A61, n62, c63, x64, rs65⟩ ⟨h, hq66⟩
 unfold m_slices_Concat_byte_byte_j3 at h
 refine sr fun _ k98 => mv rfl <| ak rfl k98 <| re ?_
 obtain rfl := si h
 exact rt [129] (ResIs.one rfl rfl) (Ext.refl _ _) ⟨A61, n62, c63, rs65, rfl, rfl, hq66⟩
end Go.Proofs.YthjnhlmfcejhkaaGreat
