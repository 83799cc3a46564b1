/- A part of the proof. Conditions: as each theorem says. -/
import Derived.Test.YthjnhlmfcejhkaaWkh
import Derived.Test.YthjnhlmfcejhkaaMdr
import Derived.Test.YthjnhlmfcejhkaaLw
namespace Go.Proofs.Ythjnhlmfcejhkaa
set_option maxRecDepth 10000
open Go Go.RowKit Yld
set_option linter.unusedVariables false
theorem und_94 : Try.prog.underlying 94 = some (.slice 30) := by kernel_rfl
theorem agg_87 : Agg Try.prog 87 3 := ⟨⟨_, Try.underlying87, rfl⟩, by kernel_rfl⟩
theorem bu_87_0_1_2 : ∀ (a0 : Int) (a1 : Int) (a2 : Int), Try.prog.built 87 [(0, I64 a0), (1, I64 a1), (2, I64 a2)] = some ([I64 a0, I64 a1, I64 a2] : List Value).toArray := fun a0 a1 a2 => by kernel_rfl
theorem nm_36 : (Try.f36.name == "runtime.NumGoroutine") = false := by kernel_rfl
theorem nm_40 : (Try.f40.name == "runtime.NumGoroutine") = false := by kernel_rfl
theorem nm_53 : (Try.f53.name == "runtime.NumGoroutine") = false := by kernel_rfl
theorem scal_30 : scal Try.prog 30 = true := by kernel_rfl
theorem siz_2 : (Try.prog.info? 2).map (·.size) = some 1 := by kernel_rfl
theorem siz_30 : (Try.prog.info? 30).map (·.size) = some 1 := by kernel_rfl
theorem sty_94 : STy Try.prog 94 30 (.slice none 0 0) 1 24 := STy.of und_94 (by kernel_rfl) rfl
theorem zr_30 : (Try.prog.info? 30).map (fun i => i.zero.map (·.cells)) = some (some ([.slice none 0 0] : List Value).toArray) := by kernel_rfl
theorem zr_87 : (Try.prog.info? 87).map (fun i => i.zero.map (·.cells)) = some (some ([I64 (0 : Int), I64 (0 : Int), I64 (0 : Int)] : List Value).toArray) := by kernel_rfl
namespace Z
theorem _root_.Go.Proofs.Ythjnhlmfcejhkaa.w_stripe_Split (M0 : Mem) (A00 : Option Addr) (n00 c00 : Nat) (x00 : By) (hf00 : SlT M0 A00 n00 c00 x00) {res : (List By)} (h : m_stripe_Split x00 = some res) :
  Fn Try.prog 15 #[.slice A00 n00 c00] M0 fun r M' es => ∃ (A1 : Option Addr) (n1 c1 : Nat), ∃ rs1 : List Hdr, r = .slice A1 n1 c1 /\ es = [.own 24 (Lay.sz Hdr) A1 n1 c1 (cel rs1)] /\ Rels ((RelB (α := BitVec 8)) M') rs1 res := by
 refine Fn.intro (N := 44) Try.func15 rfl rfl (nle rfl) fun w0 => ?_
 unfold m_stripe_Split at h
 refine sr fun _ k1 => bb 102 [.slice A00 n00 c00] rfl fun g2 => ak rfl k1 <| sr fun _ k3 => ?_
 obtain ⟨x5, hx5, h⟩ := bnd h
 obtain ⟨hu6, hl7, hr8⟩ := rows_mks hx5
 refine WL.eff (by decide) (Eff.makeC 104 (⟨none, 0, 0⟩ : Hdr) sty_30 rfl rfl rfl rfl rfl rfl hu6) ?_
 rintro _ _ ⟨g4, rfl, rfl⟩
 refine WL.hs (HStep.rowsRepE 109 5 (Lay.sz (BitVec 8)) hr8) <| al 110 zr_30 fun g10 => WL.eff0 (Eff0.storeB 110 siz_30 rfl rfl rfl rfl (nle rfl)) <| dz k3 <| ct (σ := (List By) × (List Hdr)) (fun ⟨x11, rs12⟩ => [(1, pv g2), (3, pv g10)]) (fun ⟨x11, rs12⟩ => [(0, .mem M0), (102, .blk g2 24 [.slice A00 n00 c00]), (104, .own 24 (Lay.sz Hdr) (some ⟨g4, 0, none⟩) ((List.replicate ((4 : Int)).toNat (⟨none, 0, 0⟩ : Hdr)).length) ((List.replicate ((4 : Int)).toNat (⟨none, 0, 0⟩ : Hdr)).length) (cel rs12)), (109, .rows 5 (Lay.sz (BitVec 8)) (rws rs12 x11)), (110, .blk g10 30 [.slice (some ⟨g4, 0, none⟩) ((List.replicate ((4 : Int)).toNat (⟨none, 0, 0⟩ : Hdr)).length) ((List.replicate ((4 : Int)).toNat (⟨none, 0, 0⟩ : Hdr)).length)])]) (fun ⟨x11, rs12⟩ => m_stripe_Split_j0 x00 x11 = some res /\ rs12.length = x11.length) (fun _ k15 => ?_) ?_
 ·refine sr fun _ k16 => ya (loadB (k := 110) scal_30 rfl rfl rfl) <| ya (lenD (rs := (List.replicate ((4 : Int)).toNat (⟨none, 0, 0⟩ : Hdr))) (xs := x5) hl7 und_30 rfl (rO 104 rfl)) <| mv rfl <| dz k16 <| bl <| lp (τ := (List By) × (List Hdr) × Int) (fun ⟨x17, rs18, x21⟩ => [(1, pv g2), (3, pv g10), (9, I64 (x5.length : Int)), (10, I64 x21)]) (fun ⟨x17, rs18, x21⟩ => [(0, .mem M0), (102, .blk g2 24 [.slice A00 n00 c00]), (104, .own 24 (Lay.sz Hdr) (some ⟨g4, 0, none⟩) ((List.replicate ((4 : Int)).toNat (⟨none, 0, 0⟩ : Hdr)).length) ((List.replicate ((4 : Int)).toNat (⟨none, 0, 0⟩ : Hdr)).length) (cel rs18)), (109, .rows 5 (Lay.sz (BitVec 8)) (rws rs18 x17)), (110, .blk g10 30 [.slice (some ⟨g4, 0, none⟩) ((List.replicate ((4 : Int)).toNat (⟨none, 0, 0⟩ : Hdr)).length) ((List.replicate ((4 : Int)).toNat (⟨none, 0, 0⟩ : Hdr)).length)])]) (fun q22 ⟨x17, rs18, x21⟩ => m_stripe_Split_l1 x00 x5 q22 x17 x21 = some res /\ rs18.length = x17.length) ⟨x5, (List.replicate ((4 : Int)).toNat (⟨none, 0, 0⟩ : Hdr)), (0 : Int)⟩ ?_ (by simp [m_stripe_Split_l1]) ?_
  ·exact ⟨h, hl7⟩
  rintro q22 ⟨x17, rs18, x21⟩ ⟨h, hl20⟩ _ k23
  unfold m_stripe_Split_l1 at h
  refine sr fun _ k24 => ya (lss rfl rfl) <| dz k24 <| sq fun _ k25 => cI h rfl (fun hc26 h => ?_) fun hc26 h => ?_
  ·refine ss <| k25 _ _ <| sq fun _ k27 => bl <| sr fun _ k28 => mv rfl <| ak rfl k28 <| rd [(102, _), (110, _)] mixed fun _ k29 => ?_
   obtain ⟨x30, hx30, h⟩ := bnd h
   obtain ⟨x33, hx33, h⟩ := bnd h
   obtain ⟨x34, hx34, h⟩ := bnd h
   obtain ⟨x37, hx37, h⟩ := bnd h
   refine du 0 rfl (loadB (k := 110) scal_30 rfl rfl rfl) <| dm 1 rfl rfl <| du 2 rfl (loadB (k := 102) scal_24 rfl rfl rfl) <| on 3 <| dy rfl (lenC (xs := x00) und_24 rfl (mM rfl hf00)) <| on 4 <| d0 rfl Try.func35 rfl (fun w hb hh => w_stripe_Size (Mem.snap w) (x00.length : Int) hx30) <| on 5 <| WS.eff rfl (by decide) (Eff.makeC 132 0#8 sty_24 rfl rfl rfl rfl rfl rfl hx33) ?_
   rintro _ _ ⟨g32, rfl, rfl⟩
   refine aq ?_
   refine on 6 ?_
   obtain ⟨r_35, hr36⟩ := rows_idx (hs := rs18) hl20 hx34
   refine dy rfl (idxC (xs := rs18) sty_30 rfl rfl (rO 104 rfl) hr36) <| on 7 ?_
   obtain ⟨hu38, hl39, hr40⟩ := rows_updH (⟨(some ⟨g32, 0, none⟩), x33.length, x33.length⟩ : Hdr) hl20 hx37
   refine WS.hs (HStep.rowsPutE 109 132 (x21).toNat rfl hr40 rfl rfl) (sc (sc sn)) <| WS.eff0 rfl (Eff0.storeC1 104 (xs := rs18) (a' := (⟨(some ⟨g32, 0, none⟩), x33.length, x33.length⟩ : Hdr)) siz_24 rfl rfl rfl rfl rfl rfl hu38) (sc (sc sn)) <| dd <| k29 _ _ <| bn <| tn <| k27 _ _ <| rg fun _ k41 => bd h fun x42 hx42 h => ya (addC rfl rfl hx42) <| mv rfl <| dz k41 <| tn <| kw (k23 ⟨x37, (rs18.set (x21).toNat (⟨(some ⟨g32, 0, none⟩), x33.length, x33.length⟩ : Hdr)), x42⟩ ⟨h, hl39⟩)
  exact xi <| te <| te <| bx <| tn <| kw (k15 ⟨x17, rs18⟩ ⟨h, hl20⟩)
 rintro ⟨x11, rs12⟩ ⟨h, hl14⟩
 unfold m_stripe_Split_j0 at h
 refine sq fun _ k43 => sr fun _ k44 => ya (loadB (k := 102) scal_24 rfl rfl rfl) <| ya (lenC (xs := x00) und_24 rfl (mM rfl hf00)) <| WL.inl (by decide) Try.func36 nm_36 rfl rfl (Tri.intro (N := 6) Try.func36 rfl rfl (nle rfl) ?_)
 refine sr fun _ k45 => bb 146 [I64 (0 : Int)] rfl fun g46 => bb 147 [I64 (x00.length : Int)] rfl fun g47 => ak rfl k45 <| sr fun _ k48 => ya (makeFunc rfl rfl) <| ak rfl k48 <| re <| Ret.go (ResIs.one rfl rfl) <| dz k44 <| bl <| WC.rangeFunc 98 97 rfl Try.func53 nm_53 rfl rfl rfl rfl fun D49 l50 rc51 hrc52 => Tri.intro (N := 37) Try.func53 rfl rfl (nle rfl) <| sr fun _ k53 => bd h fun x54 hx54 h => ya (loadB (k := 146) scal_2 rfl rfl rfl) <| ya (loadB (k := 147) scal_2 rfl rfl rfl) <| ya (addC rfl rfl hx54) <| ak rfl k53 <| bl <| lp (τ := (List By) × (List Hdr) × Int) (fun ⟨x55, rs56, x59⟩ => [(0, .func (.yield l50) #[] #[]), (1, pv g46), (4, I64 x54)]) (fun ⟨x55, rs56, x59⟩ => [(0, .mem M0), (97, .obj l50 (.loop (Rc .ready none rc51))), (98, .obj D49 (.deferred (some []))), (102, .blk g2 24 [.slice A00 n00 c00]), (104, .own 24 (Lay.sz Hdr) (some ⟨g4, 0, none⟩) ((List.replicate ((4 : Int)).toNat (⟨none, 0, 0⟩ : Hdr)).length) ((List.replicate ((4 : Int)).toNat (⟨none, 0, 0⟩ : Hdr)).length) (cel rs56)), (109, .rows 5 (Lay.sz (BitVec 8)) (rws rs56 x55)), (110, .blk g10 30 [.slice (some ⟨g4, 0, none⟩) ((List.replicate ((4 : Int)).toNat (⟨none, 0, 0⟩ : Hdr)).length) ((List.replicate ((4 : Int)).toNat (⟨none, 0, 0⟩ : Hdr)).length)]), (146, .blk g46 2 [I64 x59]), (147, .blk g47 2 [I64 (x00.length : Int)])]) (fun q60 ⟨x55, rs56, x59⟩ => m_stripe_Split_l2 x00 x54 q60 x55 x59 = some res /\ rs56.length = x55.length) ⟨x11, rs12, (0 : Int)⟩ ?_ (by simp [m_stripe_Split_l2]) ?_
 ·exact ⟨h, hl14⟩
 rintro q60 ⟨x55, rs56, x59⟩ ⟨h, hl58⟩ _ k61
 unfold m_stripe_Split_l2 at h
 refine sq fun _ k62 => sr fun _ k63 => ya (loadB (k := 146) scal_2 rfl rfl rfl) <| mv rfl <| ya (lss rfl rfl) <| dz k63 <| cI h rfl (fun hc64 h => ?_) fun hc64 h => ?_
 ·refine ss <| k62 _ _ <| bl <| sr fun _ k65 => ?_
  obtain ⟨x66, hx66, h⟩ := bnd h
  obtain ⟨x67, hx67, h⟩ := bnd h
  obtain ⟨x68, hx68, h⟩ := bnd h
  refine ya (loadB (k := 146) scal_2 rfl rfl rfl) <| ya (remC rfl rfl hx66) <| ya (subC rfl rfl hx67) <| mv rfl <| ya (loadB (k := 146) scal_2 rfl rfl rfl) <| ya (subC rfl rfl hx68) <| ya (minI rfl rfl) <| ak rfl k65 <| sr fun _ k69 => bd h fun x70 hx70 h => ya (loadB (k := 146) scal_2 rfl rfl rfl) <| c0 Try.func54 rfl (fun w hb hh => w_stripe_place (Mem.snap w) x59 hx70) <| mv rfl <| ya (extract rfl rfl) <| ya (extract rfl rfl) <| asn rfl <| ak rfl k69 <| sq fun _ k72 => sr fun _ k73 => mv rfl <| ya (loadB (k := 146) scal_2 rfl rfl rfl) <| mv rfl <| mv rfl <| mv rfl <| ya (build rfl (bu_87_0_1_2 x70.1 x70.2 (min x67 x68))) <| WL.round 97 (by decide) rfl rfl rfl hrc52 rfl rfl fun RQ74 hN75 hR76 hX77 KA78 hKA79 => sr fun _ k80 => ak rfl k80 <| rg fun _ k81 => al 182 zr_87 fun g82 => sb 182 agg_87 rfl rfl rfl <| dz k81 <| QK.thenN (hKA79 _ _ rfl ?_)
  refine bl <| rd [(0, _), (97, _), (98, _), (102, _), (104, _), (110, _), (146, _), (147, _), (182, _)] mixed fun _ k83 => ?_
  obtain ⟨x84, hx84, h⟩ := bnd h
  obtain ⟨x87, hx87, h⟩ := bnd h
  obtain ⟨x88, hx88, h⟩ := bnd h
  obtain ⟨x89, hx89, h⟩ := bnd h
  obtain ⟨x90, hx90, h⟩ := bnd h
  refine du 0 rfl (loadB (k := 110) scal_30 rfl rfl rfl) <| du 1 rfl (fieldAddr Try.underlying87 rfl nz_3 rfl rfl) <| du 2 rfl (loadB (k := 182) scal_3 rfl rfl rfl) ?_
  obtain ⟨r_85, hr86⟩ := rows_idx (hs := rs56) hl58 hx84
  refine du 3 rfl (idxC (xs := rs56) sty_30 rfl rfl (rO 104 rfl) hr86) <| du 4 rfl (loadC0 (xs := rs56) scal_24 rfl (rO 104 rfl) hr86 rfl) <| du 5 rfl (fieldAddr Try.underlying87 rfl nz_2 rfl rfl) <| du 6 rfl (loadB (k := 182) scal_2 rfl rfl rfl) <| du 7 rfl (fieldAddr Try.underlying87 rfl nz_2 rfl rfl) <| du 8 rfl (loadB (k := 182) scal_2 rfl rfl rfl) <| du 9 rfl (fieldAddr Try.underlying87 rfl nz_2 rfl rfl) <| du 10 rfl (loadB (k := 182) scal_2 rfl rfl rfl) <| du 11 rfl (addC rfl rfl hx87) <| du 13 rfl (loadB (k := 102) scal_24 rfl rfl rfl) <| dm 14 rfl rfl <| du 15 rfl (sliceLC (xs := x00) sty_24 rfl rfl (mM rfl hf00) hx89) <| on 12 <| dy rfl (sliceLHC (xs := x84) sty_24 rfl rfl rfl (RdT.row (k := 109) rfl hr86 hx84) hx88) <| on 16 <| WS.eff rfl (by decide) (Eff.copyRow 109 (lo := x70.2) (hi := x87) (hs := rs56) (e := x55) (b := x84) (bs := x88) (ys := x89) sty_24 rfl rfl hx88 rfl hr86 hx84 rfl rfl rfl (SlT.slc hf00 hx89) hx90) ?_
  rintro _ _ ⟨rfl, rfl⟩
  refine aq ?_
  refine dd <| k83 _ _ <| bn <| hN75 _ _ rfl <| ya (notB rfl) <| dz k73 <| cdF rfl <| ss <| k72 _ _ <| rg fun _ k91 => bd h fun x92 hx92 h => ya (loadB (k := 146) scal_2 rfl rfl rfl) <| mv rfl <| ya (addC rfl rfl hx92) <| WL.eff0 (Eff0.storeB 146 siz_2 rfl rfl rfl rfl (nle rfl)) <| dz k91 <| bn <| tn <| kw (k61 ⟨x90, rs56, x92⟩ ⟨h, (rows_upd hl58 hx90)⟩)
 refine xi <| te <| te <| bx <| Ret.goN (ResIs.zero rfl) <| After.go 97 rfl <| bn <| tn <| k43 _ _ <| sr fun _ k93 => ya (loadB (k := 110) scal_30 rfl rfl rfl) <| ak rfl k93 <| re <| QK.grow (HGrow.rows 109 rfl rfl rfl hl58) fun M94 ⟨hm_M94, hq95⟩ => QK.unmark 98 rfl ?_
 obtain rfl := si h
 exact rt [104] (ResIs.one rfl rfl) hm_M94 ⟨(some ⟨g4, 0, none⟩), (List.replicate ((4 : Int)).toNat (⟨none, 0, 0⟩ : Hdr)).length, (List.replicate ((4 : Int)).toNat (⟨none, 0, 0⟩ : Hdr)).length, rs56, rfl, rfl, hq95⟩
end Z
theorem w_slices_Concat_byte_byte (M0 : Mem) (A00 : Option Addr) (n00 c00 : Nat) (rs00 : List Hdr) (x00 : List (List By)) (hf00 : SlT M0 A00 n00 c00 rs00) (hq00 : Rels ((RelL (RelB (α := BitVec 8))) M0) rs00 x00) {res : (List By)} (h : m_slices_Concat_byte_byte x00 = some res) :
  Fn Try.prog 17 #[.slice A00 n00 c00] M0 fun r M' es => ∃ (A1 : Option Addr) (n1 c1 : Nat), ∃ rs1 : List Hdr, r = .slice A1 n1 c1 /\ es = [.own 24 (Lay.sz Hdr) A1 n1 c1 (cel rs1)] /\ Rels ((RelB (α := BitVec 8)) M') rs1 res := by
 refine Fn.intro (N := 36) Try.func17 rfl rfl (nle rfl) fun w0 => ?_
 unfold m_slices_Concat_byte_byte at h
 refine sr fun _ k1 => ak rfl k1 <| sr fun _ k2 => ak rfl k2 <| ct (σ := Int) (fun x3 => [(0, .slice A00 n00 c00), (3, I64 x3)]) (fun x3 => [(0, .mem M0)]) (fun x3 => m_slices_Concat_byte_byte_j0 x00 x3 = some res) (fun _ k4 => ?_) ?_
 ·refine sr fun _ k5 => mv rfl <| ya (lenD (rs := rs00) (xs := x00) (Rels.len hq00) und_94 rfl (mM rfl hf00)) <| mv rfl <| dz k5 <| bl <| lp (τ := Int × Int) (fun ⟨x6, x7⟩ => [(0, .slice A00 n00 c00), (3, I64 x6), (9, .slice A00 n00 c00), (10, I64 (x00.length : Int)), (11, I64 x7)]) (fun ⟨x6, x7⟩ => [(0, .mem M0)]) (fun q8 ⟨x6, x7⟩ => m_slices_Concat_byte_byte_l1 x00 q8 x6 x7 = some res) ⟨(0 : Int), (0 : Int)⟩ ?_ (by simp [m_slices_Concat_byte_byte_l1]) ?_
  ·exact h
  rintro q8 ⟨x6, x7⟩ h _ k9
  unfold m_slices_Concat_byte_byte_l1 at h
  refine sr fun _ k10 => ya (lss rfl rfl) <| dz k10 <| sq fun _ k11 => cI h rfl (fun hc12 h => ?_) fun hc12 h => ?_
  ·refine ss <| k11 _ _ <| sq fun _ k13 => bl <| sr fun _ k14 => ?_
   obtain ⟨x15, hx15, h⟩ := bnd h
   obtain ⟨r_16, hr17, hq18⟩ := Rels.idx hq00 hx15
   refine ya (idxC (xs := rs00) sty_94 rfl rfl (mM rfl hf00) hr17) ?_
   obtain ⟨rs19, hf20, hq21⟩ := hq18
   refine ya (loadC0 (xs := rs00) scal_30 rfl (mM rfl hf00) hr17 rfl) <| ak rfl k14 <| sr fun _ k22 => bd h fun x23 hx23 h => mv rfl <| mv rfl <| ya (lenD (rs := rs19) (xs := x15) (Rels.len hq21) und_30 rfl (mM rfl hf20)) <| ya (addC rfl rfl hx23) <| ak rfl k22 <| sr fun _ k24 => mv rfl <| ya (lss rfl rfl) <| dn <| k24 _ _ ?_
   by_cases hc25 : x23 < (0 : Int)
   ·replace h := of_t hc25 h
    cases h
   replace h := of_f hc25 h
   refine WC.condFe rfl (decide_eq_false hc25) <| WC.skip <| bn <| tn <| k13 _ _ <| rg fun _ k26 => bd h fun x27 hx27 h => ya (addC rfl rfl hx27) <| mv rfl <| dz k26 <| tn <| kw (k9 ⟨x23, x27⟩ h)
  exact xi <| te <| te <| bx <| tn <| kw (k4 x6 h)
 rintro x3 h
 unfold m_slices_Concat_byte_byte_j0 at h
 refine ctr (σ := (Option Addr) × Nat × Nat × (List By) × (List Hdr)) (fun ⟨A30, n31, c32, x33, rs34⟩ => [(0, .slice A00 n00 c00), (6, .slice A30 n31 c32)]) (fun ⟨A30, n31, c32, x33, rs34⟩ => [(0, .mem M0), (129, .own 24 (Lay.sz Hdr) A30 n31 c32 (cel rs34))]) (fun ⟨A30, n31, c32, x33, rs34⟩ => m_slices_Concat_byte_byte_j2 x00 x33 = some res /\ Rels ((RelB (α := BitVec 8)) M0) rs34 x33) (fun _ k36 => ?_) ?_
 ·refine mv rfl <| WL.inl (by decide) Try.func40 nm_40 rfl rfl (Tri.intro (N := 27) Try.func40 rfl rfl (nle rfl) ?_)
  refine sr fun _ k38 => ak rfl k38 <| sq fun _ k39 => sr fun _ k40 => mv rfl <| ya (lss rfl rfl) <| dn <| k40 _ _ ?_
  by_cases hc41 : x3 < (0 : Int)
  ·replace h := of_t hc41 h
   cases h
  replace h := of_f hc41 h
  refine WC.condFe rfl (decide_eq_false hc41) <| ss <| k39 _ _ <| sq fun _ k42 => sr fun _ k43 => ?_
  obtain ⟨x44, hx44, h⟩ := bnd h
  obtain ⟨x45, hx45, h⟩ := bnd h
  refine mv rfl <| mv rfl <| ya (capNil und_30 rfl) <| mv rfl <| ya (lenNil und_30 rfl) <| ya (subC rfl rfl hx44) <| ya (subC rfl rfl hx45) <| ak rfl k43 <| sr fun _ k46 => mv rfl <| ya (gtr rfl rfl) <| dz k46 <| cI h rfl (fun hc47 h => ?_) fun hc47 h => ?_
  ·refine rg fun _ k48 => ?_
   obtain ⟨x50, hx50, h⟩ := bnd h
   obtain ⟨x55, hx55, h⟩ := bnd h
   refine mv rfl <| mv rfl <| ya (capNil und_30 rfl) <| ya (sliceNil (α := Hdr) (h := 0) sty_30 rfl rfl) <| mv rfl ?_
   obtain ⟨hu53, hq54⟩ := Rels.mks (R := (RelB (α := BitVec 8)) M0) (r := (⟨none, 0, 0⟩ : Hdr)) hx50 RelB.nil
   refine WL.eff (by decide) (Eff.appendNZ 149 (⟨none, 0, 0⟩ : Hdr) sty_30 rfl rfl und_3 rfl rfl rfl (by omega) hu53) ?_
   rintro _ _ ⟨A51, c52, rfl, rfl⟩
   refine mv rfl <| ya (lenNil und_30 rfl) ?_
   obtain ⟨rs56, hs57, hq58⟩ := Rels.slc hq54 hx55
   exact ya (sliceHC (xs := (List.replicate (x45).toNat (⟨none, 0, 0⟩ : Hdr))) sty_30 rfl rfl (rO 149 rfl) hs57) <| WL.hs (HStep.cutTo (xs := (List.replicate (x45).toNat (⟨none, 0, 0⟩ : Hdr))) 149 rfl hs57) <| ak rfl k48 <| tn <| k42 _ _ <| sr fun _ k59 => mv rfl <| ak rfl k59 <| re <| Ret.go (ResIs.one rfl rfl) <| asn rfl <| WL.done <| KK.move 149 129 rfl rfl <| kw (k36 ⟨A51, rs56.length, c52, x55, rs56⟩ ⟨h, hq58⟩)
  exact ss <| k42 _ _ <| sr fun _ k60 => mv rfl <| ak rfl k60 <| re <| Ret.go (ResIs.one rfl rfl) <| asn rfl <| WL.done <| KK.nilOwn 129 24 (Lay.sz Hdr) none <| kw (k36 ⟨none, 0, 0, ([] : List By), ([] : List Hdr)⟩ ⟨h, (Rels.nil (R := (RelB (α := BitVec 8)) M0))⟩)
 rintro ⟨A30, n31, c32, x33, rs34⟩ ⟨h, hq35⟩
 unfold m_slices_Concat_byte_byte_j2 at h
 refine ct (σ := (Option Addr) × Nat × Nat × (List By) × (List Hdr)) (fun ⟨A61, n62, c63, x64, rs65⟩ => [(6, .slice A61 n62 c63)]) (fun ⟨A61, n62, c63, x64, rs65⟩ => [(0, .mem M0), (129, .own 24 (Lay.sz Hdr) A61 n62 c63 (cel rs65))]) (fun ⟨A61, n62, c63, x64, rs65⟩ => m_slices_Concat_byte_byte_j3 x64 = some res /\ Rels ((RelB (α := BitVec 8)) M0) rs65 x64) (fun _ k67 => ?_) ?_
 ·refine sr fun _ k68 => mv rfl <| ya (lenD (rs := rs00) (xs := x00) (Rels.len hq00) und_94 rfl (mM rfl hf00)) <| mv rfl <| dz k68 <| bl <| lp (τ := (Option Addr) × Nat × Nat × (List By) × (List Hdr) × Int) (fun ⟨A69, n70, c71, x72, rs73, x75⟩ => [(6, .slice A69 n70 c71), (25, .slice A00 n00 c00), (26, I64 (x00.length : Int)), (27, I64 x75)]) (fun ⟨A69, n70, c71, x72, rs73, x75⟩ => [(0, .mem M0), (129, .own 24 (Lay.sz Hdr) A69 n70 c71 (cel rs73))]) (fun q76 ⟨A69, n70, c71, x72, rs73, x75⟩ => m_slices_Concat_byte_byte_l4 x00 q76 x72 x75 = some res /\ Rels ((RelB (α := BitVec 8)) M0) rs73 x72) ⟨A30, n31, c32, x33, rs34, (0 : Int)⟩ ?_ (by simp [m_slices_Concat_byte_byte_l4]) ?_
  ·exact ⟨h, hq35⟩
  rintro q76 ⟨A69, n70, c71, x72, rs73, x75⟩ ⟨h, hq74⟩ _ k77
  unfold m_slices_Concat_byte_byte_l4 at h
  refine sr fun _ k78 => ya (lss rfl rfl) <| dz k78 <| sq fun _ k79 => cI h rfl (fun hc80 h => ?_) fun hc80 h => ?_
  ·refine ss <| k79 _ _ <| sq fun _ k81 => bl <| sr fun _ k82 => ?_
   obtain ⟨x83, hx83, h⟩ := bnd h
   obtain ⟨r_84, hr85, hq86⟩ := Rels.idx hq00 hx83
   refine ya (idxC (xs := rs00) sty_94 rfl rfl (mM rfl hf00) hr85) ?_
   obtain ⟨rs87, hf88, hq89⟩ := hq86
   refine ya (loadC0 (xs := rs00) scal_30 rfl (mM rfl hf00) hr85 rfl) <| ak rfl k82 <| rg fun _ k90 => bd h fun x91 hx91 h => mv rfl <| mv rfl ?_
   obtain ⟨hu94, hq95⟩ := Rels.apd hq74 hq89 hx91
   refine ap 129 (xs := rs73) (ys := rs87) sty_30 rfl rfl rfl (mM rfl hf88) hu94 fun A92 c93 => ak rfl k90 <| bn <| tn <| k81 _ _ <| rg fun _ k96 => bd h fun x97 hx97 h => ya (addC rfl rfl hx97) <| mv rfl <| dz k96 <| tn <| kw (k77 ⟨A92, (rs73 ++ rs87).length, c93, x91, (rs73 ++ rs87), x97⟩ ⟨h, hq95⟩)
  exact xi <| te <| te <| bx <| tn <| kw (k67 ⟨A69, n70, c71, x72, rs73⟩ ⟨h, hq74⟩)
 rintro ⟨A61, n62, c63, x64, rs65⟩ ⟨h, hq66⟩
 unfold m_slices_Concat_byte_byte_j3 at h
 refine sr fun _ k98 => mv rfl <| ak rfl k98 <| re ?_
 obtain rfl := si h
 exact rt [129] (ResIs.one rfl rfl) (Ext.refl _ _) ⟨A61, n62, c63, rs65, rfl, rfl, hq66⟩
theorem und_31 : Try.prog.underlying 31 = some (.array 6 23) := by kernel_rfl
theorem und_97 : Try.prog.underlying 97 = some (.map 3 4) := by kernel_rfl
theorem agg_33 : Agg Try.prog 33 11 := ⟨⟨_, Try.underlying33, rfl⟩, by kernel_rfl⟩
theorem bu_33_ : Try.prog.built 33 [] = some ([I64 (0 : Int), I64 (0 : Int), I64 (0 : Int), I64 (0 : Int), U32 0#32, U32 0#32, U32 0#32, U32 0#32, U32 0#32, U32 0#32, .slice none 0 0] : List Value).toArray := by kernel_rfl
theorem bu_33_0_1_3 : ∀ (a0_0 : Int) (a0_1 : Int) (a0_2 : Int) (a1 : Int) (a3 : Option Addr) (n3 c3 : Nat), Try.prog.built 33 [(0, .agg ([I64 a0_0, I64 a0_1, I64 a0_2] : List Value).toArray), (1, I64 a1), (3, .slice a3 n3 c3)] = some ([I64 a0_0, I64 a0_1, I64 a0_2, I64 a1, U32 0#32, U32 0#32, U32 0#32, U32 0#32, U32 0#32, U32 0#32, .slice a3 n3 c3] : List Value).toArray := fun a0_0 a0_1 a0_2 a1 a3 n3 c3 => by kernel_rfl
theorem nm_13 : (Try.f13.name == "runtime.NumGoroutine") = false := by kernel_rfl
theorem nm_15 : (Try.f15.name == "runtime.NumGoroutine") = false := by kernel_rfl
theorem nm_16 : (Try.f16.name == "runtime.NumGoroutine") = false := by kernel_rfl
theorem nm_17 : (Try.f17.name == "runtime.NumGoroutine") = false := by kernel_rfl
theorem nm_18 : (Try.f18.name == "runtime.NumGoroutine") = false := by kernel_rfl
theorem nm_20 : (Try.f20.name == "runtime.NumGoroutine") = false := by kernel_rfl
theorem nm_43 : (Try.f43.name == "runtime.NumGoroutine") = false := by kernel_rfl
theorem nz_31 : (Try.prog.info? 31).map (fun i => decide (i.size = 0)) = some false := by kernel_rfl
theorem siz_23 : (Try.prog.info? 23).map (·.size) = some 1 := by kernel_rfl
theorem sty_64 : STy Try.prog 64 4 (.bool false) 1 1 := STy.of und_64 (by kernel_rfl) rfl
theorem zr_33 : (Try.prog.info? 33).map (fun i => i.zero.map (·.cells)) = some (some ([I64 (0 : Int), I64 (0 : Int), I64 (0 : Int), I64 (0 : Int), U32 0#32, U32 0#32, U32 0#32, U32 0#32, U32 0#32, U32 0#32, .slice none 0 0] : List Value).toArray) := by kernel_rfl
theorem w_shards_Make (M0 : Mem) (A00 : Option Addr) (n00 c00 : Nat) (x00 : By) (hf00 : SlT M0 A00 n00 c00 x00) (v0 v1 v2 : Int) (A02 : Option Addr) (n02 c02 : Nat) (x02 : List Sapi_Item) (hf02 : SlT M0 A02 n02 c02 x02) {res : (List By) × Int × Int × Int × Int × (BitVec 32) × (BitVec 32) × (BitVec 32) × (BitVec 32) × (BitVec 32) × (BitVec 32) × (List Sapi_Item) × Int} (h : m_shards_Make x00 v0 v1 v2 x02 = some res) :
  Fn Try.prog 5 #[.slice A00 n00 c00, .agg ([I64 v0, I64 v1, I64 v2] : List Value).toArray, .slice A02 n02 c02] M0 fun r M' es => ∃ (A1 : Option Addr) (n1 c1 : Nat), ∃ rs1 : List Hdr, ∃ (A2 : Option Addr) (n2 c2 : Nat), r = .tuple #[.slice A1 n1 c1, .agg ([I64 res.2.1, I64 res.2.2.1, I64 res.2.2.2.1, I64 res.2.2.2.2.1, U32 res.2.2.2.2.2.1, U32 res.2.2.2.2.2.2.1, U32 res.2.2.2.2.2.2.2.1, U32 res.2.2.2.2.2.2.2.2.1, U32 res.2.2.2.2.2.2.2.2.2.1, U32 res.2.2.2.2.2.2.2.2.2.2.1, .slice A2 n2 c2] : List Value).toArray, I64 res.2.2.2.2.2.2.2.2.2.2.2.2] /\ es = [.own 24 (Lay.sz Hdr) A1 n1 c1 (cel rs1), .own 56 (Lay.sz Sapi_Item) A2 n2 c2 (cel res.2.2.2.2.2.2.2.2.2.2.2.1)] /\ Rels ((RelB (α := BitVec 8)) M') rs1 res.1 := by
 refine Fn.intro (N := 53) Try.func5 rfl rfl (nle rfl) fun w0 => ?_
 unfold m_shards_Make at h
 refine sr fun _ k1 => bb 102 [I64 v0, I64 v1, I64 v2] rfl fun g2 => asn rfl <| al 103 zr_33 fun g3 => ak rfl k1 <| ctd [(0, _), (102, _), (103, _)] (σ := Nat × (Option Addr) × Nat × Nat × (List Sapi_Item)) (fun ⟨g4, A7, n8, c9, x10⟩ => [(0, .slice A00 n00 c00), (7, pv g3), (9, pv g4)]) (fun ⟨g4, A7, n8, c9, x10⟩ => [(0, .mem M0), (103, .blk g3 33 [I64 (0 : Int), I64 (0 : Int), I64 (0 : Int), I64 (0 : Int), U32 0#32, U32 0#32, U32 0#32, U32 0#32, U32 0#32, U32 0#32, .slice none 0 0]), (104, .blk g4 33 [I64 v0, I64 v1, I64 v2, I64 (x00.length : Int), U32 0#32, U32 0#32, U32 0#32, U32 0#32, U32 0#32, U32 0#32, .slice A7 n8 c9]), (106, .own 56 (Lay.sz Sapi_Item) A7 n8 c9 (cel x10))]) (fun ⟨g4, A7, n8, c9, x10⟩ => m_shards_Make_j0 x00 v0 v1 v2 x10 = some res) mixed (fun _ k11 => ?_) ?_
 ·obtain ⟨x13, hx13, h⟩ := bnd h
  refine du 0 rfl (loadBM (k := 102) agg_26 rfl rfl rfl) <| dm 1 rfl rfl <| du 2 rfl (lenC (xs := x00) und_24 rfl (mM rfl hf00)) <| dm 3 rfl rfl <| WD.two 4 6 (by kernel_rfl) ?_ ?_
  ·refine WS.eff rfl (by decide) (Eff.callS 117 rfl Try.func13 nm_13 rfl rfl (fun w hb hh => w_slices_Clone_api_Item_api_Item (Mem.snap w) A02 n02 c02 _ (sM rfl hf02 w hb hh) hx13)) ?_
   rintro _ _ ⟨_, ⟨A18, n19, c20, rfl, rfl⟩, rfl⟩
   refine aq ?_
   refine du 5 rfl (build rfl (bu_33_0_1_3 v0 v1 v2 (x00.length : Int) A18 n19 c20)) <| on 6 <| WS.eff rfl (by decide) (Eff.alloc 121 rfl zr_33) ?_
   rintro _ _ ⟨g21, rfl, rfl⟩
   refine aq ?_
   exact on 7 <| ds 121 rfl agg_33 rfl rfl rfl <| WD.done (by kernel_rfl) <| KK.move 121 104 rfl rfl <| KK.move 117 106 rfl rfl <| kw (k11 ⟨g21, A18, n19, c20, x13⟩ h)
  skip
  refine WS.eff rfl (by decide) (Eff.alloc 121 rfl zr_33) ?_
  rintro _ _ ⟨g21, rfl, rfl⟩
  refine aq ?_
  refine on 4 <| WS.eff rfl (by decide) (Eff.callS 117 rfl Try.func13 nm_13 rfl rfl (fun w hb hh => w_slices_Clone_api_Item_api_Item (Mem.snap w) A02 n02 c02 _ (sM rfl hf02 w hb hh) hx13)) ?_
  rintro _ _ ⟨_, ⟨A18, n19, c20, rfl, rfl⟩, rfl⟩
  refine aq ?_
  exact du 5 rfl (build rfl (bu_33_0_1_3 v0 v1 v2 (x00.length : Int) A18 n19 c20)) <| on 7 <| ds 121 rfl agg_33 rfl rfl rfl <| WD.done (by kernel_rfl) <| KK.move 121 104 rfl rfl <| KK.move 117 106 rfl rfl <| kw (k11 ⟨g21, A18, n19, c20, x13⟩ h)
 rintro ⟨g4, A7, n8, c9, x10⟩ h
 unfold m_shards_Make_j0 at h
 refine sq fun _ k22 => sr fun _ k23 => bd h fun x24 hx24 h => ya (loadBM (k := 104) agg_33 rfl rfl rfl) <| c0 Try.func14 rfl (fun w hb hh => w_shards_Valid (Mem.snap w) v0 v1 v2 (x00.length : Int) 0#32 0#32 0#32 0#32 0#32 0#32 A7 n8 c9 _ (RdH.sn (rO 106 rfl) w hb hh) hx24) <| ya (notB rfl) <| dz k23 <| cnn h rfl not_f (fun q => not_t (Bool.eq_false_iff.2 q)) (fun hc26 h => ?_) fun hc26 h => ?_
 ·refine ss <| k22 _ _ <| sr fun _ k27 => bd h fun x28 hx28 h => mv rfl <| WL.eff (by decide) (Eff.callM 134 rfl Try.func15 nm_15 rfl rfl rfl (w_stripe_Split _ A00 n00 c00 _ hf00 hx28)) ?_
  rintro _ _ ⟨M40, _, ⟨A41, n42, c43, rs44, rfl, rfl, hq45⟩, hm_M40, rfl⟩
  refine ak rfl k27 <| sr fun _ k46 => bd h fun x47 hx47 h => mv rfl <| WL.freeze 134 rfl rfl rfl fun M59 hm_M59 hf60 => WL.eff (by decide) (Eff.callM 153 rfl Try.func16 nm_16 rfl rfl rfl (w_rs_Encode _ A41 n42 c43 rs44 _ hf60 (Rels.lift hq45 hm_M59) hx47)) ?_
  rintro _ _ ⟨M61, _, ⟨A62, n63, c64, rs65, rfl, rfl, hq66⟩, hm_M61, rfl⟩
  refine mv rfl <| ya (extract rfl rfl) <| ya (extract rfl rfl) <| asn rfl <| ak rfl k46 <| sr fun _ k67 => bd h fun x72 hx72 h => mv rfl <| mv rfl <| WL.freeze 153 rfl rfl rfl fun M69 hm_M69 hf70 => ?_
  have hq71 : Rels ((RelL (RelB (α := BitVec 8))) M69) ([(⟨A41, n42, c43⟩ : Hdr), (⟨A62, n63, c64⟩ : Hdr)] : List Hdr) ([x28, x47.1] : List (List By)) := (Rels.cons ⟨rs44, (SlRc.lift (SlRc.lift hf60 hm_M61) hm_M69), (Rels.lift (Rels.lift (Rels.lift hq45 hm_M59) hm_M61) hm_M69)⟩ (Rels.cons ⟨rs65, hf70, (Rels.lift hq66 hm_M69)⟩ Rels.nil))
  refine WL.eff (by decide) (Eff.buildC 168 ([(⟨A41, n42, c43⟩ : Hdr), (⟨A62, n63, c64⟩ : Hdr)] : List Hdr) sty_94 rfl rfl rfl rfl rfl (by decide)) ?_
  rintro _ _ ⟨g68, rfl, rfl⟩
  refine WL.freeze 168 rfl rfl rfl fun M84 hm_M84 hf85 => WL.eff (by decide) (Eff.callM 178 rfl Try.func17 nm_17 rfl rfl rfl (w_slices_Concat_byte_byte _ (some ⟨g68, 0, none⟩) (([(⟨A41, n42, c43⟩ : Hdr), (⟨A62, n63, c64⟩ : Hdr)] : List Hdr).length) (([(⟨A41, n42, c43⟩ : Hdr), (⟨A62, n63, c64⟩ : Hdr)] : List Hdr).length) ([(⟨A41, n42, c43⟩ : Hdr), (⟨A62, n63, c64⟩ : Hdr)] : List Hdr) _ hf85 (Rels.lift hq71 hm_M84) hx72)) ?_
  rintro _ _ ⟨M86, _, ⟨A87, n88, c89, rs90, rfl, rfl, hq91⟩, hm_M86, rfl⟩
  refine ak rfl k67 <| ct (σ := (BitVec 32) × (BitVec 32) × (BitVec 32) × (BitVec 32) × (BitVec 32) × (BitVec 32)) (fun ⟨x92, x93, x94, x95, x96, x97⟩ => [(7, pv g3), (9, pv g4), (12, I64 x47.2), (13, .slice A87 n88 c89)]) (fun ⟨x92, x93, x94, x95, x96, x97⟩ => [(0, .mem M86), (103, .blk g3 33 [I64 (0 : Int), I64 (0 : Int), I64 (0 : Int), I64 (0 : Int), U32 0#32, U32 0#32, U32 0#32, U32 0#32, U32 0#32, U32 0#32, .slice none 0 0]), (104, .blk g4 33 [I64 v0, I64 v1, I64 v2, I64 (x00.length : Int), U32 x92, U32 x93, U32 x94, U32 x95, U32 x96, U32 x97, .slice A7 n8 c9]), (106, .own 56 (Lay.sz Sapi_Item) A7 n8 c9 (cel x10)), (178, .own 24 (Lay.sz Hdr) A87 n88 c89 (cel rs90))]) (fun ⟨x92, x93, x94, x95, x96, x97⟩ => m_shards_Make_j1 x00 v0 v1 v2 x10 x47 x72 x92 x93 x94 x95 x96 x97 = some res) (fun _ k98 => ?_) ?_
  ·refine sr fun _ k99 => mv rfl <| ya (lenD (rs := rs90) (xs := x72) (Rels.len hq91) und_30 rfl (rO 178 rfl)) <| mv rfl <| dz k99 <| bl <| lp (τ := (BitVec 32) × (BitVec 32) × (BitVec 32) × (BitVec 32) × (BitVec 32) × (BitVec 32) × Int) (fun ⟨x100, x101, x102, x103, x104, x105, x106⟩ => [(7, pv g3), (9, pv g4), (12, I64 x47.2), (13, .slice A87 n88 c89), (37, .slice A87 n88 c89), (38, I64 (x72.length : Int)), (39, I64 x106)]) (fun ⟨x100, x101, x102, x103, x104, x105, x106⟩ => [(0, .mem M86), (103, .blk g3 33 [I64 (0 : Int), I64 (0 : Int), I64 (0 : Int), I64 (0 : Int), U32 0#32, U32 0#32, U32 0#32, U32 0#32, U32 0#32, U32 0#32, .slice none 0 0]), (104, .blk g4 33 [I64 v0, I64 v1, I64 v2, I64 (x00.length : Int), U32 x100, U32 x101, U32 x102, U32 x103, U32 x104, U32 x105, .slice A7 n8 c9]), (106, .own 56 (Lay.sz Sapi_Item) A7 n8 c9 (cel x10)), (178, .own 24 (Lay.sz Hdr) A87 n88 c89 (cel rs90))]) (fun q107 ⟨x100, x101, x102, x103, x104, x105, x106⟩ => m_shards_Make_l2 x00 v0 v1 v2 x10 x47 x72 q107 x100 x101 x102 x103 x104 x105 x106 = some res) ⟨0#32, 0#32, 0#32, 0#32, 0#32, 0#32, (0 : Int)⟩ ?_ (by simp [m_shards_Make_l2]) ?_
   ·exact h
   rintro q107 ⟨x100, x101, x102, x103, x104, x105, x106⟩ h _ k108
   unfold m_shards_Make_l2 at h
   refine sr fun _ k109 => ya (lss rfl rfl) <| dz k109 <| sq fun _ k110 => cI h rfl (fun hc111 h => ?_) fun hc111 h => ?_
   ·refine ss <| k110 _ _ <| sq fun _ k112 => bl <| sr fun _ k113 => bd h fun x114 hx114 h => mv rfl ?_
    obtain ⟨r_115, hr116, hq117⟩ := Rels.idx hq91 hx114
    refine ya (idxC (xs := rs90) sty_30 rfl rfl (rO 178 rfl) hr116) <| ya (loadC0 (xs := rs90) scal_24 rfl (rO 178 rfl) hr116 rfl) <| asn rfl <| ak rfl k113 <| rg fun _ k118 => ?_
    obtain ⟨x119, hx119, h⟩ := bnd h
    obtain ⟨x121, hx121, h⟩ := bnd h
    obtain ⟨x122, hx122, h⟩ := bnd h
    refine mv rfl <| mv rfl <| c0 Try.func18 rfl (fun w hb hh => w_crc32c_Sum (Mem.snap w) r_115.A r_115.n r_115.c _ (sM rfl hq117 w hb hh) hx119) <| ya (fieldAddr Try.underlying33 rfl nz_31 rfl rfl) <| ya (idxArrF (xs := ([x100, x101, x102, x103, x104, x105] : List (BitVec 32))) und_31 rfl rfl rfl rfl hx121) <| WL.eff0 (Eff0.storeArrF 104 (xs := ([x100, x101, x102, x103, x104, x105] : List (BitVec 32))) (pre := [I64 v0, I64 v1, I64 v2, I64 (x00.length : Int)]) (post := [.slice A7 n8 c9]) (zs := [(x122.getD 0 0#32), (x122.getD 1 0#32), (x122.getD 2 0#32), (x122.getD 3 0#32), (x122.getD 4 0#32), (x122.getD 5 0#32)]) (cs := [I64 v0, I64 v1, I64 v2, I64 (x00.length : Int), U32 (x122.getD 0 0#32), U32 (x122.getD 1 0#32), U32 (x122.getD 2 0#32), U32 (x122.getD 3 0#32), U32 (x122.getD 4 0#32), U32 (x122.getD 5 0#32), .slice A7 n8 c9]) (a' := x119) siz_23 rfl rfl rfl rfl rfl rfl rfl hx122 (eta_getD 0#32 (upd_len hx122 rfl)) rfl) <| dz k118 <| bn <| tn <| k112 _ _ <| rg fun _ k123 => bd h fun x124 hx124 h => ya (addC rfl rfl hx124) <| mv rfl <| dz k123 <| tn <| kw (k108 ⟨(x122.getD 0 0#32), (x122.getD 1 0#32), (x122.getD 2 0#32), (x122.getD 3 0#32), (x122.getD 4 0#32), (x122.getD 5 0#32), x124⟩ h)
   exact xi <| te <| te <| bx <| tn <| kw (k98 ⟨x100, x101, x102, x103, x104, x105⟩ h)
  rintro ⟨x92, x93, x94, x95, x96, x97⟩ h
  unfold m_shards_Make_j1 at h
  refine sd [(0, _), (104, _), (106, _), (178, _)] mixed fun _ k125 => ?_
  refine dm 0 rfl rfl <| du 1 rfl (loadBM (k := 104) agg_33 rfl rfl rfl) <| dm 2 rfl rfl <| du 3 rfl (Yld.assign rfl) <| on 4 <| ds 103 rfl agg_33 rfl rfl rfl <| du 5 rfl (Yld.assign rfl) <| dd <| k125 _ _ <| re ?_
  obtain rfl := si h
  exact rt [178, 106] (ResIs.tmpCellTmpM (k := 103) rfl agg_33 rfl rfl rfl rfl rfl) (Ext.trans (Ext.trans (Ext.trans (Ext.trans (Ext.trans hm_M40 hm_M59) hm_M61) hm_M69) hm_M84) hm_M86) ⟨A87, n88, c89, rs90, A7, n8, c9, rfl, rfl, hq91⟩
 refine sr fun _ k126 => ya (build rfl (bu_33_)) <| asn rfl <| sb 103 agg_33 rfl rfl rfl <| ak rfl k126 <| re <| tr <| QK.nilOwn 227 24 (Lay.sz Hdr) none <| QK.nilOwn 228 56 (Lay.sz Sapi_Item) none ?_
 obtain rfl := si h
 exact rt [227, 228] (ResIs.tmpCellTmpM (k := 103) rfl agg_33 rfl rfl rfl rfl rfl) (Ext.refl _ _) ⟨none, 0, 0, ([] : List Hdr), none, 0, 0, rfl, rfl, (Rels.nil (R := (RelB (α := BitVec 8)) M0))⟩
theorem w_shards_Head_good (M0 : Mem) (u0 u1 u2 u3 : Int) (u4 u5 u6 u7 u8 u9 : BitVec 32) (A00_10 : Option Addr) (n00_10 c00_10 : Nat) (u10 : List Sapi_Item) (hf00_10 : SlT M0 A00_10 n00_10 c00_10 u10) (x01 : Int) (A02 : Option Addr) (n02 c02 : Nat) (x02 : By) (hf02 : SlT M0 A02 n02 c02 x02) {res : Bool} (h : m_shards_Head_good u0 u1 u2 u3 u4 u5 u6 u7 u8 u9 u10 x01 x02 = some res) :
  Fn Try.prog 42 #[.agg ([I64 u0, I64 u1, I64 u2, I64 u3, U32 u4, U32 u5, U32 u6, U32 u7, U32 u8, U32 u9, .slice A00_10 n00_10 c00_10] : List Value).toArray, I64 x01, .slice A02 n02 c02] M0 fun r M' es => r = .bool res /\ es = [] := by
 refine Fn.intro (N := 22) Try.func42 rfl rfl (nle rfl) fun w0 => ?_
 unfold m_shards_Head_good at h
 refine sr fun _ k1 => bb 102 [I64 u0, I64 u1, I64 u2, I64 u3, U32 u4, U32 u5, U32 u6, U32 u7, U32 u8, U32 u9, .slice A00_10 n00_10 c00_10] rfl fun g2 => ak rfl k1 <| sd [(0, _), (102, _)] mixed fun _ k3 => ?_
 obtain ⟨x4, hx4, h⟩ := bnd h
 by_cases hc6 : (x02.length : Int) = x4
 ·replace h := of_t hc6 h
  obtain ⟨x7, hx7, h⟩ := bnd h
  obtain ⟨x9, hx9, h⟩ := bnd h
  obtain ⟨x10, hx10, h⟩ := bnd h
  refine dm 0 rfl rfl <| du 1 rfl (lenC (xs := x02) und_24 rfl (mM rfl hf02)) <| du 2 rfl (fieldAddr Try.underlying33 rfl nz_2 rfl rfl) <| du 3 rfl (loadB (k := 102) scal_2 rfl rfl rfl) <| on 4 <| d0 rfl Try.func35 rfl (fun w hb hh => w_stripe_Size (Mem.snap w) u3 hx4) <| du 5 rfl (eqlI rfl rfl) <| dm 6 rfl rfl <| WD.new (v' := .bool true) (congrArg Value.bool (beq_iff_eq.2 hc6)) <| dv 7 rfl (Yld.move rfl) <| dv 9 rfl (Yld.move rfl) <| dv 10 rfl (fieldAddr Try.underlying33 rfl nz_31 rfl rfl) <| dv 11 rfl (idxArrF (xs := ([u4, u5, u6, u7, u8, u9] : List (BitVec 32))) und_31 rfl rfl rfl rfl hx9) <| dv 12 rfl (loadArrF (xs := ([u4, u5, u6, u7, u8, u9] : List (BitVec 32))) (pre := [I64 u0, I64 u1, I64 u2, I64 u3]) (post := [.slice A00_10 n00_10 c00_10]) (k := 102) scal_23 rfl rfl rfl hx10 rfl) <| on 8 <| WS.effG rfl (by decide) rfl (Eff.callS 108 rfl Try.func18 nm_18 rfl rfl (fun w hb hh => w_crc32c_Sum (Mem.snap w) A02 n02 c02 _ (sM rfl hf02 w hb hh) hx7)) ?_
  rintro _ _ ⟨_, ⟨rfl, rfl⟩, rfl⟩
  refine aq ?_
  refine dv 13 rfl (eql_u32 (a := x7) (b := x10) rfl rfl) <| du 14 rfl (pickT rfl rfl) <| du 15 rfl (Yld.assign rfl) <| dd <| k3 _ _ <| re ?_
  obtain rfl := si h
  exact rt0 (ResIs.one rfl rfl)
 replace h := of_f hc6 h
 refine dm 0 rfl rfl <| du 1 rfl (lenC (xs := x02) und_24 rfl (mM rfl hf02)) <| du 2 rfl (fieldAddr Try.underlying33 rfl nz_2 rfl rfl) <| du 3 rfl (loadB (k := 102) scal_2 rfl rfl rfl) <| on 4 <| d0 rfl Try.func35 rfl (fun w hb hh => w_stripe_Size (Mem.snap w) u3 hx4) <| du 5 rfl (eqlI rfl rfl) <| dm 6 rfl rfl <| WD.new (v' := .bool false) (congrArg Value.bool (beq_eq_false_iff_ne.2 hc6)) <| dw 7 rfl <| dw 8 rfl <| dw 9 rfl <| dw 10 rfl <| dw 11 rfl <| dw 12 rfl <| dw 13 rfl <| du 14 rfl (pickF rfl rfl) <| du 15 rfl (Yld.assign rfl) <| dd <| k3 _ _ <| re ?_
 obtain rfl := si h
 exact rt0 (ResIs.one rfl rfl)
theorem w_shards_Head_damaged (M0 : Mem) (u0 u1 u2 u3 : Int) (u4 u5 u6 u7 u8 u9 : BitVec 32) (A00_10 : Option Addr) (n00_10 c00_10 : Nat) (u10 : List Sapi_Item) (hf00_10 : SlT M0 A00_10 n00_10 c00_10 u10) (A01 : Option Addr) (n01 c01 : Nat) (rs01 : List Hdr) (x01 : List By) (hf01 : SlT M0 A01 n01 c01 rs01) (hq01 : Rels ((RelB (α := BitVec 8)) M0) rs01 x01) {res : (List Int)} (h : m_shards_Head_damaged u0 u1 u2 u3 u4 u5 u6 u7 u8 u9 u10 x01 = some res) :
  Fn Try.prog 19 #[.agg ([I64 u0, I64 u1, I64 u2, I64 u3, U32 u4, U32 u5, U32 u6, U32 u7, U32 u8, U32 u9, .slice A00_10 n00_10 c00_10] : List Value).toArray, .slice A01 n01 c01] M0 fun r M' es => ∃ (A1 : Option Addr) (n1 c1 : Nat), r = .slice A1 n1 c1 /\ es = [.own 3 (Lay.sz Int) A1 n1 c1 (cel res)] := by
 refine Fn.intro (N := 42) Try.func19 rfl rfl (nle rfl) fun w0 => ?_
 unfold m_shards_Head_damaged at h
 refine sr fun _ k1 => bb 102 [I64 u0, I64 u1, I64 u2, I64 u3, U32 u4, U32 u5, U32 u6, U32 u7, U32 u8, U32 u9, .slice A00_10 n00_10 c00_10] rfl fun g2 => ak rfl k1 <| sr fun _ k3 => WL.eff (by decide) (Eff.makeMap 104 rfl) ?_
 rintro _ _ ⟨g4, rfl, rfl⟩
 refine ak rfl k3 <| ct (σ := (List MapEntry) × Nat × (List (Int × Bool))) (fun ⟨es5, cl6, x7⟩ => [(5, .map (some g4))]) (fun ⟨es5, cl6, x7⟩ => [(0, .mem M0), (104, .obj g4 (.map es5.toArray cl6))]) (fun ⟨es5, cl6, x7⟩ => m_shards_Head_damaged_j0 x7 = some res /\ MapT Value.bool es5 cl6 x7) (fun _ k9 => ?_) ?_
 ·refine sr fun _ k10 => mv rfl <| ya (lenD (rs := rs01) (xs := x01) (Rels.len hq01) und_30 rfl (mM rfl hf01)) <| mv rfl <| dz k10 <| bl <| lp (τ := (List MapEntry) × Nat × (List (Int × Bool)) × Int) (fun ⟨es11, cl12, x13, x15⟩ => [(2, pv g2), (5, .map (some g4)), (12, .slice A01 n01 c01), (13, I64 (x01.length : Int)), (14, I64 x15)]) (fun ⟨es11, cl12, x13, x15⟩ => [(0, .mem M0), (102, .blk g2 33 [I64 u0, I64 u1, I64 u2, I64 u3, U32 u4, U32 u5, U32 u6, U32 u7, U32 u8, U32 u9, .slice A00_10 n00_10 c00_10]), (104, .obj g4 (.map es11.toArray cl12))]) (fun q16 ⟨es11, cl12, x13, x15⟩ => m_shards_Head_damaged_l1 u0 u1 u10 u2 u3 u4 u5 u6 u7 u8 u9 x01 q16 x13 x15 = some res /\ MapT Value.bool es11 cl12 x13) ⟨([] : List MapEntry), 0, ([] : List (Int × Bool)), (0 : Int)⟩ ?_ (by simp [m_shards_Head_damaged_l1]) ?_
  ·exact ⟨h, MapT.nil⟩
  rintro q16 ⟨es11, cl12, x13, x15⟩ ⟨h, hmr14⟩ _ k17
  unfold m_shards_Head_damaged_l1 at h
  refine sr fun _ k18 => ya (lss rfl rfl) <| dz k18 <| sq fun _ k19 => cI h rfl (fun hc20 h => ?_) fun hc20 h => ?_
  ·refine ss <| k19 _ _ <| sq fun _ k21 => bl <| sr fun _ k22 => bd h fun x23 hx23 h => mv rfl ?_
   obtain ⟨r_24, hr25, hq26⟩ := Rels.idx hq01 hx23
   refine ya (idxC (xs := rs01) sty_30 rfl rfl (mM rfl hf01) hr25) <| ya (loadC0 (xs := rs01) scal_24 rfl (mM rfl hf01) hr25 rfl) <| asn rfl <| ak rfl k22 <| rg fun _ k27 => bd h fun x28 hx28 h => mv rfl <| mv rfl <| ya (loadBM (k := 102) agg_33 rfl rfl rfl) <| mv rfl <| mv rfl <| c0 Try.func42 rfl (fun w hb hh => w_shards_Head_good (Mem.snap w) u0 u1 u2 u3 u4 u5 u6 u7 u8 u9 A00_10 n00_10 c00_10 _ (sM rfl hf00_10 w hb hh) x15 r_24.A r_24.n r_24.c _ (sM rfl hq26 w hb hh) hx28) <| WL.eff0R (Eff0R.mapUpdT 104 (ev := Value.bool) (m := x13) (q := x15) (v := x28) und_97 und_3 rfl rfl rfl rfl hmr14) ?_
   rintro _ ⟨es30, cl31, hmr32, rfl⟩
   refine dz k27 <| bn <| tn <| k21 _ _ <| rg fun _ k33 => bd h fun x34 hx34 h => ya (addC rfl rfl hx34) <| mv rfl <| dz k33 <| tn <| kw (k17 ⟨es30, cl31, (mset x13 x15 x28), x34⟩ ⟨h, hmr32⟩)
  exact xi <| te <| te <| bx <| tn <| kw (k9 ⟨es11, cl12, x13⟩ ⟨h, hmr14⟩)
 rintro ⟨es5, cl6, x7⟩ ⟨h, hmr8⟩
 unfold m_shards_Head_damaged_j0 at h
 refine sr fun _ k35 => ak rfl k35 <| ct (σ := (Option Addr) × Nat × Nat × (List Int)) (fun ⟨A38, n39, c40, x41⟩ => [(8, .slice A38 n39 c40)]) (fun ⟨A38, n39, c40, x41⟩ => [(0, .mem M0), (137, .own 3 (Lay.sz Int) A38 n39 c40 (cel x41))]) (fun ⟨A38, n39, c40, x41⟩ => m_shards_Head_damaged_j2 x41 = some res) (fun _ k42 => ?_) ?_
 ·refine sr fun _ k43 => mv rfl <| WL.eff (by decide) (Eff.rangeM 104 144 und_97 rfl rfl rfl) ?_
  rintro _ _ ⟨g44, rfl, rfl⟩
  refine dz k43 <| bl <| WC.nilOwn 146 3 (Lay.sz Int) none ?_
  have hu57 := mrangeK_some h
  refine WC.loop (σ := (Option Addr) × Nat × Nat × (List Int) × (Array Nat) × (List (Int × Bool))) (fun ⟨A47, n48, c49, x50, es51, x52⟩ => [(8, .slice A47 n48 c49), (27, pv g44)]) (fun ⟨A47, n48, c49, x50, es51, x52⟩ => [(0, .mem M0), (104, .obj g4 (.map es5.toArray cl6)), (144, .obj g44 (.mapIter (some g4) cl6 es51 cl6)), (146, .own 3 (Lay.sz Int) A47 n48 c49 (cel x50))]) (fun ⟨A47, n48, c49, x50, es51, x52⟩ => (∀ l : List (Int × Bool), l.Perm x52 -> (mfold (fun x60 => fun x50 => if x60.2 = true then some (x50) else (apd 8 x50 ([x60.1] : List Int)).bind fun x76 => some (x76)) l x50).bind (fun x50 => m_shards_Head_damaged_j2 x50) = some res) /\ ItR es5 x7 es51 x52) (fun ⟨A47, n48, c49, x50, es51, x52⟩ => x52.length) ⟨none, 0, 0, ([] : List Int), #[], x7⟩ ?_ (sc (sc sn)) (sc (sc (sc (sc sn)))) ?_
  ·exact ⟨hu57, (ItR.start hmr8)⟩
  rintro ⟨A47, n48, c49, x50, es51, x52⟩ ⟨hu57, hmr53⟩ K58 k58
  refine sr fun _ k59 => WL.nextM 104 144 (by decide) rfl rfl rfl hmr8 hmr53 (fun hx66 => ?_) (fun x60 x61 es62 hu63 hmr64 hs65 => ?_)
  ·subst hx66
   have h := mfoldK_done hu57
   exact ya (extract rfl rfl) <| dz k59 <| sq fun _ k67 => cdF rfl <| xi <| te <| te <| bx <| tn <| KK.move 146 137 rfl rfl <| kw (k42 ⟨A47, n48, c49, x50⟩ h)
  obtain ⟨q68, h, hu69⟩ := mfoldK_next hu57 hu63
  refine ya (extract rfl rfl) <| dz k59 <| sq fun _ k70 => cdT rfl <| ss <| k70 _ _ <| bl <| sr fun _ k71 => ya (entryM 104 144 rfl rfl rfl hmr8 hs65) <| ya (extract rfl rfl) <| ya (extract rfl rfl) <| asn rfl <| ak rfl k71 <| sr fun _ k72 => mv rfl <| ya (notB rfl) <| dz k72 <| cnn h rfl not_f (fun q => not_t (Bool.eq_false_iff.2 q)) (fun hc73 h => ?_) fun hc73 h => ?_
  ·refine WC.skip <| bn <| tn ?_
   obtain rfl := Option.some.inj h
   refine k58 ⟨A47, n48, c49, x50, es62, x61⟩ _ _ ?_ (perm_lt hu63) (sc (sc sn)) (sc (sc (sc (sc sn))))
   exact ⟨hu69, hmr64⟩
  refine rg fun _ k74 => bd h fun x76 hx76 h => mv rfl <| mv rfl <| WL.eff (by decide) (Eff.buildC 175 ([x60.1] : List Int) sty_38 rfl rfl rfl rfl rfl (by decide)) ?_
  rintro _ _ ⟨g75, rfl, rfl⟩
  refine ap 146 (xs := x50) (ys := ([x60.1] : List Int)) sty_38 rfl rfl rfl (rO 175 rfl) hx76 fun A77 c78 => ak rfl k74 <| bn <| tn ?_
  obtain rfl := Option.some.inj h
  refine k58 ⟨A77, x76.length, c78, x76, es62, x61⟩ _ _ ?_ (perm_lt hu63) (sc (sc sn)) (sc (sc (sc (sc sn))))
  exact ⟨hu69, hmr64⟩
 rintro ⟨A38, n39, c40, x41⟩ h
 unfold m_shards_Head_damaged_j2 at h
 refine sr fun _ k79 => bd h fun x80 hx80 h => mv rfl <| WL.eff (by decide) (Eff.callMut 137 rfl Try.func43 nm_43 rfl rfl rfl (w_sort A38 n39 c40 x41 hx80)) ?_
 rintro _ _ ⟨_, ⟨rfl, rfl⟩, rfl⟩
 refine dz k79 <| sr fun _ k81 => mv rfl <| ak rfl k81 <| re ?_
 obtain rfl := si h
 exact rt [137] (ResIs.one rfl rfl) (Ext.refl _ _) ⟨A38, n39, c40, rfl, rfl⟩
theorem w_shards_Rebuild (M0 : Mem) (u0 u1 u2 u3 : Int) (u4 u5 u6 u7 u8 u9 : BitVec 32) (A00_10 : Option Addr) (n00_10 c00_10 : Nat) (u10 : List Sapi_Item) (hf00_10 : SlT M0 A00_10 n00_10 c00_10 u10) (A01 : Option Addr) (n01 c01 : Nat) (rs01 : List Hdr) (x01 : List By) (hf01 : SlT M0 A01 n01 c01 rs01) (hq01 : Rels ((RelB (α := BitVec 8)) M0) rs01 x01) {res : (List By) × (List Int) × Int} (h : m_shards_Rebuild u0 u1 u2 u3 u4 u5 u6 u7 u8 u9 u10 x01 = some res) :
  Fn Try.prog 6 #[.agg ([I64 u0, I64 u1, I64 u2, I64 u3, U32 u4, U32 u5, U32 u6, U32 u7, U32 u8, U32 u9, .slice A00_10 n00_10 c00_10] : List Value).toArray, .slice A01 n01 c01] M0 fun r M' es => ∃ (A1 : Option Addr) (n1 c1 : Nat), ∃ rs1 : List Hdr, ∃ (A2 : Option Addr) (n2 c2 : Nat), r = .tuple #[.slice A1 n1 c1, .slice A2 n2 c2, I64 res.2.2] /\ es = [.own 24 (Lay.sz Hdr) A1 n1 c1 (cel rs1), .own 3 (Lay.sz Int) A2 n2 c2 (cel res.2.1)] /\ Rels ((RelB (α := BitVec 8)) M') rs1 res.1 := by
 refine Fn.intro (N := 51) Try.func6 rfl rfl (nle rfl) fun w0 => ?_
 unfold m_shards_Rebuild at h
 refine sr fun _ k1 => bb 102 [I64 u0, I64 u1, I64 u2, I64 u3, U32 u4, U32 u5, U32 u6, U32 u7, U32 u8, U32 u9, .slice A00_10 n00_10 c00_10] rfl fun g2 => asn rfl <| asn rfl <| ak rfl k1 <| ct (σ := Unit) (fun _ => [(1, .slice A01 n01 c01), (2, pv g2)]) (fun _ => [(0, .mem M0), (102, .blk g2 33 [I64 u0, I64 u1, I64 u2, I64 u3, U32 u4, U32 u5, U32 u6, U32 u7, U32 u8, U32 u9, .slice A00_10 n00_10 c00_10])]) (fun _ => m_shards_Rebuild_j0 u0 u1 u10 u2 u3 u4 u5 u6 u7 u8 u9 x01 = some res) (fun _ k3 => ?_) ?_
 ·refine sr fun _ k4 => bd h fun x5 hx5 h => ya (loadBM (k := 102) agg_33 rfl rfl rfl) <| c0 Try.func14 rfl (fun w hb hh => w_shards_Valid (Mem.snap w) u0 u1 u2 u3 u4 u5 u6 u7 u8 u9 A00_10 n00_10 c00_10 _ (sM rfl hf00_10 w hb hh) hx5) <| ya (notB rfl) <| mv rfl <| spn h not_f (fun q => not_t (Bool.eq_false_iff.2 q)) (fun hc7 h => ?_) fun hc7 h => ?_
  ·refine mvg rfl <| yg (lenD (rs := rs01) (xs := x01) (Rels.len hq01) und_30 rfl (mM rfl hf01)) <| yg (neqI rfl rfl) <| pf rfl rfl <| dz k4 <| cnn h rfl bne_eq_false_iff_eq.2 bne_iff_ne.2 (fun hc8 h => ?_) fun hc8 h => ?_
   ·exact WC.skip <| tn <| kw (k3 () h)
   refine sr fun _ k9 => asn rfl <| asn rfl <| ak rfl k9 <| re <| tr <| QK.nilOwn 110 24 (Lay.sz Hdr) none <| QK.nilOwn 111 3 (Lay.sz Int) none ?_
   obtain rfl := si h
   exact rt [110, 111] (ResIs.three rfl rfl rfl rfl) (Ext.refl _ _) ⟨none, 0, 0, ([] : List Hdr), none, 0, 0, rfl, rfl, (Rels.nil (R := (RelB (α := BitVec 8)) M0))⟩
  refine sk <| sk <| sk <| pt rfl rfl <| dz k4 <| cdT rfl <| sr fun _ k12 => asn rfl <| asn rfl <| ak rfl k12 <| re <| tr <| QK.nilOwn 113 24 (Lay.sz Hdr) none <| QK.nilOwn 114 3 (Lay.sz Int) none ?_
  obtain rfl := si h
  exact rt [113, 114] (ResIs.three rfl rfl rfl rfl) (Ext.refl _ _) ⟨none, 0, 0, ([] : List Hdr), none, 0, 0, rfl, rfl, (Rels.nil (R := (RelB (α := BitVec 8)) M0))⟩
 rintro _ h
 unfold m_shards_Rebuild_j0 at h
 refine sr fun _ k15 => bd h fun x16 hx16 h => ya (loadBM (k := 102) agg_33 rfl rfl rfl) <| mv rfl <| c1 120 Try.func19 rfl (fun w hb hh => w_shards_Head_damaged (Mem.snap w) u0 u1 u2 u3 u4 u5 u6 u7 u8 u9 A00_10 n00_10 c00_10 _ (sM rfl hf00_10 w hb hh) A01 n01 c01 rs01 _ (sM rfl hf01 w hb hh) (Rels.sn hq01 (hh.sat 0 _ rfl)) hx16) fun A21 n22 c23 => ak rfl k15 <| sr fun _ k24 => WL.eff (by decide) (Eff.buildC 125 ([true, true, true, true, true, true] : List Bool) sty_64 rfl rfl rfl rfl rfl (by decide)) ?_
 rintro _ _ ⟨g25, rfl, rfl⟩
 refine ak rfl k24 <| ct (σ := (List Bool)) (fun x26 => [(1, .slice A01 n01 c01), (2, pv g2), (7, .slice A21 n22 c23), (8, .slice (some ⟨g25, 0, none⟩) (([true, true, true, true, true, true] : List Bool).length) (([true, true, true, true, true, true] : List Bool).length))]) (fun x26 => [(0, .mem M0), (102, .blk g2 33 [I64 u0, I64 u1, I64 u2, I64 u3, U32 u4, U32 u5, U32 u6, U32 u7, U32 u8, U32 u9, .slice A00_10 n00_10 c00_10]), (120, .own 3 (Lay.sz Int) A21 n22 c23 (cel x16)), (125, .own 4 (Lay.sz Bool) (some ⟨g25, 0, none⟩) (([true, true, true, true, true, true] : List Bool).length) (([true, true, true, true, true, true] : List Bool).length) (cel x26))]) (fun x26 => m_shards_Rebuild_j1 u0 u1 u10 u2 u3 u4 u5 u6 u7 u8 u9 x01 x16 x26 = some res) (fun _ k27 => ?_) ?_
 ·refine sr fun _ k28 => mv rfl <| ya (lenC (xs := x16) und_38 rfl (rO 120 rfl)) <| mv rfl <| dz k28 <| bl <| lp (τ := (List Bool) × Int) (fun ⟨x29, x30⟩ => [(1, .slice A01 n01 c01), (2, pv g2), (7, .slice A21 n22 c23), (8, .slice (some ⟨g25, 0, none⟩) (([true, true, true, true, true, true] : List Bool).length) (([true, true, true, true, true, true] : List Bool).length)), (25, .slice A21 n22 c23), (26, I64 (x16.length : Int)), (27, I64 x30)]) (fun ⟨x29, x30⟩ => [(0, .mem M0), (102, .blk g2 33 [I64 u0, I64 u1, I64 u2, I64 u3, U32 u4, U32 u5, U32 u6, U32 u7, U32 u8, U32 u9, .slice A00_10 n00_10 c00_10]), (120, .own 3 (Lay.sz Int) A21 n22 c23 (cel x16)), (125, .own 4 (Lay.sz Bool) (some ⟨g25, 0, none⟩) (([true, true, true, true, true, true] : List Bool).length) (([true, true, true, true, true, true] : List Bool).length) (cel x29))]) (fun q31 ⟨x29, x30⟩ => m_shards_Rebuild_l2 u0 u1 u10 u2 u3 u4 u5 u6 u7 u8 u9 x01 x16 q31 x29 x30 = some res) ⟨([true, true, true, true, true, true] : List Bool), (0 : Int)⟩ ?_ (by simp [m_shards_Rebuild_l2]) ?_
  ·exact h
  rintro q31 ⟨x29, x30⟩ h _ k32
  unfold m_shards_Rebuild_l2 at h
  refine sr fun _ k33 => ya (lss rfl rfl) <| dz k33 <| sq fun _ k34 => cI h rfl (fun hc35 h => ?_) fun hc35 h => ?_
  ·refine ss <| k34 _ _ <| sq fun _ k36 => bl <| sr fun _ k37 => bd h fun x38 hx38 h => ya (idxC (xs := x16) sty_38 rfl rfl (rO 120 rfl) hx38) <| ya (loadC0 (xs := x16) scal_3 rfl (rO 120 rfl) hx38 rfl) <| ak rfl k37 <| rg fun _ k39 => ?_
   obtain ⟨x40, hx40, h⟩ := bnd h
   obtain ⟨x41, hx41, h⟩ := bnd h
   refine mv rfl <| mv rfl <| ya (idxC (xs := x29) sty_64 rfl rfl (rO 125 rfl) hx40) <| WL.eff0 (Eff0.storeC1 125 (xs := x29) (a' := false) siz_4 rfl rfl rfl rfl rfl rfl hx41) <| dz k39 <| bn <| tn <| k36 _ _ <| rg fun _ k42 => bd h fun x43 hx43 h => ya (addC rfl rfl hx43) <| mv rfl <| dz k42 <| tn <| kw (k32 ⟨x41, x43⟩ h)
  exact xi <| te <| te <| bx <| tn <| kw (k27 x29 h)
 rintro x26 h
 unfold m_shards_Rebuild_j1 at h
 refine sr fun _ k44 => bd h fun x45 hx45 h => mv rfl <| mv rfl <| WL.freeze 125 rfl rfl rfl fun M57 hm_M57 hf58 => WL.eff (by decide) (Eff.callM 151 rfl Try.func20 nm_20 rfl rfl rfl (w_rs_Restore _ A01 n01 c01 rs01 _ (SlRc.lift hf01 hm_M57) (Rels.lift hq01 hm_M57) (some ⟨g25, 0, none⟩) (([true, true, true, true, true, true] : List Bool).length) (([true, true, true, true, true, true] : List Bool).length) _ hf58 hx45)) ?_
 rintro _ _ ⟨M59, _, ⟨A60, n61, c62, rs63, rfl, rfl, hq64⟩, hm_M59, rfl⟩
 refine mv rfl <| ya (extract rfl rfl) <| ya (extract rfl rfl) <| asn rfl <| ak rfl k44 <| sq fun _ k65 => sr fun _ k66 => mv rfl <| ya (neqI rfl rfl) <| dz k66 <| cnn h rfl bne_eq_false_iff_eq.2 bne_iff_ne.2 (fun hc67 h => ?_) fun hc67 h => ?_
 ·refine ss <| k65 _ _ <| sq fun _ k68 => sr fun _ k69 => bd h fun x70 hx70 h => ya (loadBM (k := 102) agg_33 rfl rfl rfl) <| mv rfl <| c1 174 Try.func19 rfl (fun w hb hh => w_shards_Head_damaged (Mem.snap w) u0 u1 u2 u3 u4 u5 u6 u7 u8 u9 A00_10 n00_10 c00_10 _ (RdH.sn (mM rfl (SlRc.lift (SlRc.lift hf00_10 hm_M57) hm_M59)) w hb hh) A60 n61 c62 rs63 _ (RdH.sn (rO 151 rfl) w hb hh) (Rels.sn hq64 (hh.sat 0 _ rfl)) hx70) fun A75 n76 c77 => ya (lenC (xs := x70) und_38 rfl (rO 174 rfl)) <| ya (gtr rfl rfl) <| dz k69 <| cI h rfl (fun hc78 h => ?_) fun hc78 h => ?_
  ·refine sr fun _ k79 => asn rfl <| asn rfl <| ak rfl k79 <| re <| tr <| QK.nilOwn 180 24 (Lay.sz Hdr) none <| QK.nilOwn 181 3 (Lay.sz Int) none ?_
   obtain rfl := si h
   exact rt [180, 181] (ResIs.three rfl rfl rfl rfl) (Ext.trans hm_M57 hm_M59) ⟨none, 0, 0, ([] : List Hdr), none, 0, 0, rfl, rfl, (Rels.nil (R := (RelB (α := BitVec 8)) M59))⟩
  refine ss <| k68 _ _ <| sr fun _ k82 => mv rfl <| mv rfl <| asn rfl <| asn rfl <| ak rfl k82 <| re ?_
  obtain rfl := si h
  exact rt [151, 120] (ResIs.three rfl rfl rfl rfl) (Ext.trans hm_M57 hm_M59) ⟨A60, n61, c62, rs63, A21, n22, c23, rfl, rfl, hq64⟩
 refine sr fun _ k83 => mv rfl <| asn rfl <| asn rfl <| ak rfl k83 <| re <| tr <| QK.nilOwn 184 24 (Lay.sz Hdr) none <| QK.nilOwn 185 3 (Lay.sz Int) none ?_
 obtain rfl := si h
 exact rt [184, 185] (ResIs.three rfl rfl rfl rfl) (Ext.trans hm_M57 hm_M59) ⟨none, 0, 0, ([] : List Hdr), none, 0, 0, rfl, rfl, (Rels.nil (R := (RelB (α := BitVec 8)) M59))⟩
theorem und_22 : Try.prog.underlying 22 = some (.slice 48) := by kernel_rfl
theorem und_50 : Try.prog.underlying 50 = some (.slice 76) := by kernel_rfl
theorem bu_56_0_1_2_3 : ∀ (a0 : BitVec 64) (a1 : BitVec 32) (a2 : Int) (a3 : Int), Try.prog.built 56 [(0, U64 a0), (1, U32 a1), (2, I64 a2), (3, I64 a3)] = some ([U64 a0, U32 a1, I64 a2, I64 a3] : List Value).toArray := fun a0 a1 a2 a3 => by kernel_rfl
theorem bu_76_0_1 : ∀ (a0 : Int) (a1_0 : BitVec 64) (a1_1 : BitVec 32) (a1_2 : Bool) (a1_3 : Option Addr) (n1_3 c1_3 : Nat), Try.prog.built 76 [(0, I64 a0), (1, .agg ([U64 a1_0, U32 a1_1, .bool a1_2, .slice a1_3 n1_3 c1_3] : List Value).toArray)] = some ([I64 a0, U64 a1_0, U32 a1_1, .bool a1_2, .slice a1_3 n1_3 c1_3] : List Value).toArray := fun a0 a1_0 a1_1 a1_2 a1_3 n1_3 c1_3 => by kernel_rfl
theorem nm_11 : (Try.f11.name == "runtime.NumGoroutine") = false := by kernel_rfl
theorem nm_12 : (Try.f12.name == "runtime.NumGoroutine") = false := by kernel_rfl
theorem nm_27 : (Try.f27.name == "runtime.NumGoroutine") = false := by kernel_rfl
theorem nm_29 : (Try.f29.name == "runtime.NumGoroutine") = false := by kernel_rfl
theorem nm_4 : (Try.f4.name == "runtime.NumGoroutine") = false := by kernel_rfl
theorem nm_5 : (Try.f5.name == "runtime.NumGoroutine") = false := by kernel_rfl
theorem nm_6 : (Try.f6.name == "runtime.NumGoroutine") = false := by kernel_rfl
theorem nz_48 : (Try.prog.info? 48).map (fun i => decide (i.size = 0)) = some false := by kernel_rfl
theorem siz_46 : (Try.prog.info? 46).map (·.size) = some 1 := by kernel_rfl
theorem sty_22 : STy Try.prog 22 48 (.agg #[(U64 0#64), (U32 0#32), (.bool false), (.slice none 0 0)]) 4 40 := STy.of und_22 (by kernel_rfl) rfl
theorem sty_50 : STy Try.prog 50 76 (.agg #[(I64 0), (U64 0#64), (U32 0#32), (.bool false), (.slice none 0 0)]) 5 48 := STy.of und_50 (by kernel_rfl) rfl
structure Rapi_Needle where
 x : Sapi_Needle
 h0 : Hdr
instance : Lay Rapi_Needle := ⟨4, fun r => [U64 r.x.fKey, U32 r.x.fCookie, .bool r.x.fDeleted, .slice r.h0.A r.h0.n r.h0.c], fun _ => rfl, fun _ u h => by simp only [List.mem_cons, List.not_mem_nil, or_false] at h; rcases h with rfl | rfl | rfl | rfl <;> rfl, by decide⟩
def rel_api_Needle (M : Mem) (r : Rapi_Needle) (x : Sapi_Needle) : Prop := x = r.x /\ (RelB (α := BitVec 8)) M r.h0 x.fData
instance : Mono rel_api_Needle := ⟨fun ⟨h0, h1⟩ hm => ⟨h0, Mono.mono h1 hm⟩⟩
structure Rneedlestoreref09_Record where
 x : Sneedlestoreref09_Record
 h0 : Hdr
instance : Lay Rneedlestoreref09_Record := ⟨5, fun r => [I64 r.x.fOff, U64 r.x.fNeedle.fKey, U32 r.x.fNeedle.fCookie, .bool r.x.fNeedle.fDeleted, .slice r.h0.A r.h0.n r.h0.c], fun _ => rfl, fun _ u h => by simp only [List.mem_cons, List.not_mem_nil, or_false] at h; rcases h with rfl | rfl | rfl | rfl | rfl <;> rfl, by decide⟩
def rel_needlestoreref09_Record (M : Mem) (r : Rneedlestoreref09_Record) (x : Sneedlestoreref09_Record) : Prop := x = r.x /\ (RelB (α := BitVec 8)) M r.h0 x.fNeedle.fData
instance : Mono rel_needlestoreref09_Record := ⟨fun ⟨h0, h1⟩ hm => ⟨h0, Mono.mono h1 hm⟩⟩
theorem w_r09_Records (M0 : Mem) (A00 : Option Addr) (n00 c00 : Nat) (x00 : By) (hf00 : SlT M0 A00 n00 c00 x00) (x01 : Int) {res : (List Sneedlestoreref09_Record) × Int} (h : m_r09_Records x00 x01 = some res) :
  Fn Try.prog 27 #[.slice A00 n00 c00, I64 x01] M0 fun r M' es => ∃ (A1 : Option Addr) (n1 c1 : Nat), ∃ rs1 : List Rneedlestoreref09_Record, r = .tuple #[.slice A1 n1 c1, I64 res.2] /\ es = [.own 76 (Lay.sz Rneedlestoreref09_Record) A1 n1 c1 (cel rs1)] /\ Rels (rel_needlestoreref09_Record M') rs1 res.1 := by
 refine Fn.intro (N := 35) Try.func27 rfl rfl (nle rfl) fun w0 => ?_
 unfold m_r09_Records at h
 refine sr fun _ k1 => asn rfl <| ak rfl k1 <| sr fun _ k2 => ak rfl k2 <| ct (σ := Mem × Int × (Option Addr) × Nat × Nat × (List Sneedlestoreref09_Record) × (List Rneedlestoreref09_Record)) (fun ⟨M3, x4, A7, n8, c9, x10, rs11⟩ => [(1, I64 x4), (6, .slice A7 n8 c9)]) (fun ⟨M3, x4, A7, n8, c9, x10, rs11⟩ => [(0, .mem M3), (106, .own 76 (Lay.sz Rneedlestoreref09_Record) A7 n8 c9 (cel rs11))]) (fun ⟨M3, x4, A7, n8, c9, x10, rs11⟩ => m_r09_Records_j0 x4 x10 = some res /\ Ext w0.heap.size M0 M3 /\ Rels (rel_needlestoreref09_Record M3) rs11 x10) (fun _ k13 => ?_) ?_
 ·refine bl <| WC.nilOwn 117 76 (Lay.sz Rneedlestoreref09_Record) none <| lp (τ := Mem × Int × (Option Addr) × Nat × Nat × (List Sneedlestoreref09_Record) × (List Rneedlestoreref09_Record)) (fun ⟨M14, x15, A18, n19, c20, x21, rs22⟩ => [(0, .slice A00 n00 c00), (1, I64 x15), (6, .slice A18 n19 c20)]) (fun ⟨M14, x15, A18, n19, c20, x21, rs22⟩ => [(0, .mem M14), (117, .own 76 (Lay.sz Rneedlestoreref09_Record) A18 n19 c20 (cel rs22))]) (fun q24 ⟨M14, x15, A18, n19, c20, x21, rs22⟩ => m_r09_Records_l1 x00 q24 x15 x21 = some res /\ Ext w0.heap.size M0 M14 /\ Rels (rel_needlestoreref09_Record M14) rs22 x21) ⟨M0, x01, none, 0, 0, ([] : List Sneedlestoreref09_Record), ([] : List Rneedlestoreref09_Record)⟩ ?_ (by simp [m_r09_Records_l1]) ?_
  ·exact ⟨h, (Ext.refl _ _), (Rels.nil (R := rel_needlestoreref09_Record M0))⟩
  rintro q24 ⟨M14, x15, A18, n19, c20, x21, rs22⟩ ⟨h, hm_M14, hq23⟩ _ k25
  unfold m_r09_Records_l1 at h
  refine sq fun _ k26 => sr fun _ k27 => mv rfl <| mv rfl <| ya (lenC (xs := x00) und_24 rfl (mM rfl (SlRc.lift hf00 hm_M14))) <| ya (leq rfl rfl) <| dz k27 <| cI h rfl (fun hc28 h => ?_) fun hc28 h => ?_
  ·refine ss <| k26 _ _ <| bl <| sr fun _ k29 => ?_
   obtain ⟨x30, hx30, h⟩ := bnd h
   obtain ⟨x31, hx31, h⟩ := bnd h
   refine mv rfl <| mv rfl <| ya (sliceLC (xs := x00) sty_24 rfl rfl (mM rfl (SlRc.lift hf00 hm_M14)) hx30) <| c1 135 Try.func47 rfl (fun w hb hh => w_r06_Decode (Mem.snap w) (subA A00 c00 (x15).toNat (Lay.sz (BitVec 8))) x30.length (c00 - (x15).toNat) _ (RdH.sn (RdT.slc (mM rfl (SlRc.lift hf00 hm_M14)) hx30) w hb hh) hx31) fun A36 n37 c38 => mv rfl <| ya (extract rfl rfl) <| ya (extract rfl rfl) <| ya (extract rfl rfl) <| al 139 zr_48 fun g39 => sb 139 agg_48 rfl rfl rfl <| asn rfl <| ak rfl k29 <| sq fun _ k40 => sr fun _ k41 => mv rfl <| ya (neqI rfl rfl) <| dz k41 <| cnn h rfl bne_eq_false_iff_eq.2 bne_iff_ne.2 (fun hc42 h => ?_) fun hc42 h => ?_
   ·refine ss <| k40 _ _ <| sr fun _ k43 => bd h fun x48 hx48 h => mv rfl <| mv rfl <| ya (loadBM (k := 139) agg_48 rfl rfl rfl) <| ya (build rfl (bu_76_0_1 x15 x31.1 x31.2.1 x31.2.2.1 A36 n37 c38)) <| WL.freeze 135 rfl rfl rfl fun M45 hm_M45 hf46 => ?_
    have hq47 : Rels (rel_needlestoreref09_Record M45) ([(Rneedlestoreref09_Record.mk (Sneedlestoreref09_Record.mk x15 (Sapi_Needle.mk x31.1 x31.2.1 x31.2.2.1 x31.2.2.2.1)) (⟨A36, n37, c38⟩ : Hdr))] : List Rneedlestoreref09_Record) ([(Sneedlestoreref09_Record.mk x15 (Sapi_Needle.mk x31.1 x31.2.1 x31.2.2.1 x31.2.2.2.1))] : List Sneedlestoreref09_Record) := (Rels.cons ⟨rfl, hf46⟩ Rels.nil)
    refine WL.eff (by decide) (Eff.buildCA 144 ([(Rneedlestoreref09_Record.mk (Sneedlestoreref09_Record.mk x15 (Sapi_Needle.mk x31.1 x31.2.1 x31.2.2.1 x31.2.2.2.1)) (⟨A36, n37, c38⟩ : Hdr))] : List Rneedlestoreref09_Record) sty_50 rfl rfl rfl (by decide)) ?_
    rintro _ _ ⟨g44, rfl, rfl⟩
    obtain ⟨hu51, hq52⟩ := Rels.apd (Rels.lift hq23 hm_M45) hq47 hx48
    refine ap 117 (xs := rs22) (ys := ([(Rneedlestoreref09_Record.mk (Sneedlestoreref09_Record.mk x15 (Sapi_Needle.mk x31.1 x31.2.1 x31.2.2.1 x31.2.2.2.1)) (⟨A36, n37, c38⟩ : Hdr))] : List Rneedlestoreref09_Record)) sty_50 rfl rfl rfl (rO 144 rfl) hu51 fun A49 c50 => ak rfl k43 <| rg fun _ k53 => bd h fun x54 hx54 h => mv rfl <| mv rfl <| ya (addC rfl rfl hx54) <| ak rfl k53 <| bn <| tn <| kw (k25 ⟨M45, x54, A49, (rs22 ++ ([(Rneedlestoreref09_Record.mk (Sneedlestoreref09_Record.mk x15 (Sapi_Needle.mk x31.1 x31.2.1 x31.2.2.1 x31.2.2.2.1)) (⟨A36, n37, c38⟩ : Hdr))] : List Rneedlestoreref09_Record)).length, c50, x48, (rs22 ++ ([(Rneedlestoreref09_Record.mk (Sneedlestoreref09_Record.mk x15 (Sapi_Needle.mk x31.1 x31.2.1 x31.2.2.1 x31.2.2.2.1)) (⟨A36, n37, c38⟩ : Hdr))] : List Rneedlestoreref09_Record))⟩ ⟨h, (Ext.trans hm_M14 hm_M45), hq52⟩)
   exact xi <| te <| bo <| te <| bx <| tn <| KK.move 117 106 rfl rfl <| kw (k13 ⟨M14, x15, A18, n19, c20, x21, rs22⟩ ⟨h, hm_M14, hq23⟩)
  exact xi <| te <| te <| bx <| tn <| KK.move 117 106 rfl rfl <| kw (k13 ⟨M14, x15, A18, n19, c20, x21, rs22⟩ ⟨h, hm_M14, hq23⟩)
 rintro ⟨M3, x4, A7, n8, c9, x10, rs11⟩ ⟨h, hm_M3, hq12⟩
 unfold m_r09_Records_j0 at h
 refine sr fun _ k55 => mv rfl <| mv rfl <| asn rfl <| ak rfl k55 <| re ?_
 obtain rfl := si h
 exact rt [106] (ResIs.two rfl rfl rfl) hm_M3 ⟨A7, n8, c9, rs11, rfl, rfl, hq12⟩
theorem w_r09_Open (M0 : Mem) (A00 : Option Addr) (n00 c00 : Nat) (x00 : By) (hf00 : SlT M0 A00 n00 c00 x00) {res : Int × Int × Int × (List Sneedlestoreref09_Record) × Int × Int} (h : m_r09_Open x00 = some res) :
  Fn Try.prog 11 #[.slice A00 n00 c00] M0 fun r M' es => ∃ (A1 : Option Addr) (n1 c1 : Nat), ∃ rs1 : List Rneedlestoreref09_Record, r = .tuple #[.agg ([I64 res.1, I64 res.2.1, I64 res.2.2.1] : List Value).toArray, .slice A1 n1 c1, I64 res.2.2.2.2.1, I64 res.2.2.2.2.2] /\ es = [.own 76 (Lay.sz Rneedlestoreref09_Record) A1 n1 c1 (cel rs1)] /\ Rels (rel_needlestoreref09_Record M') rs1 res.2.2.2.1 := by
 refine Fn.intro (N := 27) Try.func11 rfl rfl (nle rfl) fun w0 => ?_
 unfold m_r09_Open at h
 refine sr fun _ k1 => al 102 zr_26 fun g2 => asn rfl <| asn rfl <| ak rfl k1 <| sr fun _ k3 => bd h fun x4 hx4 h => mv rfl <| c0 Try.func26 rfl (fun w hb hh => w_r07_Decode (Mem.snap w) A00 n00 c00 _ (sM rfl hf00 w hb hh) hx4) <| mv rfl <| ya (extract rfl rfl) <| ya (extract rfl rfl) <| al 106 zr_26 fun g6 => sb 106 agg_26 rfl rfl rfl <| ak rfl k3 <| sq fun _ k7 => sr fun _ k8 => mv rfl <| ya (neqI rfl rfl) <| dz k8 <| cnn h rfl bne_eq_false_iff_eq.2 bne_iff_ne.2 (fun hc9 h => ?_) fun hc9 h => ?_
 ·refine ss <| k7 _ _ <| sr fun _ k10 => bd h fun x11 hx11 h => mv rfl <| WL.eff (by decide) (Eff.callM 117 rfl Try.func27 nm_27 rfl rfl rfl (w_r09_Records _ A00 n00 c00 _ hf00 (16 : Int) hx11)) ?_
  rintro _ _ ⟨M23, _, ⟨A24, n25, c26, rs27, rfl, rfl, hq28⟩, hm_M23, rfl⟩
  refine mv rfl <| ya (extract rfl rfl) <| ya (extract rfl rfl) <| asn rfl <| ak rfl k10 <| sr fun _ k29 => ya (loadBM (k := 106) agg_26 rfl rfl rfl) <| mv rfl <| mv rfl <| sb 102 agg_26 rfl rfl rfl <| asn rfl <| asn rfl <| ak rfl k29 <| re ?_
  obtain rfl := si h
  exact rt [117] (ResIs.cellTmp3M (k := 102) rfl agg_26 rfl rfl rfl rfl rfl rfl) hm_M23 ⟨A24, n25, c26, rs27, rfl, rfl, hq28⟩
 refine sr fun _ k30 => ya (build rfl (bu_26_)) <| mv rfl <| sb 102 agg_26 rfl rfl rfl <| asn rfl <| asn rfl <| ak rfl k30 <| re <| tr <| QK.nilOwn 131 76 (Lay.sz Rneedlestoreref09_Record) none ?_
 obtain rfl := si h
 exact rt [131] (ResIs.cellTmp3M (k := 102) rfl agg_26 rfl rfl rfl rfl rfl rfl) (Ext.refl _ _) ⟨none, 0, 0, ([] : List Rneedlestoreref09_Record), rfl, rfl, (Rels.nil (R := rel_needlestoreref09_Record M0))⟩
theorem w_r09_Items (M0 : Mem) (A00 : Option Addr) (n00 c00 : Nat) (rs00 : List Rneedlestoreref09_Record) (x00 : List Sneedlestoreref09_Record) (hf00 : SlT M0 A00 n00 c00 rs00) (hq00 : Rels (rel_needlestoreref09_Record M0) rs00 x00) {res : (List Sapi_Item)} (h : m_r09_Items x00 = some res) :
  Fn Try.prog 12 #[.slice A00 n00 c00] M0 fun r M' es => ∃ (A1 : Option Addr) (n1 c1 : Nat), r = .slice A1 n1 c1 /\ es = [.own 56 (Lay.sz Sapi_Item) A1 n1 c1 (cel res)] := by
 refine Fn.intro (N := 39) Try.func12 rfl rfl (nle rfl) fun w0 => ?_
 unfold m_r09_Items at h
 refine sr fun _ k1 => ak rfl k1 <| sr fun _ k2 => ak rfl k2 <| ct (σ := (Option Addr) × Nat × Nat × (List Sapi_Item)) (fun ⟨A5, n6, c7, x8⟩ => [(3, .slice A5 n6 c7)]) (fun ⟨A5, n6, c7, x8⟩ => [(0, .mem M0), (104, .own 56 (Lay.sz Sapi_Item) A5 n6 c7 (cel x8))]) (fun ⟨A5, n6, c7, x8⟩ => m_r09_Items_j0 x8 = some res) (fun _ k9 => ?_) ?_
 ·refine sr fun _ k10 => ak rfl k10 <| bl <| WC.nilOwn 112 56 (Lay.sz Sapi_Item) none <| lp (τ := (Option Addr) × Nat × Nat × (List Sapi_Item) × Int) (fun ⟨A13, n14, c15, x16, x17⟩ => [(0, .slice A00 n00 c00), (3, .slice A13 n14 c15), (4, I64 x17)]) (fun ⟨A13, n14, c15, x16, x17⟩ => [(0, .mem M0), (112, .own 56 (Lay.sz Sapi_Item) A13 n14 c15 (cel x16))]) (fun q18 ⟨A13, n14, c15, x16, x17⟩ => m_r09_Items_l1 x00 q18 x16 x17 = some res) ⟨none, 0, 0, ([] : List Sapi_Item), (0 : Int)⟩ ?_ (by simp [m_r09_Items_l1]) ?_
  ·exact h
  rintro q18 ⟨A13, n14, c15, x16, x17⟩ h _ k19
  unfold m_r09_Items_l1 at h
  refine sq fun _ k20 => sr fun _ k21 => mv rfl <| mv rfl <| ya (lenD (rs := rs00) (xs := x00) (Rels.len hq00) und_50 rfl (mM rfl hf00)) <| ya (lss rfl rfl) <| dz k21 <| cI h rfl (fun hc22 h => ?_) fun hc22 h => ?_
  ·refine ss <| k20 _ _ <| sq fun _ k23 => bl <| sr fun _ k24 => bd h fun x25 hx25 h => mv rfl <| mv rfl ?_
   obtain ⟨⟨_, r_26_0⟩, hr27, rfl, hq28_0⟩ := Rels.idx hq00 hx25
   refine ya (idxC (xs := rs00) sty_50 rfl rfl (mM rfl hf00) hr27) <| ya (fieldAddrC Try.underlying76 rfl nz_48 rfl rfl) <| ya (loadAP (xs := rs00) (j := 1) agg_48 rfl (mM rfl hf00) hr27 rfl rfl) <| al 129 zr_48 fun g29 => sb 129 agg_48 rfl rfl rfl <| dz k24 <| sr fun _ k30 => ya (fieldAddr Try.underlying48 rfl nz_4 rfl rfl) <| ya (loadB (k := 129) scal_4 rfl rfl rfl) <| dz k30 <| cnd h rfl id Bool.eq_false_iff.2 (fun hc31 h => ?_) fun hc31 h => ?_
   ·refine rg fun _ k32 => bd h fun x33 hx33 h => mv rfl <| ya (fieldAddr Try.underlying48 rfl nz_46 rfl rfl) <| ya (loadB (k := 129) scal_46 rfl rfl rfl) <| c1 137 Try.func28 rfl (fun w hb hh => w_r08_Drop (Mem.snap w) A13 n14 c15 _ (RdH.sn (rO 112 rfl) w hb hh) x25.fNeedle.fKey hx33) fun A38 n39 c40 => ak rfl k32 <| bn <| tn <| k23 _ _ <| rg fun _ k41 => bd h fun x42 hx42 h => mv rfl <| ya (addC rfl rfl hx42) <| ak rfl k41 <| tn <| KK.move 137 112 rfl rfl <| kw (k19 ⟨A38, n39, c40, x33, x42⟩ h)
   refine rd [(0, _), (112, _), (129, _)] mixed fun _ k43 => ?_
   obtain ⟨x44, hx44, h⟩ := bnd h
   obtain ⟨x48, hx48, h⟩ := bnd h
   refine dm 0 rfl rfl <| du 1 rfl (fieldAddr Try.underlying48 rfl nz_46 rfl rfl) <| du 2 rfl (loadB (k := 129) scal_46 rfl rfl rfl) <| du 3 rfl (fieldAddr Try.underlying48 rfl nz_23 rfl rfl) <| du 4 rfl (loadB (k := 129) scal_23 rfl rfl rfl) <| dm 5 rfl rfl <| dm 6 rfl rfl ?_
   obtain ⟨⟨_, r_45_0⟩, hr46, rfl, hq47_0⟩ := Rels.idx hq00 hx44
   refine du 7 rfl (idxC (xs := rs00) sty_50 rfl rfl (mM rfl hf00) hr46) <| du 8 rfl (fieldAddrC Try.underlying76 rfl nz_2 rfl rfl) <| du 9 rfl (loadC (xs := rs00) (j := 0) scal_2 rfl (mM rfl hf00) hr46 rfl rfl) <| du 10 rfl (fieldAddr Try.underlying48 rfl nz_24 rfl rfl) <| du 11 rfl (loadB (k := 129) scal_24 rfl rfl rfl) <| du 12 rfl (lenC (xs := x25.fNeedle.fData) und_24 rfl (mM rfl hq28_0)) <| du 13 rfl (build rfl (bu_56_0_1_2_3 x25.fNeedle.fKey x25.fNeedle.fCookie x44.fOff (x25.fNeedle.fData.length : Int))) <| on 14 <| WS.eff rfl (by decide) (Eff.callS 152 rfl Try.func29 nm_29 rfl rfl (fun w hb hh => w_r08_Put (Mem.snap w) A13 n14 c15 _ (RdH.sn (rO 112 rfl) w hb hh) x25.fNeedle.fKey x25.fNeedle.fCookie x44.fOff (x25.fNeedle.fData.length : Int) hx48)) ?_
   rintro _ _ ⟨_, ⟨A53, n54, c55, rfl, rfl⟩, rfl⟩
   refine aq ?_
   refine du 15 rfl (Yld.assign rfl) <| dd <| k43 _ _ <| bn <| tn <| k23 _ _ <| rg fun _ k56 => bd h fun x57 hx57 h => mv rfl <| ya (addC rfl rfl hx57) <| ak rfl k56 <| tn <| KK.move 152 112 rfl rfl <| kw (k19 ⟨A53, n54, c55, x48, x57⟩ h)
  exact xi <| te <| te <| bx <| tn <| KK.move 112 104 rfl rfl <| kw (k9 ⟨A13, n14, c15, x16⟩ h)
 rintro ⟨A5, n6, c7, x8⟩ h
 unfold m_r09_Items_j0 at h
 refine sr fun _ k58 => mv rfl <| ak rfl k58 <| re ?_
 obtain rfl := si h
 exact rt [104] (ResIs.one rfl rfl) (Ext.refl _ _) ⟨A5, n6, c7, rfl, rfl⟩
theorem w_law17_file (M0 : Mem) (A00 : Option Addr) (n00 c00 : Nat) (rs00 : List Rapi_Needle) (x00 : List Sapi_Needle) (hf00 : SlT M0 A00 n00 c00 rs00) (hq00 : Rels (rel_api_Needle M0) rs00 x00) {res : By × Int × Int × Int × (List Sapi_Item)} (h : m_law17_file x00 = some res) :
  Fn Try.prog 4 #[.slice A00 n00 c00] M0 fun r M' es => ∃ (A1 : Option Addr) (n1 c1 : Nat), ∃ (A2 : Option Addr) (n2 c2 : Nat), r = .tuple #[.slice A1 n1 c1, .agg ([I64 res.2.1, I64 res.2.2.1, I64 res.2.2.2.1] : List Value).toArray, .slice A2 n2 c2] /\ es = [.own 56 (Lay.sz Sapi_Item) A2 n2 c2 (cel res.2.2.2.2)] /\ SlT M' A1 n1 c1 res.1 := by
 refine Fn.intro (N := 73) Try.func4 rfl rfl (nle rfl) fun w0 => ?_
 unfold m_law17_file at h
 refine sr fun _ k1 => asn rfl <| al 102 zr_26 fun g2 => ak rfl k1 <| sr fun _ k3 => ya (build rfl (bu_26_0_1_2 (1 : Int) (2 : Int) (3 : Int))) <| al 104 zr_26 fun g4 => sb 104 agg_26 rfl rfl rfl <| dz k3 <| sr fun _ k5 => bd h fun x6 hx6 h => ya (loadBM (k := 104) agg_26 rfl rfl rfl) <| c1 110 Try.func9 rfl (fun w hb hh => w_r07_Encode (Mem.snap w) (1 : Int) (2 : Int) (3 : Int) hx6) fun A11 n12 c13 => mv rfl <| ya (extract rfl rfl) <| ya (extract rfl rfl) <| asn rfl <| ak rfl k5 <| ct (σ := (Option Addr) × Nat × Nat × By) (fun ⟨A14, n15, c16, x17⟩ => [(3, pv g2), (5, pv g4), (6, .slice A14 n15 c16)]) (fun ⟨A14, n15, c16, x17⟩ => [(0, .mem M0), (102, .blk g2 26 [I64 (0 : Int), I64 (0 : Int), I64 (0 : Int)]), (104, .blk g4 26 [I64 (1 : Int), I64 (2 : Int), I64 (3 : Int)]), (110, .own 5 (Lay.sz (BitVec 8)) A14 n15 c16 (cel x17))]) (fun ⟨A14, n15, c16, x17⟩ => m_law17_file_j0 x17 = some res) (fun _ k18 => ?_) ?_
 ·refine sr fun _ k19 => ak rfl k19 <| bl <| lp (τ := (Option Addr) × Nat × Nat × By × Int) (fun ⟨A20, n21, c22, x23, x24⟩ => [(0, .slice A00 n00 c00), (3, pv g2), (5, pv g4), (6, .slice A20 n21 c22), (8, I64 x24)]) (fun ⟨A20, n21, c22, x23, x24⟩ => [(0, .mem M0), (102, .blk g2 26 [I64 (0 : Int), I64 (0 : Int), I64 (0 : Int)]), (104, .blk g4 26 [I64 (1 : Int), I64 (2 : Int), I64 (3 : Int)]), (110, .own 5 (Lay.sz (BitVec 8)) A20 n21 c22 (cel x23))]) (fun q25 ⟨A20, n21, c22, x23, x24⟩ => m_law17_file_l1 x00 q25 x23 x24 = some res) ⟨A11, n12, c13, x6.1, (0 : Int)⟩ ?_ (by simp [m_law17_file_l1]) ?_
  ·exact h
  rintro q25 ⟨A20, n21, c22, x23, x24⟩ h _ k26
  unfold m_law17_file_l1 at h
  refine ct (σ := Unit) (fun _ => [(0, .slice A00 n00 c00), (3, pv g2), (5, pv g4), (6, .slice A20 n21 c22), (8, I64 x24)]) (fun _ => [(0, .mem M0), (102, .blk g2 26 [I64 (0 : Int), I64 (0 : Int), I64 (0 : Int)]), (104, .blk g4 26 [I64 (1 : Int), I64 (2 : Int), I64 (3 : Int)]), (110, .own 5 (Lay.sz (BitVec 8)) A20 n21 c22 (cel x23))]) (fun _ => m_law17_file_j2 x00 x23 x24 (m_law17_file_l1 x00 q25) = some res) (fun _ k27 => ?_) ?_
  ·refine sr fun _ k28 => mv rfl <| mv rfl <| ya (lenD (rs := rs00) (xs := x00) (Rels.len hq00) und_22 rfl (mM rfl hf00)) <| ya (lss rfl rfl) <| mv rfl <| spl h decide_eq_true decide_eq_false (fun hc29 h => ?_) fun hc29 h => ?_
   ·refine mvg rfl <| yg (lss rfl rfl) <| pt rfl rfl <| dz k28 <| cI h rfl (fun hc30 h => ?_) fun hc30 h => ?_
    ·exact WC.skip <| tn <| kw (k27 () h)
    exact xi <| te <| te <| bx <| tn <| kw (k18 ⟨A20, n21, c22, x23⟩ h)
   exact sk <| sk <| pf rfl rfl <| dz k28 <| cdF rfl <| xi <| te <| te <| bx <| tn <| kw (k18 ⟨A20, n21, c22, x23⟩ h)
  rintro _ h
  unfold m_law17_file_j2 at h
  refine sq fun _ k31 => bl <| sr fun _ k32 => bd h fun x33 hx33 h => mv rfl <| mv rfl ?_
  obtain ⟨⟨_, r_34_0⟩, hr35, rfl, hq36_0⟩ := Rels.idx hq00 hx33
  refine ya (idxC (xs := rs00) sty_22 rfl rfl (mM rfl hf00) hr35) <| ya (loadA (xs := rs00) agg_48 rfl (mM rfl hf00) hr35 rfl) <| al 137 zr_48 fun g37 => sb 137 agg_48 rfl rfl rfl <| dz k32 <| ct (σ := (Option Addr) × Nat × Nat × By) (fun ⟨A38, n39, c40, x41⟩ => [(0, .slice A00 n00 c00), (3, pv g2), (5, pv g4), (6, .slice A20 n21 c22), (8, I64 x24), (9, pv g37)]) (fun ⟨A38, n39, c40, x41⟩ => [(0, .mem M0), (102, .blk g2 26 [I64 (0 : Int), I64 (0 : Int), I64 (0 : Int)]), (104, .blk g4 26 [I64 (1 : Int), I64 (2 : Int), I64 (3 : Int)]), (110, .own 5 (Lay.sz (BitVec 8)) A20 n21 c22 (cel x23)), (137, .blk g37 48 [U64 x33.fKey, U32 x33.fCookie, .bool x33.fDeleted, .slice A38 n39 c40])]) (fun ⟨A38, n39, c40, x41⟩ => m_law17_file_j3 x23 x24 x33 (m_law17_file_l1 x00 q25) x41 = some res /\ SlT M0 A38 n39 c40 x41) (fun _ k43 => ?_) ?_
  ·refine sr fun _ k44 => ya (fieldAddr Try.underlying48 rfl nz_24 rfl rfl) <| ya (loadB (k := 137) scal_24 rfl rfl rfl) <| ya (lenC (xs := x33.fData) und_24 rfl (mM rfl hq36_0)) <| ya (gtr rfl rfl) <| dz k44 <| cI h rfl (fun hc45 h => ?_) fun hc45 h => ?_
   ·refine rg fun _ k46 => bd h fun x47 hx47 h => ya (fieldAddr Try.underlying48 rfl nz_24 rfl rfl) <| ya (loadB (k := 137) scal_24 rfl rfl rfl) <| ya (sliceHC (xs := x33.fData) sty_24 rfl rfl (mM rfl hq36_0) hx47) <| ya (fieldAddr Try.underlying48 rfl nz_24 rfl rfl) <| WL.eff0 (Eff0.storeB 137 siz_24 rfl rfl rfl rfl (nle rfl)) <| dz k46 <| tn <| kw (k43 ⟨r_34_0.A, x47.length, r_34_0.c, x47⟩ ⟨h, (SlT.slc0 hq36_0 hx47)⟩)
   exact WC.skip <| tn <| kw (k43 ⟨r_34_0.A, r_34_0.n, r_34_0.c, x33.fData⟩ ⟨h, hq36_0⟩)
  rintro ⟨A38, n39, c40, x41⟩ ⟨h, hf42⟩
  unfold m_law17_file_j3 at h
  refine ct (σ := (Option Addr) × Nat × Nat × By) (fun ⟨A48, n49, c50, x51⟩ => [(0, .slice A00 n00 c00), (3, pv g2), (5, pv g4), (6, .slice A20 n21 c22), (8, I64 x24), (9, pv g37)]) (fun ⟨A48, n49, c50, x51⟩ => [(0, .mem M0), (102, .blk g2 26 [I64 (0 : Int), I64 (0 : Int), I64 (0 : Int)]), (104, .blk g4 26 [I64 (1 : Int), I64 (2 : Int), I64 (3 : Int)]), (110, .own 5 (Lay.sz (BitVec 8)) A20 n21 c22 (cel x23)), (137, .blk g37 48 [U64 x33.fKey, U32 x33.fCookie, .bool x33.fDeleted, .slice A48 n49 c50])]) (fun ⟨A48, n49, c50, x51⟩ => m_law17_file_j4 x23 x24 x33 (m_law17_file_l1 x00 q25) x51 = some res /\ SlT M0 A48 n49 c50 x51) (fun _ k53 => ?_) ?_
  ·refine sr fun _ k54 => ya (fieldAddr Try.underlying48 rfl nz_4 rfl rfl) <| ya (loadB (k := 137) scal_4 rfl rfl rfl) <| dz k54 <| cnd h rfl id Bool.eq_false_iff.2 (fun hc55 h => ?_) fun hc55 h => ?_
   ·exact rg fun _ k56 => ya (fieldAddr Try.underlying48 rfl nz_24 rfl rfl) <| WL.eff0 (Eff0.storeB 137 siz_24 rfl rfl rfl rfl (nle rfl)) <| dz k56 <| tn <| kw (k53 ⟨none, 0, 0, ([] : By)⟩ ⟨h, SlT.nil⟩)
   exact WC.skip <| tn <| kw (k53 ⟨A38, n39, c40, x41⟩ ⟨h, hf42⟩)
  rintro ⟨A48, n49, c50, x51⟩ ⟨h, hf52⟩
  unfold m_law17_file_j4 at h
  refine sq fun _ k57 => sr fun _ k58 => ya (fieldAddr Try.underlying48 rfl nz_46 rfl rfl) <| ya (loadB (k := 137) scal_46 rfl rfl rfl) <| ya (gtr_u64 (a := x33.fKey) (b := 1000#64) rfl rfl) <| dz k58 <| cI h rfl (fun hc59 h => ?_) fun hc59 h => ?_
  ·refine rg fun _ k60 => ya (fieldAddr Try.underlying48 rfl nz_46 rfl rfl) <| ya (loadB (k := 137) scal_46 rfl rfl rfl) <| ya (and_u64 (a := x33.fKey) (b := 15#64) rfl rfl) <| ya (fieldAddr Try.underlying48 rfl nz_46 rfl rfl) <| WL.eff0 (Eff0.storeB 137 siz_46 rfl rfl rfl rfl (nle rfl)) <| dz k60 <| tn <| k57 _ _ <| sr fun _ k61 => bd h fun x62 hx62 h => ya (loadBM (k := 137) agg_48 rfl rfl rfl) <| c1 166 Try.func10 rfl (fun w hb hh => w_r06_Encode (Mem.snap w) (x33.fKey &&& 15#64) x33.fCookie x33.fDeleted A48 n49 c50 _ (sM rfl hf52 w hb hh) hx62) fun A67 n68 c69 => mv rfl <| ya (extract rfl rfl) <| ya (extract rfl rfl) <| asn rfl <| ak rfl k61 <| rg fun _ k70 => bd h fun x71 hx71 h => mv rfl <| mv rfl <| ap 110 (xs := x23) (ys := x62.1) sty_24 rfl rfl rfl (rO 166 rfl) hx71 fun A72 c73 => ak rfl k70 <| bn <| tn <| k31 _ _ <| rg fun _ k74 => bd h fun x75 hx75 h => mv rfl <| ya (addC rfl rfl hx75) <| ak rfl k74 <| tn <| kw (k26 ⟨A72, x71.length, c73, x71, x75⟩ h)
  refine ss <| k57 _ _ <| sr fun _ k76 => bd h fun x77 hx77 h => ya (loadBM (k := 137) agg_48 rfl rfl rfl) <| c1 181 Try.func10 rfl (fun w hb hh => w_r06_Encode (Mem.snap w) x33.fKey x33.fCookie x33.fDeleted A48 n49 c50 _ (sM rfl hf52 w hb hh) hx77) fun A82 n83 c84 => mv rfl <| ya (extract rfl rfl) <| ya (extract rfl rfl) <| asn rfl <| ak rfl k76 <| rg fun _ k85 => bd h fun x86 hx86 h => mv rfl <| mv rfl <| ap 110 (xs := x23) (ys := x77.1) sty_24 rfl rfl rfl (rO 181 rfl) hx86 fun A87 c88 => ak rfl k85 <| bn <| tn <| k31 _ _ <| rg fun _ k89 => bd h fun x90 hx90 h => mv rfl <| ya (addC rfl rfl hx90) <| ak rfl k89 <| tn <| kw (k26 ⟨A87, x86.length, c88, x86, x90⟩ h)
 rintro ⟨A14, n15, c16, x17⟩ h
 unfold m_law17_file_j0 at h
 refine sr fun _ k91 => bd h fun x92 hx92 h => mv rfl <| WL.freeze 110 rfl rfl rfl fun M104 hm_M104 hf105 => WL.eff (by decide) (Eff.callM 198 rfl Try.func11 nm_11 rfl rfl rfl (w_r09_Open _ A14 n15 c16 _ hf105 hx92)) ?_
 rintro _ _ ⟨M106, _, ⟨A107, n108, c109, rs110, rfl, rfl, hq111⟩, hm_M106, rfl⟩
 refine mv rfl <| ya (extract rfl rfl) <| ya (extract rfl rfl) <| ya (extract rfl rfl) <| ya (extract rfl rfl) <| al 212 zr_26 fun g112 => sb 212 agg_26 rfl rfl rfl <| asn rfl <| asn rfl <| ak rfl k91 <| sd [(0, _), (104, _), (198, _), (212, _)] mixed fun _ k113 => bd h fun x114 hx114 h => dm 0 rfl rfl <| du 1 rfl (loadBM (k := 104) agg_26 rfl rfl rfl) <| dm 2 rfl rfl <| on 3 <| WS.eff rfl (by decide) (Eff.callS 218 rfl Try.func12 nm_12 rfl rfl (fun w hb hh => w_r09_Items (Mem.snap w) A107 n108 c109 rs110 _ (RdH.sn (rO 198 rfl) w hb hh) (Rels.sn hq111 (hh.sat 0 _ rfl)) hx114)) ?_
 rintro _ _ ⟨_, ⟨A119, n120, c121, rfl, rfl⟩, rfl⟩
 refine aq ?_
 refine du 4 rfl (Yld.assign rfl) <| on 5 <| ds 102 rfl agg_26 rfl rfl rfl <| du 6 rfl (Yld.assign rfl) <| dd <| k113 _ _ <| re ?_
 obtain rfl := si h
 exact rt [218] (ResIs.tmpCellTmpM (k := 102) rfl agg_26 rfl rfl rfl rfl rfl) (Ext.trans hm_M104 hm_M106) ⟨A14, n15, c16, A119, n120, c121, rfl, rfl, (SlRc.lift hf105 hm_M106)⟩
theorem w_law17_awake (M0 : Mem)  {res : Bool} (h : m_law17_awake = some res) :
  Fn Try.prog 8 #[] M0 fun r M' es => r = .bool res /\ es = [] := by
 refine Fn.intro (N := 60) Try.func8 rfl rfl (nle rfl) fun w0 => ?_
 unfold m_law17_awake at h
 refine sr fun _ k1 => ak rfl k1 <| sr fun _ k2 => bd h fun x3 hx3 h => WL.eff (by decide) (Eff.callM 111 rfl Try.func4 nm_4 rfl rfl rfl (w_law17_file _ none 0 0 ([] : List Rapi_Needle) _ SlT.nil (Rels.nil (R := rel_api_Needle M0)) hx3)) ?_
 rintro _ _ ⟨M19, _, ⟨A20, n21, c22, A24, n25, c26, rfl, rfl, hf23⟩, hm_M19, rfl⟩
 refine mv rfl <| ya (extract rfl rfl) <| ya (extract rfl rfl) <| ya (extract rfl rfl) <| al 127 zr_26 fun g27 => asn rfl <| sb 127 agg_26 rfl rfl rfl <| ak rfl k2 <| sr fun _ k28 => bd h fun x29 hx29 h => mv rfl <| ya (loadBM (k := 127) agg_26 rfl rfl rfl) <| WL.eff (by decide) (Eff.callM 138 rfl Try.func5 nm_5 rfl rfl rfl (w_shards_Make _ A20 n21 c22 _ hf23 x3.2.1 x3.2.2.1 x3.2.2.2.1 none 0 0 _ SlT.nil hx29)) ?_
 rintro _ _ ⟨M48, _, ⟨A49, n50, c51, rs52, A54, n55, c56, rfl, rfl, hq53⟩, hm_M48, rfl⟩
 refine mv rfl <| ya (extract rfl rfl) <| ya (extract rfl rfl) <| ya (extract rfl rfl) <| al 157 zr_33 fun g57 => asn rfl <| sb 157 agg_33 rfl rfl rfl <| ak rfl k28 <| sr fun _ k58 => bd h fun x59 hx59 h => ya (loadBM (k := 157) agg_33 rfl rfl rfl) <| WL.freeze 139 rfl rfl rfl fun M78 hm_M78 hf79 => WL.eff (by decide) (Eff.callM 168 rfl Try.func6 nm_6 rfl rfl rfl (w_shards_Rebuild _ x29.2.1 x29.2.2.1 x29.2.2.2.1 x29.2.2.2.2.1 x29.2.2.2.2.2.1 x29.2.2.2.2.2.2.1 x29.2.2.2.2.2.2.2.1 x29.2.2.2.2.2.2.2.2.1 x29.2.2.2.2.2.2.2.2.2.1 x29.2.2.2.2.2.2.2.2.2.2.1 A54 n55 c56 _ hf79 none 0 0 ([] : List Hdr) _ SlT.nil (Rels.nil (R := (RelB (α := BitVec 8)) M78)) hx59)) ?_
 rintro _ _ ⟨M80, _, ⟨A81, n82, c83, rs84, A86, n87, c88, rfl, rfl, hq85⟩, hm_M80, rfl⟩
 refine mv rfl <| ya (extract rfl rfl) <| ya (extract rfl rfl) <| ya (extract rfl rfl) <| asn rfl <| asn rfl <| ak rfl k58 <| sd [(111, _), (127, _), (138, _), (157, _), (168, _), (169, _)] mixed fun _ k89 => ?_
 obtain ⟨x91, hx91, h⟩ := bnd h
 obtain ⟨x94, hx94, h⟩ := bnd h
 refine du 0 rfl (loadBM (k := 157) agg_33 rfl rfl rfl) <| on 1 ?_
 obtain ⟨hu92, hq93⟩ := Rels.mks (R := (RelB (α := BitVec 8)) M80) (r := (⟨none, 0, 0⟩ : Hdr)) hx91 RelB.nil
 refine WS.eff rfl (by decide) (Eff.makeC 190 (⟨none, 0, 0⟩ : Hdr) sty_30 rfl rfl rfl rfl rfl rfl hu92) ?_
 rintro _ _ ⟨g90, rfl, rfl⟩
 refine aq ?_
 refine on 2 <| WS.freeze 190 rfl rfl rfl rfl rfl fun M113 hm_M113 hf114 => WS.eff rfl (by decide) (Eff.callM 203 rfl Try.func6 nm_6 rfl rfl rfl (w_shards_Rebuild _ x29.2.1 x29.2.2.1 x29.2.2.2.1 x29.2.2.2.2.1 x29.2.2.2.2.2.1 x29.2.2.2.2.2.2.1 x29.2.2.2.2.2.2.2.1 x29.2.2.2.2.2.2.2.2.1 x29.2.2.2.2.2.2.2.2.2.1 x29.2.2.2.2.2.2.2.2.2.2.1 A54 n55 c56 _ (SlRc.lift (SlRc.lift hf79 hm_M80) hm_M113) (some ⟨g90, 0, none⟩) ((List.replicate ((6 : Int)).toNat (⟨none, 0, 0⟩ : Hdr)).length) ((List.replicate ((6 : Int)).toNat (⟨none, 0, 0⟩ : Hdr)).length) (List.replicate ((6 : Int)).toNat (⟨none, 0, 0⟩ : Hdr)) _ hf114 (Rels.lift hq93 hm_M113) hx94)) ?_
 rintro _ _ ⟨M115, _, ⟨A116, n117, c118, rs119, A121, n122, c123, rfl, rfl, hq120⟩, hm_M115, rfl⟩
 refine aq ?_
 refine dm 3 rfl rfl <| du 4 rfl (extract rfl rfl) <| du 5 rfl (extract rfl rfl) <| du 6 rfl (extract rfl rfl) <| du 7 rfl (Yld.assign rfl) <| du 8 rfl (Yld.assign rfl) <| du 9 rfl (Yld.assign rfl) <| dd <| k89 _ _ <| sr fun _ k124 => mv rfl <| ya (eqlI rfl rfl) <| mv rfl <| spl h beq_iff_eq.2 beq_eq_false_iff_ne.2 (fun hc125 h => ?_) fun hc125 h => ?_
 ·refine mvg rfl <| yg (lenD (rs := rs52) (xs := x29.1) (Rels.len (Rels.lift (Rels.lift (Rels.lift (Rels.lift hq53 hm_M78) hm_M80) hm_M113) hm_M115)) und_30 rfl (rO 138 rfl)) <| yg (eqlI rfl rfl) <| pt rfl rfl <| mv rfl <| spl h beq_iff_eq.2 beq_eq_false_iff_ne.2 (fun hc126 h => ?_) fun hc126 h => ?_
  ·obtain ⟨x127, hx127, h⟩ := bnd h
   refine mvg rfl ?_
   obtain ⟨r_128, hr129, hq130⟩ := Rels.idx (Rels.lift (Rels.lift (Rels.lift (Rels.lift hq53 hm_M78) hm_M80) hm_M113) hm_M115) hx127
   refine yg (idxC (xs := rs52) sty_30 rfl rfl (rO 138 rfl) hr129) <| yg (loadC0 (xs := rs52) scal_24 rfl (rO 138 rfl) hr129 rfl) <| yg (lenC (xs := x127) und_24 rfl (mM rfl hq130)) <| yg (eqlI rfl rfl) <| pt rfl rfl <| mv rfl <| spl h beq_iff_eq.2 beq_eq_false_iff_ne.2 (fun hc131 h => ?_) fun hc131 h => ?_
   ·refine mvg rfl <| yg (eqlI rfl rfl) <| pt rfl rfl <| mv rfl <| spl h beq_iff_eq.2 beq_eq_false_iff_ne.2 (fun hc132 h => ?_) fun hc132 h => ?_
    ·refine mvg rfl <| yg (eqlI rfl rfl) <| pt rfl rfl <| ak rfl k124 <| re ?_
     obtain rfl := si h
     exact rt [] (ResIs.one rfl rfl) (Ext.trans (Ext.trans (Ext.trans (Ext.trans (Ext.trans hm_M19 hm_M48) hm_M78) hm_M80) hm_M113) hm_M115) ⟨rfl, rfl⟩
    refine sk <| sk <| pf rfl rfl <| ak rfl k124 <| re ?_
    obtain rfl := si h
    exact rt [] (ResIs.one rfl rfl) (Ext.trans (Ext.trans (Ext.trans (Ext.trans (Ext.trans hm_M19 hm_M48) hm_M78) hm_M80) hm_M113) hm_M115) ⟨rfl, rfl⟩
   refine sk <| sk <| pf rfl rfl <| mv rfl <| sk <| sk <| pf rfl rfl <| ak rfl k124 <| re ?_
   obtain rfl := si h
   exact rt [] (ResIs.one rfl rfl) (Ext.trans (Ext.trans (Ext.trans (Ext.trans (Ext.trans hm_M19 hm_M48) hm_M78) hm_M80) hm_M113) hm_M115) ⟨rfl, rfl⟩
  refine sk <| sk <| sk <| sk <| sk <| pf rfl rfl <| mv rfl <| sk <| sk <| pf rfl rfl <| mv rfl <| sk <| sk <| pf rfl rfl <| ak rfl k124 <| re ?_
  obtain rfl := si h
  exact rt [] (ResIs.one rfl rfl) (Ext.trans (Ext.trans (Ext.trans (Ext.trans (Ext.trans hm_M19 hm_M48) hm_M78) hm_M80) hm_M113) hm_M115) ⟨rfl, rfl⟩
 refine sk <| sk <| sk <| pf rfl rfl <| mv rfl <| sk <| sk <| sk <| sk <| sk <| pf rfl rfl <| mv rfl <| sk <| sk <| pf rfl rfl <| mv rfl <| sk <| sk <| pf rfl rfl <| ak rfl k124 <| re ?_
 obtain rfl := si h
 exact rt [] (ResIs.one rfl rfl) (Ext.trans (Ext.trans (Ext.trans (Ext.trans (Ext.trans hm_M19 hm_M48) hm_M78) hm_M80) hm_M113) hm_M115) ⟨rfl, rfl⟩
end Go.Proofs.Ythjnhlmfcejhkaa
