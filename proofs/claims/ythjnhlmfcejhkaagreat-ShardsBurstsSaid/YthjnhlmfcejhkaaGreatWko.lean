/- A part of the proof. Conditions: as each theorem says. -/
import Derived.Test.YthjnhlmfcejhkaaGreatWkh
import Derived.Test.YthjnhlmfcejhkaaGreatMdr
import Derived.Test.YthjnhlmfcejhkaaGreatX19
namespace Go.Proofs.YthjnhlmfcejhkaaGreat
set_option maxRecDepth 10000
open Go Go.RowKit Yld
set_option linter.unusedVariables false
theorem und_32 : Tryz.prog.underlying 32 = some (.array 6 31) := by kernel_rfl
theorem agg_32 : Agg Tryz.prog 32 6 := ⟨⟨_, Tryz.underlying32, rfl⟩, by kernel_rfl⟩
theorem agg_34 : Agg Tryz.prog 34 11 := ⟨⟨_, Tryz.underlying34, rfl⟩, by kernel_rfl⟩
theorem bu_34_ : Tryz.prog.built 34 [] = some ([I64 (0 : Int), I64 (0 : Int), I64 (0 : Int), I64 (0 : Int), U32 0#32, U32 0#32, U32 0#32, U32 0#32, U32 0#32, U32 0#32, .slice none 0 0] : List Value).toArray := by kernel_rfl
theorem bu_34_0_1 : ∀ (a0_0 : Int) (a0_1 : Int) (a0_2 : Int) (a1 : Int), Tryz.prog.built 34 [(0, .agg ([I64 a0_0, I64 a0_1, I64 a0_2] : List Value).toArray), (1, I64 a1)] = some ([I64 a0_0, I64 a0_1, I64 a0_2, I64 a1, U32 0#32, U32 0#32, U32 0#32, U32 0#32, U32 0#32, U32 0#32, .slice none 0 0] : List Value).toArray := fun a0_0 a0_1 a0_2 a1 => by kernel_rfl
theorem nm_49 : (Tryz.f49.name == "runtime.NumGoroutine") = false := by kernel_rfl
theorem nm_51 : (Tryz.f51.name == "runtime.NumGoroutine") = false := by kernel_rfl
theorem nz_32 : (Tryz.prog.info? 32).map (fun i => decide (i.size = 0)) = some false := by kernel_rfl
theorem siz_25 : (Tryz.prog.info? 25).map (·.size) = some 1 := by kernel_rfl
theorem siz_31 : (Tryz.prog.info? 31).map (·.size) = some 1 := by kernel_rfl
theorem zr_34 : (Tryz.prog.info? 34).map (fun i => i.zero.map (·.cells)) = some (some ([I64 (0 : Int), I64 (0 : Int), I64 (0 : Int), I64 (0 : Int), U32 0#32, U32 0#32, U32 0#32, U32 0#32, U32 0#32, U32 0#32, .slice none 0 0] : List Value).toArray) := by kernel_rfl
theorem w_shards_sum (M0 : Mem) (A00 : Option Addr) (n00 c00 : Nat) (x00 : By) (hf00 : SlT M0 A00 n00 c00 x00) {res : By} (h : m_shards_sum x00 = some res) :
  Fn Tryz.prog 51 #[.slice A00 n00 c00] M0 fun r M' es => ∃ (A1 : Option Addr) (n1 c1 : Nat), r = .slice A1 n1 c1 /\ es = [.own 5 (Lay.sz (BitVec 8)) A1 n1 c1 (cel res)] := by
 refine Fn.intro (N := 18) Tryz.func51 rfl rfl (nle rfl) fun w0 => ?_
 unfold m_shards_sum at h
 refine sr fun _ k1 => ak rfl k1 <| sr fun _ k2 => bd h fun x3 hx3 h => mv rfl <| c0 Tryz.func39 rfl (fun w hb hh => w_crc32c_Sum (Mem.snap w) A00 n00 c00 _ (sM rfl hf00 w hb hh) hx3) <| ak rfl k2 <| sr fun _ k5 => mv rfl <| ya (conv_u32_u8 (a := x3) some_31 und_5 rfl) <| mv rfl <| ya (shrU_u32 (a := x3) (m := 8) rfl rfl) <| ya (conv_u32_u8 (a := (x3 >>> 8)) some_31 und_5 rfl) <| mv rfl <| ya (shrU_u32 (a := x3) (m := 16) rfl rfl) <| ya (conv_u32_u8 (a := (x3 >>> 16)) some_31 und_5 rfl) <| mv rfl <| ya (shrU_u32 (a := x3) (m := 24) rfl rfl) <| ya (conv_u32_u8 (a := (x3 >>> 24)) some_31 und_5 rfl) <| WL.eff (by decide) (Eff.buildC 106 ([x3.setWidth 8, (x3 >>> 8).setWidth 8, (x3 >>> 16).setWidth 8, (x3 >>> 24).setWidth 8] : By) sty_22 rfl rfl rfl rfl rfl (by decide)) ?_
 rintro _ _ ⟨g6, rfl, rfl⟩
 refine ak rfl k5 <| re ?_
 obtain rfl := si h
 exact rt [106] (ResIs.one rfl rfl) (Ext.refl _ _) ⟨(some ⟨g6, 0, none⟩), ([x3.setWidth 8, (x3 >>> 8).setWidth 8, (x3 >>> 16).setWidth 8, (x3 >>> 24).setWidth 8] : By).length, ([x3.setWidth 8, (x3 >>> 8).setWidth 8, (x3 >>> 16).setWidth 8, (x3 >>> 24).setWidth 8] : By).length, rfl, rfl⟩
theorem w_shards_number (M0 : Mem) (A00 : Option Addr) (n00 c00 : Nat) (x00 : By) (hf00 : SlT M0 A00 n00 c00 x00) {res : Int} (h : m_shards_number x00 = some res) :
  Fn Tryz.prog 62 #[.slice A00 n00 c00] M0 fun r M' es => r = I64 res /\ es = [] := by
 refine Fn.intro (N := 19) Tryz.func62 rfl rfl (nle rfl) fun w0 => ?_
 unfold m_shards_number at h
 refine sr fun _ k1 => ak rfl k1 <| sr fun _ k2 => ak rfl k2 <| ct (σ := Int) (fun x3 => [(3, I64 x3)]) (fun x3 => [(0, .mem M0)]) (fun x3 => m_shards_number_j0 x3 = some res) (fun _ k4 => ?_) ?_
 ·refine sr fun _ k5 => mv rfl <| ya (lenC (xs := x00) und_22 rfl (mM rfl hf00)) <| mv rfl <| dz k5 <| bl <| lp (τ := Int × Int) (fun ⟨x6, x7⟩ => [(3, I64 x6), (6, .slice A00 n00 c00), (7, I64 (x00.length : Int)), (8, I64 x7)]) (fun ⟨x6, x7⟩ => [(0, .mem M0)]) (fun q8 ⟨x6, x7⟩ => m_shards_number_l1 x00 q8 x6 x7 = some res) ⟨(0 : Int), (0 : Int)⟩ ?_ (by simp [m_shards_number_l1]) ?_
  ·exact h
  rintro q8 ⟨x6, x7⟩ h _ k9
  unfold m_shards_number_l1 at h
  refine sr fun _ k10 => ya (lss rfl rfl) <| dz k10 <| sq fun _ k11 => cI h rfl (fun hc12 h => ?_) fun hc12 h => ?_
  ·refine ss <| k11 _ _ <| sq fun _ k13 => bl <| sr fun _ k14 => bd h fun x15 hx15 h => ya (idxC (xs := x00) sty_22 rfl rfl (mM rfl hf00) hx15) <| ya (loadC0 (xs := x00) scal_5 rfl (mM rfl hf00) hx15 rfl) <| ak rfl k14 <| rg fun _ k16 => mv rfl <| ya (shlWi (s := 8) rfl rfl rfl) <| mv rfl <| ya (conv_u8_i64 (a := x15) some_5 und_2 rfl) <| ya (orC rfl rfl) <| ak rfl k16 <| bn <| tn <| k13 _ _ <| rg fun _ k17 => bd h fun x18 hx18 h => ya (addC rfl rfl hx18) <| mv rfl <| dz k17 <| tn <| kw (k9 ⟨ori (wri (x6 * 2 ^ 8)) (x15.toNat : Int), x18⟩ h)
  exact xi <| te <| te <| bx <| tn <| kw (k4 x6 h)
 rintro x3 h
 unfold m_shards_number_j0 at h
 refine sr fun _ k19 => mv rfl <| ak rfl k19 <| re ?_
 obtain rfl := si h
 exact rt0 (ResIs.one rfl rfl)
theorem w_shards_fields (M0 : Mem) (A00 : Option Addr) (n00 c00 : Nat) (x00 : By) (hf00 : SlT M0 A00 n00 c00 x00) {res : Int × Int × Int × Int × (BitVec 32) × (BitVec 32) × (BitVec 32) × (BitVec 32) × (BitVec 32) × (BitVec 32) × (List Sapi_Item)} (h : m_shards_fields x00 = some res) :
  Fn Tryz.prog 65 #[.slice A00 n00 c00] M0 fun r M' es => ∃ (A1 : Option Addr) (n1 c1 : Nat), r = .agg ([I64 res.1, I64 res.2.1, I64 res.2.2.1, I64 res.2.2.2.1, U32 res.2.2.2.2.1, U32 res.2.2.2.2.2.1, U32 res.2.2.2.2.2.2.1, U32 res.2.2.2.2.2.2.2.1, U32 res.2.2.2.2.2.2.2.2.1, U32 res.2.2.2.2.2.2.2.2.2.1, .slice A1 n1 c1] : List Value).toArray /\ es = [.own 59 (Lay.sz Sapi_Item) A1 n1 c1 (cel res.2.2.2.2.2.2.2.2.2.2)] := by
 refine Fn.intro (N := 38) Tryz.func65 rfl rfl (nle rfl) fun w0 => ?_
 unfold m_shards_fields at h
 refine sr fun _ k1 => al 102 zr_34 fun g2 => dz k1 <| ctd [(0, _), (102, _)] (σ := Nat × Int × Int × Int × Int) (fun ⟨g3, x4, x5, x6, x7⟩ => [(0, .slice A00 n00 c00), (2, pv g2), (3, pv g3)]) (fun ⟨g3, x4, x5, x6, x7⟩ => [(0, .mem M0), (102, .blk g2 34 [I64 (0 : Int), I64 (0 : Int), I64 (0 : Int), I64 (0 : Int), U32 0#32, U32 0#32, U32 0#32, U32 0#32, U32 0#32, U32 0#32, .slice none 0 0]), (103, .blk g3 34 [I64 x4, I64 x5, I64 x6, I64 x7, U32 0#32, U32 0#32, U32 0#32, U32 0#32, U32 0#32, U32 0#32, .slice none 0 0])]) (fun ⟨g3, x4, x5, x6, x7⟩ => m_shards_fields_j0 x00 x4 x5 x6 x7 = some res) mixed (fun _ k8 => ?_) ?_
 ·obtain ⟨x10, hx10, h⟩ := bnd h
  obtain ⟨x11, hx11, h⟩ := bnd h
  obtain ⟨x13, hx13, h⟩ := bnd h
  obtain ⟨x14, hx14, h⟩ := bnd h
  obtain ⟨x16, hx16, h⟩ := bnd h
  obtain ⟨x17, hx17, h⟩ := bnd h
  obtain ⟨x19, hx19, h⟩ := bnd h
  obtain ⟨x20, hx20, h⟩ := bnd h
  refine dm 0 rfl rfl <| du 1 rfl (sliceLHC (xs := x00) sty_22 rfl rfl rfl (mM rfl hf00) hx10) <| dm 3 rfl rfl <| du 4 rfl (sliceLHC (xs := x00) sty_22 rfl rfl rfl (mM rfl hf00) hx13) <| dm 6 rfl rfl <| du 7 rfl (sliceLHC (xs := x00) sty_22 rfl rfl rfl (mM rfl hf00) hx16) <| dm 10 rfl rfl <| du 11 rfl (sliceLHC (xs := x00) sty_22 rfl rfl rfl (mM rfl hf00) hx19) <| WD.two 2 14 (by kernel_rfl) ?_ ?_
  ·refine d0 rfl Tryz.func62 rfl (fun w hb hh => w_shards_number (Mem.snap w) (subA A00 c00 ((4 : Int)).toNat (Lay.sz (BitVec 8))) x10.length (c00 - ((4 : Int)).toNat) _ (RdH.sn (RdT.slc (mM rfl hf00) hx10) w hb hh) hx11) <| WD.two 5 14 (by kernel_rfl) ?_ ?_
   ·refine d0 rfl Tryz.func62 rfl (fun w hb hh => w_shards_number (Mem.snap w) (subA A00 c00 ((6 : Int)).toNat (Lay.sz (BitVec 8))) x13.length (c00 - ((6 : Int)).toNat) _ (RdH.sn (RdT.slc (mM rfl hf00) hx13) w hb hh) hx14) <| WD.two 8 14 (by kernel_rfl) ?_ ?_
    ·refine d0 rfl Tryz.func62 rfl (fun w hb hh => w_shards_number (Mem.snap w) (subA A00 c00 ((8 : Int)).toNat (Lay.sz (BitVec 8))) x16.length (c00 - ((8 : Int)).toNat) _ (RdH.sn (RdT.slc (mM rfl hf00) hx16) w hb hh) hx17) <| du 9 rfl (build rfl (bu_24_0_1_2 x11 x14 x17)) <| WD.two 12 14 (by kernel_rfl) ?_ ?_
     ·refine d0 rfl Tryz.func62 rfl (fun w hb hh => w_shards_number (Mem.snap w) (subA A00 c00 ((12 : Int)).toNat (Lay.sz (BitVec 8))) x19.length (c00 - ((12 : Int)).toNat) _ (RdH.sn (RdT.slc (mM rfl hf00) hx19) w hb hh) hx20) <| du 13 rfl (build rfl (bu_34_0_1 x11 x14 x17 x20)) <| on 14 <| WS.eff rfl (by decide) (Eff.alloc 122 rfl zr_34) ?_
      rintro _ _ ⟨g22, rfl, rfl⟩
      refine aq ?_
      exact on 15 <| ds 122 rfl agg_34 rfl rfl rfl <| WD.done (by kernel_rfl) <| KK.move 122 103 rfl rfl <| kw (k8 ⟨g22, x11, x14, x17, x20⟩ h)
     skip
     refine WS.eff rfl (by decide) (Eff.alloc 122 rfl zr_34) ?_
     rintro _ _ ⟨g22, rfl, rfl⟩
     refine aq ?_
     exact on 12 <| d0 rfl Tryz.func62 rfl (fun w hb hh => w_shards_number (Mem.snap w) (subA A00 c00 ((12 : Int)).toNat (Lay.sz (BitVec 8))) x19.length (c00 - ((12 : Int)).toNat) _ (RdH.sn (RdT.slc (mM rfl hf00) hx19) w hb hh) hx20) <| du 13 rfl (build rfl (bu_34_0_1 x11 x14 x17 x20)) <| on 15 <| ds 122 rfl agg_34 rfl rfl rfl <| WD.done (by kernel_rfl) <| KK.move 122 103 rfl rfl <| kw (k8 ⟨g22, x11, x14, x17, x20⟩ h)
    skip
    refine WS.eff rfl (by decide) (Eff.alloc 122 rfl zr_34) ?_
    rintro _ _ ⟨g22, rfl, rfl⟩
    refine aq ?_
    exact on 8 <| d0 rfl Tryz.func62 rfl (fun w hb hh => w_shards_number (Mem.snap w) (subA A00 c00 ((8 : Int)).toNat (Lay.sz (BitVec 8))) x16.length (c00 - ((8 : Int)).toNat) _ (RdH.sn (RdT.slc (mM rfl hf00) hx16) w hb hh) hx17) <| du 9 rfl (build rfl (bu_24_0_1_2 x11 x14 x17)) <| on 12 <| d0 rfl Tryz.func62 rfl (fun w hb hh => w_shards_number (Mem.snap w) (subA A00 c00 ((12 : Int)).toNat (Lay.sz (BitVec 8))) x19.length (c00 - ((12 : Int)).toNat) _ (RdH.sn (RdT.slc (mM rfl hf00) hx19) w hb hh) hx20) <| du 13 rfl (build rfl (bu_34_0_1 x11 x14 x17 x20)) <| on 15 <| ds 122 rfl agg_34 rfl rfl rfl <| WD.done (by kernel_rfl) <| KK.move 122 103 rfl rfl <| kw (k8 ⟨g22, x11, x14, x17, x20⟩ h)
   skip
   refine WS.eff rfl (by decide) (Eff.alloc 122 rfl zr_34) ?_
   rintro _ _ ⟨g22, rfl, rfl⟩
   refine aq ?_
   exact on 5 <| d0 rfl Tryz.func62 rfl (fun w hb hh => w_shards_number (Mem.snap w) (subA A00 c00 ((6 : Int)).toNat (Lay.sz (BitVec 8))) x13.length (c00 - ((6 : Int)).toNat) _ (RdH.sn (RdT.slc (mM rfl hf00) hx13) w hb hh) hx14) <| on 8 <| d0 rfl Tryz.func62 rfl (fun w hb hh => w_shards_number (Mem.snap w) (subA A00 c00 ((8 : Int)).toNat (Lay.sz (BitVec 8))) x16.length (c00 - ((8 : Int)).toNat) _ (RdH.sn (RdT.slc (mM rfl hf00) hx16) w hb hh) hx17) <| du 9 rfl (build rfl (bu_24_0_1_2 x11 x14 x17)) <| on 12 <| d0 rfl Tryz.func62 rfl (fun w hb hh => w_shards_number (Mem.snap w) (subA A00 c00 ((12 : Int)).toNat (Lay.sz (BitVec 8))) x19.length (c00 - ((12 : Int)).toNat) _ (RdH.sn (RdT.slc (mM rfl hf00) hx19) w hb hh) hx20) <| du 13 rfl (build rfl (bu_34_0_1 x11 x14 x17 x20)) <| on 15 <| ds 122 rfl agg_34 rfl rfl rfl <| WD.done (by kernel_rfl) <| KK.move 122 103 rfl rfl <| kw (k8 ⟨g22, x11, x14, x17, x20⟩ h)
  skip
  refine WS.eff rfl (by decide) (Eff.alloc 122 rfl zr_34) ?_
  rintro _ _ ⟨g22, rfl, rfl⟩
  refine aq ?_
  exact on 2 <| d0 rfl Tryz.func62 rfl (fun w hb hh => w_shards_number (Mem.snap w) (subA A00 c00 ((4 : Int)).toNat (Lay.sz (BitVec 8))) x10.length (c00 - ((4 : Int)).toNat) _ (RdH.sn (RdT.slc (mM rfl hf00) hx10) w hb hh) hx11) <| on 5 <| d0 rfl Tryz.func62 rfl (fun w hb hh => w_shards_number (Mem.snap w) (subA A00 c00 ((6 : Int)).toNat (Lay.sz (BitVec 8))) x13.length (c00 - ((6 : Int)).toNat) _ (RdH.sn (RdT.slc (mM rfl hf00) hx13) w hb hh) hx14) <| on 8 <| d0 rfl Tryz.func62 rfl (fun w hb hh => w_shards_number (Mem.snap w) (subA A00 c00 ((8 : Int)).toNat (Lay.sz (BitVec 8))) x16.length (c00 - ((8 : Int)).toNat) _ (RdH.sn (RdT.slc (mM rfl hf00) hx16) w hb hh) hx17) <| du 9 rfl (build rfl (bu_24_0_1_2 x11 x14 x17)) <| on 12 <| d0 rfl Tryz.func62 rfl (fun w hb hh => w_shards_number (Mem.snap w) (subA A00 c00 ((12 : Int)).toNat (Lay.sz (BitVec 8))) x19.length (c00 - ((12 : Int)).toNat) _ (RdH.sn (RdT.slc (mM rfl hf00) hx19) w hb hh) hx20) <| du 13 rfl (build rfl (bu_34_0_1 x11 x14 x17 x20)) <| on 15 <| ds 122 rfl agg_34 rfl rfl rfl <| WD.done (by kernel_rfl) <| KK.move 122 103 rfl rfl <| kw (k8 ⟨g22, x11, x14, x17, x20⟩ h)
 rintro ⟨g3, x4, x5, x6, x7⟩ h
 unfold m_shards_fields_j0 at h
 refine ct (σ := (BitVec 32) × (BitVec 32) × (BitVec 32) × (BitVec 32) × (BitVec 32) × (BitVec 32)) (fun ⟨x23, x24, x25, x26, x27, x28⟩ => [(2, pv g2), (3, pv g3)]) (fun ⟨x23, x24, x25, x26, x27, x28⟩ => [(0, .mem M0), (102, .blk g2 34 [I64 (0 : Int), I64 (0 : Int), I64 (0 : Int), I64 (0 : Int), U32 0#32, U32 0#32, U32 0#32, U32 0#32, U32 0#32, U32 0#32, .slice none 0 0]), (103, .blk g3 34 [I64 x4, I64 x5, I64 x6, I64 x7, U32 x23, U32 x24, U32 x25, U32 x26, U32 x27, U32 x28, .slice none 0 0])]) (fun ⟨x23, x24, x25, x26, x27, x28⟩ => m_shards_fields_j1 x4 x5 x6 x7 x23 x24 x25 x26 x27 x28 = some res) (fun _ k29 => ?_) ?_
 ·refine sr fun _ k30 => mv rfl <| dz k30 <| bl <| lp (τ := (BitVec 32) × (BitVec 32) × (BitVec 32) × (BitVec 32) × (BitVec 32) × (BitVec 32) × Int) (fun ⟨x31, x32, x33, x34, x35, x36, x37⟩ => [(0, .slice A00 n00 c00), (2, pv g2), (3, pv g3), (20, I64 x37)]) (fun ⟨x31, x32, x33, x34, x35, x36, x37⟩ => [(0, .mem M0), (102, .blk g2 34 [I64 (0 : Int), I64 (0 : Int), I64 (0 : Int), I64 (0 : Int), U32 0#32, U32 0#32, U32 0#32, U32 0#32, U32 0#32, U32 0#32, .slice none 0 0]), (103, .blk g3 34 [I64 x4, I64 x5, I64 x6, I64 x7, U32 x31, U32 x32, U32 x33, U32 x34, U32 x35, U32 x36, .slice none 0 0])]) (fun q38 ⟨x31, x32, x33, x34, x35, x36, x37⟩ => m_shards_fields_l2 x00 x4 x5 x6 x7 q38 x31 x32 x33 x34 x35 x36 x37 = some res) ⟨0#32, 0#32, 0#32, 0#32, 0#32, 0#32, (0 : Int)⟩ ?_ (by simp [m_shards_fields_l2]) ?_
  ·exact h
  rintro q38 ⟨x31, x32, x33, x34, x35, x36, x37⟩ h _ k39
  unfold m_shards_fields_l2 at h
  refine sr fun _ k40 => ya (lss rfl rfl) <| dz k40 <| sq fun _ k41 => cI h rfl (fun hc42 h => ?_) fun hc42 h => ?_
  ·refine ss <| k41 _ _ <| sq fun _ k43 => bl <| sr fun _ k44 => mv rfl <| ak rfl k44 <| sr fun _ k45 => ?_
   obtain ⟨x46, hx46, h⟩ := bnd h
   obtain ⟨x47, hx47, h⟩ := bnd h
   refine mv rfl <| ya (mulC rfl rfl hx46) <| ya (addC rfl rfl hx47) <| ak rfl k45 <| rg fun _ k48 => ?_
   obtain ⟨x49, hx49, h⟩ := bnd h
   obtain ⟨x50, hx50, h⟩ := bnd h
   obtain ⟨x51, hx51, h⟩ := bnd h
   obtain ⟨x53, hx53, h⟩ := bnd h
   obtain ⟨x54, hx54, h⟩ := bnd h
   refine mv rfl <| mv rfl <| mv rfl <| mv rfl <| ya (addC rfl rfl hx49) <| ya (sliceLHC (xs := x00) sty_22 rfl rfl rfl (mM rfl hf00) hx50) <| c0 Tryz.func62 rfl (fun w hb hh => w_shards_number (Mem.snap w) (subA A00 c00 (x47).toNat (Lay.sz (BitVec 8))) x50.length (c00 - (x47).toNat) _ (RdH.sn (RdT.slc (mM rfl hf00) hx50) w hb hh) hx51) <| ya (conv_i64_u32 some_2 und_31 rfl) <| ya (fieldAddr Tryz.underlying34 rfl nz_32 rfl rfl) <| ya (idxArrF (xs := ([x31, x32, x33, x34, x35, x36] : List (BitVec 32))) und_32 rfl rfl rfl rfl hx53) <| WL.eff0 (Eff0.storeArrF 103 (xs := ([x31, x32, x33, x34, x35, x36] : List (BitVec 32))) (pre := [I64 x4, I64 x5, I64 x6, I64 x7]) (post := [.slice none 0 0]) (zs := [(x54.getD 0 0#32), (x54.getD 1 0#32), (x54.getD 2 0#32), (x54.getD 3 0#32), (x54.getD 4 0#32), (x54.getD 5 0#32)]) (cs := [I64 x4, I64 x5, I64 x6, I64 x7, U32 (x54.getD 0 0#32), U32 (x54.getD 1 0#32), U32 (x54.getD 2 0#32), U32 (x54.getD 3 0#32), U32 (x54.getD 4 0#32), U32 (x54.getD 5 0#32), .slice none 0 0]) (a' := BitVec.ofInt 32 x51) siz_31 rfl rfl rfl rfl rfl rfl rfl hx54 (eta_getD 0#32 (upd_len hx54 rfl)) rfl) <| dz k48 <| bn <| tn <| k43 _ _ <| rg fun _ k55 => bd h fun x56 hx56 h => ya (addC rfl rfl hx56) <| mv rfl <| dz k55 <| tn <| kw (k39 ⟨(x54.getD 0 0#32), (x54.getD 1 0#32), (x54.getD 2 0#32), (x54.getD 3 0#32), (x54.getD 4 0#32), (x54.getD 5 0#32), x56⟩ h)
  exact xi <| te <| te <| bx <| tn <| kw (k29 ⟨x31, x32, x33, x34, x35, x36⟩ h)
 rintro ⟨x23, x24, x25, x26, x27, x28⟩ h
 unfold m_shards_fields_j1 at h
 refine sr fun _ k57 => ya (loadBM (k := 103) agg_34 rfl rfl rfl) <| sb 102 agg_34 rfl rfl rfl <| dz k57 <| re <| QK.nilOwn 158 59 (Lay.sz Sapi_Item) none ?_
 obtain rfl := si h
 exact rt [158] (ResIs.cellM (k := 102) rfl agg_34 rfl rfl (rfl)) (Ext.refl _ _) ⟨none, 0, 0, rfl, rfl⟩
theorem w_shards_Encode (M0 : Mem) (u0 u1 u2 u3 : Int) (u4 u5 u6 u7 u8 u9 : BitVec 32) (A00_10 : Option Addr) (n00_10 c00_10 : Nat) (u10 : List Sapi_Item) (hf00_10 : SlT M0 A00_10 n00_10 c00_10 u10) {res : By × Int} (h : m_shards_Encode u0 u1 u2 u3 u4 u5 u6 u7 u8 u9 u10 = some res) :
  Fn Tryz.prog 22 #[.agg ([I64 u0, I64 u1, I64 u2, I64 u3, U32 u4, U32 u5, U32 u6, U32 u7, U32 u8, U32 u9, .slice A00_10 n00_10 c00_10] : List Value).toArray] M0 fun r M' es => ∃ (A1 : Option Addr) (n1 c1 : Nat), r = .tuple #[.slice A1 n1 c1, I64 res.2] /\ es = [.own 5 (Lay.sz (BitVec 8)) A1 n1 c1 (cel res.1)] := by
 refine Fn.intro (N := 60) Tryz.func22 rfl rfl (nle rfl) fun w0 => ?_
 unfold m_shards_Encode at h
 refine sr fun _ k1 => bb 102 [I64 u0, I64 u1, I64 u2, I64 u3, U32 u4, U32 u5, U32 u6, U32 u7, U32 u8, U32 u9, .slice A00_10 n00_10 c00_10] rfl fun g2 => asn rfl <| ak rfl k1 <| sq fun _ k3 => sr fun _ k4 => bd h fun x5 hx5 h => ya (loadBM (k := 102) agg_34 rfl rfl rfl) <| c0 Tryz.func24 rfl (fun w hb hh => w_shards_Valid (Mem.snap w) u0 u1 u2 u3 u4 u5 u6 u7 u8 u9 A00_10 n00_10 c00_10 _ (sM rfl hf00_10 w hb hh) hx5) <| ya (notB rfl) <| dz k4 <| cnn h rfl not_f (fun q => not_t (Bool.eq_false_iff.2 q)) (fun hc7 h => ?_) fun hc7 h => ?_
 ·refine ss <| k3 _ _ <| sr fun _ k8 => WL.eff (by decide) (Eff.buildC 109 ([78#8, 73#8, 68#8, 88#8] : By) sty_22 rfl rfl rfl rfl rfl (by decide)) ?_
  rintro _ _ ⟨g9, rfl, rfl⟩
  refine WL.eff (by decide) (Eff.mark 109 und_22 und_5 rfl rfl rfl (by decide)) ?_
  rintro _ _ ⟨rfl, rfl⟩
  refine ya (fieldAddr Tryz.underlying34 rfl nz_24 rfl rfl) <| ya (fieldAddr Tryz.underlying24 rfl nz_3 rfl rfl) <| ya (loadB (k := 102) scal_3 rfl rfl rfl) <| WL.inl (by decide) Tryz.func49 nm_49 rfl rfl (Tri.intro (N := 23) Tryz.func49 rfl rfl (nle rfl) ?_)
  refine sr fun _ k10 => ak rfl k10 <| ct (σ := (Option Addr) × Nat × Nat × By) (fun ⟨A13, n14, c15, x16⟩ => [(0, .slice A13 n14 c15)]) (fun ⟨A13, n14, c15, x16⟩ => [(0, .mem M0), (102, .blk g2 34 [I64 u0, I64 u1, I64 u2, I64 u3, U32 u4, U32 u5, U32 u6, U32 u7, U32 u8, U32 u9, .slice A00_10 n00_10 c00_10]), (109, .ro g9 5 (cel ([78#8, 73#8, 68#8, 88#8] : By))), (112, .own 5 (Lay.sz (BitVec 8)) A13 n14 c15 (cel x16))]) (fun ⟨A13, n14, c15, x16⟩ => m_shards_Encode_j0 u1 u10 u2 u3 u4 u5 u6 u7 u8 u9 x16 = some res) (fun _ k17 => ?_) ?_
  ·refine sr fun _ k18 => mv rfl <| ya (subC (m := (2 : Int)) (n := (1 : Int)) (z := (1 : Int)) rfl rfl (ckl (by decide) (by decide))) <| ak rfl k18 <| bl <| WC.loopPeel (σ := Nat × (Option Addr) × Nat × Nat × By × Int) (fun ⟨q26, A21, n22, c23, x24, x25⟩ => [(0, .slice A21 n22 c23), (1, I64 u0), (7, I64 x25)]) (fun ⟨q26, A21, n22, c23, x24, x25⟩ => [(0, .mem M0), (102, .blk g2 34 [I64 u0, I64 u1, I64 u2, I64 u3, U32 u4, U32 u5, U32 u6, U32 u7, U32 u8, U32 u9, .slice A00_10 n00_10 c00_10]), (109, .ro g9 5 (cel ([78#8, 73#8, 68#8, 88#8] : By))), (120, .own 5 (Lay.sz (BitVec 8)) A21 n22 c23 (cel x24))]) (fun ⟨q26, A21, n22, c23, x24, x25⟩ => m_shards_Encode_l1 u0 u1 u10 u2 u3 u4 u5 u6 u7 u8 u9 q26 x24 x25 = some res) (fun ⟨q26, A21, n22, c23, x24, x25⟩ => q26) forever (fun K27 k27 => ?_) ?_
   ·refine sq fun _ k28 => sr fun _ k29 => mv rfl <| ya (geq rfl rfl) <| dn <| k29 _ _ ?_
    have hc30 : (0 : Int) <= (1 : Int) := by decide
    refine WC.condTe rfl (decide_eq_true hc30) <| ss <| k28 _ _ <| sq fun _ k31 => bl <| rg fun _ k32 => ?_
    obtain ⟨x33, hx33, h⟩ := bnd h
    obtain ⟨x36, hx36, h⟩ := bnd h
    refine mv rfl <| mv rfl <| mv rfl <| ya (mulC (m := (8 : Int)) (n := (1 : Int)) (z := (8 : Int)) rfl rfl (ckl (by decide) (by decide))) <| ya (shrC rfl rfl hx33) <| ya (conv_i64_u8 some_2 und_5 rfl) <| WL.eff (by decide) (Eff.buildC 134 ([BitVec.ofInt 8 x33] : By) sty_22 rfl rfl rfl rfl rfl (by decide)) ?_
    rintro _ _ ⟨g34, rfl, rfl⟩
    refine WL.eff (by decide) (Eff.appendGC 135 (xs := ([78#8, 73#8, 68#8, 88#8] : By)) (ys := ([BitVec.ofInt 8 x33] : By)) sty_22 rfl (RdT.ro (k := 109) rfl (by decide)) rfl (rO 134 rfl) hx36) ?_
    rintro _ _ ⟨A37, c38, rfl, rfl⟩
    refine ak rfl k32 <| bn <| tn <| k31 _ _ <| rg fun _ k39 => mv rfl <| ya (subC (m := (1 : Int)) (n := (1 : Int)) (z := (0 : Int)) rfl rfl (ckl (by decide) (by decide))) <| ak rfl k39 <| tn <| KK.move 135 120 rfl rfl <| k27 ⟨forever, A37, x36.length, c38, x36, (0 : Int)⟩ _ _ ?_ (Nat.lt_succ_self (_ : Nat)) (sc (sc (sc sn))) (sc (sc (sc (sc sn))))
    exact h
   rintro ⟨q26, A21, n22, c23, x24, x25⟩ h K27 k27
   cases q26 with
   | zero => exact absurd h (by simp [m_shards_Encode_l1])
   | succ q26 =>
    unfold m_shards_Encode_l1 at h
    refine sq fun _ k40 => sr fun _ k41 => mv rfl <| ya (geq rfl rfl) <| dz k41 <| cI h rfl (fun hc42 h => ?_) fun hc42 h => ?_
    ·refine ss <| k40 _ _ <| sq fun _ k43 => bl <| rg fun _ k44 => ?_
     obtain ⟨x45, hx45, h⟩ := bnd h
     obtain ⟨x46, hx46, h⟩ := bnd h
     obtain ⟨x48, hx48, h⟩ := bnd h
     refine mv rfl <| mv rfl <| mv rfl <| ya (mulC rfl rfl hx45) <| ya (shrC rfl rfl hx46) <| ya (conv_i64_u8 some_2 und_5 rfl) <| WL.eff (by decide) (Eff.buildC 147 ([BitVec.ofInt 8 x46] : By) sty_22 rfl rfl rfl rfl rfl (by decide)) ?_
     rintro _ _ ⟨g47, rfl, rfl⟩
     refine ap 120 (xs := x24) (ys := ([BitVec.ofInt 8 x46] : By)) sty_22 rfl rfl rfl (rO 147 rfl) hx48 fun A49 c50 => ak rfl k44 <| bn <| tn <| k43 _ _ <| rg fun _ k51 => bd h fun x52 hx52 h => mv rfl <| ya (subC rfl rfl hx52) <| ak rfl k51 <| tn <| k27 ⟨q26, A49, x48.length, c50, x48, x52⟩ _ _ ?_ (Nat.lt_succ_self (_ : Nat)) (sc (sc (sc sn))) (sc (sc (sc (sc sn))))
     exact h
    exact xi <| te <| te <| bx <| tn <| KK.move 120 112 rfl rfl <| kw (k17 ⟨A21, n22, c23, x24⟩ h)
  rintro ⟨A13, n14, c15, x16⟩ h
  unfold m_shards_Encode_j0 at h
  refine sr fun _ k53 => mv rfl <| ak rfl k53 <| re <| Ret.go (ResIs.one rfl rfl) <| ak rfl k8 <| sr fun _ k54 => mv rfl <| ya (fieldAddr Tryz.underlying34 rfl nz_24 rfl rfl) <| ya (fieldAddr Tryz.underlying24 rfl nz_3 rfl rfl) <| ya (loadB (k := 102) scal_3 rfl rfl rfl) <| WL.inl (by decide) Tryz.func49 nm_49 rfl rfl (Tri.intro (N := 23) Tryz.func49 rfl rfl (nle rfl) ?_)
  refine sr fun _ k55 => ak rfl k55 <| ct (σ := (Option Addr) × Nat × Nat × By) (fun ⟨A56, n57, c58, x59⟩ => [(0, .slice A56 n57 c58)]) (fun ⟨A56, n57, c58, x59⟩ => [(0, .mem M0), (102, .blk g2 34 [I64 u0, I64 u1, I64 u2, I64 u3, U32 u4, U32 u5, U32 u6, U32 u7, U32 u8, U32 u9, .slice A00_10 n00_10 c00_10]), (109, .ro g9 5 (cel ([78#8, 73#8, 68#8, 88#8] : By))), (112, .own 5 (Lay.sz (BitVec 8)) A56 n57 c58 (cel x59))]) (fun ⟨A56, n57, c58, x59⟩ => m_shards_Encode_j2 u10 u2 u3 u4 u5 u6 u7 u8 u9 x59 = some res) (fun _ k60 => ?_) ?_
  ·refine sr fun _ k61 => mv rfl <| ya (subC (m := (2 : Int)) (n := (1 : Int)) (z := (1 : Int)) rfl rfl (ckl (by decide) (by decide))) <| ak rfl k61 <| bl <| lp (τ := (Option Addr) × Nat × Nat × By × Int) (fun ⟨A62, n63, c64, x65, x66⟩ => [(0, .slice A62 n63 c64), (1, I64 u1), (7, I64 x66)]) (fun ⟨A62, n63, c64, x65, x66⟩ => [(0, .mem M0), (102, .blk g2 34 [I64 u0, I64 u1, I64 u2, I64 u3, U32 u4, U32 u5, U32 u6, U32 u7, U32 u8, U32 u9, .slice A00_10 n00_10 c00_10]), (109, .ro g9 5 (cel ([78#8, 73#8, 68#8, 88#8] : By))), (112, .own 5 (Lay.sz (BitVec 8)) A62 n63 c64 (cel x65))]) (fun q67 ⟨A62, n63, c64, x65, x66⟩ => m_shards_Encode_l3 u1 u10 u2 u3 u4 u5 u6 u7 u8 u9 q67 x65 x66 = some res) ⟨A13, n14, c15, x16, (1 : Int)⟩ ?_ (by simp [m_shards_Encode_l3]) ?_
   ·exact h
   rintro q67 ⟨A62, n63, c64, x65, x66⟩ h _ k68
   unfold m_shards_Encode_l3 at h
   refine sq fun _ k69 => sr fun _ k70 => mv rfl <| ya (geq rfl rfl) <| dz k70 <| cI h rfl (fun hc71 h => ?_) fun hc71 h => ?_
   ·refine ss <| k69 _ _ <| sq fun _ k72 => bl <| rg fun _ k73 => ?_
    obtain ⟨x74, hx74, h⟩ := bnd h
    obtain ⟨x75, hx75, h⟩ := bnd h
    obtain ⟨x77, hx77, h⟩ := bnd h
    refine mv rfl <| mv rfl <| mv rfl <| ya (mulC rfl rfl hx74) <| ya (shrC rfl rfl hx75) <| ya (conv_i64_u8 some_2 und_5 rfl) <| WL.eff (by decide) (Eff.buildC 176 ([BitVec.ofInt 8 x75] : By) sty_22 rfl rfl rfl rfl rfl (by decide)) ?_
    rintro _ _ ⟨g76, rfl, rfl⟩
    refine ap 112 (xs := x65) (ys := ([BitVec.ofInt 8 x75] : By)) sty_22 rfl rfl rfl (rO 176 rfl) hx77 fun A78 c79 => ak rfl k73 <| bn <| tn <| k72 _ _ <| rg fun _ k80 => bd h fun x81 hx81 h => mv rfl <| ya (subC rfl rfl hx81) <| ak rfl k80 <| tn <| kw (k68 ⟨A78, x77.length, c79, x77, x81⟩ h)
   exact xi <| te <| te <| bx <| tn <| kw (k60 ⟨A62, n63, c64, x65⟩ h)
  rintro ⟨A56, n57, c58, x59⟩ h
  unfold m_shards_Encode_j2 at h
  refine sr fun _ k82 => mv rfl <| ak rfl k82 <| re <| Ret.go (ResIs.one rfl rfl) <| ak rfl k54 <| sr fun _ k83 => mv rfl <| ya (fieldAddr Tryz.underlying34 rfl nz_24 rfl rfl) <| ya (fieldAddr Tryz.underlying24 rfl nz_2 rfl rfl) <| ya (loadB (k := 102) scal_2 rfl rfl rfl) <| WL.inl (by decide) Tryz.func49 nm_49 rfl rfl (Tri.intro (N := 23) Tryz.func49 rfl rfl (nle rfl) ?_)
  refine sr fun _ k84 => ak rfl k84 <| ct (σ := (Option Addr) × Nat × Nat × By) (fun ⟨A85, n86, c87, x88⟩ => [(0, .slice A85 n86 c87)]) (fun ⟨A85, n86, c87, x88⟩ => [(0, .mem M0), (102, .blk g2 34 [I64 u0, I64 u1, I64 u2, I64 u3, U32 u4, U32 u5, U32 u6, U32 u7, U32 u8, U32 u9, .slice A00_10 n00_10 c00_10]), (109, .ro g9 5 (cel ([78#8, 73#8, 68#8, 88#8] : By))), (112, .own 5 (Lay.sz (BitVec 8)) A85 n86 c87 (cel x88))]) (fun ⟨A85, n86, c87, x88⟩ => m_shards_Encode_j4 u10 u3 u4 u5 u6 u7 u8 u9 x88 = some res) (fun _ k89 => ?_) ?_
  ·refine sr fun _ k90 => mv rfl <| ya (subC (m := (4 : Int)) (n := (1 : Int)) (z := (3 : Int)) rfl rfl (ckl (by decide) (by decide))) <| ak rfl k90 <| bl <| lp (τ := (Option Addr) × Nat × Nat × By × Int) (fun ⟨A91, n92, c93, x94, x95⟩ => [(0, .slice A91 n92 c93), (1, I64 u2), (7, I64 x95)]) (fun ⟨A91, n92, c93, x94, x95⟩ => [(0, .mem M0), (102, .blk g2 34 [I64 u0, I64 u1, I64 u2, I64 u3, U32 u4, U32 u5, U32 u6, U32 u7, U32 u8, U32 u9, .slice A00_10 n00_10 c00_10]), (109, .ro g9 5 (cel ([78#8, 73#8, 68#8, 88#8] : By))), (112, .own 5 (Lay.sz (BitVec 8)) A91 n92 c93 (cel x94))]) (fun q96 ⟨A91, n92, c93, x94, x95⟩ => m_shards_Encode_l5 u10 u2 u3 u4 u5 u6 u7 u8 u9 q96 x94 x95 = some res) ⟨A56, n57, c58, x59, (3 : Int)⟩ ?_ (by simp [m_shards_Encode_l5]) ?_
   ·exact h
   rintro q96 ⟨A91, n92, c93, x94, x95⟩ h _ k97
   unfold m_shards_Encode_l5 at h
   refine sq fun _ k98 => sr fun _ k99 => mv rfl <| ya (geq rfl rfl) <| dz k99 <| cI h rfl (fun hc100 h => ?_) fun hc100 h => ?_
   ·refine ss <| k98 _ _ <| sq fun _ k101 => bl <| rg fun _ k102 => ?_
    obtain ⟨x103, hx103, h⟩ := bnd h
    obtain ⟨x104, hx104, h⟩ := bnd h
    obtain ⟨x106, hx106, h⟩ := bnd h
    refine mv rfl <| mv rfl <| mv rfl <| ya (mulC rfl rfl hx103) <| ya (shrC rfl rfl hx104) <| ya (conv_i64_u8 some_2 und_5 rfl) <| WL.eff (by decide) (Eff.buildC 205 ([BitVec.ofInt 8 x104] : By) sty_22 rfl rfl rfl rfl rfl (by decide)) ?_
    rintro _ _ ⟨g105, rfl, rfl⟩
    refine ap 112 (xs := x94) (ys := ([BitVec.ofInt 8 x104] : By)) sty_22 rfl rfl rfl (rO 205 rfl) hx106 fun A107 c108 => ak rfl k102 <| bn <| tn <| k101 _ _ <| rg fun _ k109 => bd h fun x110 hx110 h => mv rfl <| ya (subC rfl rfl hx110) <| ak rfl k109 <| tn <| kw (k97 ⟨A107, x106.length, c108, x106, x110⟩ h)
   exact xi <| te <| te <| bx <| tn <| kw (k89 ⟨A91, n92, c93, x94⟩ h)
  rintro ⟨A85, n86, c87, x88⟩ h
  unfold m_shards_Encode_j4 at h
  refine sr fun _ k111 => mv rfl <| ak rfl k111 <| re <| Ret.go (ResIs.one rfl rfl) <| ak rfl k83 <| sr fun _ k112 => mv rfl <| ya (fieldAddr Tryz.underlying34 rfl nz_2 rfl rfl) <| ya (loadB (k := 102) scal_2 rfl rfl rfl) <| WL.inl (by decide) Tryz.func49 nm_49 rfl rfl (Tri.intro (N := 23) Tryz.func49 rfl rfl (nle rfl) ?_)
  refine sr fun _ k113 => ak rfl k113 <| ct (σ := (Option Addr) × Nat × Nat × By) (fun ⟨A114, n115, c116, x117⟩ => [(0, .slice A114 n115 c116)]) (fun ⟨A114, n115, c116, x117⟩ => [(0, .mem M0), (102, .blk g2 34 [I64 u0, I64 u1, I64 u2, I64 u3, U32 u4, U32 u5, U32 u6, U32 u7, U32 u8, U32 u9, .slice A00_10 n00_10 c00_10]), (109, .ro g9 5 (cel ([78#8, 73#8, 68#8, 88#8] : By))), (112, .own 5 (Lay.sz (BitVec 8)) A114 n115 c116 (cel x117))]) (fun ⟨A114, n115, c116, x117⟩ => m_shards_Encode_j6 u10 u4 u5 u6 u7 u8 u9 x117 = some res) (fun _ k118 => ?_) ?_
  ·refine sr fun _ k119 => mv rfl <| ya (subC (m := (8 : Int)) (n := (1 : Int)) (z := (7 : Int)) rfl rfl (ckl (by decide) (by decide))) <| ak rfl k119 <| bl <| lp (τ := (Option Addr) × Nat × Nat × By × Int) (fun ⟨A120, n121, c122, x123, x124⟩ => [(0, .slice A120 n121 c122), (1, I64 u3), (7, I64 x124)]) (fun ⟨A120, n121, c122, x123, x124⟩ => [(0, .mem M0), (102, .blk g2 34 [I64 u0, I64 u1, I64 u2, I64 u3, U32 u4, U32 u5, U32 u6, U32 u7, U32 u8, U32 u9, .slice A00_10 n00_10 c00_10]), (109, .ro g9 5 (cel ([78#8, 73#8, 68#8, 88#8] : By))), (112, .own 5 (Lay.sz (BitVec 8)) A120 n121 c122 (cel x123))]) (fun q125 ⟨A120, n121, c122, x123, x124⟩ => m_shards_Encode_l7 u10 u3 u4 u5 u6 u7 u8 u9 q125 x123 x124 = some res) ⟨A85, n86, c87, x88, (7 : Int)⟩ ?_ (by simp [m_shards_Encode_l7]) ?_
   ·exact h
   rintro q125 ⟨A120, n121, c122, x123, x124⟩ h _ k126
   unfold m_shards_Encode_l7 at h
   refine sq fun _ k127 => sr fun _ k128 => mv rfl <| ya (geq rfl rfl) <| dz k128 <| cI h rfl (fun hc129 h => ?_) fun hc129 h => ?_
   ·refine ss <| k127 _ _ <| sq fun _ k130 => bl <| rg fun _ k131 => ?_
    obtain ⟨x132, hx132, h⟩ := bnd h
    obtain ⟨x133, hx133, h⟩ := bnd h
    obtain ⟨x135, hx135, h⟩ := bnd h
    refine mv rfl <| mv rfl <| mv rfl <| ya (mulC rfl rfl hx132) <| ya (shrC rfl rfl hx133) <| ya (conv_i64_u8 some_2 und_5 rfl) <| WL.eff (by decide) (Eff.buildC 234 ([BitVec.ofInt 8 x133] : By) sty_22 rfl rfl rfl rfl rfl (by decide)) ?_
    rintro _ _ ⟨g134, rfl, rfl⟩
    refine ap 112 (xs := x123) (ys := ([BitVec.ofInt 8 x133] : By)) sty_22 rfl rfl rfl (rO 234 rfl) hx135 fun A136 c137 => ak rfl k131 <| bn <| tn <| k130 _ _ <| rg fun _ k138 => bd h fun x139 hx139 h => mv rfl <| ya (subC rfl rfl hx139) <| ak rfl k138 <| tn <| kw (k126 ⟨A136, x135.length, c137, x135, x139⟩ h)
   exact xi <| te <| te <| bx <| tn <| kw (k118 ⟨A120, n121, c122, x123⟩ h)
  rintro ⟨A114, n115, c116, x117⟩ h
  unfold m_shards_Encode_j6 at h
  refine sr fun _ k140 => mv rfl <| ak rfl k140 <| re <| Ret.go (ResIs.one rfl rfl) <| ak rfl k112 <| ct (σ := (Option Addr) × Nat × Nat × By) (fun ⟨A141, n142, c143, x144⟩ => [(1, pv g2), (4, .slice A141 n142 c143)]) (fun ⟨A141, n142, c143, x144⟩ => [(0, .mem M0), (102, .blk g2 34 [I64 u0, I64 u1, I64 u2, I64 u3, U32 u4, U32 u5, U32 u6, U32 u7, U32 u8, U32 u9, .slice A00_10 n00_10 c00_10]), (112, .own 5 (Lay.sz (BitVec 8)) A141 n142 c143 (cel x144))]) (fun ⟨A141, n142, c143, x144⟩ => m_shards_Encode_j8 u10 x144 = some res) (fun _ k145 => ?_) ?_
  ·refine sr fun _ k146 => ya (fieldAddr Tryz.underlying34 rfl nz_32 rfl rfl) <| ya (loadBP (k := 102) (us := [U32 u4, U32 u5, U32 u6, U32 u7, U32 u8, U32 u9]) agg_32 rfl rfl rfl rfl) <| mv rfl <| dz k146 <| bl <| lp (τ := (Option Addr) × Nat × Nat × By × Int) (fun ⟨A147, n148, c149, x150, x151⟩ => [(1, pv g2), (4, .slice A147 n148 c149), (33, .agg ([U32 u4, U32 u5, U32 u6, U32 u7, U32 u8, U32 u9] : List Value).toArray), (34, I64 x151)]) (fun ⟨A147, n148, c149, x150, x151⟩ => [(0, .mem M0), (102, .blk g2 34 [I64 u0, I64 u1, I64 u2, I64 u3, U32 u4, U32 u5, U32 u6, U32 u7, U32 u8, U32 u9, .slice A00_10 n00_10 c00_10]), (112, .own 5 (Lay.sz (BitVec 8)) A147 n148 c149 (cel x150))]) (fun q152 ⟨A147, n148, c149, x150, x151⟩ => m_shards_Encode_l9 u10 u4 u5 u6 u7 u8 u9 q152 x150 x151 = some res) ⟨A114, n115, c116, x117, (0 : Int)⟩ ?_ (by simp [m_shards_Encode_l9]) ?_
   ·exact h
   rintro q152 ⟨A147, n148, c149, x150, x151⟩ h _ k153
   unfold m_shards_Encode_l9 at h
   refine sr fun _ k154 => ya (lss rfl rfl) <| dz k154 <| sq fun _ k155 => cI h rfl (fun hc156 h => ?_) fun hc156 h => ?_
   ·refine ss <| k155 _ _ <| sq fun _ k157 => bl <| sr fun _ k158 => bd h fun x159 hx159 h => ya (idxAggC (xs := ([u4, u5, u6, u7, u8, u9] : List (BitVec 32))) und_32 siz_31 rfl scal_31 rfl rfl rfl hx159 rfl) <| ak rfl k158 <| rg fun _ k160 => mv rfl <| mv rfl <| ya (conv_u32_i64 (a := x159) some_31 und_2 rfl) <| WL.inl (by decide) Tryz.func49 nm_49 rfl rfl (Tri.intro (N := 23) Tryz.func49 rfl rfl (nle rfl) ?_)
    refine sr fun _ k161 => ak rfl k161 <| ct (σ := (Option Addr) × Nat × Nat × By) (fun ⟨A162, n163, c164, x165⟩ => [(0, .slice A162 n163 c164)]) (fun ⟨A162, n163, c164, x165⟩ => [(0, .mem M0), (102, .blk g2 34 [I64 u0, I64 u1, I64 u2, I64 u3, U32 u4, U32 u5, U32 u6, U32 u7, U32 u8, U32 u9, .slice A00_10 n00_10 c00_10]), (112, .own 5 (Lay.sz (BitVec 8)) A162 n163 c164 (cel x165))]) (fun ⟨A162, n163, c164, x165⟩ => m_shards_Encode_j10 x151 (m_shards_Encode_l9 u10 u4 u5 u6 u7 u8 u9 q152) x165 = some res) (fun _ k166 => ?_) ?_
    ·refine sr fun _ k167 => mv rfl <| ya (subC (m := (4 : Int)) (n := (1 : Int)) (z := (3 : Int)) rfl rfl (ckl (by decide) (by decide))) <| ak rfl k167 <| bl <| lp (τ := (Option Addr) × Nat × Nat × By × Int) (fun ⟨A168, n169, c170, x171, x172⟩ => [(0, .slice A168 n169 c170), (1, I64 (x159.toNat : Int)), (7, I64 x172)]) (fun ⟨A168, n169, c170, x171, x172⟩ => [(0, .mem M0), (102, .blk g2 34 [I64 u0, I64 u1, I64 u2, I64 u3, U32 u4, U32 u5, U32 u6, U32 u7, U32 u8, U32 u9, .slice A00_10 n00_10 c00_10]), (112, .own 5 (Lay.sz (BitVec 8)) A168 n169 c170 (cel x171))]) (fun q173 ⟨A168, n169, c170, x171, x172⟩ => m_shards_Encode_l11 x151 x159 (m_shards_Encode_l9 u10 u4 u5 u6 u7 u8 u9 q152) q173 x171 x172 = some res) ⟨A147, n148, c149, x150, (3 : Int)⟩ ?_ (by simp [m_shards_Encode_l11]) ?_
     ·exact h
     rintro q173 ⟨A168, n169, c170, x171, x172⟩ h _ k174
     unfold m_shards_Encode_l11 at h
     refine sq fun _ k175 => sr fun _ k176 => mv rfl <| ya (geq rfl rfl) <| dz k176 <| cI h rfl (fun hc177 h => ?_) fun hc177 h => ?_
     ·refine ss <| k175 _ _ <| sq fun _ k178 => bl <| rg fun _ k179 => ?_
      obtain ⟨x180, hx180, h⟩ := bnd h
      obtain ⟨x181, hx181, h⟩ := bnd h
      obtain ⟨x183, hx183, h⟩ := bnd h
      refine mv rfl <| mv rfl <| mv rfl <| ya (mulC rfl rfl hx180) <| ya (shrC rfl rfl hx181) <| ya (conv_i64_u8 some_2 und_5 rfl) <| WL.eff (by decide) (Eff.buildC 282 ([BitVec.ofInt 8 x181] : By) sty_22 rfl rfl rfl rfl rfl (by decide)) ?_
      rintro _ _ ⟨g182, rfl, rfl⟩
      refine ap 112 (xs := x171) (ys := ([BitVec.ofInt 8 x181] : By)) sty_22 rfl rfl rfl (rO 282 rfl) hx183 fun A184 c185 => ak rfl k179 <| bn <| tn <| k178 _ _ <| rg fun _ k186 => bd h fun x187 hx187 h => mv rfl <| ya (subC rfl rfl hx187) <| ak rfl k186 <| tn <| kw (k174 ⟨A184, x183.length, c185, x183, x187⟩ h)
     exact xi <| te <| te <| bx <| tn <| kw (k166 ⟨A168, n169, c170, x171⟩ h)
    rintro ⟨A162, n163, c164, x165⟩ h
    unfold m_shards_Encode_j10 at h
    refine sr fun _ k188 => mv rfl <| ak rfl k188 <| re <| Ret.go (ResIs.one rfl rfl) <| ak rfl k160 <| bn <| tn <| k157 _ _ <| rg fun _ k189 => bd h fun x190 hx190 h => ya (addC rfl rfl hx190) <| mv rfl <| dz k189 <| tn <| kw (k153 ⟨A162, n163, c164, x165, x190⟩ h)
   exact xi <| te <| te <| bx <| tn <| kw (k145 ⟨A147, n148, c149, x150⟩ h)
  rintro ⟨A141, n142, c143, x144⟩ h
  unfold m_shards_Encode_j8 at h
  refine sr fun _ k191 => bd h fun x192 hx192 h => ya (fieldAddr Tryz.underlying34 rfl nz_25 rfl rfl) <| ya (loadB (k := 102) scal_25 rfl rfl rfl) <| c1 296 Tryz.func50 rfl (fun w hb hh => w_index_Encode (Mem.snap w) A00_10 n00_10 c00_10 _ (sM rfl hf00_10 w hb hh) hx192) fun A197 n198 c199 => mv rfl <| ya (extract rfl rfl) <| ya (extract rfl rfl) <| asn rfl <| ak rfl k191 <| sr fun _ k200 => mv rfl <| ya (fieldAddr Tryz.underlying34 rfl nz_25 rfl rfl) <| ya (loadB (k := 102) scal_25 rfl rfl rfl) <| ya (lenC (xs := u10) und_25 rfl (mM rfl hf00_10)) <| WL.inl (by decide) Tryz.func49 nm_49 rfl rfl (Tri.intro (N := 23) Tryz.func49 rfl rfl (nle rfl) ?_)
  refine sr fun _ k201 => ak rfl k201 <| ct (σ := (Option Addr) × Nat × Nat × By) (fun ⟨A202, n203, c204, x205⟩ => [(0, .slice A202 n203 c204)]) (fun ⟨A202, n203, c204, x205⟩ => [(0, .mem M0), (102, .blk g2 34 [I64 u0, I64 u1, I64 u2, I64 u3, U32 u4, U32 u5, U32 u6, U32 u7, U32 u8, U32 u9, .slice A00_10 n00_10 c00_10]), (112, .own 5 (Lay.sz (BitVec 8)) A202 n203 c204 (cel x205)), (296, .own 5 (Lay.sz (BitVec 8)) A197 n198 c199 (cel x192.1))]) (fun ⟨A202, n203, c204, x205⟩ => m_shards_Encode_j12 x192 x205 = some res) (fun _ k206 => ?_) ?_
  ·refine sr fun _ k207 => mv rfl <| ya (subC (m := (4 : Int)) (n := (1 : Int)) (z := (3 : Int)) rfl rfl (ckl (by decide) (by decide))) <| ak rfl k207 <| bl <| lp (τ := (Option Addr) × Nat × Nat × By × Int) (fun ⟨A208, n209, c210, x211, x212⟩ => [(0, .slice A208 n209 c210), (1, I64 (u10.length : Int)), (7, I64 x212)]) (fun ⟨A208, n209, c210, x211, x212⟩ => [(0, .mem M0), (102, .blk g2 34 [I64 u0, I64 u1, I64 u2, I64 u3, U32 u4, U32 u5, U32 u6, U32 u7, U32 u8, U32 u9, .slice A00_10 n00_10 c00_10]), (112, .own 5 (Lay.sz (BitVec 8)) A208 n209 c210 (cel x211)), (296, .own 5 (Lay.sz (BitVec 8)) A197 n198 c199 (cel x192.1))]) (fun q213 ⟨A208, n209, c210, x211, x212⟩ => m_shards_Encode_l13 u10 x192 q213 x211 x212 = some res) ⟨A141, n142, c143, x144, (3 : Int)⟩ ?_ (by simp [m_shards_Encode_l13]) ?_
   ·exact h
   rintro q213 ⟨A208, n209, c210, x211, x212⟩ h _ k214
   unfold m_shards_Encode_l13 at h
   refine sq fun _ k215 => sr fun _ k216 => mv rfl <| ya (geq rfl rfl) <| dz k216 <| cI h rfl (fun hc217 h => ?_) fun hc217 h => ?_
   ·refine ss <| k215 _ _ <| sq fun _ k218 => bl <| rg fun _ k219 => ?_
    obtain ⟨x220, hx220, h⟩ := bnd h
    obtain ⟨x221, hx221, h⟩ := bnd h
    obtain ⟨x223, hx223, h⟩ := bnd h
    refine mv rfl <| mv rfl <| mv rfl <| ya (mulC rfl rfl hx220) <| ya (shrC rfl rfl hx221) <| ya (conv_i64_u8 some_2 und_5 rfl) <| WL.eff (by decide) (Eff.buildC 322 ([BitVec.ofInt 8 x221] : By) sty_22 rfl rfl rfl rfl rfl (by decide)) ?_
    rintro _ _ ⟨g222, rfl, rfl⟩
    refine ap 112 (xs := x211) (ys := ([BitVec.ofInt 8 x221] : By)) sty_22 rfl rfl rfl (rO 322 rfl) hx223 fun A224 c225 => ak rfl k219 <| bn <| tn <| k218 _ _ <| rg fun _ k226 => bd h fun x227 hx227 h => mv rfl <| ya (subC rfl rfl hx227) <| ak rfl k226 <| tn <| kw (k214 ⟨A224, x223.length, c225, x223, x227⟩ h)
   exact xi <| te <| te <| bx <| tn <| kw (k206 ⟨A208, n209, c210, x211⟩ h)
  rintro ⟨A202, n203, c204, x205⟩ h
  unfold m_shards_Encode_j12 at h
  refine sr fun _ k228 => mv rfl <| ak rfl k228 <| re <| Ret.go (ResIs.one rfl rfl) bd h fun x229 hx229 h => mv rfl <| ap 112 (xs := x205) (ys := x192.1) sty_22 rfl rfl rfl (rO 296 rfl) hx229 fun A230 c231 => ak rfl k200 <| sr fun _ k232 => ?_
  obtain ⟨x233, hx233, h⟩ := bnd h
  obtain ⟨x241, hx241, h⟩ := bnd h
  refine mv rfl <| mv rfl <| c1 337 Tryz.func51 rfl (fun w hb hh => w_shards_sum (Mem.snap w) A230 x229.length c231 _ (RdH.sn (rO 112 rfl) w hb hh) hx233) fun A238 n239 c240 => ap 112 (xs := x229) (ys := x233) sty_22 rfl rfl rfl (rO 337 rfl) hx241 fun A242 c243 => mv rfl <| asn rfl <| ak rfl k232 <| re ?_
  obtain rfl := si h
  exact rt [112] (ResIs.two rfl rfl rfl) (Ext.refl _ _) ⟨A242, x241.length, c243, rfl, rfl⟩
 refine sr fun _ k244 => asn rfl <| ak rfl k244 <| re <| tr <| QK.nilOwn 345 5 (Lay.sz (BitVec 8)) none ?_
 obtain rfl := si h
 exact rt [345] (ResIs.two rfl rfl rfl) (Ext.refl _ _) ⟨none, 0, 0, rfl, rfl⟩
theorem w_shards_Decode (M0 : Mem) (A00 : Option Addr) (n00 c00 : Nat) (x00 : By) (hf00 : SlT M0 A00 n00 c00 x00) {res : Int × Int × Int × Int × (BitVec 32) × (BitVec 32) × (BitVec 32) × (BitVec 32) × (BitVec 32) × (BitVec 32) × (List Sapi_Item) × Int} (h : m_shards_Decode x00 = some res) :
  Fn Tryz.prog 27 #[.slice A00 n00 c00] M0 fun r M' es => ∃ (A1 : Option Addr) (n1 c1 : Nat), r = .tuple #[.agg ([I64 res.1, I64 res.2.1, I64 res.2.2.1, I64 res.2.2.2.1, U32 res.2.2.2.2.1, U32 res.2.2.2.2.2.1, U32 res.2.2.2.2.2.2.1, U32 res.2.2.2.2.2.2.2.1, U32 res.2.2.2.2.2.2.2.2.1, U32 res.2.2.2.2.2.2.2.2.2.1, .slice A1 n1 c1] : List Value).toArray, I64 res.2.2.2.2.2.2.2.2.2.2.2] /\ es = [.own 59 (Lay.sz Sapi_Item) A1 n1 c1 (cel res.2.2.2.2.2.2.2.2.2.2.1)] := by
 refine Fn.intro (N := 71) Tryz.func27 rfl rfl (nle rfl) fun w0 => ?_
 unfold m_shards_Decode at h
 refine sr fun _ k1 => al 102 zr_34 fun g2 => ak rfl k1 <| sq fun _ k3 => bl <| sr fun _ k4 => mv rfl <| ya (lenC (xs := x00) und_22 rfl (mM rfl hf00)) <| ya (lss rfl rfl) <| ak rfl k4 <| cI h rfl (fun hc5 h => ?_) fun hc5 h => ?_
 ·refine sr fun _ k6 => ya (build rfl (bu_34_)) <| sb 102 agg_34 rfl rfl rfl <| ak rfl k6 <| re <| br <| tr <| QK.nilOwn 107 59 (Lay.sz Sapi_Item) none ?_
  obtain rfl := si h
  exact rt [107] (ResIs.cellTmpM (k := 102) rfl agg_34 rfl rfl rfl rfl) (Ext.refl _ _) ⟨none, 0, 0, rfl, rfl⟩
 refine sr fun _ k8 => bd h fun x9 hx9 h => mv rfl <| ya (sliceHC (xs := x00) sty_22 rfl rfl (mM rfl hf00) hx9) <| ya (b2sC (xs := x9) und_22 und_5 und_9 rfl (RdT.slc0 (mM rfl hf00) hx9)) <| ya (neqStr (a := x9) (b := ([78#8, 73#8, 68#8, 88#8] : By)) rfl rfl) <| ak rfl k8 <| cnn h rfl neq_of_eq neq_of_ne (fun hc10 h => ?_) fun hc10 h => ?_
 ·refine WC.skip <| bn <| tn <| k3 _ _ <| sr fun _ k11 => ?_
  obtain ⟨x12, hx12, h⟩ := bnd h
  obtain ⟨x13, hx13, h⟩ := bnd h
  obtain ⟨x15, hx15, h⟩ := bnd h
  obtain ⟨x16, hx16, h⟩ := bnd h
  obtain ⟨x17, hx17, h⟩ := bnd h
  refine mv rfl <| ya (sliceLHC (xs := x00) sty_22 rfl rfl rfl (mM rfl hf00) hx12) <| c0 Tryz.func62 rfl (fun w hb hh => w_shards_number (Mem.snap w) (subA A00 c00 ((44 : Int)).toNat (Lay.sz (BitVec 8))) x12.length (c00 - ((44 : Int)).toNat) _ (RdH.sn (RdT.slc (mM rfl hf00) hx12) w hb hh) hx13) <| ya (mulC rfl rfl hx15) <| ya (addC rfl rfl hx16) <| mv rfl <| ya (lenC (xs := x00) und_22 rfl (mM rfl hf00)) <| ya (subC rfl rfl hx17) <| asn rfl <| ak rfl k11 <| sq fun _ k18 => bl <| sr fun _ k19 => mv rfl <| ya (lenC (xs := x00) und_22 rfl (mM rfl hf00)) <| mv rfl <| ya (lss rfl rfl) <| ak rfl k19 <| cI h rfl (fun hc20 h => ?_) fun hc20 h => ?_
  ·refine sr fun _ k21 => ya (build rfl (bu_34_)) <| sb 102 agg_34 rfl rfl rfl <| ak rfl k21 <| re <| br <| tr <| QK.nilOwn 122 59 (Lay.sz Sapi_Item) none ?_
   obtain rfl := si h
   exact rt [122] (ResIs.cellTmpM (k := 102) rfl agg_34 rfl rfl rfl rfl) (Ext.refl _ _) ⟨none, 0, 0, rfl, rfl⟩
  refine sr fun _ k23 => mv rfl <| ya (lenC (xs := x00) und_22 rfl (mM rfl hf00)) <| mv rfl <| ya (gtr rfl rfl) <| ak rfl k23 <| cI h rfl (fun hc24 h => ?_) fun hc24 h => ?_
  ·refine sr fun _ k25 => ya (build rfl (bu_34_)) <| sb 102 agg_34 rfl rfl rfl <| ak rfl k25 <| re <| br <| tr <| QK.nilOwn 126 59 (Lay.sz Sapi_Item) none ?_
   obtain rfl := si h
   exact rt [126] (ResIs.cellTmpM (k := 102) rfl agg_34 rfl rfl rfl rfl) (Ext.refl _ _) ⟨none, 0, 0, rfl, rfl⟩
  refine sd [(0, _), (102, _)] mixed fun _ k27 => ?_
  obtain ⟨x28, hx28, h⟩ := bnd h
  obtain ⟨x29, hx29, h⟩ := bnd h
  obtain ⟨x37, hx37, h⟩ := bnd h
  obtain ⟨x38, hx38, h⟩ := bnd h
  refine dm 0 rfl rfl <| dm 1 rfl rfl <| du 2 rfl (sliceHC (xs := x00) sty_22 rfl rfl (mM rfl hf00) hx28) <| dm 4 rfl rfl <| dm 5 rfl rfl <| du 6 rfl (sliceLC (xs := x00) sty_22 rfl rfl (mM rfl hf00) hx37) <| on 3 <| WS.eff rfl (by decide) (Eff.callS 133 rfl Tryz.func51 nm_51 rfl rfl (fun w hb hh => w_shards_sum (Mem.snap w) A00 x28.length c00 _ (RdH.sn (RdT.slc0 (mM rfl hf00) hx28) w hb hh) hx29)) ?_
  rintro _ _ ⟨_, ⟨A34, n35, c36, rfl, rfl⟩, rfl⟩
  refine aq ?_
  refine on 7 <| d0 rfl Tryz.func63 rfl (fun w hb hh => w_slices_Equal_byte_byte (Mem.snap w) A34 n35 c36 _ (RdH.sn (rO 133 rfl) w hb hh) (subA A00 c00 (x17).toNat (Lay.sz (BitVec 8))) x37.length (c00 - (x17).toNat) _ (RdH.sn (RdT.slc (mM rfl hf00) hx37) w hb hh) hx38) <| du 8 rfl (notB rfl) <| du 9 rfl (Yld.assign rfl) <| dd <| k27 _ _ <| cnn h rfl not_f (fun q => not_t (Bool.eq_false_iff.2 q)) (fun hc40 h => ?_) fun hc40 h => ?_
  ·refine WC.skip <| bn <| tn <| k18 _ _ <| sr fun _ k41 => ?_
   obtain ⟨x42, hx42, h⟩ := bnd h
   obtain ⟨x43, hx43, h⟩ := bnd h
   refine mv rfl <| mv rfl <| ya (sliceLHC (xs := x00) sty_22 rfl rfl rfl (mM rfl hf00) hx42) <| c1 147 Tryz.func64 rfl (fun w hb hh => w_index_Decode (Mem.snap w) (subA A00 c00 ((48 : Int)).toNat (Lay.sz (BitVec 8))) x42.length (c00 - ((48 : Int)).toNat) _ (RdH.sn (RdT.slc (mM rfl hf00) hx42) w hb hh) hx43) fun A48 n49 c50 => mv rfl <| ya (extract rfl rfl) <| ya (extract rfl rfl) <| asn rfl <| ak rfl k41 <| sq fun _ k51 => sr fun _ k52 => mv rfl <| ya (neqI rfl rfl) <| dz k52 <| cnn h rfl bne_eq_false_iff_eq.2 bne_iff_ne.2 (fun hc53 h => ?_) fun hc53 h => ?_
   ·refine ss <| k51 _ _ <| sr fun _ k54 => bd h fun x55 hx55 h => mv rfl <| c1 159 Tryz.func65 rfl (fun w hb hh => w_shards_fields (Mem.snap w) A00 n00 c00 _ (sM rfl hf00 w hb hh) hx55) fun A60 n61 c62 => al 163 zr_34 fun g63 => sb 163 agg_34 rfl rfl rfl <| dz k54 <| sr fun _ k64 => mv rfl <| ya (fieldAddr Tryz.underlying34 rfl nz_25 rfl rfl) <| WL.eff0 (Eff0.storeB 163 siz_25 rfl rfl rfl rfl (nle rfl)) <| dz k64 <| sq fun _ k65 => sr fun _ k66 => bd h fun x67 hx67 h => ya (loadBM (k := 163) agg_34 rfl rfl rfl) <| c0 Tryz.func24 rfl (fun w hb hh => w_shards_Valid (Mem.snap w) x55.1 x55.2.1 x55.2.2.1 x55.2.2.2.1 x55.2.2.2.2.1 x55.2.2.2.2.2.1 x55.2.2.2.2.2.2.1 x55.2.2.2.2.2.2.2.1 x55.2.2.2.2.2.2.2.2.1 x55.2.2.2.2.2.2.2.2.2.1 A48 n49 c50 _ (RdH.sn (rO 147 rfl) w hb hh) hx67) <| ya (notB rfl) <| dz k66 <| cnn h rfl not_f (fun q => not_t (Bool.eq_false_iff.2 q)) (fun hc69 h => ?_) fun hc69 h => ?_
    ·refine ss <| k65 _ _ <| sr fun _ k70 => ya (loadBM (k := 163) agg_34 rfl rfl rfl) <| sb 102 agg_34 rfl rfl rfl <| ak rfl k70 <| re ?_
     obtain rfl := si h
     exact rt [147] (ResIs.cellTmpM (k := 102) rfl agg_34 rfl rfl rfl rfl) (Ext.refl _ _) ⟨A48, n49, c50, rfl, rfl⟩
    refine sr fun _ k71 => ya (build rfl (bu_34_)) <| sb 102 agg_34 rfl rfl rfl <| ak rfl k71 <| re <| tr <| QK.nilOwn 172 59 (Lay.sz Sapi_Item) none ?_
    obtain rfl := si h
    exact rt [172] (ResIs.cellTmpM (k := 102) rfl agg_34 rfl rfl rfl rfl) (Ext.refl _ _) ⟨none, 0, 0, rfl, rfl⟩
   refine sr fun _ k73 => ya (build rfl (bu_34_)) <| mv rfl <| sb 102 agg_34 rfl rfl rfl <| ak rfl k73 <| re <| tr <| QK.nilOwn 174 59 (Lay.sz Sapi_Item) none ?_
   obtain rfl := si h
   exact rt [174] (ResIs.cellTmpM (k := 102) rfl agg_34 rfl rfl rfl rfl) (Ext.refl _ _) ⟨none, 0, 0, rfl, rfl⟩
  refine sr fun _ k75 => ya (build rfl (bu_34_)) <| sb 102 agg_34 rfl rfl rfl <| ak rfl k75 <| re <| br <| tr <| QK.nilOwn 176 59 (Lay.sz Sapi_Item) none ?_
  obtain rfl := si h
  exact rt [176] (ResIs.cellTmpM (k := 102) rfl agg_34 rfl rfl rfl rfl) (Ext.refl _ _) ⟨none, 0, 0, rfl, rfl⟩
 refine sr fun _ k77 => ya (build rfl (bu_34_)) <| sb 102 agg_34 rfl rfl rfl <| ak rfl k77 <| re <| br <| tr <| QK.nilOwn 178 59 (Lay.sz Sapi_Item) none ?_
 obtain rfl := si h
 exact rt [178] (ResIs.cellTmpM (k := 102) rfl agg_34 rfl rfl rfl rfl) (Ext.refl _ _) ⟨none, 0, 0, rfl, rfl⟩
end Go.Proofs.YthjnhlmfcejhkaaGreat
