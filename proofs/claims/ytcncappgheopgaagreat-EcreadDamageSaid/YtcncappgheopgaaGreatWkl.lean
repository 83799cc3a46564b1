/- A part of the proof. Conditions: as each theorem says. -/
import Derived.Test.YtcncappgheopgaaGreatWkk
import Derived.Test.YtcncappgheopgaaGreatMdl
namespace Go.Proofs.YtcncappgheopgaaGreat
set_option maxRecDepth 10000
open Go Go.RowKit Yld
set_option linter.unusedVariables false
theorem und_25 : Tryz.prog.underlying 25 = some (.array 6 24) := by kernel_rfl
theorem und_31 : Tryz.prog.underlying 31 = some (.slice 55) := by kernel_rfl
theorem agg_38 : Agg Tryz.prog 38 14 := ⟨⟨_, Tryz.underlying38, rfl⟩, by kernel_rfl⟩
theorem bu_28_ : Tryz.prog.built 28 [] = some ([I64 (0 : Int), I64 (0 : Int), I64 (0 : Int), I64 (0 : Int), U32 0#32, U32 0#32, U32 0#32, U32 0#32, U32 0#32, U32 0#32, .slice none 0 0] : List Value).toArray := by kernel_rfl
theorem bu_28_0_1_3 : ∀ (a0_0 : Int) (a0_1 : Int) (a0_2 : Int) (a1 : Int) (a3 : Option Addr) (n3 c3 : Nat), Tryz.prog.built 28 [(0, .agg ([I64 a0_0, I64 a0_1, I64 a0_2] : List Value).toArray), (1, I64 a1), (3, .slice a3 n3 c3)] = some ([I64 a0_0, I64 a0_1, I64 a0_2, I64 a1, U32 0#32, U32 0#32, U32 0#32, U32 0#32, U32 0#32, U32 0#32, .slice a3 n3 c3] : List Value).toArray := fun a0_0 a0_1 a0_2 a1 a3 n3 c3 => by kernel_rfl
theorem bu_38_0_1_2_3 : ∀ (a0 : Option Addr) (n0 c0 : Nat) (a1 : Option Addr) (n1 c1 : Nat) (a2_0 : Int) (a2_1 : Int) (a2_2 : Int) (a2_3 : Int) (a2_4 : BitVec 32) (a2_5 : BitVec 32) (a2_6 : BitVec 32) (a2_7 : BitVec 32) (a2_8 : BitVec 32) (a2_9 : BitVec 32) (a2_10 : Option Addr) (n2_10 c2_10 : Nat) (a3 : Option Addr) (n3 c3 : Nat), Tryz.prog.built 38 [(0, .slice a0 n0 c0), (1, .slice a1 n1 c1), (2, .agg ([I64 a2_0, I64 a2_1, I64 a2_2, I64 a2_3, U32 a2_4, U32 a2_5, U32 a2_6, U32 a2_7, U32 a2_8, U32 a2_9, .slice a2_10 n2_10 c2_10] : List Value).toArray), (3, .slice a3 n3 c3)] = some ([.slice a0 n0 c0, .slice a1 n1 c1, I64 a2_0, I64 a2_1, I64 a2_2, I64 a2_3, U32 a2_4, U32 a2_5, U32 a2_6, U32 a2_7, U32 a2_8, U32 a2_9, .slice a2_10 n2_10 c2_10, .slice a3 n3 c3] : List Value).toArray := fun a0 n0 c0 a1 n1 c1 a2_0 a2_1 a2_2 a2_3 a2_4 a2_5 a2_6 a2_7 a2_8 a2_9 a2_10 n2_10 c2_10 a3 n3 c3 => by kernel_rfl
theorem nm_27 : (Tryz.f27.name == "runtime.NumGoroutine") = false := by kernel_rfl
theorem nm_28 : (Tryz.f28.name == "runtime.NumGoroutine") = false := by kernel_rfl
theorem nm_29 : (Tryz.f29.name == "runtime.NumGoroutine") = false := by kernel_rfl
theorem nm_50 : (Tryz.f50.name == "runtime.NumGoroutine") = false := by kernel_rfl
theorem nm_51 : (Tryz.f51.name == "runtime.NumGoroutine") = false := by kernel_rfl
theorem siz_24 : (Tryz.prog.info? 24).map (·.size) = some 1 := by kernel_rfl
theorem siz_53 : (Tryz.prog.info? 53).map (·.size) = some 1 := by kernel_rfl
theorem sty_31 : STy Tryz.prog 31 55 (.agg #[(U64 0#64), (U32 0#32), (.bool false), (.slice none 0 0)]) 4 40 := STy.of und_31 (by kernel_rfl) rfl
theorem zr_28 : (Tryz.prog.info? 28).map (fun i => i.zero.map (·.cells)) = some (some ([I64 (0 : Int), I64 (0 : Int), I64 (0 : Int), I64 (0 : Int), U32 0#32, U32 0#32, U32 0#32, U32 0#32, U32 0#32, U32 0#32, .slice none 0 0] : List Value).toArray) := by kernel_rfl
theorem zr_38 : (Tryz.prog.info? 38).map (fun i => i.zero.map (·.cells)) = some (some ([.slice none 0 0, .slice none 0 0, I64 (0 : Int), I64 (0 : Int), I64 (0 : Int), I64 (0 : Int), U32 0#32, U32 0#32, U32 0#32, U32 0#32, U32 0#32, U32 0#32, .slice none 0 0, .slice none 0 0] : List Value).toArray) := by kernel_rfl
structure Rapi_Needle where
 x : Sapi_Needle
 h0 : Hdr
instance : Lay Rapi_Needle := ⟨4, fun r => [U64 r.x.fKey, U32 r.x.fCookie, .bool r.x.fDeleted, .slice r.h0.A r.h0.n r.h0.c], fun _ => rfl, fun _ u h => by simp only [List.mem_cons, List.not_mem_nil, or_false] at h; rcases h with rfl | rfl | rfl | rfl <;> rfl, by decide⟩
def rel_api_Needle (M : Mem) (r : Rapi_Needle) (x : Sapi_Needle) : Prop := x = r.x /\ (RelB (α := BitVec 8)) M r.h0 x.fData
instance : Mono rel_api_Needle := ⟨fun ⟨h0, h1⟩ hm => ⟨h0, Mono.mono h1 hm⟩⟩
theorem w_r05_Split (M0 : Mem) (A00 : Option Addr) (n00 c00 : Nat) (x00 : By) (hf00 : SlT M0 A00 n00 c00 x00) {res : (List By)} (h : m_r05_Split x00 = some res) :
  Fn Tryz.prog 50 #[.slice A00 n00 c00] M0 fun r M' es => ∃ (A1 : Option Addr) (n1 c1 : Nat), ∃ rs1 : List Hdr, r = .slice A1 n1 c1 /\ es = [.own 35 (Lay.sz Hdr) A1 n1 c1 (cel rs1)] /\ Rels ((RelB (α := BitVec 8)) M') rs1 res := by
 refine Fn.intro (N := 43) Tryz.func50 rfl rfl (nle rfl) fun w0 => ?_
 unfold m_r05_Split at h
 refine sr fun _ k1 => ak rfl k1 <| sr fun _ k2 => ak rfl k2 <| ct (σ := (Option Addr) × Nat × Nat × (List By) × (List Hdr)) (fun ⟨A5, n6, c7, x8, rs10⟩ => [(0, .slice A00 n00 c00), (3, .slice A5 n6 c7)]) (fun ⟨A5, n6, c7, x8, rs10⟩ => [(0, .mem M0), (104, .own 35 (Lay.sz Hdr) A5 n6 c7 (cel rs10)), (109, .rows 5 (Lay.sz (BitVec 8)) (rws rs10 x8))]) (fun ⟨A5, n6, c7, x8, rs10⟩ => m_r05_Split_j0 x00 x8 = some res /\ rs10.length = x8.length) (fun _ k13 => ?_) ?_
 ·refine sr fun _ k14 => ak rfl k14 <| bl <| WC.nilOwn 116 35 (Lay.sz Hdr) none <| WC.hs (HStep.rowsNil 121 5 (Lay.sz (BitVec 8))) <| lp (τ := (Option Addr) × Nat × Nat × (List By) × (List Hdr) × Int) (fun ⟨A17, n18, c19, x20, rs22, x25⟩ => [(0, .slice A00 n00 c00), (3, .slice A17 n18 c19), (4, I64 x25)]) (fun ⟨A17, n18, c19, x20, rs22, x25⟩ => [(0, .mem M0), (116, .own 35 (Lay.sz Hdr) A17 n18 c19 (cel rs22)), (121, .rows 5 (Lay.sz (BitVec 8)) (rws rs22 x20))]) (fun q26 ⟨A17, n18, c19, x20, rs22, x25⟩ => m_r05_Split_l1 x00 q26 x20 x25 = some res /\ rs22.length = x20.length) ⟨none, 0, 0, ([] : List By), ([] : List Hdr), (0 : Int)⟩ ?_ (by simp [m_r05_Split_l1]) ?_
  ·exact ⟨h, rfl⟩
  rintro q26 ⟨A17, n18, c19, x20, rs22, x25⟩ ⟨h, hl24⟩ _ k27
  unfold m_r05_Split_l1 at h
  refine sq fun _ k28 => sr fun _ k29 => mv rfl <| ya (lss rfl rfl) <| dz k29 <| cI h rfl (fun hc30 h => ?_) fun hc30 h => ?_
  ·refine ss <| k28 _ _ <| sq fun _ k31 => bl <| rg fun _ k32 => ?_
   obtain ⟨x33, hx33, h⟩ := bnd h
   obtain ⟨x36, hx36, h⟩ := bnd h
   obtain ⟨x38, hx38, h⟩ := bnd h
   refine mv rfl <| mv rfl <| ya (lenC (xs := x00) und_35 rfl (mM rfl hf00)) <| c0 Tryz.func60 rfl (fun w hb hh => w_r05_Size (Mem.snap w) (x00.length : Int) hx33) <| WL.eff (by decide) (Eff.makeC 135 0#8 sty_35 rfl rfl rfl rfl rfl rfl hx36) ?_
   rintro _ _ ⟨g35, rfl, rfl⟩
   refine WL.hs (HStep.toRows 135 rfl) <| WL.eff (by decide) (Eff.buildC 137 ([(⟨(some ⟨g35, 0, none⟩), x36.length, x36.length⟩ : Hdr)] : List Hdr) sty_29 rfl rfl rfl rfl rfl (by decide)) ?_
   rintro _ _ ⟨g37, rfl, rfl⟩
   obtain ⟨hu41, hl42, hr43⟩ := rows_apd (hs := rs22) (hs' := ([(⟨(some ⟨g35, 0, none⟩), x36.length, x36.length⟩ : Hdr)] : List Hdr)) hl24 (rfl : ([(⟨(some ⟨g35, 0, none⟩), x36.length, x36.length⟩ : Hdr)] : List Hdr).length = ([x36] : List By).length) hx38
   refine WL.hs (HStep.rowsApd 121 135 rfl hr43 rfl rfl) <| ap 116 (xs := rs22) (ys := ([(⟨(some ⟨g35, 0, none⟩), x36.length, x36.length⟩ : Hdr)] : List Hdr)) sty_29 rfl rfl rfl (rO 137 rfl) hu41 fun A39 c40 => ak rfl k32 <| bn <| tn <| k31 _ _ <| rg fun _ k44 => bd h fun x45 hx45 h => mv rfl <| ya (addC rfl rfl hx45) <| ak rfl k44 <| tn <| kw (k27 ⟨A39, (rs22 ++ ([(⟨(some ⟨g35, 0, none⟩), x36.length, x36.length⟩ : Hdr)] : List Hdr)).length, c40, x38, (rs22 ++ ([(⟨(some ⟨g35, 0, none⟩), x36.length, x36.length⟩ : Hdr)] : List Hdr)), x45⟩ ⟨h, hl42⟩)
  exact xi <| te <| te <| bx <| tn <| KK.move 116 104 rfl rfl <| KK.move 121 109 rfl rfl <| kw (k13 ⟨A17, n18, c19, x20, rs22⟩ ⟨h, hl24⟩)
 rintro ⟨A5, n6, c7, x8, rs10⟩ ⟨h, hl12⟩
 unfold m_r05_Split_j0 at h
 refine ct (σ := (List By) × (List Hdr)) (fun ⟨x46, rs47⟩ => [(3, .slice A5 n6 c7)]) (fun ⟨x46, rs47⟩ => [(0, .mem M0), (104, .own 35 (Lay.sz Hdr) A5 n6 c7 (cel rs47)), (109, .rows 5 (Lay.sz (BitVec 8)) (rws rs47 x46))]) (fun ⟨x46, rs47⟩ => m_r05_Split_j2 x46 = some res /\ rs47.length = x46.length) (fun _ k50 => ?_) ?_
 ·refine sr fun _ k51 => ak rfl k51 <| bl <| lp (τ := (List By) × (List Hdr) × Int) (fun ⟨x52, rs53, x56⟩ => [(0, .slice A00 n00 c00), (3, .slice A5 n6 c7), (5, I64 x56)]) (fun ⟨x52, rs53, x56⟩ => [(0, .mem M0), (104, .own 35 (Lay.sz Hdr) A5 n6 c7 (cel rs53)), (109, .rows 5 (Lay.sz (BitVec 8)) (rws rs53 x52))]) (fun q57 ⟨x52, rs53, x56⟩ => m_r05_Split_l3 x00 q57 x52 x56 = some res /\ rs53.length = x52.length) ⟨x8, rs10, (0 : Int)⟩ ?_ (by simp [m_r05_Split_l3]) ?_
  ·exact ⟨h, hl12⟩
  rintro q57 ⟨x52, rs53, x56⟩ ⟨h, hl55⟩ _ k58
  unfold m_r05_Split_l3 at h
  refine sq fun _ k59 => sr fun _ k60 => mv rfl <| mv rfl <| ya (lenC (xs := x00) und_35 rfl (mM rfl hf00)) <| ya (lss rfl rfl) <| dz k60 <| cI h rfl (fun hc61 h => ?_) fun hc61 h => ?_
  ·refine ss <| k59 _ _ <| sq fun _ k62 => bl <| sr fun _ k63 => bd h fun x64 hx64 h => mv rfl <| c0 Tryz.func61 rfl (fun w hb hh => w_r05_Place (Mem.snap w) x56 hx64) <| mv rfl <| ya (extract rfl rfl) <| ya (extract rfl rfl) <| ya (extract rfl rfl) <| asn rfl <| asn rfl <| ak rfl k63 <| rd [(0, _), (104, _)] mixed fun _ k66 => ?_
   obtain ⟨x67, hx67, h⟩ := bnd h
   obtain ⟨x70, hx70, h⟩ := bnd h
   obtain ⟨x71, hx71, h⟩ := bnd h
   obtain ⟨x72, hx72, h⟩ := bnd h
   obtain ⟨x73, hx73, h⟩ := bnd h
   refine dm 0 rfl rfl <| dm 1 rfl rfl ?_
   obtain ⟨r_68, hr69⟩ := rows_idx (hs := rs53) hl55 hx67
   refine du 2 rfl (idxC (xs := rs53) sty_29 rfl rfl (rO 104 rfl) hr69) <| du 3 rfl (loadC0 (xs := rs53) scal_35 rfl (rO 104 rfl) hr69 rfl) <| dm 4 rfl rfl <| dm 5 rfl rfl <| dm 6 rfl rfl <| du 7 rfl (idxC (xs := x00) sty_35 rfl rfl (mM rfl hf00) hx70) <| du 8 rfl (loadC0 (xs := x00) scal_5 rfl (mM rfl hf00) hx70 rfl) <| on 9 <| dy rfl (idxC (xs := x67) sty_35 rfl rfl (RdT.row (k := 109) rfl hr69 hx67) hx71) <| on 10 <| WS.eff0 rfl (Eff0.storeRow 109 (hs := rs53) (e := x52) (b := x67) (a' := x70) siz_5 rfl rfl rfl rfl rfl hr69 hx67 rfl hx72 hx73) (sc (sc sn)) <| dd <| k66 _ _ <| bn <| tn <| k62 _ _ <| rg fun _ k74 => bd h fun x75 hx75 h => mv rfl <| ya (addC rfl rfl hx75) <| ak rfl k74 <| tn <| kw (k58 ⟨x73, rs53, x75⟩ ⟨h, (rows_upd hl55 hx73)⟩)
  exact xi <| te <| te <| bx <| tn <| kw (k50 ⟨x52, rs53⟩ ⟨h, hl55⟩)
 rintro ⟨x46, rs47⟩ ⟨h, hl49⟩
 unfold m_r05_Split_j2 at h
 refine sr fun _ k76 => mv rfl <| ak rfl k76 <| re <| QK.grow (HGrow.rows 109 rfl rfl rfl hl49) fun M77 ⟨hm_M77, hq78⟩ => ?_
 obtain rfl := si h
 exact rt [104] (ResIs.one rfl rfl) hm_M77 ⟨A5, n6, c7, rs47, rfl, rfl, hq78⟩
theorem ws_r03_Apply (Mr M0 : Mem) (u0 u1 : Int) (A00_2 : Option Addr) (n00_2 c00_2 : Nat) (u2 : By) (hf00_2 : SlT M0 A00_2 n00_2 c00_2 u2) (A01 : Option Addr) (n01 c01 : Nat) (rs01 : List Hdr) (x01 : List By) (hf01 : SlT Mr A01 n01 c01 rs01) (hq01 : Rels ((RelB (α := BitVec 8)) M0) rs01 x01) {res : (List By) × Int} (h : m_r03_Apply u0 u1 u2 x01 = some res) :
  FnS Tryz.prog 65 #[.agg ([I64 u0, I64 u1, .slice A00_2 n00_2 c00_2] : List Value).toArray, .slice A01 n01 c01] Mr M0 fun r M' es => ∃ (A1 : Option Addr) (n1 c1 : Nat), ∃ rs1 : List Hdr, r = .tuple #[.slice A1 n1 c1, I64 res.2] /\ es = [.own 35 (Lay.sz Hdr) A1 n1 c1 (cel rs1)] /\ Rels ((RelB (α := BitVec 8)) M') rs1 res.1 := by
 refine FnS.intro (N := 78) Tryz.func65 rfl rfl (nle rfl) fun w0 => ?_
 unfold m_r03_Apply at h
 refine sr fun _ k1 => bb 102 [I64 u0, I64 u1, .slice A00_2 n00_2 c00_2] rfl fun g2 => asn rfl <| ak rfl k1 <| ct (σ := Unit) (fun _ => [(1, .slice A01 n01 c01), (2, pv g2)]) (fun _ => [(0, .mem M0), (7, .mem Mr), (102, .blk g2 129 [I64 u0, I64 u1, .slice A00_2 n00_2 c00_2])]) (fun _ => m_r03_Apply_j0 u0 u1 u2 x01 = some res) (fun _ k3 => ?_) ?_
 ·refine sr fun _ k4 => bd h fun x5 hx5 h => ya (loadBM (k := 102) agg_129 rfl rfl rfl) <| c0 Tryz.func83 rfl (fun w hb hh => w_r03_Valid (Mem.snap w) u0 u1 A00_2 n00_2 c00_2 _ (sM rfl hf00_2 w hb hh) hx5) <| ya (notB rfl) <| mv rfl <| spn h not_f (fun q => not_t (Bool.eq_false_iff.2 q)) (fun hc7 h => ?_) fun hc7 h => ?_
  ·refine mvg rfl <| yg (lenD (rs := rs01) (xs := x01) (Rels.len hq01) und_29 rfl (RdH.memM (k := 7) rfl hf01)) <| yg (fieldAddr Tryz.underlying129 rfl nz_3 rfl rfl) <| yg (loadB (k := 102) scal_3 rfl rfl rfl) <| yg (neqI rfl rfl) <| pf rfl rfl <| dz k4 <| cnn h rfl bne_eq_false_iff_eq.2 bne_iff_ne.2 (fun hc8 h => ?_) fun hc8 h => ?_
   ·exact WC.skip <| tn <| kw (k3 () h)
   refine sr fun _ k9 => asn rfl <| ak rfl k9 <| re <| tr <| QK.nilOwn 110 35 (Lay.sz Hdr) none ?_
   obtain rfl := si h
   exact rt [110] (ResIs.two rfl rfl rfl) (Ext.refl _ _) ⟨none, 0, 0, ([] : List Hdr), rfl, rfl, (Rels.nil (R := (RelB (α := BitVec 8)) M0))⟩
  refine sk <| sk <| sk <| sk <| sk <| pt rfl rfl <| dz k4 <| cdT rfl <| sr fun _ k11 => asn rfl <| ak rfl k11 <| re <| tr <| QK.nilOwn 112 35 (Lay.sz Hdr) none ?_
  obtain rfl := si h
  exact rt [112] (ResIs.two rfl rfl rfl) (Ext.refl _ _) ⟨none, 0, 0, ([] : List Hdr), rfl, rfl, (Rels.nil (R := (RelB (α := BitVec 8)) M0))⟩
 rintro _ h
 unfold m_r03_Apply_j0 at h
 refine ct (σ := Unit) (fun _ => [(1, .slice A01 n01 c01), (2, pv g2)]) (fun _ => [(0, .mem M0), (7, .mem Mr), (102, .blk g2 129 [I64 u0, I64 u1, .slice A00_2 n00_2 c00_2])]) (fun _ => m_r03_Apply_j1 u0 u1 u2 x01 = some res) (fun _ k13 => ?_) ?_
 ·refine sr fun _ k14 => ak rfl k14 <| bl <| lp (τ := Int) (fun x15 => [(1, .slice A01 n01 c01), (2, pv g2), (6, I64 x15)]) (fun x15 => [(0, .mem M0), (7, .mem Mr), (102, .blk g2 129 [I64 u0, I64 u1, .slice A00_2 n00_2 c00_2])]) (fun q16 x15 => m_r03_Apply_l2 u0 u1 u2 x01 q16 x15 = some res) ((0 : Int)) ?_ (by simp [m_r03_Apply_l2]) ?_
  ·exact h
  rintro q16 x15 h _ k17
  unfold m_r03_Apply_l2 at h
  refine sq fun _ k18 => sr fun _ k19 => mv rfl <| mv rfl <| ya (lenD (rs := rs01) (xs := x01) (Rels.len hq01) und_29 rfl (RdH.memM (k := 7) rfl hf01)) <| ya (lss rfl rfl) <| dz k19 <| cI h rfl (fun hc20 h => ?_) fun hc20 h => ?_
  ·refine ss <| k18 _ _ <| sq fun _ k21 => bl <| sd [(0, _), (7, _), (102, _)] mixed fun _ k22 => ?_
   obtain ⟨x23, hx23, h⟩ := bnd h
   obtain ⟨x27, hx27, h⟩ := bnd h
   refine dm 0 rfl rfl <| dm 1 rfl rfl ?_
   obtain ⟨r_24, hr25, hq26⟩ := Rels.idx hq01 hx23
   refine du 2 rfl (idxC (xs := rs01) sty_29 rfl rfl (RdH.memM (k := 7) rfl hf01) hr25) <| du 3 rfl (loadC0 (xs := rs01) scal_35 rfl (RdH.memM (k := 7) rfl hf01) hr25 rfl) <| du 4 rfl (lenC (xs := x23) und_35 rfl (mM rfl hq26)) <| dm 5 rfl rfl ?_
   obtain ⟨r_28, hr29, hq30⟩ := Rels.idx hq01 hx27
   refine du 6 rfl (idxC (xs := rs01) sty_29 rfl rfl (RdH.memM (k := 7) rfl hf01) hr29) <| du 7 rfl (loadC0 (xs := rs01) scal_35 rfl (RdH.memM (k := 7) rfl hf01) hr29 rfl) <| du 8 rfl (lenC (xs := x27) und_35 rfl (mM rfl hq30)) <| du 9 rfl (neqI rfl rfl) <| dd <| k22 _ _ <| cnn h rfl bne_eq_false_iff_eq.2 bne_iff_ne.2 (fun hc31 h => ?_) fun hc31 h => ?_
   ·refine WC.skip <| bn <| tn <| k21 _ _ <| rg fun _ k32 => bd h fun x33 hx33 h => mv rfl <| ya (addC rfl rfl hx33) <| ak rfl k32 <| tn <| kw (k17 (x33) h)
   refine sr fun _ k34 => asn rfl <| ak rfl k34 <| re <| br <| tr <| tr <| br <| tr <| QK.nilOwn 135 35 (Lay.sz Hdr) none ?_
   obtain rfl := si h
   exact rt [135] (ResIs.two rfl rfl rfl) (Ext.refl _ _) ⟨none, 0, 0, ([] : List Hdr), rfl, rfl, (Rels.nil (R := (RelB (α := BitVec 8)) M0))⟩
  exact xi <| te <| te <| bx <| tn <| kw (k13 () h)
 rintro _ h
 unfold m_r03_Apply_j1 at h
 refine sr fun _ k36 => ak rfl k36 <| ct (σ := Mem × (Option Addr) × Nat × Nat × (List By) × (List Hdr)) (fun ⟨M37, A40, n41, c42, x43, rs44⟩ => [(7, .slice A40 n41 c42)]) (fun ⟨M37, A40, n41, c42, x43, rs44⟩ => [(0, .mem M37), (7, .mem Mr), (139, .own 35 (Lay.sz Hdr) A40 n41 c42 (cel rs44))]) (fun ⟨M37, A40, n41, c42, x43, rs44⟩ => m_r03_Apply_j3 x43 = some res /\ Ext w0.heap.size M0 M37 /\ Rels ((RelB (α := BitVec 8)) M37) rs44 x43) (fun _ k46 => ?_) ?_
 ·refine sr fun _ k47 => ak rfl k47 <| bl <| WC.nilOwn 150 35 (Lay.sz Hdr) none <| lp (τ := Mem × (Option Addr) × Nat × Nat × (List By) × (List Hdr) × Int) (fun ⟨M48, A51, n52, c53, x54, rs55, x57⟩ => [(1, .slice A01 n01 c01), (2, pv g2), (7, .slice A51 n52 c53), (8, I64 x57)]) (fun ⟨M48, A51, n52, c53, x54, rs55, x57⟩ => [(0, .mem M48), (7, .mem Mr), (102, .blk g2 129 [I64 u0, I64 u1, .slice A00_2 n00_2 c00_2]), (150, .own 35 (Lay.sz Hdr) A51 n52 c53 (cel rs55))]) (fun q58 ⟨M48, A51, n52, c53, x54, rs55, x57⟩ => m_r03_Apply_l4 u0 u1 u2 x01 q58 x54 x57 = some res /\ Ext w0.heap.size M0 M48 /\ Rels ((RelB (α := BitVec 8)) M48) rs55 x54) ⟨M0, none, 0, 0, ([] : List By), ([] : List Hdr), (0 : Int)⟩ ?_ (by simp [m_r03_Apply_l4]) ?_
  ·exact ⟨h, (Ext.refl _ _), (Rels.nil (R := (RelB (α := BitVec 8)) M0))⟩
  rintro q58 ⟨M48, A51, n52, c53, x54, rs55, x57⟩ ⟨h, hm_M48, hq56⟩ _ k59
  unfold m_r03_Apply_l4 at h
  refine sq fun _ k60 => sr fun _ k61 => mv rfl <| ya (fieldAddr Tryz.underlying129 rfl nz_3 rfl rfl) <| ya (loadB (k := 102) scal_3 rfl rfl rfl) <| ya (lss rfl rfl) <| dz k61 <| cI h rfl (fun hc62 h => ?_) fun hc62 h => ?_
  ·refine ss <| k60 _ _ <| ct (σ := Mem × (Option Addr) × Nat × Nat × (List By) × (List Hdr)) (fun ⟨M63, A64, n65, c66, x67, rs68⟩ => [(1, .slice A01 n01 c01), (2, pv g2), (7, .slice A64 n65 c66), (8, I64 x57)]) (fun ⟨M63, A64, n65, c66, x67, rs68⟩ => [(0, .mem M63), (7, .mem Mr), (102, .blk g2 129 [I64 u0, I64 u1, .slice A00_2 n00_2 c00_2]), (150, .own 35 (Lay.sz Hdr) A64 n65 c66 (cel rs68))]) (fun ⟨M63, A64, n65, c66, x67, rs68⟩ => m_r03_Apply_j5 x57 (m_r03_Apply_l4 u0 u1 u2 x01 q58) x67 = some res /\ Ext w0.heap.size M48 M63 /\ Rels ((RelB (α := BitVec 8)) M63) rs68 x67) (fun _ k70 => ?_) ?_
   ·refine bl <| sr fun _ k71 => ?_
    obtain ⟨x72, hx72, h⟩ := bnd h
    obtain ⟨x77, hx77, h⟩ := bnd h
    refine mv rfl ?_
    obtain ⟨r_73, hr74, hq75⟩ := Rels.idx (Rels.lift hq01 hm_M48) hx72
    refine ya (idxC (xs := rs01) sty_29 rfl rfl (RdH.memM (k := 7) rfl hf01) hr74) <| ya (loadC0 (xs := rs01) scal_35 rfl (RdH.memM (k := 7) rfl hf01) hr74 rfl) <| ya (lenC (xs := x72) und_35 rfl (mM rfl hq75)) <| WL.eff (by decide) (Eff.makeC 176 0#8 sty_35 rfl rfl rfl rfl rfl rfl hx77) ?_
    rintro _ _ ⟨g76, rfl, rfl⟩
    refine ak rfl k71 <| ct (σ := (Option Addr) × Nat × Nat × By) (fun ⟨A80, n81, c82, x83⟩ => [(1, .slice A01 n01 c01), (2, pv g2), (7, .slice A51 n52 c53), (8, I64 x57), (9, .slice A80 n81 c82)]) (fun ⟨A80, n81, c82, x83⟩ => [(0, .mem M48), (7, .mem Mr), (102, .blk g2 129 [I64 u0, I64 u1, .slice A00_2 n00_2 c00_2]), (150, .own 35 (Lay.sz Hdr) A51 n52 c53 (cel rs55)), (179, .own 5 (Lay.sz (BitVec 8)) A80 n81 c82 (cel x83))]) (fun ⟨A80, n81, c82, x83⟩ => m_r03_Apply_j6 x54 x57 (m_r03_Apply_l4 u0 u1 u2 x01 q58) x83 = some res) (fun _ k84 => ?_) ?_
    ·refine sr fun _ k85 => ak rfl k85 <| bl <| WC.move 176 187 rfl rfl <| lp (τ := (Option Addr) × Nat × Nat × By × Int) (fun ⟨A88, n89, c90, x91, x92⟩ => [(1, .slice A01 n01 c01), (2, pv g2), (7, .slice A51 n52 c53), (8, I64 x57), (9, .slice A88 n89 c90), (10, I64 x92)]) (fun ⟨A88, n89, c90, x91, x92⟩ => [(0, .mem M48), (7, .mem Mr), (102, .blk g2 129 [I64 u0, I64 u1, .slice A00_2 n00_2 c00_2]), (150, .own 35 (Lay.sz Hdr) A51 n52 c53 (cel rs55)), (187, .own 5 (Lay.sz (BitVec 8)) A88 n89 c90 (cel x91))]) (fun q93 ⟨A88, n89, c90, x91, x92⟩ => m_r03_Apply_l7 u1 u2 x01 x54 x57 (m_r03_Apply_l4 u0 u1 u2 x01 q58) q93 x91 x92 = some res) ⟨(some ⟨g76, 0, none⟩), x77.length, x77.length, x77, (0 : Int)⟩ ?_ (by simp [m_r03_Apply_l7]) ?_
     ·exact h
     rintro q93 ⟨A88, n89, c90, x91, x92⟩ h _ k94
     unfold m_r03_Apply_l7 at h
     refine sq fun _ k95 => sr fun _ k96 => mv rfl <| ya (fieldAddr Tryz.underlying129 rfl nz_3 rfl rfl) <| ya (loadB (k := 102) scal_3 rfl rfl rfl) <| ya (lss rfl rfl) <| dz k96 <| cI h rfl (fun hc97 h => ?_) fun hc97 h => ?_
     ·refine ss <| k95 _ _ <| sq fun _ k98 => bl <| rd [(0, _), (7, _), (102, _), (150, _), (187, _)] mixed fun _ k99 => ?_
      obtain ⟨x100, hx100, h⟩ := bnd h
      obtain ⟨x104, hx104, h⟩ := bnd h
      obtain ⟨x105, hx105, h⟩ := bnd h
      obtain ⟨x106, hx106, h⟩ := bnd h
      obtain ⟨x107, hx107, h⟩ := bnd h
      refine dm 0 rfl rfl <| dm 1 rfl rfl <| dm 2 rfl rfl ?_
      obtain ⟨r_101, hr102, hq103⟩ := Rels.idx (Rels.lift hq01 hm_M48) hx100
      refine du 3 rfl (idxC (xs := rs01) sty_29 rfl rfl (RdH.memM (k := 7) rfl hf01) hr102) <| du 4 rfl (loadC0 (xs := rs01) scal_35 rfl (RdH.memM (k := 7) rfl hf01) hr102 rfl) <| du 5 rfl (fieldAddr Tryz.underlying129 rfl nz_35 rfl rfl) <| du 6 rfl (loadB (k := 102) scal_35 rfl rfl rfl) <| dm 7 rfl rfl <| du 8 rfl (fieldAddr Tryz.underlying129 rfl nz_3 rfl rfl) <| du 9 rfl (loadB (k := 102) scal_3 rfl rfl rfl) <| du 10 rfl (mulC rfl rfl hx104) <| dm 11 rfl rfl <| du 12 rfl (addC rfl rfl hx105) <| du 13 rfl (idxC (xs := u2) sty_35 rfl rfl (mM rfl (SlRc.lift hf00_2 hm_M48)) hx106) <| du 14 rfl (loadC0 (xs := u2) scal_5 rfl (mM rfl (SlRc.lift hf00_2 hm_M48)) hx106 rfl) <| on 15 <| WS.eff rfl (by decide) (Eff.callS 211 rfl Tryz.func90 nm_90 rfl rfl (fun w hb hh => w_r02_MulAdd (Mem.snap w) A88 n89 c90 _ (RdH.sn (rO 187 rfl) w hb hh) r_101.A r_101.n r_101.c _ (sM rfl hq103 w hb hh) x106 hx107)) ?_
      rintro _ _ ⟨_, ⟨A112, n113, c114, rfl, rfl⟩, rfl⟩
      refine aq ?_
      refine dm 16 rfl rfl <| du 17 rfl (extract rfl rfl) <| du 18 rfl (extract rfl rfl) <| du 19 rfl (Yld.assign rfl) <| dd <| k99 _ _ <| bn <| tn <| k98 _ _ <| rg fun _ k115 => bd h fun x116 hx116 h => mv rfl <| ya (addC rfl rfl hx116) <| ak rfl k115 <| tn <| KK.move 211 187 rfl rfl <| kw (k94 ⟨A112, n113, c114, x107.1, x116⟩ h)
     exact xi <| te <| te <| bx <| tn <| KK.move 187 179 rfl rfl <| kw (k84 ⟨A88, n89, c90, x91⟩ h)
    rintro ⟨A80, n81, c82, x83⟩ h
    unfold m_r03_Apply_j6 at h
    refine rg fun _ k117 => bd h fun x122 hx122 h => mv rfl <| mv rfl <| WL.freeze 179 rfl rfl rfl fun M119 hm_M119 hf120 => ?_
    have hq121 : Rels ((RelB (α := BitVec 8)) M119) ([(⟨A80, n81, c82⟩ : Hdr)] : List Hdr) ([x83] : List By) := (Rels.cons hf120 Rels.nil)
    refine WL.eff (by decide) (Eff.buildC 218 ([(⟨A80, n81, c82⟩ : Hdr)] : List Hdr) sty_29 rfl rfl rfl rfl rfl (by decide)) ?_
    rintro _ _ ⟨g118, rfl, rfl⟩
    obtain ⟨hu125, hq126⟩ := Rels.apd (Rels.lift hq56 hm_M119) hq121 hx122
    exact ap 150 (xs := rs55) (ys := ([(⟨A80, n81, c82⟩ : Hdr)] : List Hdr)) sty_29 rfl rfl rfl (rO 218 rfl) hu125 fun A123 c124 => ak rfl k117 <| bn <| tn <| kw (k70 ⟨M119, A123, (rs55 ++ ([(⟨A80, n81, c82⟩ : Hdr)] : List Hdr)).length, c124, x122, (rs55 ++ ([(⟨A80, n81, c82⟩ : Hdr)] : List Hdr))⟩ ⟨h, hm_M119, hq126⟩)
   rintro ⟨M63, A64, n65, c66, x67, rs68⟩ ⟨h, hm_M63, hq69⟩
   unfold m_r03_Apply_j5 at h
   refine rg fun _ k127 => bd h fun x128 hx128 h => mv rfl <| ya (addC rfl rfl hx128) <| ak rfl k127 <| tn <| kw (k59 ⟨M63, A64, n65, c66, x67, rs68, x128⟩ ⟨h, (Ext.trans hm_M48 hm_M63), hq69⟩)
  exact xi <| te <| te <| bx <| tn <| KK.move 150 139 rfl rfl <| kw (k46 ⟨M48, A51, n52, c53, x54, rs55⟩ ⟨h, hm_M48, hq56⟩)
 rintro ⟨M37, A40, n41, c42, x43, rs44⟩ ⟨h, hm_M37, hq45⟩
 unfold m_r03_Apply_j3 at h
 refine sr fun _ k129 => mv rfl <| asn rfl <| ak rfl k129 <| re ?_
 obtain rfl := si h
 exact rt [139] (ResIs.two rfl rfl rfl) hm_M37 ⟨A40, n41, c42, rs44, rfl, rfl, hq45⟩
theorem ws_r04_all (Mr M0 : Mem) (A00 : Option Addr) (n00 c00 : Nat) (rs00 : List Hdr) (x00 : List By) (hf00 : SlT Mr A00 n00 c00 rs00) (hq00 : Rels ((RelB (α := BitVec 8)) M0) rs00 x00) {res : (List By)} (h : m_r04_all x00 = some res) :
  FnS Tryz.prog 66 #[.slice A00 n00 c00] Mr M0 fun r M' es => ∃ (A1 : Option Addr) (n1 c1 : Nat), ∃ rs1 : List Hdr, r = .slice A1 n1 c1 /\ es = [.own 35 (Lay.sz Hdr) A1 n1 c1 (cel rs1)] /\ Rels ((RelB (α := BitVec 8)) M') rs1 res := by
 refine FnS.intro (N := 12) Tryz.func66 rfl rfl (nle rfl) fun w0 => ?_
 unfold m_r04_all at h
 refine sr fun _ k1 => ak rfl k1 <| sr fun _ k2 => ?_
 obtain ⟨x3, hx3, h⟩ := bnd h
 obtain ⟨x11, hx11, h⟩ := bnd h
 refine c1 107 Tryz.func63 rfl (fun w hb hh => w_r04_Code (Mem.snap w) hx3) fun A8 n9 c10 => mv rfl <| WL.freeze 107 rfl rfl rfl fun M23 hm_M23 hf24 => WL.eff (by decide) (Eff.callMS 117 rfl Tryz.func65 nm_65 rfl rfl rfl (fun w hb hh => ws_r03_Apply _ _ x3.1 x3.2.1 A8 n9 c10 _ hf24 A00 n00 c00 rs00 _ (RdH.mem_less (k := 7) rfl rfl rfl hf00 w hb hh) (Rels.lift hq00 hm_M23) hx11)) ?_
 rintro _ _ ⟨M25, _, ⟨A26, n27, c28, rs29, rfl, rfl, hq30⟩, hm_M25, rfl⟩
 refine mv rfl <| ya (extract rfl rfl) <| ya (extract rfl rfl) <| asn rfl <| ak rfl k2 <| sr fun _ k31 => mv rfl <| ak rfl k31 <| re ?_
 obtain rfl := si h
 exact rt [117] (ResIs.one rfl rfl) (Ext.trans hm_M23 hm_M25) ⟨A26, n27, c28, rs29, rfl, rfl, hq30⟩
theorem ws_r04_Encode (Mr M0 : Mem) (A00 : Option Addr) (n00 c00 : Nat) (rs00 : List Hdr) (x00 : List By) (hf00 : SlT Mr A00 n00 c00 rs00) (hq00 : Rels ((RelB (α := BitVec 8)) M0) rs00 x00) {res : (List By) × Int} (h : m_r04_Encode x00 = some res) :
  FnS Tryz.prog 51 #[.slice A00 n00 c00] Mr M0 fun r M' es => ∃ (A1 : Option Addr) (n1 c1 : Nat), ∃ rs1 : List Hdr, r = .tuple #[.slice A1 n1 c1, I64 res.2] /\ es = [] /\ SlT M' A1 n1 c1 rs1 /\ Rels ((RelB (α := BitVec 8)) M') rs1 res.1 := by
 refine FnS.intro (N := 10) Tryz.func51 rfl rfl (nle rfl) fun w0 => ?_
 unfold m_r04_Encode at h
 refine sr fun _ k1 => asn rfl <| ak rfl k1 <| sq fun _ k2 => sr fun _ k3 => bd h fun x4 hx4 h => mv rfl <| c0 Tryz.func73 rfl (fun w hb hh => w_r04_Level (Mem.snap w) A00 n00 c00 rs00 _ (RdH.sn (RdH.memM (k := 7) rfl hf00) w hb hh) (Rels.sn hq00 (hh.sat 0 _ rfl)) (4 : Int) hx4) <| ya (notB rfl) <| dz k3 <| cnn h rfl not_f (fun q => not_t (Bool.eq_false_iff.2 q)) (fun hc6 h => ?_) fun hc6 h => ?_
 ·refine ss <| k2 _ _ <| sr fun _ k7 => ?_
  obtain ⟨x8, hx8, h⟩ := bnd h
  obtain ⟨x26, hx26, h⟩ := bnd h
  refine mv rfl <| WL.eff (by decide) (Eff.callMS 114 rfl Tryz.func66 nm_66 rfl rfl rfl (fun w hb hh => ws_r04_all _ _ A00 n00 c00 rs00 _ (RdH.mem_less (k := 7) rfl rfl rfl hf00 w hb hh) hq00 hx8)) ?_
  rintro _ _ ⟨M20, _, ⟨A21, n22, c23, rs24, rfl, rfl, hq25⟩, hm_M20, rfl⟩
  obtain ⟨rs27, hs28, hq29⟩ := Rels.slc hq25 hx26
  rw [<- Rels.len hq25] at hs28
  refine ya (sliceLC (xs := rs24) sty_29 rfl rfl (rO 114 rfl) hs28) <| asn rfl <| ak rfl k7 <| re <| QK.freeze 114 rfl rfl rfl fun M30 hm_M30 hf31 => ?_
  obtain rfl := si h
  exact rt [] (ResIs.two rfl rfl rfl) (Ext.trans hm_M20 hm_M30) ⟨(subA A21 c23 ((4 : Int)).toNat (Lay.sz Hdr)), rs27.length, (c23 - ((4 : Int)).toNat), rs27, rfl, rfl, (SlT.slc hf31 hs28), (Rels.lift hq29 hm_M30)⟩
 refine sr fun _ k32 => asn rfl <| ak rfl k32 <| re <| tr ?_
 obtain rfl := si h
 exact rt [] (ResIs.two rfl rfl rfl) (Ext.refl _ _) ⟨none, 0, 0, ([] : List Hdr), rfl, rfl, SlT.nil, (Rels.nil (R := (RelB (α := BitVec 8)) M0))⟩
theorem w_r17_Make (M0 : Mem) (A00 : Option Addr) (n00 c00 : Nat) (x00 : By) (hf00 : SlT M0 A00 n00 c00 x00) (v0 v1 v2 : Int) (A02 : Option Addr) (n02 c02 : Nat) (x02 : List Sapi_Item) (hf02 : SlT M0 A02 n02 c02 x02) {res : (List By) × Int × Int × Int × Int × (BitVec 32) × (BitVec 32) × (BitVec 32) × (BitVec 32) × (BitVec 32) × (BitVec 32) × (List Sapi_Item) × Int} (h : m_r17_Make x00 v0 v1 v2 x02 = some res) :
  Fn Tryz.prog 28 #[.slice A00 n00 c00, .agg ([I64 v0, I64 v1, I64 v2] : List Value).toArray, .slice A02 n02 c02] M0 fun r M' es => ∃ (A1 : Option Addr) (n1 c1 : Nat), ∃ rs1 : List Hdr, ∃ (A2 : Option Addr) (n2 c2 : Nat), r = .tuple #[.slice A1 n1 c1, .agg ([I64 res.2.1, I64 res.2.2.1, I64 res.2.2.2.1, I64 res.2.2.2.2.1, U32 res.2.2.2.2.2.1, U32 res.2.2.2.2.2.2.1, U32 res.2.2.2.2.2.2.2.1, U32 res.2.2.2.2.2.2.2.2.1, U32 res.2.2.2.2.2.2.2.2.2.1, U32 res.2.2.2.2.2.2.2.2.2.2.1, .slice A2 n2 c2] : List Value).toArray, I64 res.2.2.2.2.2.2.2.2.2.2.2.2] /\ es = [.own 35 (Lay.sz Hdr) A1 n1 c1 (cel rs1), .own 59 (Lay.sz Sapi_Item) A2 n2 c2 (cel res.2.2.2.2.2.2.2.2.2.2.2.1)] /\ Rels ((RelB (α := BitVec 8)) M') rs1 res.1 := by
 refine Fn.intro (N := 49) Tryz.func28 rfl rfl (nle rfl) fun w0 => ?_
 unfold m_r17_Make at h
 refine sr fun _ k1 => bb 102 [I64 v0, I64 v1, I64 v2] rfl fun g2 => asn rfl <| al 103 zr_28 fun g3 => ak rfl k1 <| ctd [(0, _), (102, _), (103, _)] (σ := Nat × (Option Addr) × Nat × Nat × (List Sapi_Item)) (fun ⟨g4, A7, n8, c9, x10⟩ => [(0, .slice A00 n00 c00), (7, pv g3), (9, pv g4)]) (fun ⟨g4, A7, n8, c9, x10⟩ => [(0, .mem M0), (103, .blk g3 28 [I64 (0 : Int), I64 (0 : Int), I64 (0 : Int), I64 (0 : Int), U32 0#32, U32 0#32, U32 0#32, U32 0#32, U32 0#32, U32 0#32, .slice none 0 0]), (104, .blk g4 28 [I64 v0, I64 v1, I64 v2, I64 (x00.length : Int), U32 0#32, U32 0#32, U32 0#32, U32 0#32, U32 0#32, U32 0#32, .slice A7 n8 c9]), (106, .own 59 (Lay.sz Sapi_Item) A7 n8 c9 (cel x10))]) (fun ⟨g4, A7, n8, c9, x10⟩ => m_r17_Make_j0 x00 v0 v1 v2 x10 = some res) mixed (fun _ k11 => ?_) ?_
 ·obtain ⟨x14, hx14, h⟩ := bnd h
  refine du 0 rfl (loadBM (k := 102) agg_23 rfl rfl rfl) <| dm 1 rfl rfl <| du 2 rfl (lenC (xs := x00) und_35 rfl (mM rfl hf00)) <| dm 4 rfl rfl <| WD.two 3 7 (by kernel_rfl) ?_ ?_
  ·refine WS.eff rfl (by decide) (Eff.buildCA 113 ([] : List Sapi_Item) sty_26 rfl rfl rfl (by decide)) ?_
   rintro _ _ ⟨g13, rfl, rfl⟩
   refine aq ?_
   refine WD.two 5 7 (by kernel_rfl) ?_ ?_
   ·refine WS.eff rfl (by decide) (Eff.appendC 113 (xs := ([] : List Sapi_Item)) (ys := x02) sty_26 rfl rfl rfl (mM rfl hf02) hx14) ?_
    rintro _ _ ⟨A15, c16, rfl, rfl⟩
    refine aq ?_
    refine du 6 rfl (build rfl (bu_28_0_1_3 v0 v1 v2 (x00.length : Int) A15 x14.length c16)) <| on 7 <| WS.eff rfl (by decide) (Eff.alloc 117 rfl zr_28) ?_
    rintro _ _ ⟨g17, rfl, rfl⟩
    refine aq ?_
    exact on 8 <| ds 117 rfl agg_28 rfl rfl rfl <| WD.done (by kernel_rfl) <| KK.move 117 104 rfl rfl <| KK.move 113 106 rfl rfl <| kw (k11 ⟨g17, A15, x14.length, c16, x14⟩ h)
   skip
   refine WS.eff rfl (by decide) (Eff.alloc 117 rfl zr_28) ?_
   rintro _ _ ⟨g17, rfl, rfl⟩
   refine aq ?_
   refine on 5 <| WS.eff rfl (by decide) (Eff.appendC 113 (xs := ([] : List Sapi_Item)) (ys := x02) sty_26 rfl rfl rfl (mM rfl hf02) hx14) ?_
   rintro _ _ ⟨A15, c16, rfl, rfl⟩
   refine aq ?_
   exact du 6 rfl (build rfl (bu_28_0_1_3 v0 v1 v2 (x00.length : Int) A15 x14.length c16)) <| on 8 <| ds 117 rfl agg_28 rfl rfl rfl <| WD.done (by kernel_rfl) <| KK.move 117 104 rfl rfl <| KK.move 113 106 rfl rfl <| kw (k11 ⟨g17, A15, x14.length, c16, x14⟩ h)
  skip
  refine WS.eff rfl (by decide) (Eff.alloc 117 rfl zr_28) ?_
  rintro _ _ ⟨g17, rfl, rfl⟩
  refine aq ?_
  refine on 3 <| WS.eff rfl (by decide) (Eff.buildCA 113 ([] : List Sapi_Item) sty_26 rfl rfl rfl (by decide)) ?_
  rintro _ _ ⟨g13, rfl, rfl⟩
  refine aq ?_
  refine on 5 <| WS.eff rfl (by decide) (Eff.appendC 113 (xs := ([] : List Sapi_Item)) (ys := x02) sty_26 rfl rfl rfl (mM rfl hf02) hx14) ?_
  rintro _ _ ⟨A15, c16, rfl, rfl⟩
  refine aq ?_
  exact du 6 rfl (build rfl (bu_28_0_1_3 v0 v1 v2 (x00.length : Int) A15 x14.length c16)) <| on 8 <| ds 117 rfl agg_28 rfl rfl rfl <| WD.done (by kernel_rfl) <| KK.move 117 104 rfl rfl <| KK.move 113 106 rfl rfl <| kw (k11 ⟨g17, A15, x14.length, c16, x14⟩ h)
 rintro ⟨g4, A7, n8, c9, x10⟩ h
 unfold m_r17_Make_j0 at h
 refine sq fun _ k18 => sr fun _ k19 => bd h fun x20 hx20 h => ya (loadBM (k := 104) agg_28 rfl rfl rfl) <| c0 Tryz.func33 rfl (fun w hb hh => w_r17_Valid (Mem.snap w) v0 v1 v2 (x00.length : Int) 0#32 0#32 0#32 0#32 0#32 0#32 A7 n8 c9 _ (RdH.sn (rO 106 rfl) w hb hh) hx20) <| ya (notB rfl) <| dz k19 <| cnn h rfl not_f (fun q => not_t (Bool.eq_false_iff.2 q)) (fun hc22 h => ?_) fun hc22 h => ?_
 ·refine ss <| k18 _ _ <| sr fun _ k23 => bd h fun x24 hx24 h => mv rfl <| WL.eff (by decide) (Eff.callM 130 rfl Tryz.func50 nm_50 rfl rfl rfl (w_r05_Split _ A00 n00 c00 _ hf00 hx24)) ?_
  rintro _ _ ⟨M36, _, ⟨A37, n38, c39, rs40, rfl, rfl, hq41⟩, hm_M36, rfl⟩
  refine ak rfl k23 <| sr fun _ k42 => bd h fun x43 hx43 h => mv rfl <| WL.eff (by decide) (Eff.callMS 150 rfl Tryz.func51 nm_51 rfl rfl rfl (fun w hb hh => ws_r04_Encode _ _ A37 n38 c39 rs40 _ (RdH.own_less (k := 130) rfl rfl rfl w hb hh) hq41 hx43)) ?_
  rintro _ _ ⟨M57, _, ⟨A58, n59, c60, rs61, rfl, rfl, hf63, hq62⟩, hm_M57, rfl⟩
  refine mv rfl <| ya (extract rfl rfl) <| ya (extract rfl rfl) <| asn rfl <| ak rfl k42 <| sr fun _ k64 => bd h fun x65 hx65 h => mv rfl <| mv rfl ?_
  obtain ⟨hu68, hq69⟩ := Rels.apd (Rels.lift hq41 hm_M57) hq62 hx65
  refine ap 130 (xs := rs40) (ys := rs61) sty_29 rfl rfl rfl (mM rfl hf63) hu68 fun A66 c67 => ak rfl k64 <| ct (σ := (BitVec 32) × (BitVec 32) × (BitVec 32) × (BitVec 32) × (BitVec 32) × (BitVec 32)) (fun ⟨x70, x71, x72, x73, x74, x75⟩ => [(7, pv g3), (9, pv g4), (10, .slice A66 ((rs40 ++ rs61).length) c67)]) (fun ⟨x70, x71, x72, x73, x74, x75⟩ => [(0, .mem M57), (103, .blk g3 28 [I64 (0 : Int), I64 (0 : Int), I64 (0 : Int), I64 (0 : Int), U32 0#32, U32 0#32, U32 0#32, U32 0#32, U32 0#32, U32 0#32, .slice none 0 0]), (104, .blk g4 28 [I64 v0, I64 v1, I64 v2, I64 (x00.length : Int), U32 x70, U32 x71, U32 x72, U32 x73, U32 x74, U32 x75, .slice A7 n8 c9]), (106, .own 59 (Lay.sz Sapi_Item) A7 n8 c9 (cel x10)), (130, .own 35 (Lay.sz Hdr) A66 ((rs40 ++ rs61).length) c67 (cel (rs40 ++ rs61)))]) (fun ⟨x70, x71, x72, x73, x74, x75⟩ => m_r17_Make_j1 x00 v0 v1 v2 x10 x65 x70 x71 x72 x73 x74 x75 = some res) (fun _ k76 => ?_) ?_
  ·refine sr fun _ k77 => ak rfl k77 <| bl <| lp (τ := (BitVec 32) × (BitVec 32) × (BitVec 32) × (BitVec 32) × (BitVec 32) × (BitVec 32) × Int) (fun ⟨x78, x79, x80, x81, x82, x83, x84⟩ => [(7, pv g3), (9, pv g4), (10, .slice A66 ((rs40 ++ rs61).length) c67), (13, I64 x84)]) (fun ⟨x78, x79, x80, x81, x82, x83, x84⟩ => [(0, .mem M57), (103, .blk g3 28 [I64 (0 : Int), I64 (0 : Int), I64 (0 : Int), I64 (0 : Int), U32 0#32, U32 0#32, U32 0#32, U32 0#32, U32 0#32, U32 0#32, .slice none 0 0]), (104, .blk g4 28 [I64 v0, I64 v1, I64 v2, I64 (x00.length : Int), U32 x78, U32 x79, U32 x80, U32 x81, U32 x82, U32 x83, .slice A7 n8 c9]), (106, .own 59 (Lay.sz Sapi_Item) A7 n8 c9 (cel x10)), (130, .own 35 (Lay.sz Hdr) A66 ((rs40 ++ rs61).length) c67 (cel (rs40 ++ rs61)))]) (fun q85 ⟨x78, x79, x80, x81, x82, x83, x84⟩ => m_r17_Make_l2 x00 v0 v1 v2 x10 x65 q85 x78 x79 x80 x81 x82 x83 x84 = some res) ⟨0#32, 0#32, 0#32, 0#32, 0#32, 0#32, (0 : Int)⟩ ?_ (by simp [m_r17_Make_l2]) ?_
   ·exact h
   rintro q85 ⟨x78, x79, x80, x81, x82, x83, x84⟩ h _ k86
   unfold m_r17_Make_l2 at h
   refine sq fun _ k87 => sr fun _ k88 => mv rfl <| ya (lss rfl rfl) <| dz k88 <| cI h rfl (fun hc89 h => ?_) fun hc89 h => ?_
   ·refine ss <| k87 _ _ <| sq fun _ k90 => bl <| rg fun _ k91 => ?_
    obtain ⟨x92, hx92, h⟩ := bnd h
    obtain ⟨x96, hx96, h⟩ := bnd h
    obtain ⟨x98, hx98, h⟩ := bnd h
    obtain ⟨x99, hx99, h⟩ := bnd h
    refine mv rfl <| mv rfl <| mv rfl ?_
    obtain ⟨r_93, hr94, hq95⟩ := Rels.idx hq69 hx92
    refine ya (idxC (xs := (rs40 ++ rs61)) sty_29 rfl rfl (rO 130 rfl) hr94) <| ya (loadC0 (xs := (rs40 ++ rs61)) scal_35 rfl (rO 130 rfl) hr94 rfl) <| c0 Tryz.func52 rfl (fun w hb hh => w_r01_Sum (Mem.snap w) r_93.A r_93.n r_93.c _ (sM rfl hq95 w hb hh) hx96) <| ya (fieldAddr Tryz.underlying28 rfl nz_25 rfl rfl) <| ya (idxArrF (xs := ([x78, x79, x80, x81, x82, x83] : List (BitVec 32))) und_25 rfl rfl rfl rfl hx98) <| WL.eff0 (Eff0.storeArrF 104 (xs := ([x78, x79, x80, x81, x82, x83] : List (BitVec 32))) (pre := [I64 v0, I64 v1, I64 v2, I64 (x00.length : Int)]) (post := [.slice A7 n8 c9]) (zs := [(x99.getD 0 0#32), (x99.getD 1 0#32), (x99.getD 2 0#32), (x99.getD 3 0#32), (x99.getD 4 0#32), (x99.getD 5 0#32)]) (cs := [I64 v0, I64 v1, I64 v2, I64 (x00.length : Int), U32 (x99.getD 0 0#32), U32 (x99.getD 1 0#32), U32 (x99.getD 2 0#32), U32 (x99.getD 3 0#32), U32 (x99.getD 4 0#32), U32 (x99.getD 5 0#32), .slice A7 n8 c9]) (a' := x96) siz_24 rfl rfl rfl rfl rfl rfl rfl hx99 (eta_getD 0#32 (upd_len hx99 rfl)) rfl) <| dz k91 <| bn <| tn <| k90 _ _ <| rg fun _ k100 => bd h fun x101 hx101 h => mv rfl <| ya (addC rfl rfl hx101) <| ak rfl k100 <| tn <| kw (k86 ⟨(x99.getD 0 0#32), (x99.getD 1 0#32), (x99.getD 2 0#32), (x99.getD 3 0#32), (x99.getD 4 0#32), (x99.getD 5 0#32), x101⟩ h)
   exact xi <| te <| te <| bx <| tn <| kw (k76 ⟨x78, x79, x80, x81, x82, x83⟩ h)
  rintro ⟨x70, x71, x72, x73, x74, x75⟩ h
  unfold m_r17_Make_j1 at h
  refine sd [(0, _), (104, _), (106, _), (130, _)] mixed fun _ k102 => ?_
  refine dm 0 rfl rfl <| du 1 rfl (loadBM (k := 104) agg_28 rfl rfl rfl) <| du 2 rfl (Yld.assign rfl) <| on 3 <| ds 103 rfl agg_28 rfl rfl rfl <| du 4 rfl (Yld.assign rfl) <| dd <| k102 _ _ <| re ?_
  obtain rfl := si h
  exact rt [130, 106] (ResIs.tmpCellTmpM (k := 103) rfl agg_28 rfl rfl rfl rfl rfl) (Ext.trans hm_M36 hm_M57) ⟨A66, (rs40 ++ rs61).length, c67, (rs40 ++ rs61), A7, n8, c9, rfl, rfl, hq69⟩
 refine sr fun _ k103 => ya (build rfl (bu_28_)) <| asn rfl <| sb 103 agg_28 rfl rfl rfl <| ak rfl k103 <| re <| tr <| QK.nilOwn 204 35 (Lay.sz Hdr) none <| QK.nilOwn 205 59 (Lay.sz Sapi_Item) none ?_
 obtain rfl := si h
 exact rt [204, 205] (ResIs.tmpCellTmpM (k := 103) rfl agg_28 rfl rfl rfl rfl rfl) (Ext.refl _ _) ⟨none, 0, 0, ([] : List Hdr), none, 0, 0, rfl, rfl, (Rels.nil (R := (RelB (α := BitVec 8)) M0))⟩
theorem w_law18_made (M0 : Mem) (A00 : Option Addr) (n00 c00 : Nat) (rs00 : List Rapi_Needle) (x00 : List Sapi_Needle) (hf00 : SlT M0 A00 n00 c00 rs00) (hq00 : Rels (rel_api_Needle M0) rs00 x00) {res : By × (List Sneedlestoreref09_Record) × Int × Int × Int × Int × (BitVec 32) × (BitVec 32) × (BitVec 32) × (BitVec 32) × (BitVec 32) × (BitVec 32) × (List Sapi_Item) × (List By)} (h : m_law18_made x00 = some res) :
  Fn Tryz.prog 10 #[.slice A00 n00 c00] M0 fun r M' es => ∃ (A1 : Option Addr) (n1 c1 : Nat), ∃ (A2 : Option Addr) (n2 c2 : Nat), ∃ rs2 : List Rneedlestoreref09_Record, ∃ (A3 : Option Addr) (n3 c3 : Nat), ∃ (A4 : Option Addr) (n4 c4 : Nat), ∃ rs4 : List Hdr, r = .agg ([.slice A1 n1 c1, .slice A2 n2 c2, I64 res.2.2.1, I64 res.2.2.2.1, I64 res.2.2.2.2.1, I64 res.2.2.2.2.2.1, U32 res.2.2.2.2.2.2.1, U32 res.2.2.2.2.2.2.2.1, U32 res.2.2.2.2.2.2.2.2.1, U32 res.2.2.2.2.2.2.2.2.2.1, U32 res.2.2.2.2.2.2.2.2.2.2.1, U32 res.2.2.2.2.2.2.2.2.2.2.2.1, .slice A3 n3 c3, .slice A4 n4 c4] : List Value).toArray /\ es = [.own 57 (Lay.sz Rneedlestoreref09_Record) A2 n2 c2 (cel rs2), .own 59 (Lay.sz Sapi_Item) A3 n3 c3 (cel res.2.2.2.2.2.2.2.2.2.2.2.2.1), .own 35 (Lay.sz Hdr) A4 n4 c4 (cel rs4)] /\ SlT M' A1 n1 c1 res.1 /\ Rels (rel_needlestoreref09_Record M') rs2 res.2.1 /\ Rels ((RelB (α := BitVec 8)) M') rs4 res.2.2.2.2.2.2.2.2.2.2.2.2.2 := by
 refine Fn.intro (N := 81) Tryz.func10 rfl rfl (nle rfl) fun w0 => ?_
 unfold m_law18_made at h
 refine sr fun _ k1 => al 102 zr_38 fun g2 => dz k1 <| sr fun _ k3 => ya (build rfl (bu_23_0_1_2 (1 : Int) (2 : Int) (3 : Int))) <| al 104 zr_23 fun g4 => sb 104 agg_23 rfl rfl rfl <| dz k3 <| sr fun _ k5 => bd h fun x6 hx6 h => ya (loadBM (k := 104) agg_23 rfl rfl rfl) <| c1 110 Tryz.func25 rfl (fun w hb hh => w_r07_Encode (Mem.snap w) (1 : Int) (2 : Int) (3 : Int) hx6) fun A11 n12 c13 => mv rfl <| ya (extract rfl rfl) <| ya (extract rfl rfl) <| asn rfl <| ak rfl k5 <| ct (σ := (Option Addr) × Nat × Nat × By) (fun ⟨A14, n15, c16, x17⟩ => [(2, pv g2), (3, pv g4), (4, .slice A14 n15 c16)]) (fun ⟨A14, n15, c16, x17⟩ => [(0, .mem M0), (102, .blk g2 38 [.slice none 0 0, .slice none 0 0, I64 (0 : Int), I64 (0 : Int), I64 (0 : Int), I64 (0 : Int), U32 0#32, U32 0#32, U32 0#32, U32 0#32, U32 0#32, U32 0#32, .slice none 0 0, .slice none 0 0]), (104, .blk g4 23 [I64 (1 : Int), I64 (2 : Int), I64 (3 : Int)]), (110, .own 5 (Lay.sz (BitVec 8)) A14 n15 c16 (cel x17))]) (fun ⟨A14, n15, c16, x17⟩ => m_law18_made_j0 x17 = some res) (fun _ k18 => ?_) ?_
 ·refine sr fun _ k19 => ak rfl k19 <| bl <| lp (τ := (Option Addr) × Nat × Nat × By × Int) (fun ⟨A20, n21, c22, x23, x24⟩ => [(0, .slice A00 n00 c00), (2, pv g2), (3, pv g4), (4, .slice A20 n21 c22), (6, I64 x24)]) (fun ⟨A20, n21, c22, x23, x24⟩ => [(0, .mem M0), (102, .blk g2 38 [.slice none 0 0, .slice none 0 0, I64 (0 : Int), I64 (0 : Int), I64 (0 : Int), I64 (0 : Int), U32 0#32, U32 0#32, U32 0#32, U32 0#32, U32 0#32, U32 0#32, .slice none 0 0, .slice none 0 0]), (104, .blk g4 23 [I64 (1 : Int), I64 (2 : Int), I64 (3 : Int)]), (110, .own 5 (Lay.sz (BitVec 8)) A20 n21 c22 (cel x23))]) (fun q25 ⟨A20, n21, c22, x23, x24⟩ => m_law18_made_l1 x00 q25 x23 x24 = some res) ⟨A11, n12, c13, x6.1, (0 : Int)⟩ ?_ (by simp [m_law18_made_l1]) ?_
  ·exact h
  rintro q25 ⟨A20, n21, c22, x23, x24⟩ h _ k26
  unfold m_law18_made_l1 at h
  refine ct (σ := Unit) (fun _ => [(0, .slice A00 n00 c00), (2, pv g2), (3, pv g4), (4, .slice A20 n21 c22), (6, I64 x24)]) (fun _ => [(0, .mem M0), (102, .blk g2 38 [.slice none 0 0, .slice none 0 0, I64 (0 : Int), I64 (0 : Int), I64 (0 : Int), I64 (0 : Int), U32 0#32, U32 0#32, U32 0#32, U32 0#32, U32 0#32, U32 0#32, .slice none 0 0, .slice none 0 0]), (104, .blk g4 23 [I64 (1 : Int), I64 (2 : Int), I64 (3 : Int)]), (110, .own 5 (Lay.sz (BitVec 8)) A20 n21 c22 (cel x23))]) (fun _ => m_law18_made_j2 x00 x23 x24 (m_law18_made_l1 x00 q25) = some res) (fun _ k27 => ?_) ?_
  ·refine sr fun _ k28 => mv rfl <| mv rfl <| ya (lenD (rs := rs00) (xs := x00) (Rels.len hq00) und_31 rfl (mM rfl hf00)) <| ya (lss rfl rfl) <| mv rfl <| spl h decide_eq_true decide_eq_false (fun hc29 h => ?_) fun hc29 h => ?_
   ·refine mvg rfl <| yg (lss rfl rfl) <| pt rfl rfl <| dz k28 <| cI h rfl (fun hc30 h => ?_) fun hc30 h => ?_
    ·exact WC.skip <| tn <| kw (k27 () h)
    exact xi <| te <| te <| bx <| tn <| kw (k18 ⟨A20, n21, c22, x23⟩ h)
   exact sk <| sk <| pf rfl rfl <| dz k28 <| cdF rfl <| xi <| te <| te <| bx <| tn <| kw (k18 ⟨A20, n21, c22, x23⟩ h)
  rintro _ h
  unfold m_law18_made_j2 at h
  refine sq fun _ k31 => bl <| sr fun _ k32 => bd h fun x33 hx33 h => mv rfl <| mv rfl ?_
  obtain ⟨⟨_, r_34_0⟩, hr35, rfl, hq36_0⟩ := Rels.idx hq00 hx33
  refine ya (idxC (xs := rs00) sty_31 rfl rfl (mM rfl hf00) hr35) <| ya (loadA (xs := rs00) agg_55 rfl (mM rfl hf00) hr35 rfl) <| al 137 zr_55 fun g37 => sb 137 agg_55 rfl rfl rfl <| dz k32 <| ct (σ := (Option Addr) × Nat × Nat × By) (fun ⟨A38, n39, c40, x41⟩ => [(0, .slice A00 n00 c00), (2, pv g2), (3, pv g4), (4, .slice A20 n21 c22), (6, I64 x24), (7, pv g37)]) (fun ⟨A38, n39, c40, x41⟩ => [(0, .mem M0), (102, .blk g2 38 [.slice none 0 0, .slice none 0 0, I64 (0 : Int), I64 (0 : Int), I64 (0 : Int), I64 (0 : Int), U32 0#32, U32 0#32, U32 0#32, U32 0#32, U32 0#32, U32 0#32, .slice none 0 0, .slice none 0 0]), (104, .blk g4 23 [I64 (1 : Int), I64 (2 : Int), I64 (3 : Int)]), (110, .own 5 (Lay.sz (BitVec 8)) A20 n21 c22 (cel x23)), (137, .blk g37 55 [U64 x33.fKey, U32 x33.fCookie, .bool x33.fDeleted, .slice A38 n39 c40])]) (fun ⟨A38, n39, c40, x41⟩ => m_law18_made_j3 x23 x24 x33 (m_law18_made_l1 x00 q25) x41 = some res /\ SlT M0 A38 n39 c40 x41) (fun _ k43 => ?_) ?_
  ·refine sr fun _ k44 => ya (fieldAddr Tryz.underlying55 rfl nz_35 rfl rfl) <| ya (loadB (k := 137) scal_35 rfl rfl rfl) <| ya (lenC (xs := x33.fData) und_35 rfl (mM rfl hq36_0)) <| ya (gtr rfl rfl) <| dz k44 <| cI h rfl (fun hc45 h => ?_) fun hc45 h => ?_
   ·refine rg fun _ k46 => bd h fun x47 hx47 h => ya (fieldAddr Tryz.underlying55 rfl nz_35 rfl rfl) <| ya (loadB (k := 137) scal_35 rfl rfl rfl) <| ya (sliceHC (xs := x33.fData) sty_35 rfl rfl (mM rfl hq36_0) hx47) <| ya (fieldAddr Tryz.underlying55 rfl nz_35 rfl rfl) <| WL.eff0 (Eff0.storeB 137 siz_35 rfl rfl rfl rfl (nle rfl)) <| dz k46 <| tn <| kw (k43 ⟨r_34_0.A, x47.length, r_34_0.c, x47⟩ ⟨h, (SlT.slc0 hq36_0 hx47)⟩)
   exact WC.skip <| tn <| kw (k43 ⟨r_34_0.A, r_34_0.n, r_34_0.c, x33.fData⟩ ⟨h, hq36_0⟩)
  rintro ⟨A38, n39, c40, x41⟩ ⟨h, hf42⟩
  unfold m_law18_made_j3 at h
  refine sq fun _ k48 => sr fun _ k49 => ya (fieldAddr Tryz.underlying55 rfl nz_4 rfl rfl) <| ya (loadB (k := 137) scal_4 rfl rfl rfl) <| dz k49 <| cnd h rfl id Bool.eq_false_iff.2 (fun hc50 h => ?_) fun hc50 h => ?_
  ·refine rg fun _ k51 => ya (fieldAddr Tryz.underlying55 rfl nz_35 rfl rfl) <| WL.eff0 (Eff0.storeB 137 siz_35 rfl rfl rfl rfl (nle rfl)) <| dz k51 <| tn <| k48 _ _ <| sr fun _ k52 => ya (fieldAddr Tryz.underlying55 rfl nz_53 rfl rfl) <| ya (loadB (k := 137) scal_53 rfl rfl rfl) <| ya (and_u64 (a := x33.fKey) (b := 15#64) rfl rfl) <| ya (fieldAddr Tryz.underlying55 rfl nz_53 rfl rfl) <| WL.eff0 (Eff0.storeB 137 siz_53 rfl rfl rfl rfl (nle rfl)) <| dz k52 <| sr fun _ k53 => bd h fun x54 hx54 h => ya (loadBM (k := 137) agg_55 rfl rfl rfl) <| c1 158 Tryz.func26 rfl (fun w hb hh => w_r06_Encode (Mem.snap w) (x33.fKey &&& 15#64) x33.fCookie x33.fDeleted none 0 0 _ (RdH.sn (RdT.nil (α := BitVec 8)) w hb hh) hx54) fun A59 n60 c61 => mv rfl <| ya (extract rfl rfl) <| ya (extract rfl rfl) <| asn rfl <| ak rfl k53 <| rg fun _ k62 => bd h fun x63 hx63 h => mv rfl <| mv rfl <| ap 110 (xs := x23) (ys := x54.1) sty_35 rfl rfl rfl (rO 158 rfl) hx63 fun A64 c65 => ak rfl k62 <| bn <| tn <| k31 _ _ <| rg fun _ k66 => bd h fun x67 hx67 h => mv rfl <| ya (addC rfl rfl hx67) <| ak rfl k66 <| tn <| kw (k26 ⟨A64, x63.length, c65, x63, x67⟩ h)
  refine ss <| k48 _ _ <| sr fun _ k68 => ya (fieldAddr Tryz.underlying55 rfl nz_53 rfl rfl) <| ya (loadB (k := 137) scal_53 rfl rfl rfl) <| ya (and_u64 (a := x33.fKey) (b := 15#64) rfl rfl) <| ya (fieldAddr Tryz.underlying55 rfl nz_53 rfl rfl) <| WL.eff0 (Eff0.storeB 137 siz_53 rfl rfl rfl rfl (nle rfl)) <| dz k68 <| sr fun _ k69 => bd h fun x70 hx70 h => ya (loadBM (k := 137) agg_55 rfl rfl rfl) <| c1 174 Tryz.func26 rfl (fun w hb hh => w_r06_Encode (Mem.snap w) (x33.fKey &&& 15#64) x33.fCookie x33.fDeleted A38 n39 c40 _ (sM rfl hf42 w hb hh) hx70) fun A75 n76 c77 => mv rfl <| ya (extract rfl rfl) <| ya (extract rfl rfl) <| asn rfl <| ak rfl k69 <| rg fun _ k78 => bd h fun x79 hx79 h => mv rfl <| mv rfl <| ap 110 (xs := x23) (ys := x70.1) sty_35 rfl rfl rfl (rO 174 rfl) hx79 fun A80 c81 => ak rfl k78 <| bn <| tn <| k31 _ _ <| rg fun _ k82 => bd h fun x83 hx83 h => mv rfl <| ya (addC rfl rfl hx83) <| ak rfl k82 <| tn <| kw (k26 ⟨A80, x79.length, c81, x79, x83⟩ h)
 rintro ⟨A14, n15, c16, x17⟩ h
 unfold m_law18_made_j0 at h
 refine sr fun _ k84 => bd h fun x85 hx85 h => mv rfl <| WL.freeze 110 rfl rfl rfl fun M97 hm_M97 hf98 => WL.eff (by decide) (Eff.callM 191 rfl Tryz.func27 nm_27 rfl rfl rfl (w_r09_Open _ A14 n15 c16 _ hf98 hx85)) ?_
 rintro _ _ ⟨M99, _, ⟨A100, n101, c102, rs103, rfl, rfl, hq104⟩, hm_M99, rfl⟩
 refine mv rfl <| ya (extract rfl rfl) <| ya (extract rfl rfl) <| ya (extract rfl rfl) <| ya (extract rfl rfl) <| al 205 zr_23 fun g105 => sb 205 agg_23 rfl rfl rfl <| asn rfl <| asn rfl <| ak rfl k84 <| sd [(102, _), (104, _), (191, _), (205, _)] mixed fun _ k106 => ?_
 obtain ⟨x107, hx107, h⟩ := bnd h
 obtain ⟨x115, hx115, h⟩ := bnd h
 refine dm 0 rfl rfl <| du 1 rfl (loadBM (k := 104) agg_23 rfl rfl rfl) <| dm 2 rfl rfl <| WD.two 3 9 (by kernel_rfl) ?_ ?_
 ·refine WS.eff rfl (by decide) (Eff.callS 211 rfl Tryz.func29 nm_29 rfl rfl (fun w hb hh => w_r09_Items (Mem.snap w) A100 n101 c102 rs103 _ (RdH.sn (rO 191 rfl) w hb hh) (Rels.sn hq104 (hh.sat 0 _ rfl)) hx107)) ?_
  rintro _ _ ⟨_, ⟨A112, n113, c114, rfl, rfl⟩, rfl⟩
  refine aq ?_
  refine WD.two 4 9 (by kernel_rfl) ?_ ?_
  ·refine WS.freeze 211 rfl rfl rfl rfl rfl fun M134 hm_M134 hf135 => WS.eff rfl (by decide) (Eff.callM 224 rfl Tryz.func28 nm_28 rfl rfl rfl (w_r17_Make _ A14 n15 c16 _ (SlRc.lift (SlRc.lift hf98 hm_M99) hm_M134) (1 : Int) (2 : Int) (3 : Int) A112 n113 c114 _ hf135 hx115)) ?_
   rintro _ _ ⟨M136, _, ⟨A137, n138, c139, rs140, A142, n143, c144, rfl, rfl, hq141⟩, hm_M136, rfl⟩
   refine aq ?_
   refine dm 5 rfl rfl <| du 6 rfl (extract rfl rfl) <| du 7 rfl (extract rfl rfl) <| du 8 rfl (extract rfl rfl) <| on 9 <| WS.eff rfl (by decide) (Eff.alloc 245 rfl zr_28) ?_
   rintro _ _ ⟨g145, rfl, rfl⟩
   refine aq ?_
   refine du 10 rfl (Yld.assign rfl) <| on 11 <| ds 245 rfl agg_28 rfl rfl rfl <| du 12 rfl (Yld.assign rfl) <| dd <| k106 _ _ <| sr fun _ k146 => mv rfl <| mv rfl <| ya (loadBM (k := 245) agg_28 rfl rfl rfl) <| mv rfl <| ya (build rfl (bu_38_0_1_2_3 A14 n15 c16 A100 n101 c102 x115.2.1 x115.2.2.1 x115.2.2.2.1 x115.2.2.2.2.1 x115.2.2.2.2.2.1 x115.2.2.2.2.2.2.1 x115.2.2.2.2.2.2.2.1 x115.2.2.2.2.2.2.2.2.1 x115.2.2.2.2.2.2.2.2.2.1 x115.2.2.2.2.2.2.2.2.2.2.1 A142 n143 c144 A137 n138 c139)) <| sb 102 agg_38 rfl rfl rfl <| dz k146 <| re ?_
   obtain rfl := si h
   exact rt [191, 225, 224] (ResIs.cellM (k := 102) rfl agg_38 rfl rfl (rfl)) (Ext.trans (Ext.trans (Ext.trans hm_M97 hm_M99) hm_M134) hm_M136) ⟨A14, n15, c16, A100, n101, c102, rs103, A142, n143, c144, A137, n138, c139, rs140, rfl, rfl, (SlRc.lift (SlRc.lift (SlRc.lift hf98 hm_M99) hm_M134) hm_M136), (Rels.lift (Rels.lift hq104 hm_M134) hm_M136), hq141⟩
  skip
  refine WS.eff rfl (by decide) (Eff.alloc 245 rfl zr_28) ?_
  rintro _ _ ⟨g145, rfl, rfl⟩
  refine aq ?_
  refine on 4 <| WS.freeze 211 rfl rfl rfl rfl rfl fun M134 hm_M134 hf135 => WS.eff rfl (by decide) (Eff.callM 224 rfl Tryz.func28 nm_28 rfl rfl rfl (w_r17_Make _ A14 n15 c16 _ (SlRc.lift (SlRc.lift hf98 hm_M99) hm_M134) (1 : Int) (2 : Int) (3 : Int) A112 n113 c114 _ hf135 hx115)) ?_
  rintro _ _ ⟨M136, _, ⟨A137, n138, c139, rs140, A142, n143, c144, rfl, rfl, hq141⟩, hm_M136, rfl⟩
  refine aq ?_
  refine dm 5 rfl rfl <| du 6 rfl (extract rfl rfl) <| du 7 rfl (extract rfl rfl) <| du 8 rfl (extract rfl rfl) <| du 10 rfl (Yld.assign rfl) <| on 11 <| ds 245 rfl agg_28 rfl rfl rfl <| du 12 rfl (Yld.assign rfl) <| dd <| k106 _ _ <| sr fun _ k147 => mv rfl <| mv rfl <| ya (loadBM (k := 245) agg_28 rfl rfl rfl) <| mv rfl <| ya (build rfl (bu_38_0_1_2_3 A14 n15 c16 A100 n101 c102 x115.2.1 x115.2.2.1 x115.2.2.2.1 x115.2.2.2.2.1 x115.2.2.2.2.2.1 x115.2.2.2.2.2.2.1 x115.2.2.2.2.2.2.2.1 x115.2.2.2.2.2.2.2.2.1 x115.2.2.2.2.2.2.2.2.2.1 x115.2.2.2.2.2.2.2.2.2.2.1 A142 n143 c144 A137 n138 c139)) <| sb 102 agg_38 rfl rfl rfl <| dz k147 <| re ?_
  obtain rfl := si h
  exact rt [191, 225, 224] (ResIs.cellM (k := 102) rfl agg_38 rfl rfl (rfl)) (Ext.trans (Ext.trans (Ext.trans hm_M97 hm_M99) hm_M134) hm_M136) ⟨A14, n15, c16, A100, n101, c102, rs103, A142, n143, c144, A137, n138, c139, rs140, rfl, rfl, (SlRc.lift (SlRc.lift (SlRc.lift hf98 hm_M99) hm_M134) hm_M136), (Rels.lift (Rels.lift hq104 hm_M134) hm_M136), hq141⟩
 skip
 refine WS.eff rfl (by decide) (Eff.alloc 245 rfl zr_28) ?_
 rintro _ _ ⟨g145, rfl, rfl⟩
 refine aq ?_
 refine on 3 <| WS.eff rfl (by decide) (Eff.callS 211 rfl Tryz.func29 nm_29 rfl rfl (fun w hb hh => w_r09_Items (Mem.snap w) A100 n101 c102 rs103 _ (RdH.sn (rO 191 rfl) w hb hh) (Rels.sn hq104 (hh.sat 0 _ rfl)) hx107)) ?_
 rintro _ _ ⟨_, ⟨A112, n113, c114, rfl, rfl⟩, rfl⟩
 refine aq ?_
 refine on 4 <| WS.freeze 211 rfl rfl rfl rfl rfl fun M134 hm_M134 hf135 => WS.eff rfl (by decide) (Eff.callM 224 rfl Tryz.func28 nm_28 rfl rfl rfl (w_r17_Make _ A14 n15 c16 _ (SlRc.lift (SlRc.lift hf98 hm_M99) hm_M134) (1 : Int) (2 : Int) (3 : Int) A112 n113 c114 _ hf135 hx115)) ?_
 rintro _ _ ⟨M136, _, ⟨A137, n138, c139, rs140, A142, n143, c144, rfl, rfl, hq141⟩, hm_M136, rfl⟩
 refine aq ?_
 refine dm 5 rfl rfl <| du 6 rfl (extract rfl rfl) <| du 7 rfl (extract rfl rfl) <| du 8 rfl (extract rfl rfl) <| du 10 rfl (Yld.assign rfl) <| on 11 <| ds 245 rfl agg_28 rfl rfl rfl <| du 12 rfl (Yld.assign rfl) <| dd <| k106 _ _ <| sr fun _ k148 => mv rfl <| mv rfl <| ya (loadBM (k := 245) agg_28 rfl rfl rfl) <| mv rfl <| ya (build rfl (bu_38_0_1_2_3 A14 n15 c16 A100 n101 c102 x115.2.1 x115.2.2.1 x115.2.2.2.1 x115.2.2.2.2.1 x115.2.2.2.2.2.1 x115.2.2.2.2.2.2.1 x115.2.2.2.2.2.2.2.1 x115.2.2.2.2.2.2.2.2.1 x115.2.2.2.2.2.2.2.2.2.1 x115.2.2.2.2.2.2.2.2.2.2.1 A142 n143 c144 A137 n138 c139)) <| sb 102 agg_38 rfl rfl rfl <| dz k148 <| re ?_
 obtain rfl := si h
 exact rt [191, 225, 224] (ResIs.cellM (k := 102) rfl agg_38 rfl rfl (rfl)) (Ext.trans (Ext.trans (Ext.trans hm_M97 hm_M99) hm_M134) hm_M136) ⟨A14, n15, c16, A100, n101, c102, rs103, A142, n143, c144, A137, n138, c139, rs140, rfl, rfl, (SlRc.lift (SlRc.lift (SlRc.lift hf98 hm_M99) hm_M134) hm_M136), (Rels.lift (Rels.lift hq104 hm_M134) hm_M136), hq141⟩
end Go.Proofs.YtcncappgheopgaaGreat
