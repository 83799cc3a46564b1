/- A part of the proof. Conditions: as each theorem says. -/
import Derived.Test.YthjnhlmfcejhkaaGreatWkq
import Derived.Test.YthjnhlmfcejhkaaGreatMdr
namespace Go.Proofs.YthjnhlmfcejhkaaGreat
set_option maxRecDepth 10000
open Go Go.RowKit Yld
set_option linter.unusedVariables false
theorem und_26 : Tryz.prog.underlying 26 = some (.slice 77) := by kernel_rfl
theorem und_79 : Tryz.prog.underlying 79 = some (.slice 120) := by kernel_rfl
theorem bu_120_0_1 : ∀ (a0 : Int) (a1_0 : BitVec 64) (a1_1 : BitVec 32) (a1_2 : Bool) (a1_3 : Option Addr) (n1_3 c1_3 : Nat), Tryz.prog.built 120 [(0, I64 a0), (1, .agg ([U64 a1_0, U32 a1_1, .bool a1_2, .slice a1_3 n1_3 c1_3] : List Value).toArray)] = some ([I64 a0, U64 a1_0, U32 a1_1, .bool a1_2, .slice a1_3 n1_3 c1_3] : List Value).toArray := fun a0 a1_0 a1_1 a1_2 a1_3 n1_3 c1_3 => by kernel_rfl
theorem nm_10 : (Tryz.f10.name == "runtime.NumGoroutine") = false := by kernel_rfl
theorem nm_11 : (Tryz.f11.name == "runtime.NumGoroutine") = false := by kernel_rfl
theorem nm_17 : (Tryz.f17.name == "runtime.NumGoroutine") = false := by kernel_rfl
theorem nm_33 : (Tryz.f33.name == "runtime.NumGoroutine") = false := by kernel_rfl
theorem nm_34 : (Tryz.f34.name == "runtime.NumGoroutine") = false := by kernel_rfl
theorem nm_74 : (Tryz.f74.name == "runtime.NumGoroutine") = false := by kernel_rfl
theorem nm_76 : (Tryz.f76.name == "runtime.NumGoroutine") = false := by kernel_rfl
theorem nz_77 : (Tryz.prog.info? 77).map (fun i => decide (i.size = 0)) = some false := by kernel_rfl
theorem siz_57 : (Tryz.prog.info? 57).map (·.size) = some 1 := by kernel_rfl
theorem sty_26 : STy Tryz.prog 26 77 (.agg #[(U64 0#64), (U32 0#32), (.bool false), (.slice none 0 0)]) 4 40 := STy.of und_26 (by kernel_rfl) rfl
theorem sty_79 : STy Tryz.prog 79 120 (.agg #[(I64 0), (U64 0#64), (U32 0#32), (.bool false), (.slice none 0 0)]) 5 48 := STy.of und_79 (by kernel_rfl) rfl
structure Rapi_Needle where
 x : Sapi_Needle
 h0 : Hdr
instance : Lay Rapi_Needle := ⟨4, fun r => [U64 r.x.fKey, U32 r.x.fCookie, .bool r.x.fDeleted, .slice r.h0.A r.h0.n r.h0.c], fun _ => rfl, fun _ u h => by simp only [List.mem_cons, List.not_mem_nil, or_false] at h; rcases h with rfl | rfl | rfl | rfl <;> rfl, by decide⟩
def rel_api_Needle (M : Mem) (r : Rapi_Needle) (x : Sapi_Needle) : Prop := x = r.x /\ (RelB (α := BitVec 8)) M r.h0 x.fData
instance : Mono rel_api_Needle := ⟨fun ⟨h0, h1⟩ hm => ⟨h0, Mono.mono h1 hm⟩⟩
structure Rneedlestoreref09_Record where
 x : Sneedlestoreref09_Record
 h0 : Hdr
instance : Lay Rneedlestoreref09_Record := ⟨5, fun r => [I64 r.x.fOff, U64 r.x.fNeedle.fKey, U32 r.x.fNeedle.fCookie, .bool r.x.fNeedle.fDeleted, .slice r.h0.A r.h0.n r.h0.c], fun _ => rfl, fun _ u h => by simp only [List.mem_cons, List.not_mem_nil, or_false] at h; rcases h with rfl | rfl | rfl | rfl | rfl <;> rfl, by decide⟩
def rel_needlestoreref09_Record (M : Mem) (r : Rneedlestoreref09_Record) (x : Sneedlestoreref09_Record) : Prop := x = r.x /\ (RelB (α := BitVec 8)) M r.h0 x.fNeedle.fData
instance : Mono rel_needlestoreref09_Record := ⟨fun ⟨h0, h1⟩ hm => ⟨h0, Mono.mono h1 hm⟩⟩
theorem w_r09_Records (M0 : Mem) (A00 : Option Addr) (n00 c00 : Nat) (x00 : By) (hf00 : SlT M0 A00 n00 c00 x00) (x01 : Int) {res : (List Sneedlestoreref09_Record) × Int} (h : m_r09_Records x00 x01 = some res) :
  Fn Tryz.prog 74 #[.slice A00 n00 c00, I64 x01] M0 fun r M' es => ∃ (A1 : Option Addr) (n1 c1 : Nat), ∃ rs1 : List Rneedlestoreref09_Record, r = .tuple #[.slice A1 n1 c1, I64 res.2] /\ es = [.own 120 (Lay.sz Rneedlestoreref09_Record) A1 n1 c1 (cel rs1)] /\ Rels (rel_needlestoreref09_Record M') rs1 res.1 := by
 refine Fn.intro (N := 35) Tryz.func74 rfl rfl (nle rfl) fun w0 => ?_
 unfold m_r09_Records at h
 refine sr fun _ k1 => asn rfl <| ak rfl k1 <| sr fun _ k2 => ak rfl k2 <| ct (σ := Mem × Int × (Option Addr) × Nat × Nat × (List Sneedlestoreref09_Record) × (List Rneedlestoreref09_Record)) (fun ⟨M3, x4, A7, n8, c9, x10, rs11⟩ => [(1, I64 x4), (6, .slice A7 n8 c9)]) (fun ⟨M3, x4, A7, n8, c9, x10, rs11⟩ => [(0, .mem M3), (106, .own 120 (Lay.sz Rneedlestoreref09_Record) A7 n8 c9 (cel rs11))]) (fun ⟨M3, x4, A7, n8, c9, x10, rs11⟩ => m_r09_Records_j0 x4 x10 = some res /\ Ext w0.heap.size M0 M3 /\ Rels (rel_needlestoreref09_Record M3) rs11 x10) (fun _ k13 => ?_) ?_
 ·refine bl <| WC.nilOwn 117 120 (Lay.sz Rneedlestoreref09_Record) none <| lp (τ := Mem × Int × (Option Addr) × Nat × Nat × (List Sneedlestoreref09_Record) × (List Rneedlestoreref09_Record)) (fun ⟨M14, x15, A18, n19, c20, x21, rs22⟩ => [(0, .slice A00 n00 c00), (1, I64 x15), (6, .slice A18 n19 c20)]) (fun ⟨M14, x15, A18, n19, c20, x21, rs22⟩ => [(0, .mem M14), (117, .own 120 (Lay.sz Rneedlestoreref09_Record) A18 n19 c20 (cel rs22))]) (fun q24 ⟨M14, x15, A18, n19, c20, x21, rs22⟩ => m_r09_Records_l1 x00 q24 x15 x21 = some res /\ Ext w0.heap.size M0 M14 /\ Rels (rel_needlestoreref09_Record M14) rs22 x21) ⟨M0, x01, none, 0, 0, ([] : List Sneedlestoreref09_Record), ([] : List Rneedlestoreref09_Record)⟩ ?_ (by simp [m_r09_Records_l1]) ?_
  ·exact ⟨h, (Ext.refl _ _), (Rels.nil (R := rel_needlestoreref09_Record M0))⟩
  rintro q24 ⟨M14, x15, A18, n19, c20, x21, rs22⟩ ⟨h, hm_M14, hq23⟩ _ k25
  unfold m_r09_Records_l1 at h
  refine sq fun _ k26 => sr fun _ k27 => mv rfl <| mv rfl <| ya (lenC (xs := x00) und_22 rfl (mM rfl (SlRc.lift hf00 hm_M14))) <| ya (leq rfl rfl) <| dz k27 <| cI h rfl (fun hc28 h => ?_) fun hc28 h => ?_
  ·refine ss <| k26 _ _ <| bl <| sr fun _ k29 => ?_
   obtain ⟨x30, hx30, h⟩ := bnd h
   obtain ⟨x31, hx31, h⟩ := bnd h
   refine mv rfl <| mv rfl <| ya (sliceLC (xs := x00) sty_22 rfl rfl (mM rfl (SlRc.lift hf00 hm_M14)) hx30) <| c1 135 Tryz.func102 rfl (fun w hb hh => w_r06_Decode (Mem.snap w) (subA A00 c00 (x15).toNat (Lay.sz (BitVec 8))) x30.length (c00 - (x15).toNat) _ (RdH.sn (RdT.slc (mM rfl (SlRc.lift hf00 hm_M14)) hx30) w hb hh) hx31) fun A36 n37 c38 => mv rfl <| ya (extract rfl rfl) <| ya (extract rfl rfl) <| ya (extract rfl rfl) <| al 139 zr_77 fun g39 => sb 139 agg_77 rfl rfl rfl <| asn rfl <| ak rfl k29 <| sq fun _ k40 => sr fun _ k41 => mv rfl <| ya (neqI rfl rfl) <| dz k41 <| cnn h rfl bne_eq_false_iff_eq.2 bne_iff_ne.2 (fun hc42 h => ?_) fun hc42 h => ?_
   ·refine ss <| k40 _ _ <| sr fun _ k43 => bd h fun x48 hx48 h => mv rfl <| mv rfl <| ya (loadBM (k := 139) agg_77 rfl rfl rfl) <| ya (build rfl (bu_120_0_1 x15 x31.1 x31.2.1 x31.2.2.1 A36 n37 c38)) <| WL.freeze 135 rfl rfl rfl fun M45 hm_M45 hf46 => ?_
    have hq47 : Rels (rel_needlestoreref09_Record M45) ([(Rneedlestoreref09_Record.mk (Sneedlestoreref09_Record.mk x15 (Sapi_Needle.mk x31.1 x31.2.1 x31.2.2.1 x31.2.2.2.1)) (⟨A36, n37, c38⟩ : Hdr))] : List Rneedlestoreref09_Record) ([(Sneedlestoreref09_Record.mk x15 (Sapi_Needle.mk x31.1 x31.2.1 x31.2.2.1 x31.2.2.2.1))] : List Sneedlestoreref09_Record) := (Rels.cons ⟨rfl, hf46⟩ Rels.nil)
    refine WL.eff (by decide) (Eff.buildCA 144 ([(Rneedlestoreref09_Record.mk (Sneedlestoreref09_Record.mk x15 (Sapi_Needle.mk x31.1 x31.2.1 x31.2.2.1 x31.2.2.2.1)) (⟨A36, n37, c38⟩ : Hdr))] : List Rneedlestoreref09_Record) sty_79 rfl rfl rfl (by decide)) ?_
    rintro _ _ ⟨g44, rfl, rfl⟩
    obtain ⟨hu51, hq52⟩ := Rels.apd (Rels.lift hq23 hm_M45) hq47 hx48
    refine ap 117 (xs := rs22) (ys := ([(Rneedlestoreref09_Record.mk (Sneedlestoreref09_Record.mk x15 (Sapi_Needle.mk x31.1 x31.2.1 x31.2.2.1 x31.2.2.2.1)) (⟨A36, n37, c38⟩ : Hdr))] : List Rneedlestoreref09_Record)) sty_79 rfl rfl rfl (rO 144 rfl) hu51 fun A49 c50 => ak rfl k43 <| rg fun _ k53 => bd h fun x54 hx54 h => mv rfl <| mv rfl <| ya (addC rfl rfl hx54) <| ak rfl k53 <| bn <| tn <| kw (k25 ⟨M45, x54, A49, (rs22 ++ ([(Rneedlestoreref09_Record.mk (Sneedlestoreref09_Record.mk x15 (Sapi_Needle.mk x31.1 x31.2.1 x31.2.2.1 x31.2.2.2.1)) (⟨A36, n37, c38⟩ : Hdr))] : List Rneedlestoreref09_Record)).length, c50, x48, (rs22 ++ ([(Rneedlestoreref09_Record.mk (Sneedlestoreref09_Record.mk x15 (Sapi_Needle.mk x31.1 x31.2.1 x31.2.2.1 x31.2.2.2.1)) (⟨A36, n37, c38⟩ : Hdr))] : List Rneedlestoreref09_Record))⟩ ⟨h, (Ext.trans hm_M14 hm_M45), hq52⟩)
   exact xi <| te <| bo <| te <| bx <| tn <| KK.move 117 106 rfl rfl <| kw (k13 ⟨M14, x15, A18, n19, c20, x21, rs22⟩ ⟨h, hm_M14, hq23⟩)
  exact xi <| te <| te <| bx <| tn <| KK.move 117 106 rfl rfl <| kw (k13 ⟨M14, x15, A18, n19, c20, x21, rs22⟩ ⟨h, hm_M14, hq23⟩)
 rintro ⟨M3, x4, A7, n8, c9, x10, rs11⟩ ⟨h, hm_M3, hq12⟩
 unfold m_r09_Records_j0 at h
 refine sr fun _ k55 => mv rfl <| mv rfl <| asn rfl <| ak rfl k55 <| re ?_
 obtain rfl := si h
 exact rt [106] (ResIs.two rfl rfl rfl) hm_M3 ⟨A7, n8, c9, rs11, rfl, rfl, hq12⟩
theorem w_r09_Open (M0 : Mem) (A00 : Option Addr) (n00 c00 : Nat) (x00 : By) (hf00 : SlT M0 A00 n00 c00 x00) {res : Int × Int × Int × (List Sneedlestoreref09_Record) × Int × Int} (h : m_r09_Open x00 = some res) :
  Fn Tryz.prog 33 #[.slice A00 n00 c00] M0 fun r M' es => ∃ (A1 : Option Addr) (n1 c1 : Nat), ∃ rs1 : List Rneedlestoreref09_Record, r = .tuple #[.agg ([I64 res.1, I64 res.2.1, I64 res.2.2.1] : List Value).toArray, .slice A1 n1 c1, I64 res.2.2.2.2.1, I64 res.2.2.2.2.2] /\ es = [.own 120 (Lay.sz Rneedlestoreref09_Record) A1 n1 c1 (cel rs1)] /\ Rels (rel_needlestoreref09_Record M') rs1 res.2.2.2.1 := by
 refine Fn.intro (N := 27) Tryz.func33 rfl rfl (nle rfl) fun w0 => ?_
 unfold m_r09_Open at h
 refine sr fun _ k1 => al 102 zr_24 fun g2 => asn rfl <| asn rfl <| ak rfl k1 <| sr fun _ k3 => bd h fun x4 hx4 h => mv rfl <| c0 Tryz.func73 rfl (fun w hb hh => w_r07_Decode (Mem.snap w) A00 n00 c00 _ (sM rfl hf00 w hb hh) hx4) <| mv rfl <| ya (extract rfl rfl) <| ya (extract rfl rfl) <| al 106 zr_24 fun g6 => sb 106 agg_24 rfl rfl rfl <| ak rfl k3 <| sq fun _ k7 => sr fun _ k8 => mv rfl <| ya (neqI rfl rfl) <| dz k8 <| cnn h rfl bne_eq_false_iff_eq.2 bne_iff_ne.2 (fun hc9 h => ?_) fun hc9 h => ?_
 ·refine ss <| k7 _ _ <| sr fun _ k10 => bd h fun x11 hx11 h => mv rfl <| WL.eff (by decide) (Eff.callM 117 rfl Tryz.func74 nm_74 rfl rfl rfl (w_r09_Records _ A00 n00 c00 _ hf00 (16 : Int) hx11)) ?_
  rintro _ _ ⟨M23, _, ⟨A24, n25, c26, rs27, rfl, rfl, hq28⟩, hm_M23, rfl⟩
  refine mv rfl <| ya (extract rfl rfl) <| ya (extract rfl rfl) <| asn rfl <| ak rfl k10 <| sr fun _ k29 => ya (loadBM (k := 106) agg_24 rfl rfl rfl) <| mv rfl <| mv rfl <| sb 102 agg_24 rfl rfl rfl <| asn rfl <| asn rfl <| ak rfl k29 <| re ?_
  obtain rfl := si h
  exact rt [117] (ResIs.cellTmp3M (k := 102) rfl agg_24 rfl rfl rfl rfl rfl rfl) hm_M23 ⟨A24, n25, c26, rs27, rfl, rfl, hq28⟩
 refine sr fun _ k30 => ya (build rfl (bu_24_)) <| mv rfl <| sb 102 agg_24 rfl rfl rfl <| asn rfl <| asn rfl <| ak rfl k30 <| re <| tr <| QK.nilOwn 131 120 (Lay.sz Rneedlestoreref09_Record) none ?_
 obtain rfl := si h
 exact rt [131] (ResIs.cellTmp3M (k := 102) rfl agg_24 rfl rfl rfl rfl rfl rfl) (Ext.refl _ _) ⟨none, 0, 0, ([] : List Rneedlestoreref09_Record), rfl, rfl, (Rels.nil (R := rel_needlestoreref09_Record M0))⟩
theorem w_r09_Items (M0 : Mem) (A00 : Option Addr) (n00 c00 : Nat) (rs00 : List Rneedlestoreref09_Record) (x00 : List Sneedlestoreref09_Record) (hf00 : SlT M0 A00 n00 c00 rs00) (hq00 : Rels (rel_needlestoreref09_Record M0) rs00 x00) {res : (List Sapi_Item)} (h : m_r09_Items x00 = some res) :
  Fn Tryz.prog 34 #[.slice A00 n00 c00] M0 fun r M' es => ∃ (A1 : Option Addr) (n1 c1 : Nat), r = .slice A1 n1 c1 /\ es = [.own 59 (Lay.sz Sapi_Item) A1 n1 c1 (cel res)] := by
 refine Fn.intro (N := 39) Tryz.func34 rfl rfl (nle rfl) fun w0 => ?_
 unfold m_r09_Items at h
 refine sr fun _ k1 => ak rfl k1 <| sr fun _ k2 => ak rfl k2 <| ct (σ := (Option Addr) × Nat × Nat × (List Sapi_Item)) (fun ⟨A5, n6, c7, x8⟩ => [(3, .slice A5 n6 c7)]) (fun ⟨A5, n6, c7, x8⟩ => [(0, .mem M0), (104, .own 59 (Lay.sz Sapi_Item) A5 n6 c7 (cel x8))]) (fun ⟨A5, n6, c7, x8⟩ => m_r09_Items_j0 x8 = some res) (fun _ k9 => ?_) ?_
 ·refine sr fun _ k10 => ak rfl k10 <| bl <| WC.nilOwn 112 59 (Lay.sz Sapi_Item) none <| lp (τ := (Option Addr) × Nat × Nat × (List Sapi_Item) × Int) (fun ⟨A13, n14, c15, x16, x17⟩ => [(0, .slice A00 n00 c00), (3, .slice A13 n14 c15), (4, I64 x17)]) (fun ⟨A13, n14, c15, x16, x17⟩ => [(0, .mem M0), (112, .own 59 (Lay.sz Sapi_Item) A13 n14 c15 (cel x16))]) (fun q18 ⟨A13, n14, c15, x16, x17⟩ => m_r09_Items_l1 x00 q18 x16 x17 = some res) ⟨none, 0, 0, ([] : List Sapi_Item), (0 : Int)⟩ ?_ (by simp [m_r09_Items_l1]) ?_
  ·exact h
  rintro q18 ⟨A13, n14, c15, x16, x17⟩ h _ k19
  unfold m_r09_Items_l1 at h
  refine sq fun _ k20 => sr fun _ k21 => mv rfl <| mv rfl <| ya (lenD (rs := rs00) (xs := x00) (Rels.len hq00) und_79 rfl (mM rfl hf00)) <| ya (lss rfl rfl) <| dz k21 <| cI h rfl (fun hc22 h => ?_) fun hc22 h => ?_
  ·refine ss <| k20 _ _ <| sq fun _ k23 => bl <| sr fun _ k24 => bd h fun x25 hx25 h => mv rfl <| mv rfl ?_
   obtain ⟨⟨_, r_26_0⟩, hr27, rfl, hq28_0⟩ := Rels.idx hq00 hx25
   refine ya (idxC (xs := rs00) sty_79 rfl rfl (mM rfl hf00) hr27) <| ya (fieldAddrC Tryz.underlying120 rfl nz_77 rfl rfl) <| ya (loadAP (xs := rs00) (j := 1) agg_77 rfl (mM rfl hf00) hr27 rfl rfl) <| al 129 zr_77 fun g29 => sb 129 agg_77 rfl rfl rfl <| dz k24 <| sr fun _ k30 => ya (fieldAddr Tryz.underlying77 rfl nz_4 rfl rfl) <| ya (loadB (k := 129) scal_4 rfl rfl rfl) <| dz k30 <| cnd h rfl id Bool.eq_false_iff.2 (fun hc31 h => ?_) fun hc31 h => ?_
   ·refine rg fun _ k32 => bd h fun x33 hx33 h => mv rfl <| ya (fieldAddr Tryz.underlying77 rfl nz_57 rfl rfl) <| ya (loadB (k := 129) scal_57 rfl rfl rfl) <| c1 137 Tryz.func75 rfl (fun w hb hh => w_r08_Drop (Mem.snap w) A13 n14 c15 _ (RdH.sn (rO 112 rfl) w hb hh) x25.fNeedle.fKey hx33) fun A38 n39 c40 => ak rfl k32 <| bn <| tn <| k23 _ _ <| rg fun _ k41 => bd h fun x42 hx42 h => mv rfl <| ya (addC rfl rfl hx42) <| ak rfl k41 <| tn <| KK.move 137 112 rfl rfl <| kw (k19 ⟨A38, n39, c40, x33, x42⟩ h)
   refine rd [(0, _), (112, _), (129, _)] mixed fun _ k43 => ?_
   obtain ⟨x44, hx44, h⟩ := bnd h
   obtain ⟨x48, hx48, h⟩ := bnd h
   refine dm 0 rfl rfl <| du 1 rfl (fieldAddr Tryz.underlying77 rfl nz_57 rfl rfl) <| du 2 rfl (loadB (k := 129) scal_57 rfl rfl rfl) <| du 3 rfl (fieldAddr Tryz.underlying77 rfl nz_31 rfl rfl) <| du 4 rfl (loadB (k := 129) scal_31 rfl rfl rfl) <| dm 5 rfl rfl <| dm 6 rfl rfl ?_
   obtain ⟨⟨_, r_45_0⟩, hr46, rfl, hq47_0⟩ := Rels.idx hq00 hx44
   refine du 7 rfl (idxC (xs := rs00) sty_79 rfl rfl (mM rfl hf00) hr46) <| du 8 rfl (fieldAddrC Tryz.underlying120 rfl nz_2 rfl rfl) <| du 9 rfl (loadC (xs := rs00) (j := 0) scal_2 rfl (mM rfl hf00) hr46 rfl rfl) <| du 10 rfl (fieldAddr Tryz.underlying77 rfl nz_22 rfl rfl) <| du 11 rfl (loadB (k := 129) scal_22 rfl rfl rfl) <| du 12 rfl (lenC (xs := x25.fNeedle.fData) und_22 rfl (mM rfl hq28_0)) <| du 13 rfl (build rfl (bu_59_0_1_2_3 x25.fNeedle.fKey x25.fNeedle.fCookie x44.fOff (x25.fNeedle.fData.length : Int))) <| on 14 <| WS.eff rfl (by decide) (Eff.callS 152 rfl Tryz.func76 nm_76 rfl rfl (fun w hb hh => w_r08_Put (Mem.snap w) A13 n14 c15 _ (RdH.sn (rO 112 rfl) w hb hh) x25.fNeedle.fKey x25.fNeedle.fCookie x44.fOff (x25.fNeedle.fData.length : Int) hx48)) ?_
   rintro _ _ ⟨_, ⟨A53, n54, c55, rfl, rfl⟩, rfl⟩
   refine aq ?_
   refine du 15 rfl (Yld.assign rfl) <| dd <| k43 _ _ <| bn <| tn <| k23 _ _ <| rg fun _ k56 => bd h fun x57 hx57 h => mv rfl <| ya (addC rfl rfl hx57) <| ak rfl k56 <| tn <| KK.move 152 112 rfl rfl <| kw (k19 ⟨A53, n54, c55, x48, x57⟩ h)
  exact xi <| te <| te <| bx <| tn <| KK.move 112 104 rfl rfl <| kw (k9 ⟨A13, n14, c15, x16⟩ h)
 rintro ⟨A5, n6, c7, x8⟩ h
 unfold m_r09_Items_j0 at h
 refine sr fun _ k58 => mv rfl <| ak rfl k58 <| re ?_
 obtain rfl := si h
 exact rt [104] (ResIs.one rfl rfl) (Ext.refl _ _) ⟨A5, n6, c7, rfl, rfl⟩
theorem w_law17_file (M0 : Mem) (A00 : Option Addr) (n00 c00 : Nat) (rs00 : List Rapi_Needle) (x00 : List Sapi_Needle) (hf00 : SlT M0 A00 n00 c00 rs00) (hq00 : Rels (rel_api_Needle M0) rs00 x00) {res : By × Int × Int × Int × (List Sapi_Item)} (h : m_law17_file x00 = some res) :
  Fn Tryz.prog 10 #[.slice A00 n00 c00] M0 fun r M' es => ∃ (A1 : Option Addr) (n1 c1 : Nat), ∃ (A2 : Option Addr) (n2 c2 : Nat), r = .tuple #[.slice A1 n1 c1, .agg ([I64 res.2.1, I64 res.2.2.1, I64 res.2.2.2.1] : List Value).toArray, .slice A2 n2 c2] /\ es = [.own 59 (Lay.sz Sapi_Item) A2 n2 c2 (cel res.2.2.2.2)] /\ SlT M' A1 n1 c1 res.1 := by
 refine Fn.intro (N := 73) Tryz.func10 rfl rfl (nle rfl) fun w0 => ?_
 unfold m_law17_file at h
 refine sr fun _ k1 => asn rfl <| al 102 zr_24 fun g2 => ak rfl k1 <| sr fun _ k3 => ya (build rfl (bu_24_0_1_2 (1 : Int) (2 : Int) (3 : Int))) <| al 104 zr_24 fun g4 => sb 104 agg_24 rfl rfl rfl <| dz k3 <| sr fun _ k5 => bd h fun x6 hx6 h => ya (loadBM (k := 104) agg_24 rfl rfl rfl) <| c1 110 Tryz.func31 rfl (fun w hb hh => w_r07_Encode (Mem.snap w) (1 : Int) (2 : Int) (3 : Int) hx6) fun A11 n12 c13 => mv rfl <| ya (extract rfl rfl) <| ya (extract rfl rfl) <| asn rfl <| ak rfl k5 <| ct (σ := (Option Addr) × Nat × Nat × By) (fun ⟨A14, n15, c16, x17⟩ => [(3, pv g2), (5, pv g4), (6, .slice A14 n15 c16)]) (fun ⟨A14, n15, c16, x17⟩ => [(0, .mem M0), (102, .blk g2 24 [I64 (0 : Int), I64 (0 : Int), I64 (0 : Int)]), (104, .blk g4 24 [I64 (1 : Int), I64 (2 : Int), I64 (3 : Int)]), (110, .own 5 (Lay.sz (BitVec 8)) A14 n15 c16 (cel x17))]) (fun ⟨A14, n15, c16, x17⟩ => m_law17_file_j0 x17 = some res) (fun _ k18 => ?_) ?_
 ·refine sr fun _ k19 => ak rfl k19 <| bl <| lp (τ := (Option Addr) × Nat × Nat × By × Int) (fun ⟨A20, n21, c22, x23, x24⟩ => [(0, .slice A00 n00 c00), (3, pv g2), (5, pv g4), (6, .slice A20 n21 c22), (8, I64 x24)]) (fun ⟨A20, n21, c22, x23, x24⟩ => [(0, .mem M0), (102, .blk g2 24 [I64 (0 : Int), I64 (0 : Int), I64 (0 : Int)]), (104, .blk g4 24 [I64 (1 : Int), I64 (2 : Int), I64 (3 : Int)]), (110, .own 5 (Lay.sz (BitVec 8)) A20 n21 c22 (cel x23))]) (fun q25 ⟨A20, n21, c22, x23, x24⟩ => m_law17_file_l1 x00 q25 x23 x24 = some res) ⟨A11, n12, c13, x6.1, (0 : Int)⟩ ?_ (by simp [m_law17_file_l1]) ?_
  ·exact h
  rintro q25 ⟨A20, n21, c22, x23, x24⟩ h _ k26
  unfold m_law17_file_l1 at h
  refine ct (σ := Unit) (fun _ => [(0, .slice A00 n00 c00), (3, pv g2), (5, pv g4), (6, .slice A20 n21 c22), (8, I64 x24)]) (fun _ => [(0, .mem M0), (102, .blk g2 24 [I64 (0 : Int), I64 (0 : Int), I64 (0 : Int)]), (104, .blk g4 24 [I64 (1 : Int), I64 (2 : Int), I64 (3 : Int)]), (110, .own 5 (Lay.sz (BitVec 8)) A20 n21 c22 (cel x23))]) (fun _ => m_law17_file_j2 x00 x23 x24 (m_law17_file_l1 x00 q25) = some res) (fun _ k27 => ?_) ?_
  ·refine sr fun _ k28 => mv rfl <| mv rfl <| ya (lenD (rs := rs00) (xs := x00) (Rels.len hq00) und_26 rfl (mM rfl hf00)) <| ya (lss rfl rfl) <| mv rfl <| spl h decide_eq_true decide_eq_false (fun hc29 h => ?_) fun hc29 h => ?_
   ·refine mvg rfl <| yg (lss rfl rfl) <| pt rfl rfl <| dz k28 <| cI h rfl (fun hc30 h => ?_) fun hc30 h => ?_
    ·exact WC.skip <| tn <| kw (k27 () h)
    exact xi <| te <| te <| bx <| tn <| kw (k18 ⟨A20, n21, c22, x23⟩ h)
   exact sk <| sk <| pf rfl rfl <| dz k28 <| cdF rfl <| xi <| te <| te <| bx <| tn <| kw (k18 ⟨A20, n21, c22, x23⟩ h)
  rintro _ h
  unfold m_law17_file_j2 at h
  refine sq fun _ k31 => bl <| sr fun _ k32 => bd h fun x33 hx33 h => mv rfl <| mv rfl ?_
  obtain ⟨⟨_, r_34_0⟩, hr35, rfl, hq36_0⟩ := Rels.idx hq00 hx33
  refine ya (idxC (xs := rs00) sty_26 rfl rfl (mM rfl hf00) hr35) <| ya (loadA (xs := rs00) agg_77 rfl (mM rfl hf00) hr35 rfl) <| al 137 zr_77 fun g37 => sb 137 agg_77 rfl rfl rfl <| dz k32 <| ct (σ := (Option Addr) × Nat × Nat × By) (fun ⟨A38, n39, c40, x41⟩ => [(0, .slice A00 n00 c00), (3, pv g2), (5, pv g4), (6, .slice A20 n21 c22), (8, I64 x24), (9, pv g37)]) (fun ⟨A38, n39, c40, x41⟩ => [(0, .mem M0), (102, .blk g2 24 [I64 (0 : Int), I64 (0 : Int), I64 (0 : Int)]), (104, .blk g4 24 [I64 (1 : Int), I64 (2 : Int), I64 (3 : Int)]), (110, .own 5 (Lay.sz (BitVec 8)) A20 n21 c22 (cel x23)), (137, .blk g37 77 [U64 x33.fKey, U32 x33.fCookie, .bool x33.fDeleted, .slice A38 n39 c40])]) (fun ⟨A38, n39, c40, x41⟩ => m_law17_file_j3 x23 x24 x33 (m_law17_file_l1 x00 q25) x41 = some res /\ SlT M0 A38 n39 c40 x41) (fun _ k43 => ?_) ?_
  ·refine sr fun _ k44 => ya (fieldAddr Tryz.underlying77 rfl nz_22 rfl rfl) <| ya (loadB (k := 137) scal_22 rfl rfl rfl) <| ya (lenC (xs := x33.fData) und_22 rfl (mM rfl hq36_0)) <| ya (gtr rfl rfl) <| dz k44 <| cI h rfl (fun hc45 h => ?_) fun hc45 h => ?_
   ·refine rg fun _ k46 => bd h fun x47 hx47 h => ya (fieldAddr Tryz.underlying77 rfl nz_22 rfl rfl) <| ya (loadB (k := 137) scal_22 rfl rfl rfl) <| ya (sliceHC (xs := x33.fData) sty_22 rfl rfl (mM rfl hq36_0) hx47) <| ya (fieldAddr Tryz.underlying77 rfl nz_22 rfl rfl) <| WL.eff0 (Eff0.storeB 137 siz_22 rfl rfl rfl rfl (nle rfl)) <| dz k46 <| tn <| kw (k43 ⟨r_34_0.A, x47.length, r_34_0.c, x47⟩ ⟨h, (SlT.slc0 hq36_0 hx47)⟩)
   exact WC.skip <| tn <| kw (k43 ⟨r_34_0.A, r_34_0.n, r_34_0.c, x33.fData⟩ ⟨h, hq36_0⟩)
  rintro ⟨A38, n39, c40, x41⟩ ⟨h, hf42⟩
  unfold m_law17_file_j3 at h
  refine ct (σ := (Option Addr) × Nat × Nat × By) (fun ⟨A48, n49, c50, x51⟩ => [(0, .slice A00 n00 c00), (3, pv g2), (5, pv g4), (6, .slice A20 n21 c22), (8, I64 x24), (9, pv g37)]) (fun ⟨A48, n49, c50, x51⟩ => [(0, .mem M0), (102, .blk g2 24 [I64 (0 : Int), I64 (0 : Int), I64 (0 : Int)]), (104, .blk g4 24 [I64 (1 : Int), I64 (2 : Int), I64 (3 : Int)]), (110, .own 5 (Lay.sz (BitVec 8)) A20 n21 c22 (cel x23)), (137, .blk g37 77 [U64 x33.fKey, U32 x33.fCookie, .bool x33.fDeleted, .slice A48 n49 c50])]) (fun ⟨A48, n49, c50, x51⟩ => m_law17_file_j4 x23 x24 x33 (m_law17_file_l1 x00 q25) x51 = some res /\ SlT M0 A48 n49 c50 x51) (fun _ k53 => ?_) ?_
  ·refine sr fun _ k54 => ya (fieldAddr Tryz.underlying77 rfl nz_4 rfl rfl) <| ya (loadB (k := 137) scal_4 rfl rfl rfl) <| dz k54 <| cnd h rfl id Bool.eq_false_iff.2 (fun hc55 h => ?_) fun hc55 h => ?_
   ·exact rg fun _ k56 => ya (fieldAddr Tryz.underlying77 rfl nz_22 rfl rfl) <| WL.eff0 (Eff0.storeB 137 siz_22 rfl rfl rfl rfl (nle rfl)) <| dz k56 <| tn <| kw (k53 ⟨none, 0, 0, ([] : By)⟩ ⟨h, SlT.nil⟩)
   exact WC.skip <| tn <| kw (k53 ⟨A38, n39, c40, x41⟩ ⟨h, hf42⟩)
  rintro ⟨A48, n49, c50, x51⟩ ⟨h, hf52⟩
  unfold m_law17_file_j4 at h
  refine sq fun _ k57 => sr fun _ k58 => ya (fieldAddr Tryz.underlying77 rfl nz_57 rfl rfl) <| ya (loadB (k := 137) scal_57 rfl rfl rfl) <| ya (gtr_u64 (a := x33.fKey) (b := 1000#64) rfl rfl) <| dz k58 <| cI h rfl (fun hc59 h => ?_) fun hc59 h => ?_
  ·refine rg fun _ k60 => ya (fieldAddr Tryz.underlying77 rfl nz_57 rfl rfl) <| ya (loadB (k := 137) scal_57 rfl rfl rfl) <| ya (and_u64 (a := x33.fKey) (b := 15#64) rfl rfl) <| ya (fieldAddr Tryz.underlying77 rfl nz_57 rfl rfl) <| WL.eff0 (Eff0.storeB 137 siz_57 rfl rfl rfl rfl (nle rfl)) <| dz k60 <| tn <| k57 _ _ <| sr fun _ k61 => bd h fun x62 hx62 h => ya (loadBM (k := 137) agg_77 rfl rfl rfl) <| c1 166 Tryz.func32 rfl (fun w hb hh => w_r06_Encode (Mem.snap w) (x33.fKey &&& 15#64) x33.fCookie x33.fDeleted A48 n49 c50 _ (sM rfl hf52 w hb hh) hx62) fun A67 n68 c69 => mv rfl <| ya (extract rfl rfl) <| ya (extract rfl rfl) <| asn rfl <| ak rfl k61 <| rg fun _ k70 => bd h fun x71 hx71 h => mv rfl <| mv rfl <| ap 110 (xs := x23) (ys := x62.1) sty_22 rfl rfl rfl (rO 166 rfl) hx71 fun A72 c73 => ak rfl k70 <| bn <| tn <| k31 _ _ <| rg fun _ k74 => bd h fun x75 hx75 h => mv rfl <| ya (addC rfl rfl hx75) <| ak rfl k74 <| tn <| kw (k26 ⟨A72, x71.length, c73, x71, x75⟩ h)
  refine ss <| k57 _ _ <| sr fun _ k76 => bd h fun x77 hx77 h => ya (loadBM (k := 137) agg_77 rfl rfl rfl) <| c1 181 Tryz.func32 rfl (fun w hb hh => w_r06_Encode (Mem.snap w) x33.fKey x33.fCookie x33.fDeleted A48 n49 c50 _ (sM rfl hf52 w hb hh) hx77) fun A82 n83 c84 => mv rfl <| ya (extract rfl rfl) <| ya (extract rfl rfl) <| asn rfl <| ak rfl k76 <| rg fun _ k85 => bd h fun x86 hx86 h => mv rfl <| mv rfl <| ap 110 (xs := x23) (ys := x77.1) sty_22 rfl rfl rfl (rO 181 rfl) hx86 fun A87 c88 => ak rfl k85 <| bn <| tn <| k31 _ _ <| rg fun _ k89 => bd h fun x90 hx90 h => mv rfl <| ya (addC rfl rfl hx90) <| ak rfl k89 <| tn <| kw (k26 ⟨A87, x86.length, c88, x86, x90⟩ h)
 rintro ⟨A14, n15, c16, x17⟩ h
 unfold m_law17_file_j0 at h
 refine sr fun _ k91 => bd h fun x92 hx92 h => mv rfl <| WL.freeze 110 rfl rfl rfl fun M104 hm_M104 hf105 => WL.eff (by decide) (Eff.callM 198 rfl Tryz.func33 nm_33 rfl rfl rfl (w_r09_Open _ A14 n15 c16 _ hf105 hx92)) ?_
 rintro _ _ ⟨M106, _, ⟨A107, n108, c109, rs110, rfl, rfl, hq111⟩, hm_M106, rfl⟩
 refine mv rfl <| ya (extract rfl rfl) <| ya (extract rfl rfl) <| ya (extract rfl rfl) <| ya (extract rfl rfl) <| al 212 zr_24 fun g112 => sb 212 agg_24 rfl rfl rfl <| asn rfl <| asn rfl <| ak rfl k91 <| sd [(0, _), (104, _), (198, _), (212, _)] mixed fun _ k113 => bd h fun x114 hx114 h => dm 0 rfl rfl <| du 1 rfl (loadBM (k := 104) agg_24 rfl rfl rfl) <| dm 2 rfl rfl <| on 3 <| WS.eff rfl (by decide) (Eff.callS 218 rfl Tryz.func34 nm_34 rfl rfl (fun w hb hh => w_r09_Items (Mem.snap w) A107 n108 c109 rs110 _ (RdH.sn (rO 198 rfl) w hb hh) (Rels.sn hq111 (hh.sat 0 _ rfl)) hx114)) ?_
 rintro _ _ ⟨_, ⟨A119, n120, c121, rfl, rfl⟩, rfl⟩
 refine aq ?_
 refine du 4 rfl (Yld.assign rfl) <| on 5 <| ds 102 rfl agg_24 rfl rfl rfl <| du 6 rfl (Yld.assign rfl) <| dd <| k113 _ _ <| re ?_
 obtain rfl := si h
 exact rt [218] (ResIs.tmpCellTmpM (k := 102) rfl agg_24 rfl rfl rfl rfl rfl) (Ext.trans hm_M104 hm_M106) ⟨A14, n15, c16, A119, n120, c121, rfl, rfl, (SlRc.lift hf105 hm_M106)⟩
theorem w_law17_awake (M0 : Mem)  {res : Bool} (h : m_law17_awake = some res) :
  Fn Tryz.prog 9 #[] M0 fun r M' es => r = .bool res /\ es = [] := by
 refine Fn.intro (N := 60) Tryz.func9 rfl rfl (nle rfl) fun w0 => ?_
 unfold m_law17_awake at h
 refine sr fun _ k1 => ak rfl k1 <| sr fun _ k2 => bd h fun x3 hx3 h => WL.eff (by decide) (Eff.callM 111 rfl Tryz.func10 nm_10 rfl rfl rfl (w_law17_file _ none 0 0 ([] : List Rapi_Needle) _ SlT.nil (Rels.nil (R := rel_api_Needle M0)) hx3)) ?_
 rintro _ _ ⟨M19, _, ⟨A20, n21, c22, A24, n25, c26, rfl, rfl, hf23⟩, hm_M19, rfl⟩
 refine mv rfl <| ya (extract rfl rfl) <| ya (extract rfl rfl) <| ya (extract rfl rfl) <| al 127 zr_24 fun g27 => asn rfl <| sb 127 agg_24 rfl rfl rfl <| ak rfl k2 <| sr fun _ k28 => bd h fun x29 hx29 h => mv rfl <| ya (loadBM (k := 127) agg_24 rfl rfl rfl) <| WL.eff (by decide) (Eff.callM 138 rfl Tryz.func11 nm_11 rfl rfl rfl (w_shards_Make _ A20 n21 c22 _ hf23 x3.2.1 x3.2.2.1 x3.2.2.2.1 none 0 0 _ SlT.nil hx29)) ?_
 rintro _ _ ⟨M48, _, ⟨A49, n50, c51, rs52, A54, n55, c56, rfl, rfl, hq53⟩, hm_M48, rfl⟩
 refine mv rfl <| ya (extract rfl rfl) <| ya (extract rfl rfl) <| ya (extract rfl rfl) <| al 157 zr_34 fun g57 => asn rfl <| sb 157 agg_34 rfl rfl rfl <| ak rfl k28 <| sr fun _ k58 => bd h fun x59 hx59 h => ya (loadBM (k := 157) agg_34 rfl rfl rfl) <| WL.freeze 139 rfl rfl rfl fun M78 hm_M78 hf79 => WL.eff (by decide) (Eff.callM 168 rfl Tryz.func17 nm_17 rfl rfl rfl (w_shards_Rebuild _ x29.2.1 x29.2.2.1 x29.2.2.2.1 x29.2.2.2.2.1 x29.2.2.2.2.2.1 x29.2.2.2.2.2.2.1 x29.2.2.2.2.2.2.2.1 x29.2.2.2.2.2.2.2.2.1 x29.2.2.2.2.2.2.2.2.2.1 x29.2.2.2.2.2.2.2.2.2.2.1 A54 n55 c56 _ hf79 none 0 0 ([] : List Hdr) _ SlT.nil (Rels.nil (R := (RelB (α := BitVec 8)) M78)) hx59)) ?_
 rintro _ _ ⟨M80, _, ⟨A81, n82, c83, rs84, A86, n87, c88, rfl, rfl, hq85⟩, hm_M80, rfl⟩
 refine mv rfl <| ya (extract rfl rfl) <| ya (extract rfl rfl) <| ya (extract rfl rfl) <| asn rfl <| asn rfl <| ak rfl k58 <| sd [(111, _), (127, _), (138, _), (157, _), (168, _), (169, _)] mixed fun _ k89 => ?_
 obtain ⟨x91, hx91, h⟩ := bnd h
 obtain ⟨x94, hx94, h⟩ := bnd h
 refine du 0 rfl (loadBM (k := 157) agg_34 rfl rfl rfl) <| on 1 ?_
 obtain ⟨hu92, hq93⟩ := Rels.mks (R := (RelB (α := BitVec 8)) M80) (r := (⟨none, 0, 0⟩ : Hdr)) hx91 RelB.nil
 refine WS.eff rfl (by decide) (Eff.makeC 190 (⟨none, 0, 0⟩ : Hdr) sty_30 rfl rfl rfl rfl rfl rfl hu92) ?_
 rintro _ _ ⟨g90, rfl, rfl⟩
 refine aq ?_
 refine on 2 <| WS.freeze 190 rfl rfl rfl rfl rfl fun M113 hm_M113 hf114 => WS.eff rfl (by decide) (Eff.callM 203 rfl Tryz.func17 nm_17 rfl rfl rfl (w_shards_Rebuild _ x29.2.1 x29.2.2.1 x29.2.2.2.1 x29.2.2.2.2.1 x29.2.2.2.2.2.1 x29.2.2.2.2.2.2.1 x29.2.2.2.2.2.2.2.1 x29.2.2.2.2.2.2.2.2.1 x29.2.2.2.2.2.2.2.2.2.1 x29.2.2.2.2.2.2.2.2.2.2.1 A54 n55 c56 _ (SlRc.lift (SlRc.lift hf79 hm_M80) hm_M113) (some ⟨g90, 0, none⟩) ((List.replicate ((6 : Int)).toNat (⟨none, 0, 0⟩ : Hdr)).length) ((List.replicate ((6 : Int)).toNat (⟨none, 0, 0⟩ : Hdr)).length) (List.replicate ((6 : Int)).toNat (⟨none, 0, 0⟩ : Hdr)) _ hf114 (Rels.lift hq93 hm_M113) hx94)) ?_
 rintro _ _ ⟨M115, _, ⟨A116, n117, c118, rs119, A121, n122, c123, rfl, rfl, hq120⟩, hm_M115, rfl⟩
 refine aq ?_
 refine dm 3 rfl rfl <| du 4 rfl (extract rfl rfl) <| du 5 rfl (extract rfl rfl) <| du 6 rfl (extract rfl rfl) <| du 7 rfl (Yld.assign rfl) <| du 8 rfl (Yld.assign rfl) <| du 9 rfl (Yld.assign rfl) <| dd <| k89 _ _ <| sr fun _ k124 => mv rfl <| ya (eqlI rfl rfl) <| mv rfl <| spl h beq_iff_eq.2 beq_eq_false_iff_ne.2 (fun hc125 h => ?_) fun hc125 h => ?_
 ·refine mvg rfl <| yg (lenD (rs := rs52) (xs := x29.1) (Rels.len (Rels.lift (Rels.lift (Rels.lift (Rels.lift hq53 hm_M78) hm_M80) hm_M113) hm_M115)) und_30 rfl (rO 138 rfl)) <| yg (eqlI rfl rfl) <| pt rfl rfl <| mv rfl <| spl h beq_iff_eq.2 beq_eq_false_iff_ne.2 (fun hc126 h => ?_) fun hc126 h => ?_
  ·obtain ⟨x127, hx127, h⟩ := bnd h
   refine mvg rfl ?_
   obtain ⟨r_128, hr129, hq130⟩ := Rels.idx (Rels.lift (Rels.lift (Rels.lift (Rels.lift hq53 hm_M78) hm_M80) hm_M113) hm_M115) hx127
   refine yg (idxC (xs := rs52) sty_30 rfl rfl (rO 138 rfl) hr129) <| yg (loadC0 (xs := rs52) scal_22 rfl (rO 138 rfl) hr129 rfl) <| yg (lenC (xs := x127) und_22 rfl (mM rfl hq130)) <| yg (eqlI rfl rfl) <| pt rfl rfl <| mv rfl <| spl h beq_iff_eq.2 beq_eq_false_iff_ne.2 (fun hc131 h => ?_) fun hc131 h => ?_
   ·refine mvg rfl <| yg (eqlI rfl rfl) <| pt rfl rfl <| mv rfl <| spl h beq_iff_eq.2 beq_eq_false_iff_ne.2 (fun hc132 h => ?_) fun hc132 h => ?_
    ·refine mvg rfl <| yg (eqlI rfl rfl) <| pt rfl rfl <| ak rfl k124 <| re ?_
     obtain rfl := si h
     exact rt [] (ResIs.one rfl rfl) (Ext.trans (Ext.trans (Ext.trans (Ext.trans (Ext.trans hm_M19 hm_M48) hm_M78) hm_M80) hm_M113) hm_M115) ⟨rfl, rfl⟩
    refine sk <| sk <| pf rfl rfl <| ak rfl k124 <| re ?_
    obtain rfl := si h
    exact rt [] (ResIs.one rfl rfl) (Ext.trans (Ext.trans (Ext.trans (Ext.trans (Ext.trans hm_M19 hm_M48) hm_M78) hm_M80) hm_M113) hm_M115) ⟨rfl, rfl⟩
   refine sk <| sk <| pf rfl rfl <| mv rfl <| sk <| sk <| pf rfl rfl <| ak rfl k124 <| re ?_
   obtain rfl := si h
   exact rt [] (ResIs.one rfl rfl) (Ext.trans (Ext.trans (Ext.trans (Ext.trans (Ext.trans hm_M19 hm_M48) hm_M78) hm_M80) hm_M113) hm_M115) ⟨rfl, rfl⟩
  refine sk <| sk <| sk <| sk <| sk <| pf rfl rfl <| mv rfl <| sk <| sk <| pf rfl rfl <| mv rfl <| sk <| sk <| pf rfl rfl <| ak rfl k124 <| re ?_
  obtain rfl := si h
  exact rt [] (ResIs.one rfl rfl) (Ext.trans (Ext.trans (Ext.trans (Ext.trans (Ext.trans hm_M19 hm_M48) hm_M78) hm_M80) hm_M113) hm_M115) ⟨rfl, rfl⟩
 refine sk <| sk <| sk <| pf rfl rfl <| mv rfl <| sk <| sk <| sk <| sk <| sk <| pf rfl rfl <| mv rfl <| sk <| sk <| pf rfl rfl <| mv rfl <| sk <| sk <| pf rfl rfl <| ak rfl k124 <| re ?_
 obtain rfl := si h
 exact rt [] (ResIs.one rfl rfl) (Ext.trans (Ext.trans (Ext.trans (Ext.trans (Ext.trans hm_M19 hm_M48) hm_M78) hm_M80) hm_M113) hm_M115) ⟨rfl, rfl⟩
end Go.Proofs.YthjnhlmfcejhkaaGreat
