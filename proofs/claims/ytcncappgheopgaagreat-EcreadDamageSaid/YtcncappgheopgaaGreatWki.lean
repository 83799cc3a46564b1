/- A part of the proof. Conditions: as each theorem says. -/
import Derived.Test.YtcncappgheopgaaGreatWkh
import Derived.Test.YtcncappgheopgaaGreatMdi
namespace Go.Proofs.YtcncappgheopgaaGreat
set_option maxRecDepth 10000
open Go Go.RowKit Yld
set_option linter.unusedVariables false
theorem agg_46 : Agg Tryz.prog 46 11 := ⟨⟨_, Tryz.underlying46, rfl⟩, by kernel_rfl⟩
theorem nm_32 : (Tryz.f32.name == "runtime.NumGoroutine") = false := by kernel_rfl
theorem nm_37 : (Tryz.f37.name == "runtime.NumGoroutine") = false := by kernel_rfl
theorem nm_58 : (Tryz.f58.name == "runtime.NumGoroutine") = false := by kernel_rfl
theorem nm_67 : (Tryz.f67.name == "runtime.NumGoroutine") = false := by kernel_rfl
theorem scal_29 : scal Tryz.prog 29 = true := by kernel_rfl
theorem scal_30 : scal Tryz.prog 30 = true := by kernel_rfl
theorem scal_32 : scal Tryz.prog 32 = true := by kernel_rfl
theorem scal_61 : scal Tryz.prog 61 = true := by kernel_rfl
theorem siz_32 : (Tryz.prog.info? 32).map (·.size) = some 1 := by kernel_rfl
theorem siz_61 : (Tryz.prog.info? 61).map (·.size) = some 1 := by kernel_rfl
theorem zr_32 : (Tryz.prog.info? 32).map (fun i => i.zero.map (·.cells)) = some (some ([.slice none 0 0] : List Value).toArray) := by kernel_rfl
theorem zr_61 : (Tryz.prog.info? 61).map (fun i => i.zero.map (·.cells)) = some (some ([I64 (0 : Int)] : List Value).toArray) := by kernel_rfl
namespace Z
theorem _root_.Go.Proofs.YtcncappgheopgaaGreat.w_ecread_Exclude (M0 : Mem) (x00 : Int) {res : (List Int)} (h : m_ecread_Exclude x00 = some res) :
  Fn Tryz.prog 16 #[I64 x00] M0 fun r M' es => ∃ (A1 : Option Addr) (n1 c1 : Nat), r = .slice A1 n1 c1 /\ es = [.own 3 (Lay.sz Int) A1 n1 c1 (cel res)] := by
 refine Fn.intro (N := 11) Tryz.func16 rfl rfl (nle rfl) fun w0 => ?_
 unfold m_ecread_Exclude at h
 refine sr fun _ k1 => bb 102 [I64 x00] rfl fun g2 => al 103 zr_32 fun g3 => dz k1 <| sq fun _ k4 => sr fun _ k5 => WL.inl (by decide) Tryz.func37 nm_37 rfl rfl (Tri.intro (N := 1) Tryz.func37 rfl rfl (nle rfl) ?_)
 refine sr fun _ k6 => ak rfl k6 <| sr fun _ k7 => ak rfl k7 <| re <| Ret.go (ResIs.one rfl rfl) <| dz k5 <| bl <| WC.rangeFunc 98 97 rfl Tryz.func67 nm_67 rfl rfl rfl rfl fun D8 l9 rc10 hrc11 => Tri.intro (N := 33) Tryz.func67 rfl rfl (nle rfl) <| sq fun _ k12 => sr fun _ k13 => mv rfl <| WL.round 97 (by decide) rfl rfl rfl hrc11 rfl rfl fun RQ14 hN15 hR16 hX17 KA18 hKA19 => rg fun _ k20 => ak rfl k20 <| QK.thenN (hKA19 _ _ rfl ?_)
 refine bl <| sq fun _ k21 => sr fun _ k22 => ya (loadB (k := 102) scal_3 rfl rfl rfl) <| ya (eqlI rfl rfl) <| dz k22 <| cnd h rfl beq_iff_eq.2 beq_eq_false_iff_ne.2 (fun hc23 h => ?_) fun hc23 h => ?_
 ·refine sr fun _ k24 => mv rfl <| WL.eff0 (Eff0.storeB 103 siz_32 rfl rfl rfl rfl (nle rfl)) <| dz k24 <| re <| tr <| br <| hR16 _ _ rfl <| ya (notB rfl) <| dz k13 <| cdT rfl <| re <| tr <| Ret.go (ResIs.zero rfl) <| After.ret 97 rfl <| (QK.blockR (QK.thenR ?_))
  refine QK.unmark 98 rfl <| QK.nilOwn 125 3 (Lay.sz Int) none ?_
  obtain rfl := si h
  exact rt [125] (ResIs.cellS (k := 103) rfl scal_32 rfl rfl rfl) (Ext.refl _ _) ⟨none, 0, 0, rfl, rfl⟩
 refine ss <| k21 _ _ <| rg fun _ k26 => ya (loadB (k := 102) scal_3 rfl rfl rfl) <| ya (subWi rfl rfl) <| WL.eff0 (Eff0.storeB 102 siz_3 rfl rfl rfl rfl (nle rfl)) <| dz k26 <| bn <| hN15 _ _ rfl <| ya (notB rfl) <| dz k13 <| cdF rfl <| ss <| k12 _ _ <| ct (σ := Int) (fun x27 => [(0, .func (.yield l9) #[] #[])]) (fun x27 => [(0, .mem M0), (97, .obj l9 (.loop (Rc .ready none rc10))), (98, .obj D8 (.deferred (some []))), (102, .blk g2 3 [I64 x27]), (103, .blk g3 32 [.slice none 0 0])]) (fun x27 => m_ecread_Exclude_j0 x27 = some res) (fun _ k28 => ?_) ?_
 ·refine sr fun _ k29 => mv rfl <| dz k29 <| bl <| lp (τ := Int × Int) (fun ⟨x30, x31⟩ => [(0, .func (.yield l9) #[] #[]), (8, I64 x31)]) (fun ⟨x30, x31⟩ => [(0, .mem M0), (97, .obj l9 (.loop (Rc .ready none rc10))), (98, .obj D8 (.deferred (some []))), (102, .blk g2 3 [I64 x30]), (103, .blk g3 32 [.slice none 0 0])]) (fun q32 ⟨x30, x31⟩ => m_ecread_Exclude_l1 q32 x30 x31 = some res) ⟨wri (x00 - (1 : Int)), (0 : Int)⟩ ?_ (by simp [m_ecread_Exclude_l1]) ?_
  ·exact h
  rintro q32 ⟨x30, x31⟩ h _ k33
  unfold m_ecread_Exclude_l1 at h
  refine sr fun _ k34 => ya (lss rfl rfl) <| dz k34 <| sq fun _ k35 => cI h rfl (fun hc36 h => ?_) fun hc36 h => ?_
  ·refine ss <| k35 _ _ <| sq fun _ k37 => bl <| sr fun _ k38 => mv rfl <| ak rfl k38 <| sr fun _ k39 => mv rfl <| mv rfl <| WL.eff (by decide) (Eff.buildC 140 ([x31] : List Int) sty_32 rfl rfl rfl rfl rfl (by decide)) ?_
   rintro _ _ ⟨g40, rfl, rfl⟩
   refine WL.round 97 (by decide) rfl rfl rfl hrc11 rfl rfl fun RQ41 hN42 hR43 hX44 KA45 hKA46 => rg fun _ k47 => ak rfl k47 <| QK.thenN (hKA46 _ _ rfl ?_)
   refine bl <| sq fun _ k48 => sr fun _ k49 => ya (loadB (k := 102) scal_3 rfl rfl rfl) <| ya (eqlI rfl rfl) <| dz k49 <| cnd h rfl beq_iff_eq.2 beq_eq_false_iff_ne.2 (fun hc50 h => ?_) fun hc50 h => ?_
   ·refine sr fun _ k51 => mv rfl <| WL.eff0 (Eff0.storeB 103 siz_32 rfl rfl rfl rfl (nle rfl)) <| dz k51 <| re <| tr <| br <| hR43 _ _ rfl <| ya (notB rfl) <| dz k39 <| cdT rfl <| re <| br <| tr <| tr <| br <| tr <| Ret.go (ResIs.zero rfl) <| After.ret 97 rfl <| (QK.blockR (QK.thenR ?_))
    refine QK.unmark 98 rfl ?_
    obtain rfl := si h
    exact rt [140] (ResIs.cellS (k := 103) rfl scal_32 rfl rfl rfl) (Ext.refl _ _) ⟨(some ⟨g40, 0, none⟩), ([x31] : List Int).length, ([x31] : List Int).length, rfl, rfl⟩
   exact ss <| k48 _ _ <| rg fun _ k52 => ya (loadB (k := 102) scal_3 rfl rfl rfl) <| ya (subWi rfl rfl) <| WL.eff0 (Eff0.storeB 102 siz_3 rfl rfl rfl rfl (nle rfl)) <| dz k52 <| bn <| hN42 _ _ rfl <| ya (notB rfl) <| dz k39 <| cdF rfl <| WC.skip <| bn <| tn <| k37 _ _ <| rg fun _ k53 => ya (addWi rfl rfl) <| mv rfl <| dz k53 <| tn <| kw (k33 ⟨wri (x30 - (1 : Int)), wri (x31 + (1 : Int))⟩ h)
  exact xi <| te <| te <| bx <| tn <| kw (k28 x30 h)
 rintro x27 h
 unfold m_ecread_Exclude_j0 at h
 refine sr fun _ k54 => mv rfl <| dz k54 <| bl <| lp (τ := Int × Int) (fun ⟨x55, x56⟩ => [(0, .func (.yield l9) #[] #[]), (17, I64 x56)]) (fun ⟨x55, x56⟩ => [(0, .mem M0), (97, .obj l9 (.loop (Rc .ready none rc10))), (98, .obj D8 (.deferred (some []))), (102, .blk g2 3 [I64 x55]), (103, .blk g3 32 [.slice none 0 0])]) (fun q57 ⟨x55, x56⟩ => m_ecread_Exclude_l2 q57 x55 x56 = some res) ⟨x27, (0 : Int)⟩ ?_ (by simp [m_ecread_Exclude_l2]) ?_
 ·exact h
 rintro q57 ⟨x55, x56⟩ h _ k58
 unfold m_ecread_Exclude_l2 at h
 refine sr fun _ k59 => ya (lss rfl rfl) <| dz k59 <| sq fun _ k60 => cI h rfl (fun hc61 h => ?_) fun hc61 h => ?_
 ·refine ss <| k60 _ _ <| ct (σ := Int) (fun x62 => [(0, .func (.yield l9) #[] #[]), (17, I64 x56)]) (fun x62 => [(0, .mem M0), (97, .obj l9 (.loop (Rc .ready none rc10))), (98, .obj D8 (.deferred (some []))), (102, .blk g2 3 [I64 x62]), (103, .blk g3 32 [.slice none 0 0])]) (fun x62 => m_ecread_Exclude_j3 x56 (m_ecread_Exclude_l2 q57) x62 = some res) (fun _ k63 => ?_) ?_
  ·refine bl <| sr fun _ k64 => mv rfl <| ak rfl k64 <| sr fun _ k65 => mv rfl <| ya (addWi rfl rfl) <| ak rfl k65 <| bl <| lp (τ := Int × Int) (fun ⟨x66, x67⟩ => [(0, .func (.yield l9) #[] #[]), (3, I64 x56), (4, I64 x67), (17, I64 x56)]) (fun ⟨x66, x67⟩ => [(0, .mem M0), (97, .obj l9 (.loop (Rc .ready none rc10))), (98, .obj D8 (.deferred (some []))), (102, .blk g2 3 [I64 x66]), (103, .blk g3 32 [.slice none 0 0])]) (fun q68 ⟨x66, x67⟩ => m_ecread_Exclude_l4 x56 (m_ecread_Exclude_l2 q57) q68 x66 x67 = some res) ⟨x55, wri (x56 + (1 : Int))⟩ ?_ (by simp [m_ecread_Exclude_l4]) ?_
   ·exact h
   rintro q68 ⟨x66, x67⟩ h _ k69
   unfold m_ecread_Exclude_l4 at h
   refine sq fun _ k70 => sr fun _ k71 => mv rfl <| ya (lss rfl rfl) <| dz k71 <| cI h rfl (fun hc72 h => ?_) fun hc72 h => ?_
   ·refine ss <| k70 _ _ <| sq fun _ k73 => bl <| sr fun _ k74 => mv rfl <| mv rfl <| mv rfl <| WL.eff (by decide) (Eff.buildC 175 ([x56, x67] : List Int) sty_32 rfl rfl rfl rfl rfl (by decide)) ?_
    rintro _ _ ⟨g75, rfl, rfl⟩
    refine WL.round 97 (by decide) rfl rfl rfl hrc11 rfl rfl fun RQ76 hN77 hR78 hX79 KA80 hKA81 => rg fun _ k82 => ak rfl k82 <| QK.thenN (hKA81 _ _ rfl ?_)
    refine bl <| sq fun _ k83 => sr fun _ k84 => ya (loadB (k := 102) scal_3 rfl rfl rfl) <| ya (eqlI rfl rfl) <| dz k84 <| cnd h rfl beq_iff_eq.2 beq_eq_false_iff_ne.2 (fun hc85 h => ?_) fun hc85 h => ?_
    ·refine sr fun _ k86 => mv rfl <| WL.eff0 (Eff0.storeB 103 siz_32 rfl rfl rfl rfl (nle rfl)) <| dz k86 <| re <| tr <| br <| hR78 _ _ rfl <| ya (notB rfl) <| dz k74 <| cdT rfl <| re <| br <| tr <| tr <| br <| br <| tr <| tr <| br <| Ret.go (ResIs.zero rfl) <| After.ret 97 rfl <| (QK.blockR (QK.thenR ?_))
     refine QK.unmark 98 rfl ?_
     obtain rfl := si h
     exact rt [175] (ResIs.cellS (k := 103) rfl scal_32 rfl rfl rfl) (Ext.refl _ _) ⟨(some ⟨g75, 0, none⟩), ([x56, x67] : List Int).length, ([x56, x67] : List Int).length, rfl, rfl⟩
    exact ss <| k83 _ _ <| rg fun _ k87 => ya (loadB (k := 102) scal_3 rfl rfl rfl) <| ya (subWi rfl rfl) <| WL.eff0 (Eff0.storeB 102 siz_3 rfl rfl rfl rfl (nle rfl)) <| dz k87 <| bn <| hN77 _ _ rfl <| ya (notB rfl) <| dz k74 <| cdF rfl <| WC.skip <| bn <| tn <| k73 _ _ <| rg fun _ k88 => mv rfl <| ya (addWi rfl rfl) <| ak rfl k88 <| tn <| kw (k69 ⟨wri (x66 - (1 : Int)), wri (x67 + (1 : Int))⟩ h)
   exact xi <| te <| te <| bx <| bn <| tn <| kw (k63 x66 h)
  rintro x62 h
  unfold m_ecread_Exclude_j3 at h
  exact rg fun _ k89 => ya (addWi rfl rfl) <| mv rfl <| dz k89 <| tn <| kw (k58 ⟨x62, wri (x56 + (1 : Int))⟩ h)
 refine xi <| te <| te <| bx <| Ret.goN (ResIs.zero rfl) <| After.go 97 rfl <| bn <| tn <| k4 _ _ <| sr fun _ k90 => WL.eff0 (Eff0.storeB 103 siz_32 rfl rfl rfl rfl (nle rfl)) <| dz k90 <| re <| QK.unmark 98 rfl <| QK.nilOwn 191 3 (Lay.sz Int) none ?_
 obtain rfl := si h
 exact rt [191] (ResIs.cellS (k := 103) rfl scal_32 rfl rfl rfl) (Ext.refl _ _) ⟨none, 0, 0, rfl, rfl⟩
end Z
theorem w_ecread_shaped (M0 : Mem) (u0 u1 u2 u3 : Int) (u4 u5 u6 u7 u8 u9 : BitVec 32) (A00_10 : Option Addr) (n00_10 c00_10 : Nat) (u10 : List Sapi_Item) (hf00_10 : SlT M0 A00_10 n00_10 c00_10 u10) (A01 : Option Addr) (n01 c01 : Nat) (rs01 : List Hdr) (x01 : List By) (hf01 : SlT M0 A01 n01 c01 rs01) (hq01 : Rels ((RelB (α := BitVec 8)) M0) rs01 x01) (A02 : Option Addr) (n02 c02 : Nat) (x02 : List Bool) (hf02 : SlT M0 A02 n02 c02 x02) {res : Bool} (h : m_ecread_shaped u0 u1 u2 u3 u4 u5 u6 u7 u8 u9 u10 x01 x02 = some res) :
  Fn Tryz.prog 30 #[.agg ([I64 u0, I64 u1, I64 u2, I64 u3, U32 u4, U32 u5, U32 u6, U32 u7, U32 u8, U32 u9, .slice A00_10 n00_10 c00_10] : List Value).toArray, .slice A01 n01 c01, .slice A02 n02 c02] M0 fun r M' es => r = .bool res /\ es = [] := by
 refine Fn.intro (N := 19) Tryz.func30 rfl rfl (nle rfl) fun w0 => ?_
 unfold m_ecread_shaped at h
 refine sr fun _ k1 => bb 102 [I64 u0, I64 u1, I64 u2, I64 u3, U32 u4, U32 u5, U32 u6, U32 u7, U32 u8, U32 u9, .slice A00_10 n00_10 c00_10] rfl fun g2 => ak rfl k1 <| sr fun _ k3 => bd h fun x4 hx4 h => ya (loadBM (k := 102) agg_46 rfl rfl rfl) <| c0 Tryz.func55 rfl (fun w hb hh => w_shards_Valid (Mem.snap w) u0 u1 u2 u3 u4 u5 u6 u7 u8 u9 A00_10 n00_10 c00_10 _ (sM rfl hf00_10 w hb hh) hx4) <| mv rfl <| spl h id Bool.eq_false_iff.2 (fun hc6 h => ?_) fun hc6 h => ?_
 ·refine mvg rfl <| yg (lenD (rs := rs01) (xs := x01) (Rels.len hq01) und_29 rfl (mM rfl hf01)) <| yg (eqlI rfl rfl) <| pt rfl rfl <| mv rfl <| spl h beq_iff_eq.2 beq_eq_false_iff_ne.2 (fun hc7 h => ?_) fun hc7 h => ?_
  ·refine mvg rfl <| yg (lenC (xs := x02) und_30 rfl (mM rfl hf02)) <| yg (eqlI rfl rfl) <| pt rfl rfl <| ak rfl k3 <| re ?_
   obtain rfl := si h
   exact rt0 (ResIs.one rfl rfl)
  refine sk <| sk <| sk <| pf rfl rfl <| ak rfl k3 <| re ?_
  obtain rfl := si h
  exact rt0 (ResIs.one rfl rfl)
 refine sk <| sk <| sk <| pf rfl rfl <| mv rfl <| sk <| sk <| sk <| pf rfl rfl <| ak rfl k3 <| re ?_
 obtain rfl := si h
 exact rt0 (ResIs.one rfl rfl)
theorem w_ecread_usable (M0 : Mem) (u0 u1 u2 u3 : Int) (u4 u5 u6 u7 u8 u9 : BitVec 32) (A00_10 : Option Addr) (n00_10 c00_10 : Nat) (u10 : List Sapi_Item) (hf00_10 : SlT M0 A00_10 n00_10 c00_10 u10) (A01 : Option Addr) (n01 c01 : Nat) (rs01 : List Hdr) (x01 : List By) (hf01 : SlT M0 A01 n01 c01 rs01) (hq01 : Rels ((RelB (α := BitVec 8)) M0) rs01 x01) (A02 : Option Addr) (n02 c02 : Nat) (x02 : List Bool) (hf02 : SlT M0 A02 n02 c02 x02) (A03 : Option Addr) (n03 c03 : Nat) (x03 : List Int) (hf03 : SlT M0 A03 n03 c03 x03) {res : (List Bool) × Int} (h : m_ecread_usable u0 u1 u2 u3 u4 u5 u6 u7 u8 u9 u10 x01 x02 x03 = some res) :
  Fn Tryz.prog 31 #[.agg ([I64 u0, I64 u1, I64 u2, I64 u3, U32 u4, U32 u5, U32 u6, U32 u7, U32 u8, U32 u9, .slice A00_10 n00_10 c00_10] : List Value).toArray, .slice A01 n01 c01, .slice A02 n02 c02, .slice A03 n03 c03] M0 fun r M' es => ∃ (A1 : Option Addr) (n1 c1 : Nat), r = .tuple #[.slice A1 n1 c1, I64 res.2] /\ es = [.own 4 (Lay.sz Bool) A1 n1 c1 (cel res.1)] := by
 refine Fn.intro (N := 50) Tryz.func31 rfl rfl (nle rfl) fun w0 => ?_
 unfold m_ecread_usable at h
 refine sr fun _ k1 => bb 102 [I64 u0, I64 u1, I64 u2, I64 u3, U32 u4, U32 u5, U32 u6, U32 u7, U32 u8, U32 u9, .slice A00_10 n00_10 c00_10] rfl fun g2 => asn rfl <| ak rfl k1 <| sr fun _ k3 => bd h fun x5 hx5 h => WL.eff (by decide) (Eff.makeC 104 false sty_30 rfl rfl rfl rfl rfl rfl hx5) ?_
 rintro _ _ ⟨g4, rfl, rfl⟩
 refine ak rfl k3 <| ct (σ := (List Bool) × Int) (fun ⟨x6, x7⟩ => [(8, .slice (some ⟨g4, 0, none⟩) x5.length x5.length), (9, I64 x7)]) (fun ⟨x6, x7⟩ => [(0, .mem M0), (104, .own 4 (Lay.sz Bool) (some ⟨g4, 0, none⟩) x5.length x5.length (cel x6))]) (fun ⟨x6, x7⟩ => m_ecread_usable_j0 x6 x7 = some res) (fun _ k8 => ?_) ?_
 ·refine sr fun _ k9 => mv rfl <| ya (lenD (rs := rs01) (xs := x01) (Rels.len hq01) und_29 rfl (mM rfl hf01)) <| mv rfl <| dz k9 <| bl <| lp (τ := (List Bool) × Int × Int) (fun ⟨x10, x11, x12⟩ => [(2, .slice A02 n02 c02), (3, .slice A03 n03 c03), (4, pv g2), (8, .slice (some ⟨g4, 0, none⟩) x5.length x5.length), (9, I64 x11), (13, .slice A01 n01 c01), (14, I64 (x01.length : Int)), (15, I64 x12)]) (fun ⟨x10, x11, x12⟩ => [(0, .mem M0), (102, .blk g2 46 [I64 u0, I64 u1, I64 u2, I64 u3, U32 u4, U32 u5, U32 u6, U32 u7, U32 u8, U32 u9, .slice A00_10 n00_10 c00_10]), (104, .own 4 (Lay.sz Bool) (some ⟨g4, 0, none⟩) x5.length x5.length (cel x10))]) (fun q13 ⟨x10, x11, x12⟩ => m_ecread_usable_l1 u3 x01 x02 x03 q13 x10 x11 x12 = some res) ⟨x5, (0 : Int), (0 : Int)⟩ ?_ (by simp [m_ecread_usable_l1]) ?_
  ·exact h
  rintro q13 ⟨x10, x11, x12⟩ h _ k14
  unfold m_ecread_usable_l1 at h
  refine sr fun _ k15 => ya (lss rfl rfl) <| dz k15 <| sq fun _ k16 => cI h rfl (fun hc17 h => ?_) fun hc17 h => ?_
  ·refine ss <| k16 _ _ <| sq fun _ k18 => bl <| sr fun _ k19 => bd h fun x20 hx20 h => mv rfl ?_
   obtain ⟨r_21, hr22, hq23⟩ := Rels.idx hq01 hx20
   refine ya (idxC (xs := rs01) sty_29 rfl rfl (mM rfl hf01) hr22) <| ya (loadC0 (xs := rs01) scal_35 rfl (mM rfl hf01) hr22 rfl) <| asn rfl <| ak rfl k19 <| sr fun _ k24 => bd h fun x25 hx25 h => mv rfl <| mv rfl <| mv rfl <| mv rfl <| ya (idxC (xs := x02) sty_30 rfl rfl (mM rfl hf02) hx25) <| ya (loadC0 (xs := x02) scal_4 rfl (mM rfl hf02) hx25 rfl) <| mv rfl <| spl h id Bool.eq_false_iff.2 (fun hc26 h => ?_) fun hc26 h => ?_
   ·obtain ⟨x27, hx27, h⟩ := bnd h
    refine mvg rfl <| mvg rfl <| c0g Tryz.func56 rfl (fun w hb hh => w_slices_Contains_int_int (Mem.snap w) A03 n03 c03 _ (sM rfl hf03 w hb hh) x12 hx27) <| yg (notB rfl) <| pt rfl rfl <| mv rfl <| spn h not_f (fun q => not_t (Bool.eq_false_iff.2 q)) (fun hc29 h => ?_) fun hc29 h => ?_
    ·obtain ⟨x30, hx30, h⟩ := bnd h
     obtain ⟨x31, hx31, h⟩ := bnd h
     refine sk <| sk <| sk <| sk <| sk <| sk <| pf rfl rfl <| ya (idxC (xs := x10) sty_30 rfl rfl (rO 104 rfl) hx30) <| WL.eff0 (Eff0.storeC1 104 (xs := x10) (a' := false) siz_4 rfl rfl rfl rfl rfl rfl hx31) <| dz k24 <| sr fun _ k32 => bd h fun x33 hx33 h => mv rfl <| mv rfl <| ya (idxC (xs := x31) sty_30 rfl rfl (rO 104 rfl) hx33) <| ya (loadC0 (xs := x31) scal_4 rfl (rO 104 rfl) hx33 rfl) <| dz k32 <| cnd h rfl id Bool.eq_false_iff.2 (fun hc34 h => ?_) fun hc34 h => ?_
     ·refine rg fun _ k35 => bd h fun x36 hx36 h => mv rfl <| ya (addC rfl rfl hx36) <| ak rfl k35 <| bn <| tn <| k18 _ _ <| rg fun _ k37 => bd h fun x38 hx38 h => ya (addC rfl rfl hx38) <| mv rfl <| dz k37 <| tn <| kw (k14 ⟨x31, x36, x38⟩ h)
     refine WC.skip <| bn <| tn <| k18 _ _ <| rg fun _ k39 => bd h fun x40 hx40 h => ya (addC rfl rfl hx40) <| mv rfl <| dz k39 <| tn <| kw (k14 ⟨x31, x11, x40⟩ h)
    obtain ⟨x41, hx41, h⟩ := bnd h
    obtain ⟨x43, hx43, h⟩ := bnd h
    obtain ⟨x44, hx44, h⟩ := bnd h
    refine mvg rfl <| yg (lenC (xs := x20) und_35 rfl (mM rfl hq23)) <| yg (fieldAddr Tryz.underlying46 rfl nz_2 rfl rfl) <| yg (loadB (k := 102) scal_2 rfl rfl rfl) <| c0g Tryz.func57 rfl (fun w hb hh => w_stripe_Size (Mem.snap w) u3 hx41) <| yg (eqlI rfl rfl) <| pt rfl rfl <| ya (idxC (xs := x10) sty_30 rfl rfl (rO 104 rfl) hx43) <| WL.eff0 (Eff0.storeC1 104 (xs := x10) (a' := ((x20.length : Int) == x41)) siz_4 rfl rfl rfl rfl rfl rfl hx44) <| dz k24 <| sr fun _ k45 => bd h fun x46 hx46 h => mv rfl <| mv rfl <| ya (idxC (xs := x44) sty_30 rfl rfl (rO 104 rfl) hx46) <| ya (loadC0 (xs := x44) scal_4 rfl (rO 104 rfl) hx46 rfl) <| dz k45 <| cnd h rfl id Bool.eq_false_iff.2 (fun hc47 h => ?_) fun hc47 h => ?_
    ·refine rg fun _ k48 => bd h fun x49 hx49 h => mv rfl <| ya (addC rfl rfl hx49) <| ak rfl k48 <| bn <| tn <| k18 _ _ <| rg fun _ k50 => bd h fun x51 hx51 h => ya (addC rfl rfl hx51) <| mv rfl <| dz k50 <| tn <| kw (k14 ⟨x44, x49, x51⟩ h)
    refine WC.skip <| bn <| tn <| k18 _ _ <| rg fun _ k52 => bd h fun x53 hx53 h => ya (addC rfl rfl hx53) <| mv rfl <| dz k52 <| tn <| kw (k14 ⟨x44, x11, x53⟩ h)
   obtain ⟨x54, hx54, h⟩ := bnd h
   obtain ⟨x55, hx55, h⟩ := bnd h
   refine sk <| sk <| sk <| sk <| pf rfl rfl <| mv rfl <| sk <| sk <| sk <| sk <| sk <| sk <| pf rfl rfl <| ya (idxC (xs := x10) sty_30 rfl rfl (rO 104 rfl) hx54) <| WL.eff0 (Eff0.storeC1 104 (xs := x10) (a' := false) siz_4 rfl rfl rfl rfl rfl rfl hx55) <| dz k24 <| sr fun _ k56 => bd h fun x57 hx57 h => mv rfl <| mv rfl <| ya (idxC (xs := x55) sty_30 rfl rfl (rO 104 rfl) hx57) <| ya (loadC0 (xs := x55) scal_4 rfl (rO 104 rfl) hx57 rfl) <| dz k56 <| cnd h rfl id Bool.eq_false_iff.2 (fun hc58 h => ?_) fun hc58 h => ?_
   ·refine rg fun _ k59 => bd h fun x60 hx60 h => mv rfl <| ya (addC rfl rfl hx60) <| ak rfl k59 <| bn <| tn <| k18 _ _ <| rg fun _ k61 => bd h fun x62 hx62 h => ya (addC rfl rfl hx62) <| mv rfl <| dz k61 <| tn <| kw (k14 ⟨x55, x60, x62⟩ h)
   refine WC.skip <| bn <| tn <| k18 _ _ <| rg fun _ k63 => bd h fun x64 hx64 h => ya (addC rfl rfl hx64) <| mv rfl <| dz k63 <| tn <| kw (k14 ⟨x55, x11, x64⟩ h)
  exact xi <| te <| te <| bx <| tn <| kw (k8 ⟨x10, x11⟩ h)
 rintro ⟨x6, x7⟩ h
 unfold m_ecread_usable_j0 at h
 refine sr fun _ k65 => mv rfl <| mv rfl <| asn rfl <| ak rfl k65 <| re ?_
 obtain rfl := si h
 exact rt [104] (ResIs.two rfl rfl rfl) (Ext.refl _ _) ⟨(some ⟨g4, 0, none⟩), x5.length, x5.length, rfl, rfl⟩
theorem w_ecread_restore (M0 : Mem) (A00 : Option Addr) (n00 c00 : Nat) (rs00 : List Hdr) (x00 : List By) (hf00 : SlT M0 A00 n00 c00 rs00) (hq00 : Rels ((RelB (α := BitVec 8)) M0) rs00 x00) (A01 : Option Addr) (n01 c01 : Nat) (x01 : List Bool) (hf01 : SlT M0 A01 n01 c01 x01) (y0 y1 y2 : Int) {res : By} (h : m_ecread_restore x00 x01 y0 y1 y2 = some res) :
  Fn Tryz.prog 32 #[.slice A00 n00 c00, .slice A01 n01 c01, .agg ([I64 y0, I64 y1, I64 y2] : List Value).toArray] M0 fun r M' es => ∃ (A1 : Option Addr) (n1 c1 : Nat), r = .slice A1 n1 c1 /\ es = [] /\ SlT M' A1 n1 c1 res := by
 refine Fn.intro (N := 48) Tryz.func32 rfl rfl (nle rfl) fun w0 => ?_
 unfold m_ecread_restore at h
 refine sr fun _ k1 => bb 102 [I64 y0, I64 y1, I64 y2] rfl fun g2 => ak rfl k1 <| sr fun _ k3 => ?_
 obtain ⟨x5, hx5, h⟩ := bnd h
 obtain ⟨hu6, hq7⟩ := Rels.mks (R := (RelB (α := BitVec 8)) M0) (r := (⟨none, 0, 0⟩ : Hdr)) hx5 RelB.nil
 refine WL.eff (by decide) (Eff.makeC 104 (⟨none, 0, 0⟩ : Hdr) sty_29 rfl rfl rfl rfl rfl rfl hu6) ?_
 rintro _ _ ⟨g4, rfl, rfl⟩
 refine ak rfl k3 <| ct (σ := (List By) × (List Hdr)) (fun ⟨x8, rs9⟩ => [(1, .slice A01 n01 c01), (5, pv g2), (7, .slice (some ⟨g4, 0, none⟩) ((List.replicate ((6 : Int)).toNat (⟨none, 0, 0⟩ : Hdr)).length) ((List.replicate ((6 : Int)).toNat (⟨none, 0, 0⟩ : Hdr)).length))]) (fun ⟨x8, rs9⟩ => [(0, .mem M0), (102, .blk g2 72 [I64 y0, I64 y1, I64 y2]), (104, .own 35 (Lay.sz Hdr) (some ⟨g4, 0, none⟩) ((List.replicate ((6 : Int)).toNat (⟨none, 0, 0⟩ : Hdr)).length) ((List.replicate ((6 : Int)).toNat (⟨none, 0, 0⟩ : Hdr)).length) (cel rs9))]) (fun ⟨x8, rs9⟩ => m_ecread_restore_j0 x01 y0 x8 = some res /\ Rels ((RelB (α := BitVec 8)) M0) rs9 x8) (fun _ k11 => ?_) ?_
 ·refine sr fun _ k12 => mv rfl <| ya (lenD (rs := rs00) (xs := x00) (Rels.len hq00) und_29 rfl (mM rfl hf00)) <| mv rfl <| dz k12 <| bl <| lp (τ := (List By) × (List Hdr) × Int) (fun ⟨x13, rs14, x16⟩ => [(1, .slice A01 n01 c01), (5, pv g2), (7, .slice (some ⟨g4, 0, none⟩) ((List.replicate ((6 : Int)).toNat (⟨none, 0, 0⟩ : Hdr)).length) ((List.replicate ((6 : Int)).toNat (⟨none, 0, 0⟩ : Hdr)).length)), (13, .slice A00 n00 c00), (14, I64 (x00.length : Int)), (15, I64 x16)]) (fun ⟨x13, rs14, x16⟩ => [(0, .mem M0), (102, .blk g2 72 [I64 y0, I64 y1, I64 y2]), (104, .own 35 (Lay.sz Hdr) (some ⟨g4, 0, none⟩) ((List.replicate ((6 : Int)).toNat (⟨none, 0, 0⟩ : Hdr)).length) ((List.replicate ((6 : Int)).toNat (⟨none, 0, 0⟩ : Hdr)).length) (cel rs14))]) (fun q17 ⟨x13, rs14, x16⟩ => m_ecread_restore_l1 x00 x01 y0 y1 y2 q17 x13 x16 = some res /\ Rels ((RelB (α := BitVec 8)) M0) rs14 x13) ⟨x5, (List.replicate ((6 : Int)).toNat (⟨none, 0, 0⟩ : Hdr)), (0 : Int)⟩ ?_ (by simp [m_ecread_restore_l1]) ?_
  ·exact ⟨h, hq7⟩
  rintro q17 ⟨x13, rs14, x16⟩ ⟨h, hq15⟩ _ k18
  unfold m_ecread_restore_l1 at h
  refine sr fun _ k19 => ya (lss rfl rfl) <| dz k19 <| sq fun _ k20 => cI h rfl (fun hc21 h => ?_) fun hc21 h => ?_
  ·refine ss <| k20 _ _ <| sq fun _ k22 => bl <| sr fun _ k23 => bd h fun x24 hx24 h => mv rfl ?_
   obtain ⟨r_25, hr26, hq27⟩ := Rels.idx hq00 hx24
   refine ya (idxC (xs := rs00) sty_29 rfl rfl (mM rfl hf00) hr26) <| ya (loadC0 (xs := rs00) scal_35 rfl (mM rfl hf00) hr26 rfl) <| asn rfl <| ak rfl k23 <| sr fun _ k28 => bd h fun x29 hx29 h => mv rfl <| mv rfl <| ya (idxC (xs := x01) sty_30 rfl rfl (mM rfl hf01) hx29) <| ya (loadC0 (xs := x01) scal_4 rfl (mM rfl hf01) hx29 rfl) <| dz k28 <| cnd h rfl id Bool.eq_false_iff.2 (fun hc30 h => ?_) fun hc30 h => ?_
   ·refine rg fun _ k31 => ?_
    obtain ⟨x32, hx32, h⟩ := bnd h
    obtain ⟨x33, hx33, h⟩ := bnd h
    obtain ⟨x34, hx34, h⟩ := bnd h
    obtain ⟨x38, hx38, h⟩ := bnd h
    refine mv rfl <| mv rfl <| mv rfl <| ya (fieldAddr Tryz.underlying72 rfl nz_2 rfl rfl) <| ya (loadB (k := 102) scal_2 rfl rfl rfl) <| ya (fieldAddr Tryz.underlying72 rfl nz_2 rfl rfl) <| ya (loadB (k := 102) scal_2 rfl rfl rfl) <| ya (fieldAddr Tryz.underlying72 rfl nz_2 rfl rfl) <| ya (loadB (k := 102) scal_2 rfl rfl rfl) <| ya (addC rfl rfl hx32) <| ya (sliceLHC (xs := x24) sty_35 rfl rfl rfl (mM rfl hq27) hx33) ?_
    obtain ⟨r_35, hr36, hq37⟩ := Rels.idx hq15 hx34
    refine ya (idxC (xs := rs14) sty_29 rfl rfl (rO 104 rfl) hr36) ?_
    obtain ⟨hu39, hq40⟩ := Rels.upd (r := (⟨(subA r_25.A r_25.c (y1).toNat (Lay.sz (BitVec 8))), x33.length, (r_25.c - (y1).toNat)⟩ : Hdr)) hq15 hx38 (SlT.slc hq27 hx33)
    refine WL.eff0 (Eff0.storeC1 104 (xs := rs14) (a' := (⟨(subA r_25.A r_25.c (y1).toNat (Lay.sz (BitVec 8))), x33.length, (r_25.c - (y1).toNat)⟩ : Hdr)) siz_35 rfl rfl rfl rfl rfl rfl hu39) <| dz k31 <| bn <| tn <| k22 _ _ <| rg fun _ k41 => bd h fun x42 hx42 h => ya (addC rfl rfl hx42) <| mv rfl <| dz k41 <| tn <| kw (k18 ⟨x38, (rs14.set (x16).toNat (⟨(subA r_25.A r_25.c (y1).toNat (Lay.sz (BitVec 8))), x33.length, (r_25.c - (y1).toNat)⟩ : Hdr)), x42⟩ ⟨h, hq40⟩)
   refine WC.skip <| bn <| tn <| k22 _ _ <| rg fun _ k43 => bd h fun x44 hx44 h => ya (addC rfl rfl hx44) <| mv rfl <| dz k43 <| tn <| kw (k18 ⟨x13, rs14, x44⟩ ⟨h, hq15⟩)
  exact xi <| te <| te <| bx <| tn <| kw (k11 ⟨x13, rs14⟩ ⟨h, hq15⟩)
 rintro ⟨x8, rs9⟩ ⟨h, hq10⟩
 unfold m_ecread_restore_j0 at h
 refine sr fun _ k45 => bd h fun x46 hx46 h => mv rfl <| mv rfl <| WL.freeze 104 rfl rfl rfl fun M58 hm_M58 hf59 => WL.eff (by decide) (Eff.callM 152 rfl Tryz.func58 nm_58 rfl rfl rfl (w_rs_Restore _ (some ⟨g4, 0, none⟩) ((List.replicate ((6 : Int)).toNat (⟨none, 0, 0⟩ : Hdr)).length) ((List.replicate ((6 : Int)).toNat (⟨none, 0, 0⟩ : Hdr)).length) rs9 _ hf59 (Rels.lift hq10 hm_M58) A01 n01 c01 _ (SlRc.lift hf01 hm_M58) hx46)) ?_
 rintro _ _ ⟨M60, _, ⟨A61, n62, c63, rs64, rfl, rfl, hq65⟩, hm_M60, rfl⟩
 refine mv rfl <| ya (extract rfl rfl) <| ya (extract rfl rfl) <| asn rfl <| ak rfl k45 <| sr fun _ k66 => bd h fun x67 hx67 h => mv rfl <| ya (fieldAddr Tryz.underlying72 rfl nz_3 rfl rfl) <| ya (loadB (k := 102) scal_3 rfl rfl rfl) ?_
 obtain ⟨r_68, hr69, hq70⟩ := Rels.idx hq65 hx67
 refine ya (idxC (xs := rs64) sty_29 rfl rfl (rO 152 rfl) hr69) <| ya (loadC0 (xs := rs64) scal_35 rfl (rO 152 rfl) hr69 rfl) <| ak rfl k66 <| re ?_
 obtain rfl := si h
 exact rt [] (ResIs.one rfl rfl) (Ext.trans hm_M58 hm_M60) ⟨r_68.A, r_68.n, r_68.c, rfl, rfl, hq70⟩
theorem w_ecread_Bytes (M0 : Mem) (u0 u1 u2 u3 : Int) (u4 u5 u6 u7 u8 u9 : BitVec 32) (A00_10 : Option Addr) (n00_10 c00_10 : Nat) (u10 : List Sapi_Item) (hf00_10 : SlT M0 A00_10 n00_10 c00_10 u10) (A01 : Option Addr) (n01 c01 : Nat) (rs01 : List Hdr) (x01 : List By) (hf01 : SlT M0 A01 n01 c01 rs01) (hq01 : Rels ((RelB (α := BitVec 8)) M0) rs01 x01) (A02 : Option Addr) (n02 c02 : Nat) (x02 : List Bool) (hf02 : SlT M0 A02 n02 c02 x02) (A03 : Option Addr) (n03 c03 : Nat) (x03 : List Int) (hf03 : SlT M0 A03 n03 c03 x03) (x04 x05 : Int) {res : By × Bool} (h : m_ecread_Bytes u0 u1 u2 u3 u4 u5 u6 u7 u8 u9 u10 x01 x02 x03 x04 x05 = some res) :
  Fn Tryz.prog 12 #[.agg ([I64 u0, I64 u1, I64 u2, I64 u3, U32 u4, U32 u5, U32 u6, U32 u7, U32 u8, U32 u9, .slice A00_10 n00_10 c00_10] : List Value).toArray, .slice A01 n01 c01, .slice A02 n02 c02, .slice A03 n03 c03, I64 x04, I64 x05] M0 fun r M' es => ∃ (A1 : Option Addr) (n1 c1 : Nat), r = .tuple #[.slice A1 n1 c1, .bool res.2] /\ es = [.own 5 (Lay.sz (BitVec 8)) A1 n1 c1 (cel res.1)] := by
 refine Fn.intro (N := 100) Tryz.func12 rfl rfl (nle rfl) fun w0 => ?_
 unfold m_ecread_Bytes at h
 refine sr fun _ k1 => bb 102 [I64 u0, I64 u1, I64 u2, I64 u3, U32 u4, U32 u5, U32 u6, U32 u7, U32 u8, U32 u9, .slice A00_10 n00_10 c00_10] rfl fun g2 => asn rfl <| ak rfl k1 <| ct (σ := (Option Addr) × Nat × Nat × (List Int) × Int × Int) (fun ⟨A3, n4, c5, x6, x8, x9⟩ => [(1, .slice A01 n01 c01), (2, .slice A02 n02 c02), (3, .slice A3 n4 c5), (4, I64 x8), (5, I64 x9), (6, pv g2)]) (fun ⟨A3, n4, c5, x6, x8, x9⟩ => [(0, .mem M0), (102, .blk g2 46 [I64 u0, I64 u1, I64 u2, I64 u3, U32 u4, U32 u5, U32 u6, U32 u7, U32 u8, U32 u9, .slice A00_10 n00_10 c00_10])]) (fun ⟨A3, n4, c5, x6, x8, x9⟩ => m_ecread_Bytes_j0 u0 u1 u10 u2 u3 u4 u5 u6 u7 u8 u9 x01 x02 x6 x8 x9 = some res /\ SlT M0 A3 n4 c5 x6) (fun _ k10 => ?_) ?_
 ·refine sr fun _ k11 => bd h fun x12 hx12 h => ya (loadBM (k := 102) agg_46 rfl rfl rfl) <| mv rfl <| mv rfl <| c0 Tryz.func30 rfl (fun w hb hh => w_ecread_shaped (Mem.snap w) u0 u1 u2 u3 u4 u5 u6 u7 u8 u9 A00_10 n00_10 c00_10 _ (sM rfl hf00_10 w hb hh) A01 n01 c01 rs01 _ (sM rfl hf01 w hb hh) (Rels.sn hq01 (hh.sat 0 _ rfl)) A02 n02 c02 _ (sM rfl hf02 w hb hh) hx12) <| ya (notB rfl) <| mv rfl <| spn h not_f (fun q => not_t (Bool.eq_false_iff.2 q)) (fun hc14 h => ?_) fun hc14 h => ?_
  ·refine mvg rfl <| yg (lss rfl rfl) <| pf rfl rfl <| mv rfl <| spl h decide_eq_true decide_eq_false (fun hc15 h => ?_) fun hc15 h => ?_
   ·refine sk <| sk <| pt rfl rfl <| mv rfl <| sk <| sk <| sk <| sk <| pt rfl rfl <| mv rfl <| sk <| sk <| sk <| sk <| sk <| sk <| pt rfl rfl <| dz k11 <| cdT rfl <| sr fun _ k16 => asn rfl <| ak rfl k16 <| re <| tr <| QK.nilOwn 117 5 (Lay.sz (BitVec 8)) none ?_
    obtain rfl := si h
    exact rt [117] (ResIs.two rfl rfl rfl) (Ext.refl _ _) ⟨none, 0, 0, rfl, rfl⟩
   refine mvg rfl <| yg (lss rfl rfl) <| pf rfl rfl <| mv rfl <| spl h decide_eq_true decide_eq_false (fun hc18 h => ?_) fun hc18 h => ?_
   ·refine sk <| sk <| sk <| sk <| pt rfl rfl <| mv rfl <| sk <| sk <| sk <| sk <| sk <| sk <| pt rfl rfl <| dz k11 <| cdT rfl <| sr fun _ k19 => asn rfl <| ak rfl k19 <| re <| tr <| QK.nilOwn 120 5 (Lay.sz (BitVec 8)) none ?_
    obtain rfl := si h
    exact rt [120] (ResIs.two rfl rfl rfl) (Ext.refl _ _) ⟨none, 0, 0, rfl, rfl⟩
   refine mvg rfl <| yg (fieldAddr Tryz.underlying46 rfl nz_2 rfl rfl) <| yg (loadB (k := 102) scal_2 rfl rfl rfl) <| yg (gtr rfl rfl) <| pf rfl rfl <| mv rfl <| spl h decide_eq_true decide_eq_false (fun hc21 h => ?_) fun hc21 h => ?_
   ·refine sk <| sk <| sk <| sk <| sk <| sk <| pt rfl rfl <| dz k11 <| cdT rfl <| sr fun _ k22 => asn rfl <| ak rfl k22 <| re <| tr <| QK.nilOwn 123 5 (Lay.sz (BitVec 8)) none ?_
    obtain rfl := si h
    exact rt [123] (ResIs.two rfl rfl rfl) (Ext.refl _ _) ⟨none, 0, 0, rfl, rfl⟩
   obtain ⟨x24, hx24, h⟩ := bnd h
   refine mvg rfl <| yg (fieldAddr Tryz.underlying46 rfl nz_2 rfl rfl) <| yg (loadB (k := 102) scal_2 rfl rfl rfl) <| mvg rfl <| yg (subC rfl rfl hx24) <| yg (gtr rfl rfl) <| pf rfl rfl <| dz k11 <| cI h rfl (fun hc25 h => ?_) fun hc25 h => ?_
   ·refine sr fun _ k26 => asn rfl <| ak rfl k26 <| re <| tr <| QK.nilOwn 127 5 (Lay.sz (BitVec 8)) none ?_
    obtain rfl := si h
    exact rt [127] (ResIs.two rfl rfl rfl) (Ext.refl _ _) ⟨none, 0, 0, rfl, rfl⟩
   exact WC.skip <| tn <| kw (k10 ⟨A03, n03, c03, x03, x04, x05⟩ ⟨h, hf03⟩)
  refine sk <| sk <| pt rfl rfl <| mv rfl <| sk <| sk <| pt rfl rfl <| mv rfl <| sk <| sk <| sk <| sk <| pt rfl rfl <| mv rfl <| sk <| sk <| sk <| sk <| sk <| sk <| pt rfl rfl <| dz k11 <| cdT rfl <| sr fun _ k28 => asn rfl <| ak rfl k28 <| re <| tr <| QK.nilOwn 129 5 (Lay.sz (BitVec 8)) none ?_
  obtain rfl := si h
  exact rt [129] (ResIs.two rfl rfl rfl) (Ext.refl _ _) ⟨none, 0, 0, rfl, rfl⟩
 rintro ⟨A3, n4, c5, x6, x8, x9⟩ ⟨h, hf7⟩
 unfold m_ecread_Bytes_j0 at h
 refine sr fun _ k30 => bd h fun x31 hx31 h => ya (loadBM (k := 102) agg_46 rfl rfl rfl) <| mv rfl <| mv rfl <| mv rfl <| c1 135 Tryz.func31 rfl (fun w hb hh => w_ecread_usable (Mem.snap w) u0 u1 u2 u3 u4 u5 u6 u7 u8 u9 A00_10 n00_10 c00_10 _ (sM rfl hf00_10 w hb hh) A01 n01 c01 rs01 _ (sM rfl hf01 w hb hh) (Rels.sn hq01 (hh.sat 0 _ rfl)) A02 n02 c02 _ (sM rfl hf02 w hb hh) A3 n4 c5 _ (sM rfl hf7 w hb hh) hx31) fun A36 n37 c38 => mv rfl <| ya (extract rfl rfl) <| ya (extract rfl rfl) <| asn rfl <| ak rfl k30 <| sr fun _ k39 => bd h fun x40 hx40 h => mv rfl <| mv rfl <| c1 144 Tryz.func20 rfl (fun w hb hh => w_stripe_Pieces (Mem.snap w) x8 x9 hx40) fun A45 n46 c47 => mv rfl <| ya (extract rfl rfl) <| ya (extract rfl rfl) <| asn rfl <| ak rfl k39 <| sr fun _ k48 => ak rfl k48 <| ct (σ := Mem × (Option Addr) × Nat × Nat × By) (fun ⟨M49, A52, n53, c54, x55⟩ => [(18, .slice A52 n53 c54)]) (fun ⟨M49, A52, n53, c54, x55⟩ => [(0, .mem M49), (151, .own 5 (Lay.sz (BitVec 8)) A52 n53 c54 (cel x55))]) (fun ⟨M49, A52, n53, c54, x55⟩ => m_ecread_Bytes_j1 x55 = some res /\ Ext w0.heap.size M0 M49) (fun _ k56 => ?_) ?_
 ·refine sr fun _ k57 => mv rfl <| ya (lenC (xs := x40.1) und_67 rfl (rO 144 rfl)) <| mv rfl <| dz k57 <| bl <| WC.freeze 135 rfl rfl rfl fun M74 hm_M74 hf75 => WC.nilOwn 167 5 (Lay.sz (BitVec 8)) none <| lp (τ := Mem × (Option Addr) × Nat × Nat × (List Bool) × (Option Addr) × Nat × Nat × By × Int) (fun ⟨M60, A61, n62, c63, x64, A68, n69, c70, x71, x72⟩ => [(1, .slice A01 n01 c01), (14, .slice A61 n62 c63), (15, I64 x31.2), (18, .slice A68 n69 c70), (62, .slice A45 n46 c47), (63, I64 (x40.1.length : Int)), (64, I64 x72)]) (fun ⟨M60, A61, n62, c63, x64, A68, n69, c70, x71, x72⟩ => [(0, .mem M60), (144, .own 72 (Lay.sz Sstripe_Piece) A45 n46 c47 (cel x40.1)), (167, .own 5 (Lay.sz (BitVec 8)) A68 n69 c70 (cel x71))]) (fun q73 ⟨M60, A61, n62, c63, x64, A68, n69, c70, x71, x72⟩ => m_ecread_Bytes_l2 x01 x31 x40 q73 x64 x71 x72 = some res /\ Ext w0.heap.size M0 M60 /\ SlT M60 A61 n62 c63 x64) ⟨M74, A36, n37, c38, x31.1, none, 0, 0, ([] : By), (0 : Int)⟩ ?_ (by simp [m_ecread_Bytes_l2]) ?_
  ·exact ⟨h, hm_M74, hf75⟩
  rintro q73 ⟨M60, A61, n62, c63, x64, A68, n69, c70, x71, x72⟩ ⟨h, hm_M60, hf65⟩ _ k76
  unfold m_ecread_Bytes_l2 at h
  refine sr fun _ k77 => ya (lss rfl rfl) <| dz k77 <| sq fun _ k78 => cI h rfl (fun hc79 h => ?_) fun hc79 h => ?_
  ·refine ss <| k78 _ _ <| sq fun _ k80 => bl <| sr fun _ k81 => bd h fun x82 hx82 h => ya (idxC (xs := x40.1) sty_67 rfl rfl (rO 144 rfl) hx82) <| ya (loadA (xs := x40.1) agg_72 rfl (rO 144 rfl) hx82 rfl) <| al 183 zr_72 fun g83 => sb 183 agg_72 rfl rfl rfl <| dz k81 <| bl <| sr fun _ k84 => bd h fun x85 hx85 h => mv rfl <| ya (fieldAddr Tryz.underlying72 rfl nz_3 rfl rfl) <| ya (loadB (k := 183) scal_3 rfl rfl rfl) <| ya (idxC (xs := x64) sty_30 rfl rfl (mM rfl hf65) hx85) <| ya (loadC0 (xs := x64) scal_4 rfl (mM rfl hf65) hx85 rfl) <| ak rfl k84 <| cnd h rfl id Bool.eq_false_iff.2 (fun hc86 h => ?_) fun hc86 h => ?_
   ·refine rd [(0, _), (144, _), (183, _)] mixed fun _ k87 => ?_
    obtain ⟨x88, hx88, h⟩ := bnd h
    obtain ⟨x92, hx92, h⟩ := bnd h
    obtain ⟨x93, hx93, h⟩ := bnd h
    obtain ⟨x94, hx94, h⟩ := bnd h
    refine dm 0 rfl rfl <| dm 1 rfl rfl <| du 2 rfl (fieldAddr Tryz.underlying72 rfl nz_3 rfl rfl) <| du 3 rfl (loadB (k := 183) scal_3 rfl rfl rfl) ?_
    obtain ⟨r_89, hr90, hq91⟩ := Rels.idx (Rels.lift hq01 hm_M60) hx88
    refine du 4 rfl (idxC (xs := rs01) sty_29 rfl rfl (mM rfl (SlRc.lift hf01 hm_M60)) hr90) <| du 5 rfl (loadC0 (xs := rs01) scal_35 rfl (mM rfl (SlRc.lift hf01 hm_M60)) hr90 rfl) <| du 6 rfl (fieldAddr Tryz.underlying72 rfl nz_2 rfl rfl) <| du 7 rfl (loadB (k := 183) scal_2 rfl rfl rfl) <| du 8 rfl (fieldAddr Tryz.underlying72 rfl nz_2 rfl rfl) <| du 9 rfl (loadB (k := 183) scal_2 rfl rfl rfl) <| du 10 rfl (fieldAddr Tryz.underlying72 rfl nz_2 rfl rfl) <| du 11 rfl (loadB (k := 183) scal_2 rfl rfl rfl) <| du 12 rfl (addC rfl rfl hx92) <| du 13 rfl (sliceLHC (xs := x88) sty_35 rfl rfl rfl (mM rfl hq91) hx93) <| on 14 <| WS.eff rfl (by decide) (Eff.appendC 167 (xs := x71) (ys := x93) sty_35 rfl rfl rfl (RdT.slc (mM rfl hq91) hx93) hx94) ?_
    rintro _ _ ⟨A95, c96, rfl, rfl⟩
    refine aq ?_
    refine du 15 rfl (Yld.assign rfl) <| dd <| k87 _ _ <| bn <| bn <| tn <| k80 _ _ <| rg fun _ k97 => bd h fun x98 hx98 h => ya (addC rfl rfl hx98) <| mv rfl <| dz k97 <| tn <| kw (k76 ⟨M60, A61, n62, c63, x64, A95, x94.length, c96, x94, x98⟩ ⟨h, hm_M60, hf65⟩)
   refine sr fun _ k99 => mv rfl <| ya (geq rfl rfl) <| ak rfl k99 <| cI h rfl (fun hc100 h => ?_) fun hc100 h => ?_
   ·refine rg fun _ k101 => ?_
    obtain ⟨x102, hx102, h⟩ := bnd h
    obtain ⟨x117, hx117, h⟩ := bnd h
    refine mv rfl <| mv rfl <| mv rfl <| ya (loadBM (k := 183) agg_72 rfl rfl rfl) <| WL.eff (by decide) (Eff.callM 207 rfl Tryz.func32 nm_32 rfl rfl rfl (w_ecread_restore _ A01 n01 c01 rs01 _ (SlRc.lift hf01 hm_M60) (Rels.lift hq01 hm_M60) A61 n62 c63 _ hf65 x82.fShard x82.fAt x82.fLen hx102)) ?_
    rintro _ _ ⟨M112, _, ⟨A113, n114, c115, rfl, rfl, hf116⟩, hm_M112, rfl⟩
    refine ap 167 (xs := x71) (ys := x102) sty_35 rfl rfl rfl (mM rfl hf116) hx117 fun A118 c119 => ak rfl k101 <| bn <| bn <| tn <| k80 _ _ <| rg fun _ k120 => bd h fun x121 hx121 h => ya (addC rfl rfl hx121) <| mv rfl <| dz k120 <| tn <| kw (k76 ⟨M112, A61, n62, c63, x64, A118, x117.length, c119, x117, x121⟩ ⟨h, (Ext.trans hm_M60 hm_M112), (SlRc.lift hf65 hm_M112)⟩)
   refine sr fun _ k122 => asn rfl <| ak rfl k122 <| re <| br <| br <| tr <| tr <| br <| tr <| QK.nilOwn 223 5 (Lay.sz (BitVec 8)) none ?_
   obtain rfl := si h
   exact rt [223] (ResIs.two rfl rfl rfl) hm_M60 ⟨none, 0, 0, rfl, rfl⟩
  exact xi <| te <| te <| bx <| tn <| KK.move 167 151 rfl rfl <| kw (k56 ⟨M60, A68, n69, c70, x71⟩ ⟨h, hm_M60⟩)
 rintro ⟨M49, A52, n53, c54, x55⟩ ⟨h, hm_M49⟩
 unfold m_ecread_Bytes_j1 at h
 refine sr fun _ k124 => mv rfl <| asn rfl <| ak rfl k124 <| re ?_
 obtain rfl := si h
 exact rt [151] (ResIs.two rfl rfl rfl) hm_M49 ⟨A52, n53, c54, rfl, rfl⟩
theorem w_ecread_candidate (M0 : Mem) (u0 u1 u2 u3 : Int) (u4 u5 u6 u7 u8 u9 : BitVec 32) (A00_10 : Option Addr) (n00_10 c00_10 : Nat) (u10 : List Sapi_Item) (hf00_10 : SlT M0 A00_10 n00_10 c00_10 u10) (A01 : Option Addr) (n01 c01 : Nat) (rs01 : List Hdr) (x01 : List By) (hf01 : SlT M0 A01 n01 c01 rs01) (hq01 : Rels ((RelB (α := BitVec 8)) M0) rs01 x01) (A02 : Option Addr) (n02 c02 : Nat) (x02 : List Bool) (hf02 : SlT M0 A02 n02 c02 x02) (A03 : Option Addr) (n03 c03 : Nat) (x03 : List Int) (hf03 : SlT M0 A03 n03 c03 x03) (x04_0 : BitVec 64) (x04_1 : BitVec 32) (x04_2 x04_3 : Int) {res : (BitVec 64) × (BitVec 32) × Bool × By × Bool} (h : m_ecread_candidate u0 u1 u2 u3 u4 u5 u6 u7 u8 u9 u10 x01 x02 x03 x04_0 x04_1 x04_2 x04_3 = some res) :
  Fn Tryz.prog 39 #[.agg ([I64 u0, I64 u1, I64 u2, I64 u3, U32 u4, U32 u5, U32 u6, U32 u7, U32 u8, U32 u9, .slice A00_10 n00_10 c00_10] : List Value).toArray, .slice A01 n01 c01, .slice A02 n02 c02, .slice A03 n03 c03, .agg ([U64 x04_0, U32 x04_1, I64 x04_2, I64 x04_3] : List Value).toArray] M0 fun r M' es => ∃ (A1 : Option Addr) (n1 c1 : Nat), r = .tuple #[.agg ([U64 res.1, U32 res.2.1, .bool res.2.2.1, .slice A1 n1 c1] : List Value).toArray, .bool res.2.2.2.2] /\ es = [.own 5 (Lay.sz (BitVec 8)) A1 n1 c1 (cel res.2.2.2.1)] := by
 refine Fn.intro (N := 80) Tryz.func39 rfl rfl (nle rfl) fun w0 => ?_
 unfold m_ecread_candidate at h
 refine sr fun _ k1 => bb 102 [I64 u0, I64 u1, I64 u2, I64 u3, U32 u4, U32 u5, U32 u6, U32 u7, U32 u8, U32 u9, .slice A00_10 n00_10 c00_10] rfl fun g2 => bb 103 [U64 x04_0, U32 x04_1, I64 x04_2, I64 x04_3] rfl fun g3 => al 104 zr_55 fun g4 => ak rfl k1 <| sr fun _ k5 => bd h fun x6 hx6 h => ya (fieldAddr Tryz.underlying59 rfl nz_3 rfl rfl) <| ya (loadB (k := 103) scal_3 rfl rfl rfl) <| c0 Tryz.func21 rfl (fun w hb hh => w_needle_Size (Mem.snap w) x04_3 hx6) <| ak rfl k5 <| sr fun _ k8 => bd h fun x9 hx9 h => ya (loadBM (k := 102) agg_46 rfl rfl rfl) <| mv rfl <| mv rfl <| mv rfl <| ya (fieldAddr Tryz.underlying59 rfl nz_2 rfl rfl) <| ya (loadB (k := 103) scal_2 rfl rfl rfl) <| mv rfl <| c1 113 Tryz.func12 rfl (fun w hb hh => w_ecread_Bytes (Mem.snap w) u0 u1 u2 u3 u4 u5 u6 u7 u8 u9 A00_10 n00_10 c00_10 _ (sM rfl hf00_10 w hb hh) A01 n01 c01 rs01 _ (sM rfl hf01 w hb hh) (Rels.sn hq01 (hh.sat 0 _ rfl)) A02 n02 c02 _ (sM rfl hf02 w hb hh) A03 n03 c03 _ (sM rfl hf03 w hb hh) x04_2 x6 hx9) fun A14 n15 c16 => mv rfl <| ya (extract rfl rfl) <| ya (extract rfl rfl) <| asn rfl <| ak rfl k8 <| ct (σ := Unit) (fun _ => [(9, pv g3), (10, pv g4), (12, I64 x6), (13, .slice A14 n15 c16)]) (fun _ => [(0, .mem M0), (103, .blk g3 59 [U64 x04_0, U32 x04_1, I64 x04_2, I64 x04_3]), (104, .blk g4 55 [U64 0#64, U32 0#32, .bool false, .slice none 0 0]), (113, .own 5 (Lay.sz (BitVec 8)) A14 n15 c16 (cel x9.1))]) (fun _ => m_ecread_candidate_j0 x04_0 x04_1 x04_3 x6 x9 = some res) (fun _ k17 => ?_) ?_
 ·refine sr fun _ k18 => mv rfl <| ya (notB rfl) <| mv rfl <| spn h not_f (fun q => not_t (Bool.eq_false_iff.2 q)) (fun hc19 h => ?_) fun hc19 h => ?_
  ·refine mvg rfl <| yg (eqlI rfl rfl) <| pf rfl rfl <| dz k18 <| cnd h rfl beq_iff_eq.2 beq_eq_false_iff_ne.2 (fun hc20 h => ?_) fun hc20 h => ?_
   ·refine sr fun _ k21 => ya (build rfl (bu_55_)) <| sb 104 agg_55 rfl rfl rfl <| ak rfl k21 <| re <| tr <| QK.nilOwn 122 5 (Lay.sz (BitVec 8)) none ?_
    obtain rfl := si h
    exact rt [122] (ResIs.cellTmpM (k := 104) rfl agg_55 rfl rfl rfl rfl) (Ext.refl _ _) ⟨none, 0, 0, rfl, rfl⟩
   exact WC.skip <| tn <| kw (k17 () h)
  refine sk <| sk <| pt rfl rfl <| dz k18 <| cdT rfl <| sr fun _ k23 => ya (build rfl (bu_55_)) <| sb 104 agg_55 rfl rfl rfl <| ak rfl k23 <| re <| tr <| QK.nilOwn 124 5 (Lay.sz (BitVec 8)) none ?_
  obtain rfl := si h
  exact rt [124] (ResIs.cellTmpM (k := 104) rfl agg_55 rfl rfl rfl rfl) (Ext.refl _ _) ⟨none, 0, 0, rfl, rfl⟩
 rintro _ h
 unfold m_ecread_candidate_j0 at h
 refine sr fun _ k25 => bd h fun x26 hx26 h => mv rfl <| c1 130 Tryz.func69 rfl (fun w hb hh => w_needle_Decode (Mem.snap w) A14 n15 c16 _ (RdH.sn (rO 113 rfl) w hb hh) hx26) fun A31 n32 c33 => mv rfl <| ya (extract rfl rfl) <| ya (extract rfl rfl) <| ya (extract rfl rfl) <| al 134 zr_55 fun g34 => sb 134 agg_55 rfl rfl rfl <| asn rfl <| ak rfl k25 <| sq fun _ k35 => sr fun _ k36 => mv rfl <| ya (neqI rfl rfl) <| mv rfl <| spn h bne_eq_false_iff_eq.2 bne_iff_ne.2 (fun hc37 h => ?_) fun hc37 h => ?_
 ·refine mvg rfl <| mvg rfl <| yg (neqI rfl rfl) <| pf rfl rfl <| mv rfl <| spn h bne_eq_false_iff_eq.2 bne_iff_ne.2 (fun hc38 h => ?_) fun hc38 h => ?_
  ·refine yg (fieldAddr Tryz.underlying55 rfl nz_4 rfl rfl) <| yg (loadB (k := 134) scal_4 rfl rfl rfl) <| pf rfl rfl <| mv rfl <| spl h id Bool.eq_false_iff.2 (fun hc39 h => ?_) fun hc39 h => ?_
   ·refine sk <| sk <| sk <| sk <| sk <| pt rfl rfl <| mv rfl <| sk <| sk <| sk <| sk <| sk <| pt rfl rfl <| mv rfl <| sk <| sk <| sk <| sk <| sk <| sk <| pt rfl rfl <| dz k36 <| cdT rfl <| sr fun _ k40 => ya (build rfl (bu_55_)) <| sb 104 agg_55 rfl rfl rfl <| ak rfl k40 <| re <| tr <| QK.nilOwn 141 5 (Lay.sz (BitVec 8)) none ?_
    obtain rfl := si h
    exact rt [141] (ResIs.cellTmpM (k := 104) rfl agg_55 rfl rfl rfl rfl) (Ext.refl _ _) ⟨none, 0, 0, rfl, rfl⟩
   refine yg (fieldAddr Tryz.underlying55 rfl nz_53 rfl rfl) <| yg (loadB (k := 134) scal_53 rfl rfl rfl) <| yg (fieldAddr Tryz.underlying59 rfl nz_53 rfl rfl) <| yg (loadB (k := 103) scal_53 rfl rfl rfl) <| yg (neq_u64 (a := x26.1) (b := x04_0) rfl rfl) <| pf rfl rfl <| mv rfl <| spn h bne_eq_false_iff_eq.2 bne_iff_ne.2 (fun hc42 h => ?_) fun hc42 h => ?_
   ·refine yg (fieldAddr Tryz.underlying55 rfl nz_24 rfl rfl) <| yg (loadB (k := 134) scal_24 rfl rfl rfl) <| yg (fieldAddr Tryz.underlying59 rfl nz_24 rfl rfl) <| yg (loadB (k := 103) scal_24 rfl rfl rfl) <| yg (neq_u32 (a := x26.2.1) (b := x04_1) rfl rfl) <| pf rfl rfl <| mv rfl <| spn h bne_eq_false_iff_eq.2 bne_iff_ne.2 (fun hc43 h => ?_) fun hc43 h => ?_
    ·refine yg (fieldAddr Tryz.underlying55 rfl nz_35 rfl rfl) <| yg (loadB (k := 134) scal_35 rfl rfl rfl) <| yg (lenC (xs := x26.2.2.2.1) und_35 rfl (rO 130 rfl)) <| yg (fieldAddr Tryz.underlying59 rfl nz_3 rfl rfl) <| yg (loadB (k := 103) scal_3 rfl rfl rfl) <| yg (neqI rfl rfl) <| pf rfl rfl <| dz k36 <| cnn h rfl bne_eq_false_iff_eq.2 bne_iff_ne.2 (fun hc44 h => ?_) fun hc44 h => ?_
     ·refine ss <| k35 _ _ <| sr fun _ k45 => ya (loadBM (k := 134) agg_55 rfl rfl rfl) <| sb 104 agg_55 rfl rfl rfl <| ak rfl k45 <| re ?_
      obtain rfl := si h
      exact rt [130] (ResIs.cellTmpM (k := 104) rfl agg_55 rfl rfl rfl rfl) (Ext.refl _ _) ⟨A31, n32, c33, rfl, rfl⟩
     refine sr fun _ k46 => ya (build rfl (bu_55_)) <| sb 104 agg_55 rfl rfl rfl <| ak rfl k46 <| re <| tr <| QK.nilOwn 147 5 (Lay.sz (BitVec 8)) none ?_
     obtain rfl := si h
     exact rt [147] (ResIs.cellTmpM (k := 104) rfl agg_55 rfl rfl rfl rfl) (Ext.refl _ _) ⟨none, 0, 0, rfl, rfl⟩
    refine sk <| sk <| sk <| sk <| sk <| sk <| pt rfl rfl <| dz k36 <| cdT rfl <| sr fun _ k48 => ya (build rfl (bu_55_)) <| sb 104 agg_55 rfl rfl rfl <| ak rfl k48 <| re <| tr <| QK.nilOwn 149 5 (Lay.sz (BitVec 8)) none ?_
    obtain rfl := si h
    exact rt [149] (ResIs.cellTmpM (k := 104) rfl agg_55 rfl rfl rfl rfl) (Ext.refl _ _) ⟨none, 0, 0, rfl, rfl⟩
   refine sk <| sk <| sk <| sk <| sk <| pt rfl rfl <| mv rfl <| sk <| sk <| sk <| sk <| sk <| sk <| pt rfl rfl <| dz k36 <| cdT rfl <| sr fun _ k50 => ya (build rfl (bu_55_)) <| sb 104 agg_55 rfl rfl rfl <| ak rfl k50 <| re <| tr <| QK.nilOwn 151 5 (Lay.sz (BitVec 8)) none ?_
   obtain rfl := si h
   exact rt [151] (ResIs.cellTmpM (k := 104) rfl agg_55 rfl rfl rfl rfl) (Ext.refl _ _) ⟨none, 0, 0, rfl, rfl⟩
  refine sk <| sk <| pt rfl rfl <| mv rfl <| sk <| sk <| sk <| sk <| sk <| pt rfl rfl <| mv rfl <| sk <| sk <| sk <| sk <| sk <| pt rfl rfl <| mv rfl <| sk <| sk <| sk <| sk <| sk <| sk <| pt rfl rfl <| dz k36 <| cdT rfl <| sr fun _ k52 => ya (build rfl (bu_55_)) <| sb 104 agg_55 rfl rfl rfl <| ak rfl k52 <| re <| tr <| QK.nilOwn 153 5 (Lay.sz (BitVec 8)) none ?_
  obtain rfl := si h
  exact rt [153] (ResIs.cellTmpM (k := 104) rfl agg_55 rfl rfl rfl rfl) (Ext.refl _ _) ⟨none, 0, 0, rfl, rfl⟩
 refine sk <| sk <| sk <| pt rfl rfl <| mv rfl <| sk <| sk <| pt rfl rfl <| mv rfl <| sk <| sk <| sk <| sk <| sk <| pt rfl rfl <| mv rfl <| sk <| sk <| sk <| sk <| sk <| pt rfl rfl <| mv rfl <| sk <| sk <| sk <| sk <| sk <| sk <| pt rfl rfl <| dz k36 <| cdT rfl <| sr fun _ k54 => ya (build rfl (bu_55_)) <| sb 104 agg_55 rfl rfl rfl <| ak rfl k54 <| re <| tr <| QK.nilOwn 155 5 (Lay.sz (BitVec 8)) none ?_
 obtain rfl := si h
 exact rt [155] (ResIs.cellTmpM (k := 104) rfl agg_55 rfl rfl rfl rfl) (Ext.refl _ _) ⟨none, 0, 0, rfl, rfl⟩
namespace Z
theorem _root_.Go.Proofs.YtcncappgheopgaaGreat.w_ecread_Read (M0 : Mem) (u0 u1 u2 u3 : Int) (u4 u5 u6 u7 u8 u9 : BitVec 32) (A00_10 : Option Addr) (n00_10 c00_10 : Nat) (u10 : List Sapi_Item) (hf00_10 : SlT M0 A00_10 n00_10 c00_10 u10) (A01 : Option Addr) (n01 c01 : Nat) (rs01 : List Hdr) (x01 : List By) (hf01 : SlT M0 A01 n01 c01 rs01) (hq01 : Rels ((RelB (α := BitVec 8)) M0) rs01 x01) (A02 : Option Addr) (n02 c02 : Nat) (x02 : List Bool) (hf02 : SlT M0 A02 n02 c02 x02) (z0 : BitVec 64) (z1 : BitVec 32) (z2 z3 : Int) {res : (BitVec 64) × (BitVec 32) × Bool × By × Int} (h : m_ecread_Read u0 u1 u2 u3 u4 u5 u6 u7 u8 u9 u10 x01 x02 z0 z1 z2 z3 = some res) :
  Fn Tryz.prog 18 #[.agg ([I64 u0, I64 u1, I64 u2, I64 u3, U32 u4, U32 u5, U32 u6, U32 u7, U32 u8, U32 u9, .slice A00_10 n00_10 c00_10] : List Value).toArray, .slice A01 n01 c01, .slice A02 n02 c02, .agg ([U64 z0, U32 z1, I64 z2, I64 z3] : List Value).toArray] M0 fun r M' es => ∃ (A1 : Option Addr) (n1 c1 : Nat), r = .tuple #[.agg ([U64 res.1, U32 res.2.1, .bool res.2.2.1, .slice A1 n1 c1] : List Value).toArray, I64 res.2.2.2.2] /\ es = [.own 5 (Lay.sz (BitVec 8)) A1 n1 c1 (cel res.2.2.2.1)] := by
 refine Fn.intro (N := 40) Tryz.func18 rfl rfl (nle rfl) fun w0 => ?_
 unfold m_ecread_Read at h
 refine sr fun _ k1 => bb 102 [I64 u0, I64 u1, I64 u2, I64 u3, U32 u4, U32 u5, U32 u6, U32 u7, U32 u8, U32 u9, .slice A00_10 n00_10 c00_10] rfl fun g2 => bb 103 [.slice A01 n01 c01] rfl fun g3 => bb 104 [.slice A02 n02 c02] rfl fun g4 => bb 105 [U64 z0, U32 z1, I64 z2, I64 z3] rfl fun g5 => al 106 zr_55 fun g6 => al 107 zr_61 fun g7 => dz k1 <| ct (σ := Unit) (fun _ => [(4, pv g2), (5, pv g3), (6, pv g4), (7, pv g5), (8, pv g6), (9, pv g7)]) (fun _ => [(0, .mem M0), (102, .blk g2 46 [I64 u0, I64 u1, I64 u2, I64 u3, U32 u4, U32 u5, U32 u6, U32 u7, U32 u8, U32 u9, .slice A00_10 n00_10 c00_10]), (103, .blk g3 29 [.slice A01 n01 c01]), (104, .blk g4 30 [.slice A02 n02 c02]), (105, .blk g5 59 [U64 z0, U32 z1, I64 z2, I64 z3]), (106, .blk g6 55 [U64 0#64, U32 0#32, .bool false, .slice none 0 0]), (107, .blk g7 61 [I64 (0 : Int)])]) (fun _ => m_ecread_Read_j0 u0 u1 u10 u2 u3 u4 u5 u6 u7 u8 u9 x01 x02 z0 z1 z2 z3 = some res) (fun _ k8 => ?_) ?_
 ·refine sr fun _ k9 => bd h fun x10 hx10 h => ya (loadBM (k := 102) agg_46 rfl rfl rfl) <| ya (loadB (k := 103) scal_29 rfl rfl rfl) <| ya (loadB (k := 104) scal_30 rfl rfl rfl) <| c0 Tryz.func30 rfl (fun w hb hh => w_ecread_shaped (Mem.snap w) u0 u1 u2 u3 u4 u5 u6 u7 u8 u9 A00_10 n00_10 c00_10 _ (sM rfl hf00_10 w hb hh) A01 n01 c01 rs01 _ (sM rfl hf01 w hb hh) (Rels.sn hq01 (hh.sat 0 _ rfl)) A02 n02 c02 _ (sM rfl hf02 w hb hh) hx10) <| ya (notB rfl) <| mv rfl <| spn h not_f (fun q => not_t (Bool.eq_false_iff.2 q)) (fun hc12 h => ?_) fun hc12 h => ?_
  ·obtain ⟨x13, hx13, h⟩ := bnd h
   refine yg (fieldAddr Tryz.underlying46 rfl nz_26 rfl rfl) <| yg (loadB (k := 102) scal_26 rfl rfl rfl) <| yg (loadBM (k := 105) agg_59 rfl rfl rfl) <| c0g Tryz.func38 rfl (fun w hb hh => w_slices_Contains_api_Item_api_Item (Mem.snap w) A00_10 n00_10 c00_10 _ (sM rfl hf00_10 w hb hh) z0 z1 z2 z3 hx13) <| yg (notB rfl) <| pf rfl rfl <| dz k9 <| cnn h rfl not_f (fun q => not_t (Bool.eq_false_iff.2 q)) (fun hc15 h => ?_) fun hc15 h => ?_
   ·exact WC.skip <| tn <| kw (k8 () h)
   refine sr fun _ k16 => ya (build rfl (bu_55_)) <| sb 106 agg_55 rfl rfl rfl <| WL.eff0 (Eff0.storeB 107 siz_61 rfl rfl rfl rfl (nle rfl)) <| dz k16 <| re <| tr <| QK.nilOwn 117 5 (Lay.sz (BitVec 8)) none ?_
   obtain rfl := si h
   exact rt [117] (ResIs.cellAS (k := 106) (k' := 107) rfl agg_55 scal_61 rfl rfl rfl rfl (rfl) rfl) (Ext.refl _ _) ⟨none, 0, 0, rfl, rfl⟩
  refine sk <| sk <| sk <| sk <| sk <| pt rfl rfl <| dz k9 <| cdT rfl <| sr fun _ k18 => ya (build rfl (bu_55_)) <| sb 106 agg_55 rfl rfl rfl <| WL.eff0 (Eff0.storeB 107 siz_61 rfl rfl rfl rfl (nle rfl)) <| dz k18 <| re <| tr <| QK.nilOwn 119 5 (Lay.sz (BitVec 8)) none ?_
  obtain rfl := si h
  exact rt [119] (ResIs.cellAS (k := 106) (k' := 107) rfl agg_55 scal_61 rfl rfl rfl rfl (rfl) rfl) (Ext.refl _ _) ⟨none, 0, 0, rfl, rfl⟩
 rintro _ h
 unfold m_ecread_Read_j0 at h
 refine sq fun _ k20 => sr fun _ k21 => WL.inl (by decide) Tryz.func37 nm_37 rfl rfl (Tri.intro (N := 1) Tryz.func37 rfl rfl (nle rfl) ?_)
 refine sr fun _ k22 => ak rfl k22 <| sr fun _ k23 => ak rfl k23 <| re <| Ret.go (ResIs.one rfl rfl) <| dz k21 <| bl <| WC.rangeFunc 98 97 rfl Tryz.func67 nm_67 rfl rfl rfl rfl fun D24 l25 rc26 hrc27 => Tri.intro (N := 33) Tryz.func67 rfl rfl (nle rfl) <| sq fun _ k28 => sr fun _ k29 => mv rfl <| WL.round 97 (by decide) rfl rfl rfl hrc27 rfl rfl fun RQ30 hN31 hR32 hX33 KA34 hKA35 => rg fun _ k36 => ak rfl k36 <| QK.thenN (hKA35 _ _ rfl ?_)
 refine bl <| sr fun _ k37 => bd h fun x38 hx38 h => ya (loadBM (k := 102) agg_46 rfl rfl rfl) <| ya (loadB (k := 103) scal_29 rfl rfl rfl) <| ya (loadB (k := 104) scal_30 rfl rfl rfl) <| mv rfl <| ya (loadBM (k := 105) agg_59 rfl rfl rfl) <| c1 142 Tryz.func39 rfl (fun w hb hh => w_ecread_candidate (Mem.snap w) u0 u1 u2 u3 u4 u5 u6 u7 u8 u9 A00_10 n00_10 c00_10 _ (sM rfl hf00_10 w hb hh) A01 n01 c01 rs01 _ (sM rfl hf01 w hb hh) (Rels.sn hq01 (hh.sat 0 _ rfl)) A02 n02 c02 _ (sM rfl hf02 w hb hh) none 0 0 _ (RdH.sn (RdT.nil (α := Int)) w hb hh) z0 z1 z2 z3 hx38) fun A43 n44 c45 => mv rfl <| ya (extract rfl rfl) <| ya (extract rfl rfl) <| al 146 zr_55 fun g46 => sb 146 agg_55 rfl rfl rfl <| ak rfl k37 <| sr fun _ k47 => mv rfl <| dz k47 <| cnd h rfl id Bool.eq_false_iff.2 (fun hc48 h => ?_) fun hc48 h => ?_
 ·refine sr fun _ k49 => ya (loadBM (k := 146) agg_55 rfl rfl rfl) <| sb 106 agg_55 rfl rfl rfl <| WL.eff0 (Eff0.storeB 107 siz_61 rfl rfl rfl rfl (nle rfl)) <| dz k49 <| re <| br <| hR32 _ _ rfl <| ya (notB rfl) <| dz k29 <| cdT rfl <| re <| tr <| Ret.go (ResIs.zero rfl) <| After.ret 97 rfl <| (QK.blockR (QK.thenR ?_))
  refine QK.unmark 98 rfl ?_
  obtain rfl := si h
  exact rt [142] (ResIs.cellAS (k := 106) (k' := 107) rfl agg_55 scal_61 rfl rfl rfl rfl (rfl) rfl) (Ext.refl _ _) ⟨A43, n44, c45, rfl, rfl⟩
 refine WC.skip <| bn <| hN31 _ _ rfl <| ya (notB rfl) <| dz k29 <| cdF rfl <| ss <| k28 _ _ <| ct (σ := Unit) (fun _ => [(0, .func (.yield l25) #[] #[])]) (fun _ => [(0, .mem M0), (97, .obj l25 (.loop (Rc .ready none rc26))), (98, .obj D24 (.deferred (some []))), (102, .blk g2 46 [I64 u0, I64 u1, I64 u2, I64 u3, U32 u4, U32 u5, U32 u6, U32 u7, U32 u8, U32 u9, .slice A00_10 n00_10 c00_10]), (103, .blk g3 29 [.slice A01 n01 c01]), (104, .blk g4 30 [.slice A02 n02 c02]), (105, .blk g5 59 [U64 z0, U32 z1, I64 z2, I64 z3]), (106, .blk g6 55 [U64 0#64, U32 0#32, .bool false, .slice none 0 0]), (107, .blk g7 61 [I64 (0 : Int)])]) (fun _ => m_ecread_Read_j1 u0 u1 u10 u2 u3 u4 u5 u6 u7 u8 u9 x01 x02 z0 z1 z2 z3 = some res) (fun _ k50 => ?_) ?_
 ·refine sr fun _ k51 => mv rfl <| dz k51 <| bl <| lp (τ := Int) (fun x52 => [(0, .func (.yield l25) #[] #[]), (8, I64 x52)]) (fun x52 => [(0, .mem M0), (97, .obj l25 (.loop (Rc .ready none rc26))), (98, .obj D24 (.deferred (some []))), (102, .blk g2 46 [I64 u0, I64 u1, I64 u2, I64 u3, U32 u4, U32 u5, U32 u6, U32 u7, U32 u8, U32 u9, .slice A00_10 n00_10 c00_10]), (103, .blk g3 29 [.slice A01 n01 c01]), (104, .blk g4 30 [.slice A02 n02 c02]), (105, .blk g5 59 [U64 z0, U32 z1, I64 z2, I64 z3]), (106, .blk g6 55 [U64 0#64, U32 0#32, .bool false, .slice none 0 0]), (107, .blk g7 61 [I64 (0 : Int)])]) (fun q53 x52 => m_ecread_Read_l2 u0 u1 u10 u2 u3 u4 u5 u6 u7 u8 u9 x01 x02 z0 z1 z2 z3 q53 x52 = some res) ((0 : Int)) ?_ (by simp [m_ecread_Read_l2]) ?_
  ·exact h
  rintro q53 x52 h _ k54
  unfold m_ecread_Read_l2 at h
  refine sr fun _ k55 => ya (lss rfl rfl) <| dz k55 <| sq fun _ k56 => cI h rfl (fun hc57 h => ?_) fun hc57 h => ?_
  ·refine ss <| k56 _ _ <| sq fun _ k58 => bl <| sr fun _ k59 => mv rfl <| ak rfl k59 <| sr fun _ k60 => mv rfl <| mv rfl <| WL.eff (by decide) (Eff.buildC 161 ([x52] : List Int) sty_32 rfl rfl rfl rfl rfl (by decide)) ?_
   rintro _ _ ⟨g61, rfl, rfl⟩
   refine WL.round 97 (by decide) rfl rfl rfl hrc27 rfl rfl fun RQ62 hN63 hR64 hX65 KA66 hKA67 => rg fun _ k68 => ak rfl k68 <| QK.thenN (hKA67 _ _ rfl ?_)
   refine bl <| sr fun _ k69 => bd h fun x70 hx70 h => ya (loadBM (k := 102) agg_46 rfl rfl rfl) <| ya (loadB (k := 103) scal_29 rfl rfl rfl) <| ya (loadB (k := 104) scal_30 rfl rfl rfl) <| mv rfl <| ya (loadBM (k := 105) agg_59 rfl rfl rfl) <| c1 174 Tryz.func39 rfl (fun w hb hh => w_ecread_candidate (Mem.snap w) u0 u1 u2 u3 u4 u5 u6 u7 u8 u9 A00_10 n00_10 c00_10 _ (sM rfl hf00_10 w hb hh) A01 n01 c01 rs01 _ (sM rfl hf01 w hb hh) (Rels.sn hq01 (hh.sat 0 _ rfl)) A02 n02 c02 _ (sM rfl hf02 w hb hh) (some ⟨g61, 0, none⟩) (([x52] : List Int).length) (([x52] : List Int).length) _ (RdH.sn (rO 161 rfl) w hb hh) z0 z1 z2 z3 hx70) fun A75 n76 c77 => mv rfl <| ya (extract rfl rfl) <| ya (extract rfl rfl) <| al 178 zr_55 fun g78 => sb 178 agg_55 rfl rfl rfl <| ak rfl k69 <| sr fun _ k79 => mv rfl <| dz k79 <| cnd h rfl id Bool.eq_false_iff.2 (fun hc80 h => ?_) fun hc80 h => ?_
   ·refine sr fun _ k81 => ya (loadBM (k := 178) agg_55 rfl rfl rfl) <| sb 106 agg_55 rfl rfl rfl <| WL.eff0 (Eff0.storeB 107 siz_61 rfl rfl rfl rfl (nle rfl)) <| dz k81 <| re <| br <| hR64 _ _ rfl <| ya (notB rfl) <| dz k60 <| cdT rfl <| re <| br <| tr <| tr <| br <| tr <| Ret.go (ResIs.zero rfl) <| After.ret 97 rfl <| (QK.blockR (QK.thenR ?_))
    refine QK.unmark 98 rfl ?_
    obtain rfl := si h
    exact rt [174] (ResIs.cellAS (k := 106) (k' := 107) rfl agg_55 scal_61 rfl rfl rfl rfl (rfl) rfl) (Ext.refl _ _) ⟨A75, n76, c77, rfl, rfl⟩
   refine WC.skip <| bn <| hN63 _ _ rfl <| ya (notB rfl) <| dz k60 <| cdF rfl <| WC.skip <| bn <| tn <| k58 _ _ <| rg fun _ k82 => bd h fun x83 hx83 h => ya (addC rfl rfl hx83) <| mv rfl <| dz k82 <| tn <| kw (k54 (x83) h)
  exact xi <| te <| te <| bx <| tn <| kw (k50 () h)
 rintro _ h
 unfold m_ecread_Read_j1 at h
 refine sr fun _ k84 => mv rfl <| dz k84 <| bl <| lp (τ := Int) (fun x85 => [(0, .func (.yield l25) #[] #[]), (17, I64 x85)]) (fun x85 => [(0, .mem M0), (97, .obj l25 (.loop (Rc .ready none rc26))), (98, .obj D24 (.deferred (some []))), (102, .blk g2 46 [I64 u0, I64 u1, I64 u2, I64 u3, U32 u4, U32 u5, U32 u6, U32 u7, U32 u8, U32 u9, .slice A00_10 n00_10 c00_10]), (103, .blk g3 29 [.slice A01 n01 c01]), (104, .blk g4 30 [.slice A02 n02 c02]), (105, .blk g5 59 [U64 z0, U32 z1, I64 z2, I64 z3]), (106, .blk g6 55 [U64 0#64, U32 0#32, .bool false, .slice none 0 0]), (107, .blk g7 61 [I64 (0 : Int)])]) (fun q86 x85 => m_ecread_Read_l3 u0 u1 u10 u2 u3 u4 u5 u6 u7 u8 u9 x01 x02 z0 z1 z2 z3 q86 x85 = some res) ((0 : Int)) ?_ (by simp [m_ecread_Read_l3]) ?_
 ·exact h
 rintro q86 x85 h _ k87
 unfold m_ecread_Read_l3 at h
 refine sr fun _ k88 => ya (lss rfl rfl) <| dz k88 <| sq fun _ k89 => cI h rfl (fun hc90 h => ?_) fun hc90 h => ?_
 ·refine ss <| k89 _ _ <| ct (σ := Unit) (fun _ => [(0, .func (.yield l25) #[] #[]), (17, I64 x85)]) (fun _ => [(0, .mem M0), (97, .obj l25 (.loop (Rc .ready none rc26))), (98, .obj D24 (.deferred (some []))), (102, .blk g2 46 [I64 u0, I64 u1, I64 u2, I64 u3, U32 u4, U32 u5, U32 u6, U32 u7, U32 u8, U32 u9, .slice A00_10 n00_10 c00_10]), (103, .blk g3 29 [.slice A01 n01 c01]), (104, .blk g4 30 [.slice A02 n02 c02]), (105, .blk g5 59 [U64 z0, U32 z1, I64 z2, I64 z3]), (106, .blk g6 55 [U64 0#64, U32 0#32, .bool false, .slice none 0 0]), (107, .blk g7 61 [I64 (0 : Int)])]) (fun _ => m_ecread_Read_j4 x85 (m_ecread_Read_l3 u0 u1 u10 u2 u3 u4 u5 u6 u7 u8 u9 x01 x02 z0 z1 z2 z3 q86) = some res) (fun _ k91 => ?_) ?_
  ·refine bl <| sr fun _ k92 => mv rfl <| ak rfl k92 <| sr fun _ k93 => bd h fun x94 hx94 h => mv rfl <| ya (addC rfl rfl hx94) <| ak rfl k93 <| bl <| lp (τ := Int) (fun x95 => [(0, .func (.yield l25) #[] #[]), (3, I64 x85), (4, I64 x95), (17, I64 x85)]) (fun x95 => [(0, .mem M0), (97, .obj l25 (.loop (Rc .ready none rc26))), (98, .obj D24 (.deferred (some []))), (102, .blk g2 46 [I64 u0, I64 u1, I64 u2, I64 u3, U32 u4, U32 u5, U32 u6, U32 u7, U32 u8, U32 u9, .slice A00_10 n00_10 c00_10]), (103, .blk g3 29 [.slice A01 n01 c01]), (104, .blk g4 30 [.slice A02 n02 c02]), (105, .blk g5 59 [U64 z0, U32 z1, I64 z2, I64 z3]), (106, .blk g6 55 [U64 0#64, U32 0#32, .bool false, .slice none 0 0]), (107, .blk g7 61 [I64 (0 : Int)])]) (fun q96 x95 => m_ecread_Read_l5 u0 u1 u10 u2 u3 u4 u5 u6 u7 u8 u9 x01 x02 z0 z1 z2 z3 x85 (m_ecread_Read_l3 u0 u1 u10 u2 u3 u4 u5 u6 u7 u8 u9 x01 x02 z0 z1 z2 z3 q86) q96 x95 = some res) (x94) ?_ (by simp [m_ecread_Read_l5]) ?_
   ·exact h
   rintro q96 x95 h _ k97
   unfold m_ecread_Read_l5 at h
   refine sq fun _ k98 => sr fun _ k99 => mv rfl <| ya (lss rfl rfl) <| dz k99 <| cI h rfl (fun hc100 h => ?_) fun hc100 h => ?_
   ·refine ss <| k98 _ _ <| sq fun _ k101 => bl <| sr fun _ k102 => mv rfl <| mv rfl <| mv rfl <| WL.eff (by decide) (Eff.buildC 203 ([x85, x95] : List Int) sty_32 rfl rfl rfl rfl rfl (by decide)) ?_
    rintro _ _ ⟨g103, rfl, rfl⟩
    refine WL.round 97 (by decide) rfl rfl rfl hrc27 rfl rfl fun RQ104 hN105 hR106 hX107 KA108 hKA109 => rg fun _ k110 => ak rfl k110 <| QK.thenN (hKA109 _ _ rfl ?_)
    refine bl <| sr fun _ k111 => bd h fun x112 hx112 h => ya (loadBM (k := 102) agg_46 rfl rfl rfl) <| ya (loadB (k := 103) scal_29 rfl rfl rfl) <| ya (loadB (k := 104) scal_30 rfl rfl rfl) <| mv rfl <| ya (loadBM (k := 105) agg_59 rfl rfl rfl) <| c1 216 Tryz.func39 rfl (fun w hb hh => w_ecread_candidate (Mem.snap w) u0 u1 u2 u3 u4 u5 u6 u7 u8 u9 A00_10 n00_10 c00_10 _ (sM rfl hf00_10 w hb hh) A01 n01 c01 rs01 _ (sM rfl hf01 w hb hh) (Rels.sn hq01 (hh.sat 0 _ rfl)) A02 n02 c02 _ (sM rfl hf02 w hb hh) (some ⟨g103, 0, none⟩) (([x85, x95] : List Int).length) (([x85, x95] : List Int).length) _ (RdH.sn (rO 203 rfl) w hb hh) z0 z1 z2 z3 hx112) fun A117 n118 c119 => mv rfl <| ya (extract rfl rfl) <| ya (extract rfl rfl) <| al 220 zr_55 fun g120 => sb 220 agg_55 rfl rfl rfl <| ak rfl k111 <| sr fun _ k121 => mv rfl <| dz k121 <| cnd h rfl id Bool.eq_false_iff.2 (fun hc122 h => ?_) fun hc122 h => ?_
    ·refine sr fun _ k123 => ya (loadBM (k := 220) agg_55 rfl rfl rfl) <| sb 106 agg_55 rfl rfl rfl <| WL.eff0 (Eff0.storeB 107 siz_61 rfl rfl rfl rfl (nle rfl)) <| dz k123 <| re <| br <| hR106 _ _ rfl <| ya (notB rfl) <| dz k102 <| cdT rfl <| re <| br <| tr <| tr <| br <| br <| tr <| tr <| br <| Ret.go (ResIs.zero rfl) <| After.ret 97 rfl <| (QK.blockR (QK.thenR ?_))
     refine QK.unmark 98 rfl ?_
     obtain rfl := si h
     exact rt [216] (ResIs.cellAS (k := 106) (k' := 107) rfl agg_55 scal_61 rfl rfl rfl rfl (rfl) rfl) (Ext.refl _ _) ⟨A117, n118, c119, rfl, rfl⟩
    refine WC.skip <| bn <| hN105 _ _ rfl <| ya (notB rfl) <| dz k102 <| cdF rfl <| WC.skip <| bn <| tn <| k101 _ _ <| rg fun _ k124 => bd h fun x125 hx125 h => mv rfl <| ya (addC rfl rfl hx125) <| ak rfl k124 <| tn <| kw (k97 (x125) h)
   exact xi <| te <| te <| bx <| bn <| tn <| kw (k91 () h)
  rintro _ h
  unfold m_ecread_Read_j4 at h
  refine rg fun _ k126 => bd h fun x127 hx127 h => ya (addC rfl rfl hx127) <| mv rfl <| dz k126 <| tn <| kw (k87 (x127) h)
 refine xi <| te <| te <| bx <| Ret.goN (ResIs.zero rfl) <| After.go 97 rfl <| bn <| tn <| k20 _ _ <| sr fun _ k128 => ya (build rfl (bu_55_)) <| sb 106 agg_55 rfl rfl rfl <| WL.eff0 (Eff0.storeB 107 siz_61 rfl rfl rfl rfl (nle rfl)) <| dz k128 <| re <| QK.unmark 98 rfl <| QK.nilOwn 229 5 (Lay.sz (BitVec 8)) none ?_
 obtain rfl := si h
 exact rt [229] (ResIs.cellAS (k := 106) (k' := 107) rfl agg_55 scal_61 rfl rfl rfl rfl (rfl) rfl) (Ext.refl _ _) ⟨none, 0, 0, rfl, rfl⟩
end Z
end Go.Proofs.YtcncappgheopgaaGreat
