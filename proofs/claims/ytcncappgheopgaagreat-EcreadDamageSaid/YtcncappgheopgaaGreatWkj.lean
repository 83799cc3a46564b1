/- A part of the proof. Conditions: as each theorem says. -/
import Derived.Test.YtcncappgheopgaaGreatWki
import Derived.Test.YtcncappgheopgaaGreatMdj
namespace Go.Proofs.YtcncappgheopgaaGreat
set_option maxRecDepth 10000
open Go Go.RowKit Yld
set_option linter.unusedVariables false
theorem und_141 : Tryz.prog.underlying 141 = some (.slice 32) := by kernel_rfl
theorem agg_28 : Agg Tryz.prog 28 11 := ⟨⟨_, Tryz.underlying28, rfl⟩, by kernel_rfl⟩
theorem agg_96 : Agg Tryz.prog 96 3 := ⟨⟨_, Tryz.underlying96, rfl⟩, by kernel_rfl⟩
theorem nm_14 : (Tryz.f14.name == "runtime.NumGoroutine") = false := by kernel_rfl
theorem nm_36 : (Tryz.f36.name == "runtime.NumGoroutine") = false := by kernel_rfl
theorem nm_41 : (Tryz.f41.name == "runtime.NumGoroutine") = false := by kernel_rfl
theorem nm_60 : (Tryz.f60.name == "runtime.NumGoroutine") = false := by kernel_rfl
theorem sty_141 : STy Tryz.prog 141 32 (.slice none 0 0) 1 24 := STy.of und_141 (by kernel_rfl) rfl
theorem zr_96 : (Tryz.prog.info? 96).map (fun i => i.zero.map (·.cells)) = some (some ([I64 (0 : Int), I64 (0 : Int), I64 (0 : Int)] : List Value).toArray) := by kernel_rfl
theorem w_r18_Exclude (M0 : Mem) (x00 : Int) {res : (List Int)} (h : m_r18_Exclude x00 = some res) :
  Fn Tryz.prog 41 #[I64 x00] M0 fun r M' es => ∃ (A1 : Option Addr) (n1 c1 : Nat), r = .slice A1 n1 c1 /\ es = [] /\ SlT M' A1 n1 c1 res := by
 refine Fn.intro (N := 45) Tryz.func41 rfl rfl (nle rfl) fun w0 => ?_
 unfold m_r18_Exclude at h
 refine sr fun _ k1 => ak rfl k1 <| sr fun _ k2 => ?_
 have hq4 : Rels ((RelB (α := Int)) M0) ([(⟨none, 0, 0⟩ : Hdr)] : List Hdr) ([([] : List Int)] : List (List Int)) := (Rels.cons SlT.nil Rels.nil)
 refine WL.eff (by decide) (Eff.buildC 103 ([(⟨none, 0, 0⟩ : Hdr)] : List Hdr) sty_141 rfl rfl rfl rfl rfl (by decide)) ?_
 rintro _ _ ⟨g3, rfl, rfl⟩
 refine ak rfl k2 <| ct (σ := Mem × (Option Addr) × Nat × Nat × (List (List Int)) × (List Hdr)) (fun ⟨M5, A6, n7, c8, x9, rs10⟩ => [(0, I64 x00), (3, .slice A6 n7 c8)]) (fun ⟨M5, A6, n7, c8, x9, rs10⟩ => [(0, .mem M5), (103, .own 32 (Lay.sz Hdr) A6 n7 c8 (cel rs10))]) (fun ⟨M5, A6, n7, c8, x9, rs10⟩ => m_r18_Exclude_j0 x00 x9 = some res /\ Ext w0.heap.size M0 M5 /\ Rels ((RelB (α := Int)) M5) rs10 x9) (fun _ k12 => ?_) ?_
 ·refine sr fun _ k13 => ak rfl k13 <| bl <| lp (τ := Mem × (Option Addr) × Nat × Nat × (List (List Int)) × (List Hdr) × Int) (fun ⟨M14, A15, n16, c17, x18, rs19, x21⟩ => [(0, I64 x00), (3, .slice A15 n16 c17), (4, I64 x21)]) (fun ⟨M14, A15, n16, c17, x18, rs19, x21⟩ => [(0, .mem M14), (103, .own 32 (Lay.sz Hdr) A15 n16 c17 (cel rs19))]) (fun q22 ⟨M14, A15, n16, c17, x18, rs19, x21⟩ => m_r18_Exclude_l1 x00 q22 x18 x21 = some res /\ Ext w0.heap.size M0 M14 /\ Rels ((RelB (α := Int)) M14) rs19 x18) ⟨M0, (some ⟨g3, 0, none⟩), ([(⟨none, 0, 0⟩ : Hdr)] : List Hdr).length, ([(⟨none, 0, 0⟩ : Hdr)] : List Hdr).length, ([([] : List Int)] : List (List Int)), ([(⟨none, 0, 0⟩ : Hdr)] : List Hdr), (0 : Int)⟩ ?_ (by simp [m_r18_Exclude_l1]) ?_
  ·exact ⟨h, (Ext.refl _ _), hq4⟩
  rintro q22 ⟨M14, A15, n16, c17, x18, rs19, x21⟩ ⟨h, hm_M14, hq20⟩ _ k23
  unfold m_r18_Exclude_l1 at h
  refine sq fun _ k24 => sr fun _ k25 => mv rfl <| ya (lss rfl rfl) <| dz k25 <| cI h rfl (fun hc26 h => ?_) fun hc26 h => ?_
  ·refine ss <| k24 _ _ <| sq fun _ k27 => bl <| rg fun _ k28 => bd h fun x34 hx34 h => mv rfl <| mv rfl <| WL.eff (by decide) (Eff.buildC 129 ([x21] : List Int) sty_32 rfl rfl rfl rfl rfl (by decide)) ?_
   rintro _ _ ⟨g29, rfl, rfl⟩
   refine WL.freeze 129 rfl rfl rfl fun M31 hm_M31 hf32 => ?_
   have hq33 : Rels ((RelB (α := Int)) M31) ([(⟨(some ⟨g29, 0, none⟩), ([x21] : List Int).length, ([x21] : List Int).length⟩ : Hdr)] : List Hdr) ([([x21] : List Int)] : List (List Int)) := (Rels.cons hf32 Rels.nil)
   refine WL.eff (by decide) (Eff.buildC 130 ([(⟨(some ⟨g29, 0, none⟩), ([x21] : List Int).length, ([x21] : List Int).length⟩ : Hdr)] : List Hdr) sty_141 rfl rfl rfl rfl rfl (by decide)) ?_
   rintro _ _ ⟨g30, rfl, rfl⟩
   obtain ⟨hu37, hq38⟩ := Rels.apd (Rels.lift hq20 hm_M31) hq33 hx34
   refine ap 103 (xs := rs19) (ys := ([(⟨(some ⟨g29, 0, none⟩), ([x21] : List Int).length, ([x21] : List Int).length⟩ : Hdr)] : List Hdr)) sty_141 rfl rfl rfl (rO 130 rfl) hu37 fun A35 c36 => ak rfl k28 <| bn <| tn <| k27 _ _ <| rg fun _ k39 => bd h fun x40 hx40 h => mv rfl <| ya (addC rfl rfl hx40) <| ak rfl k39 <| tn <| kw (k23 ⟨M31, A35, (rs19 ++ ([(⟨(some ⟨g29, 0, none⟩), ([x21] : List Int).length, ([x21] : List Int).length⟩ : Hdr)] : List Hdr)).length, c36, x34, (rs19 ++ ([(⟨(some ⟨g29, 0, none⟩), ([x21] : List Int).length, ([x21] : List Int).length⟩ : Hdr)] : List Hdr)), x40⟩ ⟨h, (Ext.trans hm_M14 hm_M31), hq38⟩)
  exact xi <| te <| te <| bx <| tn <| kw (k12 ⟨M14, A15, n16, c17, x18, rs19⟩ ⟨h, hm_M14, hq20⟩)
 rintro ⟨M5, A6, n7, c8, x9, rs10⟩ ⟨h, hm_M5, hq11⟩
 unfold m_r18_Exclude_j0 at h
 refine ct (σ := Mem × (Option Addr) × Nat × Nat × (List (List Int)) × (List Hdr)) (fun ⟨M41, A42, n43, c44, x45, rs46⟩ => [(0, I64 x00), (3, .slice A42 n43 c44)]) (fun ⟨M41, A42, n43, c44, x45, rs46⟩ => [(0, .mem M41), (103, .own 32 (Lay.sz Hdr) A42 n43 c44 (cel rs46))]) (fun ⟨M41, A42, n43, c44, x45, rs46⟩ => m_r18_Exclude_j2 x00 x45 = some res /\ Ext w0.heap.size M5 M41 /\ Rels ((RelB (α := Int)) M41) rs46 x45) (fun _ k48 => ?_) ?_
 ·refine sr fun _ k49 => ak rfl k49 <| bl <| lp (τ := Mem × (Option Addr) × Nat × Nat × (List (List Int)) × (List Hdr) × Int) (fun ⟨M50, A51, n52, c53, x54, rs55, x57⟩ => [(0, I64 x00), (3, .slice A51 n52 c53), (5, I64 x57)]) (fun ⟨M50, A51, n52, c53, x54, rs55, x57⟩ => [(0, .mem M50), (103, .own 32 (Lay.sz Hdr) A51 n52 c53 (cel rs55))]) (fun q58 ⟨M50, A51, n52, c53, x54, rs55, x57⟩ => m_r18_Exclude_l3 x00 q58 x54 x57 = some res /\ Ext w0.heap.size M5 M50 /\ Rels ((RelB (α := Int)) M50) rs55 x54) ⟨M5, A6, n7, c8, x9, rs10, (0 : Int)⟩ ?_ (by simp [m_r18_Exclude_l3]) ?_
  ·exact ⟨h, (Ext.refl _ _), hq11⟩
  rintro q58 ⟨M50, A51, n52, c53, x54, rs55, x57⟩ ⟨h, hm_M50, hq56⟩ _ k59
  unfold m_r18_Exclude_l3 at h
  refine sq fun _ k60 => sr fun _ k61 => mv rfl <| ya (lss rfl rfl) <| dz k61 <| cI h rfl (fun hc62 h => ?_) fun hc62 h => ?_
  ·refine ss <| k60 _ _ <| ct (σ := Mem × (Option Addr) × Nat × Nat × (List (List Int)) × (List Hdr)) (fun ⟨M63, A64, n65, c66, x67, rs68⟩ => [(0, I64 x00), (3, .slice A64 n65 c66), (5, I64 x57)]) (fun ⟨M63, A64, n65, c66, x67, rs68⟩ => [(0, .mem M63), (103, .own 32 (Lay.sz Hdr) A64 n65 c66 (cel rs68))]) (fun ⟨M63, A64, n65, c66, x67, rs68⟩ => m_r18_Exclude_j4 x57 (m_r18_Exclude_l3 x00 q58) x67 = some res /\ Ext w0.heap.size M50 M63 /\ Rels ((RelB (α := Int)) M63) rs68 x67) (fun _ k70 => ?_) ?_
   ·refine bl <| sr fun _ k71 => bd h fun x72 hx72 h => mv rfl <| ya (addC rfl rfl hx72) <| ak rfl k71 <| bl <| lp (τ := Mem × (Option Addr) × Nat × Nat × (List (List Int)) × (List Hdr) × Int) (fun ⟨M73, A74, n75, c76, x77, rs78, x80⟩ => [(0, I64 x00), (3, .slice A74 n75 c76), (5, I64 x57), (6, I64 x80)]) (fun ⟨M73, A74, n75, c76, x77, rs78, x80⟩ => [(0, .mem M73), (103, .own 32 (Lay.sz Hdr) A74 n75 c76 (cel rs78))]) (fun q81 ⟨M73, A74, n75, c76, x77, rs78, x80⟩ => m_r18_Exclude_l5 x57 (m_r18_Exclude_l3 x00 q58) q81 x77 x80 = some res /\ Ext w0.heap.size M50 M73 /\ Rels ((RelB (α := Int)) M73) rs78 x77) ⟨M50, A51, n52, c53, x54, rs55, x72⟩ ?_ (by simp [m_r18_Exclude_l5]) ?_
    ·exact ⟨h, (Ext.refl _ _), hq56⟩
    rintro q81 ⟨M73, A74, n75, c76, x77, rs78, x80⟩ ⟨h, hm_M73, hq79⟩ _ k82
    unfold m_r18_Exclude_l5 at h
    refine sq fun _ k83 => sr fun _ k84 => mv rfl <| ya (lss rfl rfl) <| dz k84 <| cI h rfl (fun hc85 h => ?_) fun hc85 h => ?_
    ·refine ss <| k83 _ _ <| sq fun _ k86 => bl <| rg fun _ k87 => bd h fun x93 hx93 h => mv rfl <| mv rfl <| mv rfl <| WL.eff (by decide) (Eff.buildC 188 ([x57, x80] : List Int) sty_32 rfl rfl rfl rfl rfl (by decide)) ?_
     rintro _ _ ⟨g88, rfl, rfl⟩
     refine WL.freeze 188 rfl rfl rfl fun M90 hm_M90 hf91 => ?_
     have hq92 : Rels ((RelB (α := Int)) M90) ([(⟨(some ⟨g88, 0, none⟩), ([x57, x80] : List Int).length, ([x57, x80] : List Int).length⟩ : Hdr)] : List Hdr) ([([x57, x80] : List Int)] : List (List Int)) := (Rels.cons hf91 Rels.nil)
     refine WL.eff (by decide) (Eff.buildC 189 ([(⟨(some ⟨g88, 0, none⟩), ([x57, x80] : List Int).length, ([x57, x80] : List Int).length⟩ : Hdr)] : List Hdr) sty_141 rfl rfl rfl rfl rfl (by decide)) ?_
     rintro _ _ ⟨g89, rfl, rfl⟩
     obtain ⟨hu96, hq97⟩ := Rels.apd (Rels.lift hq79 hm_M90) hq92 hx93
     refine ap 103 (xs := rs78) (ys := ([(⟨(some ⟨g88, 0, none⟩), ([x57, x80] : List Int).length, ([x57, x80] : List Int).length⟩ : Hdr)] : List Hdr)) sty_141 rfl rfl rfl (rO 189 rfl) hu96 fun A94 c95 => ak rfl k87 <| bn <| tn <| k86 _ _ <| rg fun _ k98 => bd h fun x99 hx99 h => mv rfl <| ya (addC rfl rfl hx99) <| ak rfl k98 <| tn <| kw (k82 ⟨M90, A94, (rs78 ++ ([(⟨(some ⟨g88, 0, none⟩), ([x57, x80] : List Int).length, ([x57, x80] : List Int).length⟩ : Hdr)] : List Hdr)).length, c95, x93, (rs78 ++ ([(⟨(some ⟨g88, 0, none⟩), ([x57, x80] : List Int).length, ([x57, x80] : List Int).length⟩ : Hdr)] : List Hdr)), x99⟩ ⟨h, (Ext.trans hm_M73 hm_M90), hq97⟩)
    exact xi <| te <| te <| bx <| bn <| tn <| kw (k70 ⟨M73, A74, n75, c76, x77, rs78⟩ ⟨h, hm_M73, hq79⟩)
   rintro ⟨M63, A64, n65, c66, x67, rs68⟩ ⟨h, hm_M63, hq69⟩
   unfold m_r18_Exclude_j4 at h
   refine rg fun _ k100 => bd h fun x101 hx101 h => mv rfl <| ya (addC rfl rfl hx101) <| ak rfl k100 <| tn <| kw (k59 ⟨M63, A64, n65, c66, x67, rs68, x101⟩ ⟨h, (Ext.trans hm_M50 hm_M63), hq69⟩)
  exact xi <| te <| te <| bx <| tn <| kw (k48 ⟨M50, A51, n52, c53, x54, rs55⟩ ⟨h, hm_M50, hq56⟩)
 rintro ⟨M41, A42, n43, c44, x45, rs46⟩ ⟨h, hm_M41, hq47⟩
 unfold m_r18_Exclude_j2 at h
 refine sq fun _ k102 => sr fun _ k103 => mv rfl <| ya (lss rfl rfl) <| mv rfl <| spl h decide_eq_true decide_eq_false (fun hc104 h => ?_) fun hc104 h => ?_
 ·refine sk <| sk <| sk <| sk <| pt rfl rfl <| dz k103 <| cdT rfl <| sr fun _ k105 => ak rfl k105 <| re <| tr ?_
  obtain rfl := si h
  exact rt [] (ResIs.one rfl rfl) (Ext.trans hm_M5 hm_M41) ⟨none, 0, 0, rfl, rfl, SlT.nil⟩
 refine mvg rfl <| mvg rfl <| yg (lenD (rs := rs46) (xs := x45) (Rels.len hq47) und_141 rfl (rO 103 rfl)) <| yg (geq rfl rfl) <| pf rfl rfl <| dz k103 <| cI h rfl (fun hc106 h => ?_) fun hc106 h => ?_
 ·refine sr fun _ k107 => ak rfl k107 <| re <| tr ?_
  obtain rfl := si h
  exact rt [] (ResIs.one rfl rfl) (Ext.trans hm_M5 hm_M41) ⟨none, 0, 0, rfl, rfl, SlT.nil⟩
 refine ss <| k102 _ _ <| sr fun _ k108 => bd h fun x109 hx109 h => mv rfl <| mv rfl ?_
 obtain ⟨r_110, hr111, hq112⟩ := Rels.idx hq47 hx109
 refine ya (idxC (xs := rs46) sty_141 rfl rfl (rO 103 rfl) hr111) <| ya (loadC0 (xs := rs46) scal_32 rfl (rO 103 rfl) hr111 rfl) <| ak rfl k108 <| re ?_
 obtain rfl := si h
 exact rt [] (ResIs.one rfl rfl) (Ext.trans hm_M5 hm_M41) ⟨r_110.A, r_110.n, r_110.c, rfl, rfl, hq112⟩
theorem w_r18_usable (M0 : Mem) (u0 u1 u2 u3 : Int) (u4 u5 u6 u7 u8 u9 : BitVec 32) (A00_10 : Option Addr) (n00_10 c00_10 : Nat) (u10 : List Sapi_Item) (hf00_10 : SlT M0 A00_10 n00_10 c00_10 u10) (A01 : Option Addr) (n01 c01 : Nat) (rs01 : List Hdr) (x01 : List By) (hf01 : SlT M0 A01 n01 c01 rs01) (hq01 : Rels ((RelB (α := BitVec 8)) M0) rs01 x01) (A02 : Option Addr) (n02 c02 : Nat) (x02 : List Bool) (hf02 : SlT M0 A02 n02 c02 x02) (A03 : Option Addr) (n03 c03 : Nat) (x03 : List Int) (hf03 : SlT M0 A03 n03 c03 x03) {res : (List Bool)} (h : m_r18_usable u0 u1 u2 u3 u4 u5 u6 u7 u8 u9 u10 x01 x02 x03 = some res) :
  Fn Tryz.prog 34 #[.agg ([I64 u0, I64 u1, I64 u2, I64 u3, U32 u4, U32 u5, U32 u6, U32 u7, U32 u8, U32 u9, .slice A00_10 n00_10 c00_10] : List Value).toArray, .slice A01 n01 c01, .slice A02 n02 c02, .slice A03 n03 c03] M0 fun r M' es => ∃ (A1 : Option Addr) (n1 c1 : Nat), r = .slice A1 n1 c1 /\ es = [.own 4 (Lay.sz Bool) A1 n1 c1 (cel res)] := by
 refine Fn.intro (N := 57) Tryz.func34 rfl rfl (nle rfl) fun w0 => ?_
 unfold m_r18_usable at h
 refine sr fun _ k1 => bb 102 [I64 u0, I64 u1, I64 u2, I64 u3, U32 u4, U32 u5, U32 u6, U32 u7, U32 u8, U32 u9, .slice A00_10 n00_10 c00_10] rfl fun g2 => ak rfl k1 <| sr fun _ k3 => bd h fun x5 hx5 h => WL.eff (by decide) (Eff.makeC 104 false sty_30 rfl rfl rfl rfl rfl rfl hx5) ?_
 rintro _ _ ⟨g4, rfl, rfl⟩
 refine ak rfl k3 <| ct (σ := (List Bool)) (fun x6 => [(9, .slice (some ⟨g4, 0, none⟩) x5.length x5.length)]) (fun x6 => [(0, .mem M0), (104, .own 4 (Lay.sz Bool) (some ⟨g4, 0, none⟩) x5.length x5.length (cel x6))]) (fun x6 => m_r18_usable_j0 x6 = some res) (fun _ k7 => ?_) ?_
 ·refine sr fun _ k8 => ak rfl k8 <| bl <| lp (τ := (List Bool) × Int) (fun ⟨x9, x10⟩ => [(1, .slice A01 n01 c01), (2, .slice A02 n02 c02), (3, .slice A03 n03 c03), (4, pv g2), (9, .slice (some ⟨g4, 0, none⟩) x5.length x5.length), (10, I64 x10)]) (fun ⟨x9, x10⟩ => [(0, .mem M0), (102, .blk g2 28 [I64 u0, I64 u1, I64 u2, I64 u3, U32 u4, U32 u5, U32 u6, U32 u7, U32 u8, U32 u9, .slice A00_10 n00_10 c00_10]), (104, .own 4 (Lay.sz Bool) (some ⟨g4, 0, none⟩) x5.length x5.length (cel x9))]) (fun q11 ⟨x9, x10⟩ => m_r18_usable_l1 u3 x01 x02 x03 q11 x9 x10 = some res) ⟨x5, (0 : Int)⟩ ?_ (by simp [m_r18_usable_l1]) ?_
  ·exact h
  rintro q11 ⟨x9, x10⟩ h _ k12
  unfold m_r18_usable_l1 at h
  refine sq fun _ k13 => sr fun _ k14 => mv rfl <| ya (lss rfl rfl) <| dz k14 <| cI h rfl (fun hc15 h => ?_) fun hc15 h => ?_
  ·refine ss <| k13 _ _ <| ct (σ := (List Bool)) (fun x16 => [(1, .slice A01 n01 c01), (2, .slice A02 n02 c02), (3, .slice A03 n03 c03), (4, pv g2), (9, .slice (some ⟨g4, 0, none⟩) x5.length x5.length), (10, I64 x10)]) (fun x16 => [(0, .mem M0), (102, .blk g2 28 [I64 u0, I64 u1, I64 u2, I64 u3, U32 u4, U32 u5, U32 u6, U32 u7, U32 u8, U32 u9, .slice A00_10 n00_10 c00_10]), (104, .own 4 (Lay.sz Bool) (some ⟨g4, 0, none⟩) x5.length x5.length (cel x16))]) (fun x16 => m_r18_usable_j2 x10 (m_r18_usable_l1 u3 x01 x02 x03 q11) x16 = some res) (fun _ k17 => ?_) ?_
   ·refine bl <| ctd [(0, _), (102, _)] (σ := (List Bool)) (fun x18 => [(1, .slice A01 n01 c01), (2, .slice A02 n02 c02), (3, .slice A03 n03 c03), (4, pv g2), (9, .slice (some ⟨g4, 0, none⟩) x5.length x5.length), (10, I64 x10)]) (fun x18 => [(0, .mem M0), (102, .blk g2 28 [I64 u0, I64 u1, I64 u2, I64 u3, U32 u4, U32 u5, U32 u6, U32 u7, U32 u8, U32 u9, .slice A00_10 n00_10 c00_10]), (104, .own 4 (Lay.sz Bool) (some ⟨g4, 0, none⟩) x5.length x5.length (cel x18))]) (fun x18 => m_r18_usable_j3 x03 x10 (m_r18_usable_l1 u3 x01 x02 x03 q11) x18 = some res) mixed (fun _ k19 => ?_) ?_
    ·obtain ⟨x21, hx21, h⟩ := bnd h
     by_cases hc22 : x21 = true
     ·replace h := of_t hc22 h
      obtain ⟨x23, hx23, h⟩ := bnd h
      obtain ⟨x27, hx27, h⟩ := bnd h
      obtain ⟨x29, hx29, h⟩ := bnd h
      obtain ⟨x30, hx30, h⟩ := bnd h
      refine dm 0 rfl rfl <| dm 1 rfl rfl <| dm 2 rfl rfl <| dm 3 rfl rfl <| du 4 rfl (idxC (xs := x02) sty_30 rfl rfl (mM rfl hf02) hx21) <| du 5 rfl (loadC0 (xs := x02) scal_4 rfl (mM rfl hf02) hx21 rfl) <| dm 6 rfl rfl <| WD.new (v' := .bool true) (congrArg Value.bool hc22) <| dv 7 rfl (Yld.move rfl) <| dv 8 rfl (Yld.move rfl) ?_
      obtain ⟨r_24, hr25, hq26⟩ := Rels.idx hq01 hx23
      refine dv 9 rfl (idxC (xs := rs01) sty_29 rfl rfl (mM rfl hf01) hr25) <| dv 10 rfl (loadC0 (xs := rs01) scal_35 rfl (mM rfl hf01) hr25 rfl) <| dv 11 rfl (lenC (xs := x23) und_35 rfl (mM rfl hq26)) <| dv 12 rfl (fieldAddr Tryz.underlying28 rfl nz_2 rfl rfl) <| dv 13 rfl (loadB (k := 102) scal_2 rfl rfl rfl) <| on 14 <| WS.effG rfl (by decide) rfl (Eff.callS 128 rfl Tryz.func60 nm_60 rfl rfl (fun w hb hh => w_r05_Size (Mem.snap w) u3 hx27)) ?_
      rintro _ _ ⟨_, ⟨rfl, rfl⟩, rfl⟩
      refine aq ?_
      exact dv 15 rfl (eqlI rfl rfl) <| du 16 rfl (pickT rfl rfl) <| on 17 <| dy rfl (idxC (xs := x9) sty_30 rfl rfl (rO 104 rfl) hx29) <| on 18 <| WS.eff0 rfl (Eff0.storeC1 104 (xs := x9) (a' := ((x23.length : Int) == x27)) siz_4 rfl rfl rfl rfl rfl rfl hx30) (sc (sc sn)) <| WD.done (by kernel_rfl) <| kw (k19 x30 h)
     replace h := of_f hc22 h
     obtain ⟨x31, hx31, h⟩ := bnd h
     obtain ⟨x32, hx32, h⟩ := bnd h
     exact dm 0 rfl rfl <| dm 1 rfl rfl <| dm 2 rfl rfl <| dm 3 rfl rfl <| du 4 rfl (idxC (xs := x02) sty_30 rfl rfl (mM rfl hf02) hx21) <| du 5 rfl (loadC0 (xs := x02) scal_4 rfl (mM rfl hf02) hx21 rfl) <| dm 6 rfl rfl <| WD.new (v' := .bool false) (congrArg Value.bool (Bool.eq_false_iff.2 hc22)) <| dw 7 rfl <| dw 8 rfl <| dw 9 rfl <| dw 10 rfl <| dw 11 rfl <| dw 12 rfl <| dw 13 rfl <| dw 14 rfl <| dw 15 rfl <| du 16 rfl (pickF rfl rfl) <| on 17 <| dy rfl (idxC (xs := x9) sty_30 rfl rfl (rO 104 rfl) hx31) <| on 18 <| WS.eff0 rfl (Eff0.storeC1 104 (xs := x9) (a' := false) siz_4 rfl rfl rfl rfl rfl rfl hx32) (sc (sc sn)) <| WD.done (by kernel_rfl) <| kw (k19 x32 h)
    rintro x18 h
    unfold m_r18_usable_j3 at h
    refine sr fun _ k33 => ak rfl k33 <| bl <| lp (τ := (List Bool) × Int) (fun ⟨x34, x35⟩ => [(1, .slice A01 n01 c01), (2, .slice A02 n02 c02), (3, .slice A03 n03 c03), (4, pv g2), (9, .slice (some ⟨g4, 0, none⟩) x5.length x5.length), (10, I64 x10), (11, I64 x35)]) (fun ⟨x34, x35⟩ => [(0, .mem M0), (102, .blk g2 28 [I64 u0, I64 u1, I64 u2, I64 u3, U32 u4, U32 u5, U32 u6, U32 u7, U32 u8, U32 u9, .slice A00_10 n00_10 c00_10]), (104, .own 4 (Lay.sz Bool) (some ⟨g4, 0, none⟩) x5.length x5.length (cel x34))]) (fun q36 ⟨x34, x35⟩ => m_r18_usable_l4 x03 x10 (m_r18_usable_l1 u3 x01 x02 x03 q11) q36 x34 x35 = some res) ⟨x18, (0 : Int)⟩ ?_ (by simp [m_r18_usable_l4]) ?_
    ·exact h
    rintro q36 ⟨x34, x35⟩ h _ k37
    unfold m_r18_usable_l4 at h
    refine sq fun _ k38 => sr fun _ k39 => mv rfl <| mv rfl <| ya (lenC (xs := x03) und_32 rfl (mM rfl hf03)) <| ya (lss rfl rfl) <| dz k39 <| cI h rfl (fun hc40 h => ?_) fun hc40 h => ?_
    ·refine ss <| k38 _ _ <| sq fun _ k41 => bl <| rg fun _ k42 => bd h fun x43 hx43 h => mv rfl <| mv rfl <| mv rfl <| mv rfl <| ya (idxC (xs := x34) sty_30 rfl rfl (rO 104 rfl) hx43) <| ya (loadC0 (xs := x34) scal_4 rfl (rO 104 rfl) hx43 rfl) <| mv rfl <| spl h id Bool.eq_false_iff.2 (fun hc44 h => ?_) fun hc44 h => ?_
     ·obtain ⟨x45, hx45, h⟩ := bnd h
      obtain ⟨x46, hx46, h⟩ := bnd h
      obtain ⟨x47, hx47, h⟩ := bnd h
      refine mvg rfl <| mvg rfl <| yg (idxC (xs := x03) sty_32 rfl rfl (mM rfl hf03) hx45) <| yg (loadC0 (xs := x03) scal_3 rfl (mM rfl hf03) hx45 rfl) <| mvg rfl <| yg (neqI rfl rfl) <| pt rfl rfl <| ya (idxC (xs := x34) sty_30 rfl rfl (rO 104 rfl) hx46) <| WL.eff0 (Eff0.storeC1 104 (xs := x34) (a' := (x45 != x10)) siz_4 rfl rfl rfl rfl rfl rfl hx47) <| dz k42 <| bn <| tn <| k41 _ _ <| rg fun _ k48 => bd h fun x49 hx49 h => mv rfl <| ya (addC rfl rfl hx49) <| ak rfl k48 <| tn <| kw (k37 ⟨x47, x49⟩ h)
     obtain ⟨x50, hx50, h⟩ := bnd h
     obtain ⟨x51, hx51, h⟩ := bnd h
     refine sk <| sk <| sk <| sk <| sk <| sk <| pf rfl rfl <| ya (idxC (xs := x34) sty_30 rfl rfl (rO 104 rfl) hx50) <| WL.eff0 (Eff0.storeC1 104 (xs := x34) (a' := false) siz_4 rfl rfl rfl rfl rfl rfl hx51) <| dz k42 <| bn <| tn <| k41 _ _ <| rg fun _ k52 => bd h fun x53 hx53 h => mv rfl <| ya (addC rfl rfl hx53) <| ak rfl k52 <| tn <| kw (k37 ⟨x51, x53⟩ h)
    exact xi <| te <| te <| bx <| bn <| tn <| kw (k17 x34 h)
   rintro x16 h
   unfold m_r18_usable_j2 at h
   refine rg fun _ k54 => bd h fun x55 hx55 h => mv rfl <| ya (addC rfl rfl hx55) <| ak rfl k54 <| tn <| kw (k12 ⟨x16, x55⟩ h)
  exact xi <| te <| te <| bx <| tn <| kw (k7 x9 h)
 rintro x6 h
 unfold m_r18_usable_j0 at h
 refine sr fun _ k56 => mv rfl <| ak rfl k56 <| re ?_
 obtain rfl := si h
 exact rt [104] (ResIs.one rfl rfl) (Ext.refl _ _) ⟨(some ⟨g4, 0, none⟩), x5.length, x5.length, rfl, rfl⟩
theorem w_r18_Bytes (M0 : Mem) (u0 u1 u2 u3 : Int) (u4 u5 u6 u7 u8 u9 : BitVec 32) (A00_10 : Option Addr) (n00_10 c00_10 : Nat) (u10 : List Sapi_Item) (hf00_10 : SlT M0 A00_10 n00_10 c00_10 u10) (A01 : Option Addr) (n01 c01 : Nat) (rs01 : List Hdr) (x01 : List By) (hf01 : SlT M0 A01 n01 c01 rs01) (hq01 : Rels ((RelB (α := BitVec 8)) M0) rs01 x01) (A02 : Option Addr) (n02 c02 : Nat) (x02 : List Bool) (hf02 : SlT M0 A02 n02 c02 x02) (A03 : Option Addr) (n03 c03 : Nat) (x03 : List Int) (hf03 : SlT M0 A03 n03 c03 x03) (x04 x05 : Int) {res : By × Bool} (h : m_r18_Bytes u0 u1 u2 u3 u4 u5 u6 u7 u8 u9 u10 x01 x02 x03 x04 x05 = some res) :
  Fn Tryz.prog 14 #[.agg ([I64 u0, I64 u1, I64 u2, I64 u3, U32 u4, U32 u5, U32 u6, U32 u7, U32 u8, U32 u9, .slice A00_10 n00_10 c00_10] : List Value).toArray, .slice A01 n01 c01, .slice A02 n02 c02, .slice A03 n03 c03, I64 x04, I64 x05] M0 fun r M' es => ∃ (A1 : Option Addr) (n1 c1 : Nat), r = .tuple #[.slice A1 n1 c1, .bool res.2] /\ es = [.own 5 (Lay.sz (BitVec 8)) A1 n1 c1 (cel res.1)] := by
 refine Fn.intro (N := 128) Tryz.func14 rfl rfl (nle rfl) fun w0 => ?_
 unfold m_r18_Bytes at h
 refine sr fun _ k1 => bb 102 [I64 u0, I64 u1, I64 u2, I64 u3, U32 u4, U32 u5, U32 u6, U32 u7, U32 u8, U32 u9, .slice A00_10 n00_10 c00_10] rfl fun g2 => asn rfl <| ak rfl k1 <| ct (σ := (Option Addr) × Nat × Nat × (List Int) × Int × Int) (fun ⟨A3, n4, c5, x6, x8, x9⟩ => [(1, .slice A01 n01 c01), (2, .slice A02 n02 c02), (3, .slice A3 n4 c5), (4, I64 x8), (5, I64 x9), (6, pv g2)]) (fun ⟨A3, n4, c5, x6, x8, x9⟩ => [(0, .mem M0), (102, .blk g2 28 [I64 u0, I64 u1, I64 u2, I64 u3, U32 u4, U32 u5, U32 u6, U32 u7, U32 u8, U32 u9, .slice A00_10 n00_10 c00_10])]) (fun ⟨A3, n4, c5, x6, x8, x9⟩ => m_r18_Bytes_j0 u0 u1 u10 u2 u3 u4 u5 u6 u7 u8 u9 x01 x02 x6 x8 x9 = some res /\ SlT M0 A3 n4 c5 x6) (fun _ k10 => ?_) ?_
 ·refine sr fun _ k11 => bd h fun x12 hx12 h => ya (loadBM (k := 102) agg_28 rfl rfl rfl) <| c0 Tryz.func33 rfl (fun w hb hh => w_r17_Valid (Mem.snap w) u0 u1 u2 u3 u4 u5 u6 u7 u8 u9 A00_10 n00_10 c00_10 _ (sM rfl hf00_10 w hb hh) hx12) <| ya (notB rfl) <| mv rfl <| spn h not_f (fun q => not_t (Bool.eq_false_iff.2 q)) (fun hc14 h => ?_) fun hc14 h => ?_
  ·refine mvg rfl <| yg (lenD (rs := rs01) (xs := x01) (Rels.len hq01) und_29 rfl (mM rfl hf01)) <| yg (neqI rfl rfl) <| pf rfl rfl <| mv rfl <| spn h bne_eq_false_iff_eq.2 bne_iff_ne.2 (fun hc15 h => ?_) fun hc15 h => ?_
   ·refine mvg rfl <| yg (lenC (xs := x02) und_30 rfl (mM rfl hf02)) <| yg (neqI rfl rfl) <| pf rfl rfl <| mv rfl <| spn h bne_eq_false_iff_eq.2 bne_iff_ne.2 (fun hc16 h => ?_) fun hc16 h => ?_
    ·refine mvg rfl <| yg (lss rfl rfl) <| pf rfl rfl <| mv rfl <| spl h decide_eq_true decide_eq_false (fun hc17 h => ?_) fun hc17 h => ?_
     ·refine sk <| sk <| pt rfl rfl <| mv rfl <| sk <| sk <| sk <| sk <| pt rfl rfl <| mv rfl <| sk <| sk <| sk <| sk <| sk <| sk <| pt rfl rfl <| dz k11 <| cdT rfl <| sr fun _ k18 => asn rfl <| ak rfl k18 <| re <| tr <| QK.nilOwn 119 5 (Lay.sz (BitVec 8)) none ?_
      obtain rfl := si h
      exact rt [119] (ResIs.two rfl rfl rfl) (Ext.refl _ _) ⟨none, 0, 0, rfl, rfl⟩
     refine mvg rfl <| yg (lss rfl rfl) <| pf rfl rfl <| mv rfl <| spl h decide_eq_true decide_eq_false (fun hc20 h => ?_) fun hc20 h => ?_
     ·refine sk <| sk <| sk <| sk <| pt rfl rfl <| mv rfl <| sk <| sk <| sk <| sk <| sk <| sk <| pt rfl rfl <| dz k11 <| cdT rfl <| sr fun _ k21 => asn rfl <| ak rfl k21 <| re <| tr <| QK.nilOwn 122 5 (Lay.sz (BitVec 8)) none ?_
      obtain rfl := si h
      exact rt [122] (ResIs.two rfl rfl rfl) (Ext.refl _ _) ⟨none, 0, 0, rfl, rfl⟩
     refine mvg rfl <| yg (fieldAddr Tryz.underlying28 rfl nz_2 rfl rfl) <| yg (loadB (k := 102) scal_2 rfl rfl rfl) <| yg (gtr rfl rfl) <| pf rfl rfl <| mv rfl <| spl h decide_eq_true decide_eq_false (fun hc23 h => ?_) fun hc23 h => ?_
     ·refine sk <| sk <| sk <| sk <| sk <| sk <| pt rfl rfl <| dz k11 <| cdT rfl <| sr fun _ k24 => asn rfl <| ak rfl k24 <| re <| tr <| QK.nilOwn 125 5 (Lay.sz (BitVec 8)) none ?_
      obtain rfl := si h
      exact rt [125] (ResIs.two rfl rfl rfl) (Ext.refl _ _) ⟨none, 0, 0, rfl, rfl⟩
     obtain ⟨x26, hx26, h⟩ := bnd h
     refine mvg rfl <| yg (fieldAddr Tryz.underlying28 rfl nz_2 rfl rfl) <| yg (loadB (k := 102) scal_2 rfl rfl rfl) <| mvg rfl <| yg (subC rfl rfl hx26) <| yg (gtr rfl rfl) <| pf rfl rfl <| dz k11 <| cI h rfl (fun hc27 h => ?_) fun hc27 h => ?_
     ·refine sr fun _ k28 => asn rfl <| ak rfl k28 <| re <| tr <| QK.nilOwn 129 5 (Lay.sz (BitVec 8)) none ?_
      obtain rfl := si h
      exact rt [129] (ResIs.two rfl rfl rfl) (Ext.refl _ _) ⟨none, 0, 0, rfl, rfl⟩
     exact WC.skip <| tn <| kw (k10 ⟨A03, n03, c03, x03, x04, x05⟩ ⟨h, hf03⟩)
    refine sk <| sk <| pt rfl rfl <| mv rfl <| sk <| sk <| pt rfl rfl <| mv rfl <| sk <| sk <| sk <| sk <| pt rfl rfl <| mv rfl <| sk <| sk <| sk <| sk <| sk <| sk <| pt rfl rfl <| dz k11 <| cdT rfl <| sr fun _ k30 => asn rfl <| ak rfl k30 <| re <| tr <| QK.nilOwn 131 5 (Lay.sz (BitVec 8)) none ?_
    obtain rfl := si h
    exact rt [131] (ResIs.two rfl rfl rfl) (Ext.refl _ _) ⟨none, 0, 0, rfl, rfl⟩
   refine sk <| sk <| sk <| pt rfl rfl <| mv rfl <| sk <| sk <| pt rfl rfl <| mv rfl <| sk <| sk <| pt rfl rfl <| mv rfl <| sk <| sk <| sk <| sk <| pt rfl rfl <| mv rfl <| sk <| sk <| sk <| sk <| sk <| sk <| pt rfl rfl <| dz k11 <| cdT rfl <| sr fun _ k32 => asn rfl <| ak rfl k32 <| re <| tr <| QK.nilOwn 133 5 (Lay.sz (BitVec 8)) none ?_
   obtain rfl := si h
   exact rt [133] (ResIs.two rfl rfl rfl) (Ext.refl _ _) ⟨none, 0, 0, rfl, rfl⟩
  refine sk <| sk <| sk <| pt rfl rfl <| mv rfl <| sk <| sk <| sk <| pt rfl rfl <| mv rfl <| sk <| sk <| pt rfl rfl <| mv rfl <| sk <| sk <| pt rfl rfl <| mv rfl <| sk <| sk <| sk <| sk <| pt rfl rfl <| mv rfl <| sk <| sk <| sk <| sk <| sk <| sk <| pt rfl rfl <| dz k11 <| cdT rfl <| sr fun _ k34 => asn rfl <| ak rfl k34 <| re <| tr <| QK.nilOwn 135 5 (Lay.sz (BitVec 8)) none ?_
  obtain rfl := si h
  exact rt [135] (ResIs.two rfl rfl rfl) (Ext.refl _ _) ⟨none, 0, 0, rfl, rfl⟩
 rintro ⟨A3, n4, c5, x6, x8, x9⟩ ⟨h, hf7⟩
 unfold m_r18_Bytes_j0 at h
 refine sr fun _ k36 => bd h fun x37 hx37 h => ya (loadBM (k := 102) agg_28 rfl rfl rfl) <| mv rfl <| mv rfl <| mv rfl <| c1 141 Tryz.func34 rfl (fun w hb hh => w_r18_usable (Mem.snap w) u0 u1 u2 u3 u4 u5 u6 u7 u8 u9 A00_10 n00_10 c00_10 _ (sM rfl hf00_10 w hb hh) A01 n01 c01 rs01 _ (sM rfl hf01 w hb hh) (Rels.sn hq01 (hh.sat 0 _ rfl)) A02 n02 c02 _ (sM rfl hf02 w hb hh) A3 n4 c5 _ (sM rfl hf7 w hb hh) hx37) fun A42 n43 c44 => ak rfl k36 <| sr fun _ k45 => bd h fun x46 hx46 h => mv rfl <| mv rfl <| c1 150 Tryz.func35 rfl (fun w hb hh => w_r05_Pieces (Mem.snap w) x8 x9 hx46) fun A51 n52 c53 => mv rfl <| ya (extract rfl rfl) <| ya (extract rfl rfl) <| asn rfl <| ak rfl k45 <| sr fun _ k54 => ak rfl k54 <| ct (σ := Mem × (Option Addr) × Nat × Nat × By) (fun ⟨M55, A58, n59, c60, x61⟩ => [(17, .slice A58 n59 c60)]) (fun ⟨M55, A58, n59, c60, x61⟩ => [(0, .mem M55), (157, .own 5 (Lay.sz (BitVec 8)) A58 n59 c60 (cel x61))]) (fun ⟨M55, A58, n59, c60, x61⟩ => m_r18_Bytes_j1 x61 = some res /\ Ext w0.heap.size M0 M55) (fun _ k62 => ?_) ?_
 ·refine sr fun _ k63 => ak rfl k63 <| bl <| WC.freeze 141 rfl rfl rfl fun M80 hm_M80 hf81 => WC.nilOwn 173 5 (Lay.sz (BitVec 8)) none <| lp (τ := Mem × (Option Addr) × Nat × Nat × (List Bool) × (Option Addr) × Nat × Nat × By × Int) (fun ⟨M66, A67, n68, c69, x70, A74, n75, c76, x77, x78⟩ => [(1, .slice A01 n01 c01), (14, .slice A67 n68 c69), (15, .slice A51 n52 c53), (17, .slice A74 n75 c76), (18, I64 x78)]) (fun ⟨M66, A67, n68, c69, x70, A74, n75, c76, x77, x78⟩ => [(0, .mem M66), (150, .own 96 (Lay.sz Sneedlestoreref05_Piece) A51 n52 c53 (cel x46.1)), (173, .own 5 (Lay.sz (BitVec 8)) A74 n75 c76 (cel x77))]) (fun q79 ⟨M66, A67, n68, c69, x70, A74, n75, c76, x77, x78⟩ => m_r18_Bytes_l2 x01 x46 q79 x70 x77 x78 = some res /\ Ext w0.heap.size M0 M66 /\ SlT M66 A67 n68 c69 x70) ⟨M80, A42, n43, c44, x37, none, 0, 0, ([] : By), (0 : Int)⟩ ?_ (by simp [m_r18_Bytes_l2]) ?_
  ·exact ⟨h, hm_M80, hf81⟩
  rintro q79 ⟨M66, A67, n68, c69, x70, A74, n75, c76, x77, x78⟩ ⟨h, hm_M66, hf71⟩ _ k82
  unfold m_r18_Bytes_l2 at h
  refine sq fun _ k83 => sr fun _ k84 => mv rfl <| mv rfl <| ya (lenC (xs := x46.1) und_93 rfl (rO 150 rfl)) <| ya (lss rfl rfl) <| dz k84 <| cI h rfl (fun hc85 h => ?_) fun hc85 h => ?_
  ·refine ss <| k83 _ _ <| ct (σ := Mem × (Option Addr) × Nat × Nat × By) (fun ⟨M86, A87, n88, c89, x90⟩ => [(1, .slice A01 n01 c01), (14, .slice A67 n68 c69), (15, .slice A51 n52 c53), (17, .slice A87 n88 c89), (18, I64 x78)]) (fun ⟨M86, A87, n88, c89, x90⟩ => [(0, .mem M86), (150, .own 96 (Lay.sz Sneedlestoreref05_Piece) A51 n52 c53 (cel x46.1)), (173, .own 5 (Lay.sz (BitVec 8)) A87 n88 c89 (cel x90))]) (fun ⟨M86, A87, n88, c89, x90⟩ => m_r18_Bytes_j3 x70 x78 (m_r18_Bytes_l2 x01 x46 q79) x90 = some res /\ Ext w0.heap.size M66 M86) (fun _ k91 => ?_) ?_
   ·refine bl <| sr fun _ k92 => bd h fun x93 hx93 h => mv rfl <| mv rfl <| ya (idxC (xs := x46.1) sty_93 rfl rfl (rO 150 rfl) hx93) <| ya (loadA (xs := x46.1) agg_96 rfl (rO 150 rfl) hx93 rfl) <| al 194 zr_96 fun g94 => sb 194 agg_96 rfl rfl rfl <| dz k92 <| sr fun _ k95 => ak rfl k95 <| ct (σ := (Option Addr) × Nat × Nat × (List By) × (List Hdr)) (fun ⟨A98, n99, c100, x101, rs102⟩ => [(1, .slice A01 n01 c01), (14, .slice A67 n68 c69), (15, .slice A51 n52 c53), (17, .slice A74 n75 c76), (18, I64 x78), (19, pv g94), (20, .slice A98 n99 c100)]) (fun ⟨A98, n99, c100, x101, rs102⟩ => [(0, .mem M66), (150, .own 96 (Lay.sz Sneedlestoreref05_Piece) A51 n52 c53 (cel x46.1)), (173, .own 5 (Lay.sz (BitVec 8)) A74 n75 c76 (cel x77)), (194, .blk g94 96 [I64 x93.fShard, I64 x93.fAt, I64 x93.fLen]), (197, .own 35 (Lay.sz Hdr) A98 n99 c100 (cel rs102))]) (fun ⟨A98, n99, c100, x101, rs102⟩ => m_r18_Bytes_j4 x70 x77 x78 x93 (m_r18_Bytes_l2 x01 x46 q79) x101 = some res /\ Rels ((RelB (α := BitVec 8)) M66) rs102 x101) (fun _ k104 => ?_) ?_
    ·refine sr fun _ k105 => ak rfl k105 <| bl <| WC.nilOwn 207 35 (Lay.sz Hdr) none <| lp (τ := (Option Addr) × Nat × Nat × (List By) × (List Hdr) × Int) (fun ⟨A108, n109, c110, x111, rs112, x114⟩ => [(1, .slice A01 n01 c01), (14, .slice A67 n68 c69), (15, .slice A51 n52 c53), (17, .slice A74 n75 c76), (18, I64 x78), (19, pv g94), (20, .slice A108 n109 c110), (21, I64 x114)]) (fun ⟨A108, n109, c110, x111, rs112, x114⟩ => [(0, .mem M66), (150, .own 96 (Lay.sz Sneedlestoreref05_Piece) A51 n52 c53 (cel x46.1)), (173, .own 5 (Lay.sz (BitVec 8)) A74 n75 c76 (cel x77)), (194, .blk g94 96 [I64 x93.fShard, I64 x93.fAt, I64 x93.fLen]), (207, .own 35 (Lay.sz Hdr) A108 n109 c110 (cel rs112))]) (fun q115 ⟨A108, n109, c110, x111, rs112, x114⟩ => m_r18_Bytes_l5 x01 x70 x77 x78 x93 (m_r18_Bytes_l2 x01 x46 q79) q115 x111 x114 = some res /\ Rels ((RelB (α := BitVec 8)) M66) rs112 x111) ⟨none, 0, 0, ([] : List By), ([] : List Hdr), (0 : Int)⟩ ?_ (by simp [m_r18_Bytes_l5]) ?_
     ·exact ⟨h, (Rels.nil (R := (RelB (α := BitVec 8)) M66))⟩
     rintro q115 ⟨A108, n109, c110, x111, rs112, x114⟩ ⟨h, hq113⟩ _ k116
     unfold m_r18_Bytes_l5 at h
     refine sq fun _ k117 => sr fun _ k118 => mv rfl <| ya (lss rfl rfl) <| dz k118 <| cI h rfl (fun hc119 h => ?_) fun hc119 h => ?_
     ·refine ss <| k117 _ _ <| sq fun _ k120 => bl <| sr fun _ k121 => ak rfl k121 <| sq fun _ k122 => sr fun _ k123 => bd h fun x124 hx124 h => mv rfl <| mv rfl <| ya (idxC (xs := x70) sty_30 rfl rfl (mM rfl hf71) hx124) <| ya (loadC0 (xs := x70) scal_4 rfl (mM rfl hf71) hx124 rfl) <| dz k123 <| cnd h rfl id Bool.eq_false_iff.2 (fun hc125 h => ?_) fun hc125 h => ?_
      ·refine rd [(0, _), (150, _), (173, _), (194, _), (207, _)] mixed fun _ k126 => ?_
       obtain ⟨x127, hx127, h⟩ := bnd h
       obtain ⟨x131, hx131, h⟩ := bnd h
       obtain ⟨x132, hx132, h⟩ := bnd h
       refine dm 0 rfl rfl <| dm 1 rfl rfl ?_
       obtain ⟨r_128, hr129, hq130⟩ := Rels.idx (Rels.lift hq01 hm_M66) hx127
       refine du 2 rfl (idxC (xs := rs01) sty_29 rfl rfl (mM rfl (SlRc.lift hf01 hm_M66)) hr129) <| du 3 rfl (loadC0 (xs := rs01) scal_35 rfl (mM rfl (SlRc.lift hf01 hm_M66)) hr129 rfl) <| du 4 rfl (fieldAddr Tryz.underlying96 rfl nz_2 rfl rfl) <| du 5 rfl (loadB (k := 194) scal_2 rfl rfl rfl) <| du 6 rfl (fieldAddr Tryz.underlying96 rfl nz_2 rfl rfl) <| du 7 rfl (loadB (k := 194) scal_2 rfl rfl rfl) <| du 8 rfl (fieldAddr Tryz.underlying96 rfl nz_2 rfl rfl) <| du 9 rfl (loadB (k := 194) scal_2 rfl rfl rfl) <| du 10 rfl (addC rfl rfl hx131) <| du 11 rfl (sliceLHC (xs := x127) sty_35 rfl rfl rfl (mM rfl hq130) hx132) <| du 12 rfl (Yld.assign rfl) <| dd <| k126 _ _ <| tn <| k122 _ _ <| rg fun _ k133 => bd h fun x136 hx136 h => mv rfl <| mv rfl ?_
       have hq135 : Rels ((RelB (α := BitVec 8)) M66) ([(⟨(subA r_128.A r_128.c (x93.fAt).toNat (Lay.sz (BitVec 8))), x132.length, (r_128.c - (x93.fAt).toNat)⟩ : Hdr)] : List Hdr) ([x132] : List By) := (Rels.cons (SlT.slc hq130 hx132) Rels.nil)
       refine WL.eff (by decide) (Eff.buildC 234 ([(⟨(subA r_128.A r_128.c (x93.fAt).toNat (Lay.sz (BitVec 8))), x132.length, (r_128.c - (x93.fAt).toNat)⟩ : Hdr)] : List Hdr) sty_29 rfl rfl rfl rfl rfl (by decide)) ?_
       rintro _ _ ⟨g134, rfl, rfl⟩
       obtain ⟨hu139, hq140⟩ := Rels.apd hq113 hq135 hx136
       refine ap 207 (xs := rs112) (ys := ([(⟨(subA r_128.A r_128.c (x93.fAt).toNat (Lay.sz (BitVec 8))), x132.length, (r_128.c - (x93.fAt).toNat)⟩ : Hdr)] : List Hdr)) sty_29 rfl rfl rfl (rO 234 rfl) hu139 fun A137 c138 => ak rfl k133 <| bn <| tn <| k120 _ _ <| rg fun _ k141 => bd h fun x142 hx142 h => mv rfl <| ya (addC rfl rfl hx142) <| ak rfl k141 <| tn <| kw (k116 ⟨A137, (rs112 ++ ([(⟨(subA r_128.A r_128.c (x93.fAt).toNat (Lay.sz (BitVec 8))), x132.length, (r_128.c - (x93.fAt).toNat)⟩ : Hdr)] : List Hdr)).length, c138, x136, (rs112 ++ ([(⟨(subA r_128.A r_128.c (x93.fAt).toNat (Lay.sz (BitVec 8))), x132.length, (r_128.c - (x93.fAt).toNat)⟩ : Hdr)] : List Hdr)), x142⟩ ⟨h, hq140⟩)
      refine ss <| k122 _ _ <| rg fun _ k143 => bd h fun x146 hx146 h => mv rfl <| mv rfl ?_
      have hq145 : Rels ((RelB (α := BitVec 8)) M66) ([(⟨none, 0, 0⟩ : Hdr)] : List Hdr) ([([] : By)] : List By) := (Rels.cons SlT.nil Rels.nil)
      refine WL.eff (by decide) (Eff.buildC 244 ([(⟨none, 0, 0⟩ : Hdr)] : List Hdr) sty_29 rfl rfl rfl rfl rfl (by decide)) ?_
      rintro _ _ ⟨g144, rfl, rfl⟩
      obtain ⟨hu149, hq150⟩ := Rels.apd hq113 hq145 hx146
      refine ap 207 (xs := rs112) (ys := ([(⟨none, 0, 0⟩ : Hdr)] : List Hdr)) sty_29 rfl rfl rfl (rO 244 rfl) hu149 fun A147 c148 => ak rfl k143 <| bn <| tn <| k120 _ _ <| rg fun _ k151 => bd h fun x152 hx152 h => mv rfl <| ya (addC rfl rfl hx152) <| ak rfl k151 <| tn <| kw (k116 ⟨A147, (rs112 ++ ([(⟨none, 0, 0⟩ : Hdr)] : List Hdr)).length, c148, x146, (rs112 ++ ([(⟨none, 0, 0⟩ : Hdr)] : List Hdr)), x152⟩ ⟨h, hq150⟩)
     exact xi <| te <| te <| bx <| tn <| KK.move 207 197 rfl rfl <| kw (k104 ⟨A108, n109, c110, x111, rs112⟩ ⟨h, hq113⟩)
    rintro ⟨A98, n99, c100, x101, rs102⟩ ⟨h, hq103⟩
    unfold m_r18_Bytes_j4 at h
    refine sq fun _ k153 => sr fun _ k154 => bd h fun x155 hx155 h => mv rfl <| ya (fieldAddr Tryz.underlying96 rfl nz_3 rfl rfl) <| ya (loadB (k := 194) scal_3 rfl rfl rfl) <| ya (idxC (xs := x70) sty_30 rfl rfl (mM rfl hf71) hx155) <| ya (loadC0 (xs := x70) scal_4 rfl (mM rfl hf71) hx155 rfl) <| ya (notB rfl) <| dz k154 <| cnn h rfl not_f (fun q => not_t (Bool.eq_false_iff.2 q)) (fun hc156 h => ?_) fun hc156 h => ?_
    ·refine ss <| k153 _ _ <| rg fun _ k157 => ?_
     obtain ⟨x158, hx158, h⟩ := bnd h
     obtain ⟨x162, hx162, h⟩ := bnd h
     refine mv rfl <| mv rfl <| ya (fieldAddr Tryz.underlying96 rfl nz_3 rfl rfl) <| ya (loadB (k := 194) scal_3 rfl rfl rfl) ?_
     obtain ⟨r_159, hr160, hq161⟩ := Rels.idx hq103 hx158
     exact ya (idxC (xs := rs102) sty_29 rfl rfl (rO 197 rfl) hr160) <| ya (loadC0 (xs := rs102) scal_35 rfl (rO 197 rfl) hr160 rfl) <| ap 173 (xs := x77) (ys := x158) sty_35 rfl rfl rfl (mM rfl hq161) hx162 fun A163 c164 => ak rfl k157 <| bn <| tn <| kw (k91 ⟨M66, A163, x162.length, c164, x162⟩ ⟨h, (Ext.refl _ _)⟩)
    refine sr fun _ k165 => bd h fun x166 hx166 h => mv rfl <| mv rfl <| WL.freeze 197 rfl rfl rfl fun M178 hm_M178 hf179 => WL.eff (by decide) (Eff.callM 272 rfl Tryz.func36 nm_36 rfl rfl rfl (w_r04_Restore _ A98 n99 c100 rs102 _ hf179 (Rels.lift hq103 hm_M178) A67 n68 c69 _ (SlRc.lift hf71 hm_M178) hx166)) ?_
    rintro _ _ ⟨M180, _, ⟨A181, n182, c183, rs184, rfl, rfl, hq185⟩, hm_M180, rfl⟩
    refine mv rfl <| ya (extract rfl rfl) <| ya (extract rfl rfl) <| asn rfl <| ak rfl k165 <| sq fun _ k186 => sr fun _ k187 => mv rfl <| ya (neqI rfl rfl) <| dz k187 <| cnn h rfl bne_eq_false_iff_eq.2 bne_iff_ne.2 (fun hc188 h => ?_) fun hc188 h => ?_
    ·refine ss <| k186 _ _ <| rg fun _ k189 => mv rfl <| ak rfl k189 <| tn <| k153 _ _ <| rg fun _ k190 => ?_
     obtain ⟨x191, hx191, h⟩ := bnd h
     obtain ⟨x195, hx195, h⟩ := bnd h
     refine mv rfl <| mv rfl <| ya (fieldAddr Tryz.underlying96 rfl nz_3 rfl rfl) <| ya (loadB (k := 194) scal_3 rfl rfl rfl) ?_
     obtain ⟨r_192, hr193, hq194⟩ := Rels.idx hq185 hx191
     exact ya (idxC (xs := rs184) sty_29 rfl rfl (rO 272 rfl) hr193) <| ya (loadC0 (xs := rs184) scal_35 rfl (rO 272 rfl) hr193 rfl) <| ap 173 (xs := x77) (ys := x191) sty_35 rfl rfl rfl (mM rfl hq194) hx195 fun A196 c197 => ak rfl k190 <| bn <| tn <| kw (k91 ⟨M180, A196, x195.length, c197, x195⟩ ⟨h, (Ext.trans hm_M178 hm_M180)⟩)
    refine sr fun _ k198 => asn rfl <| ak rfl k198 <| re <| tr <| tr <| br <| tr <| tr <| br <| tr <| QK.nilOwn 299 5 (Lay.sz (BitVec 8)) none ?_
    obtain rfl := si h
    exact rt [299] (ResIs.two rfl rfl rfl) (Ext.trans (Ext.trans hm_M66 hm_M178) hm_M180) ⟨none, 0, 0, rfl, rfl⟩
   rintro ⟨M86, A87, n88, c89, x90⟩ ⟨h, hm_M86⟩
   unfold m_r18_Bytes_j3 at h
   refine rg fun _ k200 => bd h fun x201 hx201 h => mv rfl <| ya (addC rfl rfl hx201) <| ak rfl k200 <| tn <| kw (k82 ⟨M86, A67, n68, c69, x70, A87, n88, c89, x90, x201⟩ ⟨h, (Ext.trans hm_M66 hm_M86), (SlRc.lift hf71 hm_M86)⟩)
  exact xi <| te <| te <| bx <| tn <| KK.move 173 157 rfl rfl <| kw (k62 ⟨M66, A74, n75, c76, x77⟩ ⟨h, hm_M66⟩)
 rintro ⟨M55, A58, n59, c60, x61⟩ ⟨h, hm_M55⟩
 unfold m_r18_Bytes_j1 at h
 refine sr fun _ k202 => mv rfl <| asn rfl <| ak rfl k202 <| re ?_
 obtain rfl := si h
 exact rt [157] (ResIs.two rfl rfl rfl) hm_M55 ⟨A58, n59, c60, rfl, rfl⟩
theorem w_r18_Candidate (M0 : Mem) (u0 u1 u2 u3 : Int) (u4 u5 u6 u7 u8 u9 : BitVec 32) (A00_10 : Option Addr) (n00_10 c00_10 : Nat) (u10 : List Sapi_Item) (hf00_10 : SlT M0 A00_10 n00_10 c00_10 u10) (A01 : Option Addr) (n01 c01 : Nat) (rs01 : List Hdr) (x01 : List By) (hf01 : SlT M0 A01 n01 c01 rs01) (hq01 : Rels ((RelB (α := BitVec 8)) M0) rs01 x01) (A02 : Option Addr) (n02 c02 : Nat) (x02 : List Bool) (hf02 : SlT M0 A02 n02 c02 x02) (x03 : Int) (x04_0 : BitVec 64) (x04_1 : BitVec 32) (x04_2 x04_3 : Int) {res : (BitVec 64) × (BitVec 32) × Bool × By × Bool} (h : m_r18_Candidate u0 u1 u2 u3 u4 u5 u6 u7 u8 u9 u10 x01 x02 x03 x04_0 x04_1 x04_2 x04_3 = some res) :
  Fn Tryz.prog 23 #[.agg ([I64 u0, I64 u1, I64 u2, I64 u3, U32 u4, U32 u5, U32 u6, U32 u7, U32 u8, U32 u9, .slice A00_10 n00_10 c00_10] : List Value).toArray, .slice A01 n01 c01, .slice A02 n02 c02, I64 x03, .agg ([U64 x04_0, U32 x04_1, I64 x04_2, I64 x04_3] : List Value).toArray] M0 fun r M' es => ∃ (A1 : Option Addr) (n1 c1 : Nat), r = .tuple #[.agg ([U64 res.1, U32 res.2.1, .bool res.2.2.1, .slice A1 n1 c1] : List Value).toArray, .bool res.2.2.2.2] /\ es = [.own 5 (Lay.sz (BitVec 8)) A1 n1 c1 (cel res.2.2.2.1)] := by
 refine Fn.intro (N := 93) Tryz.func23 rfl rfl (nle rfl) fun w0 => ?_
 unfold m_r18_Candidate at h
 refine sr fun _ k1 => bb 102 [I64 u0, I64 u1, I64 u2, I64 u3, U32 u4, U32 u5, U32 u6, U32 u7, U32 u8, U32 u9, .slice A00_10 n00_10 c00_10] rfl fun g2 => bb 103 [U64 x04_0, U32 x04_1, I64 x04_2, I64 x04_3] rfl fun g3 => al 104 zr_55 fun g4 => ak rfl k1 <| ct (σ := Unit) (fun _ => [(1, .slice A01 n01 c01), (2, .slice A02 n02 c02), (3, I64 x03), (5, pv g2), (9, pv g3), (10, pv g4)]) (fun _ => [(0, .mem M0), (102, .blk g2 28 [I64 u0, I64 u1, I64 u2, I64 u3, U32 u4, U32 u5, U32 u6, U32 u7, U32 u8, U32 u9, .slice A00_10 n00_10 c00_10]), (103, .blk g3 59 [U64 x04_0, U32 x04_1, I64 x04_2, I64 x04_3]), (104, .blk g4 55 [U64 0#64, U32 0#32, .bool false, .slice none 0 0])]) (fun _ => m_r18_Candidate_j0 u0 u1 u10 u2 u3 u4 u5 u6 u7 u8 u9 x01 x02 x03 x04_0 x04_1 x04_2 x04_3 = some res) (fun _ k5 => ?_) ?_
 ·refine sr fun _ k6 => mv rfl <| ya (lss rfl rfl) <| mv rfl <| spl h decide_eq_true decide_eq_false (fun hc7 h => ?_) fun hc7 h => ?_
  ·refine sk <| sk <| pt rfl rfl <| mv rfl <| sk <| sk <| sk <| pt rfl rfl <| mv rfl <| sk <| sk <| sk <| pt rfl rfl <| dz k6 <| cdT rfl <| sr fun _ k8 => ya (build rfl (bu_55_)) <| sb 104 agg_55 rfl rfl rfl <| ak rfl k8 <| re <| tr <| QK.nilOwn 109 5 (Lay.sz (BitVec 8)) none ?_
   obtain rfl := si h
   exact rt [109] (ResIs.cellTmpM (k := 104) rfl agg_55 rfl rfl rfl rfl) (Ext.refl _ _) ⟨none, 0, 0, rfl, rfl⟩
  refine mvg rfl <| yg (geq rfl rfl) <| pf rfl rfl <| mv rfl <| spl h decide_eq_true decide_eq_false (fun hc10 h => ?_) fun hc10 h => ?_
  ·refine sk <| sk <| sk <| pt rfl rfl <| mv rfl <| sk <| sk <| sk <| pt rfl rfl <| dz k6 <| cdT rfl <| sr fun _ k11 => ya (build rfl (bu_55_)) <| sb 104 agg_55 rfl rfl rfl <| ak rfl k11 <| re <| tr <| QK.nilOwn 112 5 (Lay.sz (BitVec 8)) none ?_
   obtain rfl := si h
   exact rt [112] (ResIs.cellTmpM (k := 104) rfl agg_55 rfl rfl rfl rfl) (Ext.refl _ _) ⟨none, 0, 0, rfl, rfl⟩
  refine yg (fieldAddr Tryz.underlying59 rfl nz_3 rfl rfl) <| yg (loadB (k := 103) scal_3 rfl rfl rfl) <| yg (lss rfl rfl) <| pf rfl rfl <| mv rfl <| spl h decide_eq_true decide_eq_false (fun hc13 h => ?_) fun hc13 h => ?_
  ·refine sk <| sk <| sk <| pt rfl rfl <| dz k6 <| cdT rfl <| sr fun _ k14 => ya (build rfl (bu_55_)) <| sb 104 agg_55 rfl rfl rfl <| ak rfl k14 <| re <| tr <| QK.nilOwn 115 5 (Lay.sz (BitVec 8)) none ?_
   obtain rfl := si h
   exact rt [115] (ResIs.cellTmpM (k := 104) rfl agg_55 rfl rfl rfl rfl) (Ext.refl _ _) ⟨none, 0, 0, rfl, rfl⟩
  refine yg (fieldAddr Tryz.underlying59 rfl nz_3 rfl rfl) <| yg (loadB (k := 103) scal_3 rfl rfl rfl) <| yg (gtr rfl rfl) <| pf rfl rfl <| dz k6 <| cI h rfl (fun hc16 h => ?_) fun hc16 h => ?_
  ·refine sr fun _ k17 => ya (build rfl (bu_55_)) <| sb 104 agg_55 rfl rfl rfl <| ak rfl k17 <| re <| tr <| QK.nilOwn 118 5 (Lay.sz (BitVec 8)) none ?_
   obtain rfl := si h
   exact rt [118] (ResIs.cellTmpM (k := 104) rfl agg_55 rfl rfl rfl rfl) (Ext.refl _ _) ⟨none, 0, 0, rfl, rfl⟩
  exact WC.skip <| tn <| kw (k5 () h)
 rintro _ h
 unfold m_r18_Candidate_j0 at h
 refine sd [(102, _), (103, _), (104, _)] mixed fun _ k19 => ?_
 obtain ⟨x20, hx20, h⟩ := bnd h
 obtain ⟨x35, hx35, h⟩ := bnd h
 obtain ⟨x37, hx37, h⟩ := bnd h
 refine du 0 rfl (loadBM (k := 102) agg_28 rfl rfl rfl) <| dm 1 rfl rfl <| dm 2 rfl rfl <| dm 3 rfl rfl <| du 5 rfl (fieldAddr Tryz.underlying59 rfl nz_2 rfl rfl) <| du 6 rfl (loadB (k := 103) scal_2 rfl rfl rfl) <| du 7 rfl (fieldAddr Tryz.underlying59 rfl nz_3 rfl rfl) <| du 8 rfl (loadB (k := 103) scal_3 rfl rfl rfl) <| on 4 <| WS.eff rfl (by decide) (Eff.callM 125 rfl Tryz.func41 nm_41 rfl rfl rfl (w_r18_Exclude _ x03 hx20)) ?_
 rintro _ _ ⟨M30, _, ⟨A31, n32, c33, rfl, rfl, hf34⟩, hm_M30, rfl⟩
 refine aq ?_
 refine on 9 <| d0 rfl Tryz.func42 rfl (fun w hb hh => w_r06_Size (Mem.snap w) x04_3 hx35) <| on 10 <| WS.eff rfl (by decide) (Eff.callS 141 rfl Tryz.func14 nm_14 rfl rfl (fun w hb hh => w_r18_Bytes (Mem.snap w) u0 u1 u2 u3 u4 u5 u6 u7 u8 u9 A00_10 n00_10 c00_10 _ (RdH.sn (mM rfl (SlRc.lift hf00_10 hm_M30)) w hb hh) A01 n01 c01 rs01 _ (RdH.sn (mM rfl (SlRc.lift hf01 hm_M30)) w hb hh) (Rels.sn (Rels.lift hq01 hm_M30) (hh.sat 0 _ rfl)) A02 n02 c02 _ (RdH.sn (mM rfl (SlRc.lift hf02 hm_M30)) w hb hh) A31 n32 c33 _ (sM rfl hf34 w hb hh) x04_2 x35 hx37)) ?_
 rintro _ _ ⟨_, ⟨A42, n43, c44, rfl, rfl⟩, rfl⟩
 refine aq ?_
 refine dm 11 rfl rfl <| du 12 rfl (extract rfl rfl) <| du 13 rfl (extract rfl rfl) <| du 14 rfl (Yld.assign rfl) <| du 15 rfl (Yld.assign rfl) <| dd <| k19 _ _ <| sq fun _ k45 => sr fun _ k46 => mv rfl <| ya (notB rfl) <| dz k46 <| cnn h rfl not_f (fun q => not_t (Bool.eq_false_iff.2 q)) (fun hc47 h => ?_) fun hc47 h => ?_
 ·refine ss <| k45 _ _ <| sr fun _ k48 => bd h fun x49 hx49 h => mv rfl <| c1 153 Tryz.func43 rfl (fun w hb hh => w_r06_Decode (Mem.snap w) A42 n43 c44 _ (RdH.sn (rO 141 rfl) w hb hh) hx49) fun A54 n55 c56 => mv rfl <| ya (extract rfl rfl) <| ya (extract rfl rfl) <| ya (extract rfl rfl) <| al 157 zr_55 fun g57 => sb 157 agg_55 rfl rfl rfl <| asn rfl <| ak rfl k48 <| sq fun _ k58 => sr fun _ k59 => mv rfl <| ya (neqI rfl rfl) <| mv rfl <| spn h bne_eq_false_iff_eq.2 bne_iff_ne.2 (fun hc60 h => ?_) fun hc60 h => ?_
  ·refine mvg rfl <| mvg rfl <| yg (lenC (xs := x37.1) und_35 rfl (rO 141 rfl)) <| yg (neqI rfl rfl) <| pf rfl rfl <| mv rfl <| spn h bne_eq_false_iff_eq.2 bne_iff_ne.2 (fun hc61 h => ?_) fun hc61 h => ?_
   ·refine yg (fieldAddr Tryz.underlying55 rfl nz_4 rfl rfl) <| yg (loadB (k := 157) scal_4 rfl rfl rfl) <| pf rfl rfl <| mv rfl <| spl h id Bool.eq_false_iff.2 (fun hc62 h => ?_) fun hc62 h => ?_
    ·refine sk <| sk <| sk <| sk <| sk <| pt rfl rfl <| mv rfl <| sk <| sk <| sk <| sk <| sk <| pt rfl rfl <| mv rfl <| sk <| sk <| sk <| sk <| sk <| sk <| pt rfl rfl <| dz k59 <| cdT rfl <| sr fun _ k63 => ya (build rfl (bu_55_)) <| sb 104 agg_55 rfl rfl rfl <| ak rfl k63 <| re <| tr <| QK.nilOwn 164 5 (Lay.sz (BitVec 8)) none ?_
     obtain rfl := si h
     exact rt [164] (ResIs.cellTmpM (k := 104) rfl agg_55 rfl rfl rfl rfl) hm_M30 ⟨none, 0, 0, rfl, rfl⟩
    refine yg (fieldAddr Tryz.underlying55 rfl nz_53 rfl rfl) <| yg (loadB (k := 157) scal_53 rfl rfl rfl) <| yg (fieldAddr Tryz.underlying59 rfl nz_53 rfl rfl) <| yg (loadB (k := 103) scal_53 rfl rfl rfl) <| yg (neq_u64 (a := x49.1) (b := x04_0) rfl rfl) <| pf rfl rfl <| mv rfl <| spn h bne_eq_false_iff_eq.2 bne_iff_ne.2 (fun hc65 h => ?_) fun hc65 h => ?_
    ·refine yg (fieldAddr Tryz.underlying55 rfl nz_24 rfl rfl) <| yg (loadB (k := 157) scal_24 rfl rfl rfl) <| yg (fieldAddr Tryz.underlying59 rfl nz_24 rfl rfl) <| yg (loadB (k := 103) scal_24 rfl rfl rfl) <| yg (neq_u32 (a := x49.2.1) (b := x04_1) rfl rfl) <| pf rfl rfl <| mv rfl <| spn h bne_eq_false_iff_eq.2 bne_iff_ne.2 (fun hc66 h => ?_) fun hc66 h => ?_
     ·refine yg (fieldAddr Tryz.underlying55 rfl nz_35 rfl rfl) <| yg (loadB (k := 157) scal_35 rfl rfl rfl) <| yg (lenC (xs := x49.2.2.2.1) und_35 rfl (rO 153 rfl)) <| yg (fieldAddr Tryz.underlying59 rfl nz_3 rfl rfl) <| yg (loadB (k := 103) scal_3 rfl rfl rfl) <| yg (neqI rfl rfl) <| pf rfl rfl <| dz k59 <| cnn h rfl bne_eq_false_iff_eq.2 bne_iff_ne.2 (fun hc67 h => ?_) fun hc67 h => ?_
      ·refine ss <| k58 _ _ <| sr fun _ k68 => ya (loadBM (k := 157) agg_55 rfl rfl rfl) <| sb 104 agg_55 rfl rfl rfl <| ak rfl k68 <| re ?_
       obtain rfl := si h
       exact rt [153] (ResIs.cellTmpM (k := 104) rfl agg_55 rfl rfl rfl rfl) hm_M30 ⟨A54, n55, c56, rfl, rfl⟩
      refine sr fun _ k69 => ya (build rfl (bu_55_)) <| sb 104 agg_55 rfl rfl rfl <| ak rfl k69 <| re <| tr <| QK.nilOwn 170 5 (Lay.sz (BitVec 8)) none ?_
      obtain rfl := si h
      exact rt [170] (ResIs.cellTmpM (k := 104) rfl agg_55 rfl rfl rfl rfl) hm_M30 ⟨none, 0, 0, rfl, rfl⟩
     refine sk <| sk <| sk <| sk <| sk <| sk <| pt rfl rfl <| dz k59 <| cdT rfl <| sr fun _ k71 => ya (build rfl (bu_55_)) <| sb 104 agg_55 rfl rfl rfl <| ak rfl k71 <| re <| tr <| QK.nilOwn 172 5 (Lay.sz (BitVec 8)) none ?_
     obtain rfl := si h
     exact rt [172] (ResIs.cellTmpM (k := 104) rfl agg_55 rfl rfl rfl rfl) hm_M30 ⟨none, 0, 0, rfl, rfl⟩
    refine sk <| sk <| sk <| sk <| sk <| pt rfl rfl <| mv rfl <| sk <| sk <| sk <| sk <| sk <| sk <| pt rfl rfl <| dz k59 <| cdT rfl <| sr fun _ k73 => ya (build rfl (bu_55_)) <| sb 104 agg_55 rfl rfl rfl <| ak rfl k73 <| re <| tr <| QK.nilOwn 174 5 (Lay.sz (BitVec 8)) none ?_
    obtain rfl := si h
    exact rt [174] (ResIs.cellTmpM (k := 104) rfl agg_55 rfl rfl rfl rfl) hm_M30 ⟨none, 0, 0, rfl, rfl⟩
   refine sk <| sk <| pt rfl rfl <| mv rfl <| sk <| sk <| sk <| sk <| sk <| pt rfl rfl <| mv rfl <| sk <| sk <| sk <| sk <| sk <| pt rfl rfl <| mv rfl <| sk <| sk <| sk <| sk <| sk <| sk <| pt rfl rfl <| dz k59 <| cdT rfl <| sr fun _ k75 => ya (build rfl (bu_55_)) <| sb 104 agg_55 rfl rfl rfl <| ak rfl k75 <| re <| tr <| QK.nilOwn 176 5 (Lay.sz (BitVec 8)) none ?_
   obtain rfl := si h
   exact rt [176] (ResIs.cellTmpM (k := 104) rfl agg_55 rfl rfl rfl rfl) hm_M30 ⟨none, 0, 0, rfl, rfl⟩
  refine sk <| sk <| sk <| sk <| pt rfl rfl <| mv rfl <| sk <| sk <| pt rfl rfl <| mv rfl <| sk <| sk <| sk <| sk <| sk <| pt rfl rfl <| mv rfl <| sk <| sk <| sk <| sk <| sk <| pt rfl rfl <| mv rfl <| sk <| sk <| sk <| sk <| sk <| sk <| pt rfl rfl <| dz k59 <| cdT rfl <| sr fun _ k77 => ya (build rfl (bu_55_)) <| sb 104 agg_55 rfl rfl rfl <| ak rfl k77 <| re <| tr <| QK.nilOwn 178 5 (Lay.sz (BitVec 8)) none ?_
  obtain rfl := si h
  exact rt [178] (ResIs.cellTmpM (k := 104) rfl agg_55 rfl rfl rfl rfl) hm_M30 ⟨none, 0, 0, rfl, rfl⟩
 refine sr fun _ k79 => ya (build rfl (bu_55_)) <| sb 104 agg_55 rfl rfl rfl <| ak rfl k79 <| re <| tr <| QK.nilOwn 180 5 (Lay.sz (BitVec 8)) none ?_
 obtain rfl := si h
 exact rt [180] (ResIs.cellTmpM (k := 104) rfl agg_55 rfl rfl rfl rfl) hm_M30 ⟨none, 0, 0, rfl, rfl⟩
end Go.Proofs.YtcncappgheopgaaGreat
