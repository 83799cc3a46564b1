/- A part of the proof. Conditions: as each theorem says. -/
import Derived.Test.YtcncappgheopgaaGreatWkg
import Derived.Test.YtcncappgheopgaaGreatMdh
namespace Go.Proofs.YtcncappgheopgaaGreat
set_option maxRecDepth 10000
open Go Go.RowKit Yld
set_option linter.unusedVariables false
theorem und_36 : Tryz.prog.underlying 36 = some (.slice 57) := by kernel_rfl
theorem und_67 : Tryz.prog.underlying 67 = some (.slice 72) := by kernel_rfl
theorem und_93 : Tryz.prog.underlying 93 = some (.slice 96) := by kernel_rfl
theorem agg_72 : Agg Tryz.prog 72 3 := ⟨⟨_, Tryz.underlying72, rfl⟩, by kernel_rfl⟩
theorem bu_57_0_1 : ∀ (a0 : Int) (a1_0 : BitVec 64) (a1_1 : BitVec 32) (a1_2 : Bool) (a1_3 : Option Addr) (n1_3 c1_3 : Nat), Tryz.prog.built 57 [(0, I64 a0), (1, .agg ([U64 a1_0, U32 a1_1, .bool a1_2, .slice a1_3 n1_3 c1_3] : List Value).toArray)] = some ([I64 a0, U64 a1_0, U32 a1_1, .bool a1_2, .slice a1_3 n1_3 c1_3] : List Value).toArray := fun a0 a1_0 a1_1 a1_2 a1_3 n1_3 c1_3 => by kernel_rfl
theorem bu_59_0_1_2_3 : ∀ (a0 : BitVec 64) (a1 : BitVec 32) (a2 : Int) (a3 : Int), Tryz.prog.built 59 [(0, U64 a0), (1, U32 a1), (2, I64 a2), (3, I64 a3)] = some ([U64 a0, U32 a1, I64 a2, I64 a3] : List Value).toArray := fun a0 a1 a2 a3 => by kernel_rfl
theorem bu_72_0_1_2 : ∀ (a0 : Int) (a1 : Int) (a2 : Int), Tryz.prog.built 72 [(0, I64 a0), (1, I64 a1), (2, I64 a2)] = some ([I64 a0, I64 a1, I64 a2] : List Value).toArray := fun a0 a1 a2 => by kernel_rfl
theorem bu_96_0_1_2 : ∀ (a0 : Int) (a1 : Int) (a2 : Int), Tryz.prog.built 96 [(0, I64 a0), (1, I64 a1), (2, I64 a2)] = some ([I64 a0, I64 a1, I64 a2] : List Value).toArray := fun a0 a1 a2 => by kernel_rfl
theorem nm_40 : (Tryz.f40.name == "runtime.NumGoroutine") = false := by kernel_rfl
theorem nm_49 : (Tryz.f49.name == "runtime.NumGoroutine") = false := by kernel_rfl
theorem nm_54 : (Tryz.f54.name == "runtime.NumGoroutine") = false := by kernel_rfl
theorem nm_70 : (Tryz.f70.name == "runtime.NumGoroutine") = false := by kernel_rfl
theorem nm_79 : (Tryz.f79.name == "runtime.NumGoroutine") = false := by kernel_rfl
theorem nz_23 : (Tryz.prog.info? 23).map (fun i => decide (i.size = 0)) = some false := by kernel_rfl
theorem nz_26 : (Tryz.prog.info? 26).map (fun i => decide (i.size = 0)) = some false := by kernel_rfl
theorem nz_55 : (Tryz.prog.info? 55).map (fun i => decide (i.size = 0)) = some false := by kernel_rfl
theorem scal_26 : scal Tryz.prog 26 = true := by kernel_rfl
theorem scal_67 : scal Tryz.prog 67 = true := by kernel_rfl
theorem siz_2 : (Tryz.prog.info? 2).map (·.size) = some 1 := by kernel_rfl
theorem siz_67 : (Tryz.prog.info? 67).map (·.size) = some 1 := by kernel_rfl
theorem sty_36 : STy Tryz.prog 36 57 (.agg #[(I64 0), (U64 0#64), (U32 0#32), (.bool false), (.slice none 0 0)]) 5 48 := STy.of und_36 (by kernel_rfl) rfl
theorem sty_67 : STy Tryz.prog 67 72 (.agg #[(I64 0), (I64 0), (I64 0)]) 3 24 := STy.of und_67 (by kernel_rfl) rfl
theorem sty_93 : STy Tryz.prog 93 96 (.agg #[(I64 0), (I64 0), (I64 0)]) 3 24 := STy.of und_93 (by kernel_rfl) rfl
theorem zr_67 : (Tryz.prog.info? 67).map (fun i => i.zero.map (·.cells)) = some (some ([.slice none 0 0] : List Value).toArray) := by kernel_rfl
theorem zr_72 : (Tryz.prog.info? 72).map (fun i => i.zero.map (·.cells)) = some (some ([I64 (0 : Int), I64 (0 : Int), I64 (0 : Int)] : List Value).toArray) := by kernel_rfl
instance : Lay Sstripe_Piece := ⟨3, fun a => [I64 a.fShard, I64 a.fAt, I64 a.fLen], fun _ => rfl, fun _ u h => by simp only [List.mem_cons, List.not_mem_nil, or_false] at h; rcases h with rfl | rfl | rfl <;> rfl, by decide⟩
instance : Lay Sneedlestoreref05_Piece := ⟨3, fun a => [I64 a.fShard, I64 a.fAt, I64 a.fLen], fun _ => rfl, fun _ u h => by simp only [List.mem_cons, List.not_mem_nil, or_false] at h; rcases h with rfl | rfl | rfl <;> rfl, by decide⟩
structure Rneedlestoreref09_Record where
 x : Sneedlestoreref09_Record
 h0 : Hdr
instance : Lay Rneedlestoreref09_Record := ⟨5, fun r => [I64 r.x.fOff, U64 r.x.fNeedle.fKey, U32 r.x.fNeedle.fCookie, .bool r.x.fNeedle.fDeleted, .slice r.h0.A r.h0.n r.h0.c], fun _ => rfl, fun _ u h => by simp only [List.mem_cons, List.not_mem_nil, or_false] at h; rcases h with rfl | rfl | rfl | rfl | rfl <;> rfl, by decide⟩
def rel_needlestoreref09_Record (M : Mem) (r : Rneedlestoreref09_Record) (x : Sneedlestoreref09_Record) : Prop := x = r.x /\ (RelB (α := BitVec 8)) M r.h0 x.fNeedle.fData
instance : Mono rel_needlestoreref09_Record := ⟨fun ⟨h0, h1⟩ hm => ⟨h0, Mono.mono h1 hm⟩⟩
theorem w_stripe_Size (M0 : Mem) (x00 : Int) {res : Int} (h : m_stripe_Size x00 = some res) :
  Fn Tryz.prog 57 #[I64 x00] M0 fun r M' es => r = I64 res /\ es = [] := by
 refine Fn.intro (N := 10) Tryz.func57 rfl rfl (nle rfl) fun w0 => ?_
 unfold m_stripe_Size at h
 refine sr fun _ k1 => ak rfl k1 <| sq fun _ k2 => sr fun _ k3 => mv rfl <| ya (leq rfl rfl) <| dz k3 <| cI h rfl (fun hc4 h => ?_) fun hc4 h => ?_
 ·refine sr fun _ k5 => ak rfl k5 <| re <| tr ?_
  obtain rfl := si h
  exact rt0 (ResIs.one rfl rfl)
 refine ss <| k2 _ _ <| sr fun _ k6 => ?_
 obtain ⟨x7, hx7, h⟩ := bnd h
 obtain ⟨x8, hx8, h⟩ := bnd h
 obtain ⟨x9, hx9, h⟩ := bnd h
 obtain ⟨x10, hx10, h⟩ := bnd h
 refine mv rfl <| ya (subC rfl rfl hx7) <| ya (quoC rfl rfl hx8) <| ya (addC rfl rfl hx9) <| ya (mulC rfl rfl hx10) <| ak rfl k6 <| re ?_
 obtain rfl := si h
 exact rt0 (ResIs.one rfl rfl)
theorem w_stripe_place (M0 : Mem) (x00 : Int) {res : Int × Int} (h : m_stripe_place x00 = some res) :
  Fn Tryz.prog 71 #[I64 x00] M0 fun r M' es => r = .tuple #[I64 res.1, I64 res.2] /\ es = [] := by
 refine Fn.intro (N := 15) Tryz.func71 rfl rfl (nle rfl) fun w0 => ?_
 unfold m_stripe_place at h
 refine sr fun _ k1 => asn rfl <| ak rfl k1 <| sr fun _ k2 => bd h fun x3 hx3 h => mv rfl <| ya (quoC rfl rfl hx3) <| ak rfl k2 <| sr fun _ k4 => ?_
 obtain ⟨x5, hx5, h⟩ := bnd h
 obtain ⟨x6, hx6, h⟩ := bnd h
 obtain ⟨x7, hx7, h⟩ := bnd h
 obtain ⟨x8, hx8, h⟩ := bnd h
 obtain ⟨x9, hx9, h⟩ := bnd h
 refine mv rfl <| ya (remC rfl rfl hx5) <| mv rfl <| ya (quoC rfl rfl hx6) <| ya (mulC rfl rfl hx7) <| mv rfl <| ya (remC rfl rfl hx8) <| ya (addC rfl rfl hx9) <| asn rfl <| ak rfl k4 <| re ?_
 obtain rfl := si h
 exact rt0 (ResIs.two rfl rfl rfl)
namespace Z
theorem _root_.Go.Proofs.YtcncappgheopgaaGreat.w_stripe_Pieces (M0 : Mem) (x00 x01 : Int) {res : (List Sstripe_Piece) × Int} (h : m_stripe_Pieces x00 x01 = some res) :
  Fn Tryz.prog 20 #[I64 x00, I64 x01] M0 fun r M' es => ∃ (A1 : Option Addr) (n1 c1 : Nat), r = .tuple #[.slice A1 n1 c1, I64 res.2] /\ es = [.own 72 (Lay.sz Sstripe_Piece) A1 n1 c1 (cel res.1)] := by
 refine Fn.intro (N := 33) Tryz.func20 rfl rfl (nle rfl) fun w0 => ?_
 unfold m_stripe_Pieces at h
 refine sr fun _ k1 => asn rfl <| ak rfl k1 <| sq fun _ k2 => sr fun _ k3 => mv rfl <| ya (lss rfl rfl) <| mv rfl <| spl h decide_eq_true decide_eq_false (fun hc4 h => ?_) fun hc4 h => ?_
 ·refine sk <| sk <| pt rfl rfl <| mv rfl <| sk <| sk <| pt rfl rfl <| mv rfl <| sk <| sk <| pt rfl rfl <| dz k3 <| cdT rfl <| sr fun _ k5 => asn rfl <| ak rfl k5 <| re <| tr <| QK.nilOwn 106 72 (Lay.sz Sstripe_Piece) none ?_
  obtain rfl := si h
  exact rt [106] (ResIs.two rfl rfl rfl) (Ext.refl _ _) ⟨none, 0, 0, rfl, rfl⟩
 refine mvg rfl <| yg (lss rfl rfl) <| pf rfl rfl <| mv rfl <| spl h decide_eq_true decide_eq_false (fun hc7 h => ?_) fun hc7 h => ?_
 ·refine sk <| sk <| pt rfl rfl <| mv rfl <| sk <| sk <| pt rfl rfl <| dz k3 <| cdT rfl <| sr fun _ k8 => asn rfl <| ak rfl k8 <| re <| tr <| QK.nilOwn 109 72 (Lay.sz Sstripe_Piece) none ?_
  obtain rfl := si h
  exact rt [109] (ResIs.two rfl rfl rfl) (Ext.refl _ _) ⟨none, 0, 0, rfl, rfl⟩
 refine mvg rfl <| yg (gtr rfl rfl) <| pf rfl rfl <| mv rfl <| spl h decide_eq_true decide_eq_false (fun hc10 h => ?_) fun hc10 h => ?_
 ·refine sk <| sk <| pt rfl rfl <| dz k3 <| cdT rfl <| sr fun _ k11 => asn rfl <| ak rfl k11 <| re <| tr <| QK.nilOwn 112 72 (Lay.sz Sstripe_Piece) none ?_
  obtain rfl := si h
  exact rt [112] (ResIs.two rfl rfl rfl) (Ext.refl _ _) ⟨none, 0, 0, rfl, rfl⟩
 refine mvg rfl <| yg (gtr rfl rfl) <| pf rfl rfl <| dz k3 <| cI h rfl (fun hc13 h => ?_) fun hc13 h => ?_
 ·refine sr fun _ k14 => asn rfl <| ak rfl k14 <| re <| tr <| QK.nilOwn 115 72 (Lay.sz Sstripe_Piece) none ?_
  obtain rfl := si h
  exact rt [115] (ResIs.two rfl rfl rfl) (Ext.refl _ _) ⟨none, 0, 0, rfl, rfl⟩
 refine ss <| k2 _ _ <| sr fun _ k16 => al 117 zr_67 fun g17 => dz k16 <| sq fun _ k18 => sr fun _ k19 => mv rfl <| mv rfl <| WL.inl (by decide) Tryz.func40 nm_40 rfl rfl (Tri.intro (N := 6) Tryz.func40 rfl rfl (nle rfl) ?_)
 refine sr fun _ k20 => bb 121 [I64 x00] rfl fun g21 => bb 122 [I64 x01] rfl fun g22 => ak rfl k20 <| sr fun _ k23 => ya (makeFunc rfl rfl) <| ak rfl k23 <| re <| Ret.go (ResIs.one rfl rfl) <| dz k19 <| bl <| WC.rangeFunc 98 97 rfl Tryz.func70 nm_70 rfl rfl rfl rfl fun D24 l25 rc26 hrc27 => Tri.intro (N := 37) Tryz.func70 rfl rfl (nle rfl) <| sr fun _ k28 => bd h fun x29 hx29 h => ya (loadB (k := 121) scal_2 rfl rfl rfl) <| ya (loadB (k := 122) scal_2 rfl rfl rfl) <| ya (addC rfl rfl hx29) <| ak rfl k28 <| bl <| WC.nilOwn 131 72 (Lay.sz Sstripe_Piece) none <| lp (τ := (Option Addr) × Nat × Nat × (List Sstripe_Piece) × Int) (fun ⟨A32, n33, c34, x35, x36⟩ => [(0, .func (.yield l25) #[] #[]), (1, pv g21), (4, I64 x29)]) (fun ⟨A32, n33, c34, x35, x36⟩ => [(0, .mem M0), (97, .obj l25 (.loop (Rc .ready none rc26))), (98, .obj D24 (.deferred (some []))), (117, .blk g17 67 [.slice A32 n33 c34]), (121, .blk g21 2 [I64 x36]), (122, .blk g22 2 [I64 x01]), (131, .own 72 (Lay.sz Sstripe_Piece) A32 n33 c34 (cel x35))]) (fun q37 ⟨A32, n33, c34, x35, x36⟩ => m_stripe_Pieces_l0 x29 q37 x35 x36 = some res) ⟨none, 0, 0, ([] : List Sstripe_Piece), x00⟩ ?_ (by simp [m_stripe_Pieces_l0]) ?_
 ·exact h
 rintro q37 ⟨A32, n33, c34, x35, x36⟩ h _ k38
 unfold m_stripe_Pieces_l0 at h
 refine sq fun _ k39 => sr fun _ k40 => ya (loadB (k := 121) scal_2 rfl rfl rfl) <| mv rfl <| ya (lss rfl rfl) <| dz k40 <| cI h rfl (fun hc41 h => ?_) fun hc41 h => ?_
 ·refine ss <| k39 _ _ <| bl <| sr fun _ k42 => ?_
  obtain ⟨x43, hx43, h⟩ := bnd h
  obtain ⟨x44, hx44, h⟩ := bnd h
  obtain ⟨x45, hx45, h⟩ := bnd h
  refine ya (loadB (k := 121) scal_2 rfl rfl rfl) <| ya (remC rfl rfl hx43) <| ya (subC rfl rfl hx44) <| mv rfl <| ya (loadB (k := 121) scal_2 rfl rfl rfl) <| ya (subC rfl rfl hx45) <| ya (minI rfl rfl) <| ak rfl k42 <| sr fun _ k46 => bd h fun x47 hx47 h => ya (loadB (k := 121) scal_2 rfl rfl rfl) <| c0 Tryz.func71 rfl (fun w hb hh => w_stripe_place (Mem.snap w) x36 hx47) <| mv rfl <| ya (extract rfl rfl) <| ya (extract rfl rfl) <| asn rfl <| ak rfl k46 <| sq fun _ k49 => sr fun _ k50 => mv rfl <| ya (loadB (k := 121) scal_2 rfl rfl rfl) <| mv rfl <| mv rfl <| mv rfl <| ya (build rfl (bu_72_0_1_2 x47.1 x47.2 (min x44 x45))) <| WL.round 97 (by decide) rfl rfl rfl hrc27 rfl rfl fun RQ51 hN52 hR53 hX54 KA55 hKA56 => rg fun _ k57 => al 158 zr_72 fun g58 => sb 158 agg_72 rfl rfl rfl <| dz k57 <| QK.thenN (hKA56 _ _ rfl ?_)
  refine bl <| rg fun _ k59 => bd h fun x61 hx61 h => ya (loadB (k := 117) scal_67 rfl rfl rfl) <| ya (loadBM (k := 158) agg_72 rfl rfl rfl) <| WL.eff (by decide) (Eff.buildCA 160 ([(Sstripe_Piece.mk x47.1 x47.2 (min x44 x45))] : List Sstripe_Piece) sty_67 rfl rfl rfl (by decide)) ?_
  rintro _ _ ⟨g60, rfl, rfl⟩
  refine ap 131 (xs := x35) (ys := ([(Sstripe_Piece.mk x47.1 x47.2 (min x44 x45))] : List Sstripe_Piece)) sty_67 rfl rfl rfl (rO 160 rfl) hx61 fun A62 c63 => WL.eff0 (Eff0.storeB 117 siz_67 rfl rfl rfl rfl (nle rfl)) <| dz k59 <| bn <| hN52 _ _ rfl <| ya (notB rfl) <| dz k50 <| cdF rfl <| ss <| k49 _ _ <| rg fun _ k64 => bd h fun x65 hx65 h => ya (loadB (k := 121) scal_2 rfl rfl rfl) <| mv rfl <| ya (addC rfl rfl hx65) <| WL.eff0 (Eff0.storeB 121 siz_2 rfl rfl rfl rfl (nle rfl)) <| dz k64 <| bn <| tn <| kw (k38 ⟨A62, x61.length, c63, x61, x65⟩ h)
 refine xi <| te <| te <| bx <| Ret.goN (ResIs.zero rfl) <| After.go 97 rfl <| bn <| tn <| k18 _ _ <| sr fun _ k66 => ya (loadB (k := 117) scal_67 rfl rfl rfl) <| asn rfl <| ak rfl k66 <| re <| QK.unmark 98 rfl ?_
 obtain rfl := si h
 exact rt [131] (ResIs.two rfl rfl rfl) (Ext.refl _ _) ⟨A32, n33, c34, rfl, rfl⟩
end Z
theorem w_r05_Size (M0 : Mem) (x00 : Int) {res : Int} (h : m_r05_Size x00 = some res) :
  Fn Tryz.prog 60 #[I64 x00] M0 fun r M' es => r = I64 res /\ es = [] := by
 refine Fn.intro (N := 15) Tryz.func60 rfl rfl (nle rfl) fun w0 => ?_
 unfold m_r05_Size at h
 refine sr fun _ k1 => ak rfl k1 <| sq fun _ k2 => sr fun _ k3 => mv rfl <| ya (lss rfl rfl) <| dz k3 <| cI h rfl (fun hc4 h => ?_) fun hc4 h => ?_
 ·refine sr fun _ k5 => ak rfl k5 <| re <| tr ?_
  obtain rfl := si h
  exact rt0 (ResIs.one rfl rfl)
 refine ss <| k2 _ _ <| sr fun _ k6 => bd h fun x7 hx7 h => mv rfl <| ya (quoC rfl rfl hx7) <| ak rfl k6 <| sq fun _ k8 => sr fun _ k9 => bd h fun x10 hx10 h => mv rfl <| ya (remC rfl rfl hx10) <| ya (gtr rfl rfl) <| dz k9 <| cI h rfl (fun hc11 h => ?_) fun hc11 h => ?_
 ·refine rg fun _ k12 => bd h fun x13 hx13 h => mv rfl <| ya (addC rfl rfl hx13) <| ak rfl k12 <| tn <| k8 _ _ <| sr fun _ k14 => bd h fun x15 hx15 h => mv rfl <| ya (mulC rfl rfl hx15) <| ak rfl k14 <| re ?_
  obtain rfl := si h
  exact rt0 (ResIs.one rfl rfl)
 refine ss <| k8 _ _ <| sr fun _ k16 => bd h fun x17 hx17 h => mv rfl <| ya (mulC rfl rfl hx17) <| ak rfl k16 <| re ?_
 obtain rfl := si h
 exact rt0 (ResIs.one rfl rfl)
theorem w_r05_Place (M0 : Mem) (x00 : Int) {res : Int × Int × Int} (h : m_r05_Place x00 = some res) :
  Fn Tryz.prog 61 #[I64 x00] M0 fun r M' es => r = .tuple #[I64 res.1, I64 res.2.1, I64 res.2.2] /\ es = [] := by
 refine Fn.intro (N := 18) Tryz.func61 rfl rfl (nle rfl) fun w0 => ?_
 unfold m_r05_Place at h
 refine sr fun _ k1 => asn rfl <| asn rfl <| ak rfl k1 <| sq fun _ k2 => sr fun _ k3 => mv rfl <| ya (lss rfl rfl) <| dz k3 <| cI h rfl (fun hc4 h => ?_) fun hc4 h => ?_
 ·refine sr fun _ k5 => asn rfl <| asn rfl <| ak rfl k5 <| re <| tr ?_
  obtain rfl := si h
  exact rt0 (ResIs.three rfl rfl rfl rfl)
 refine ss <| k2 _ _ <| sr fun _ k6 => bd h fun x7 hx7 h => mv rfl <| ya (quoC rfl rfl hx7) <| ak rfl k6 <| sr fun _ k8 => ?_
 obtain ⟨x9, hx9, h⟩ := bnd h
 obtain ⟨x10, hx10, h⟩ := bnd h
 obtain ⟨x11, hx11, h⟩ := bnd h
 obtain ⟨x12, hx12, h⟩ := bnd h
 obtain ⟨x13, hx13, h⟩ := bnd h
 refine mv rfl <| ya (remC rfl rfl hx9) <| mv rfl <| ya (quoC rfl rfl hx10) <| ya (mulC rfl rfl hx11) <| mv rfl <| ya (remC rfl rfl hx12) <| ya (addC rfl rfl hx13) <| asn rfl <| asn rfl <| ak rfl k8 <| re ?_
 obtain rfl := si h
 exact rt0 (ResIs.three rfl rfl rfl rfl)
theorem w_r05_Pieces (M0 : Mem) (x00 x01 : Int) {res : (List Sneedlestoreref05_Piece) × Int} (h : m_r05_Pieces x00 x01 = some res) :
  Fn Tryz.prog 35 #[I64 x00, I64 x01] M0 fun r M' es => ∃ (A1 : Option Addr) (n1 c1 : Nat), r = .tuple #[.slice A1 n1 c1, I64 res.2] /\ es = [.own 96 (Lay.sz Sneedlestoreref05_Piece) A1 n1 c1 (cel res.1)] := by
 refine Fn.intro (N := 57) Tryz.func35 rfl rfl (nle rfl) fun w0 => ?_
 unfold m_r05_Pieces at h
 refine sr fun _ k1 => asn rfl <| ak rfl k1 <| ct (σ := Unit) (fun _ => [(0, I64 x00), (1, I64 x01)]) (fun _ => [(0, .mem M0)]) (fun _ => m_r05_Pieces_j0 x00 x01 = some res) (fun _ k2 => ?_) ?_
 ·refine sr fun _ k3 => mv rfl <| ya (lss rfl rfl) <| mv rfl <| spl h decide_eq_true decide_eq_false (fun hc4 h => ?_) fun hc4 h => ?_
  ·refine sk <| sk <| pt rfl rfl <| mv rfl <| sk <| sk <| pt rfl rfl <| mv rfl <| sk <| sk <| pt rfl rfl <| dz k3 <| cdT rfl <| sr fun _ k5 => asn rfl <| ak rfl k5 <| re <| tr <| QK.nilOwn 106 96 (Lay.sz Sneedlestoreref05_Piece) none ?_
   obtain rfl := si h
   exact rt [106] (ResIs.two rfl rfl rfl) (Ext.refl _ _) ⟨none, 0, 0, rfl, rfl⟩
  refine mvg rfl <| yg (gtr rfl rfl) <| pf rfl rfl <| mv rfl <| spl h decide_eq_true decide_eq_false (fun hc7 h => ?_) fun hc7 h => ?_
  ·refine sk <| sk <| pt rfl rfl <| mv rfl <| sk <| sk <| pt rfl rfl <| dz k3 <| cdT rfl <| sr fun _ k8 => asn rfl <| ak rfl k8 <| re <| tr <| QK.nilOwn 109 96 (Lay.sz Sneedlestoreref05_Piece) none ?_
   obtain rfl := si h
   exact rt [109] (ResIs.two rfl rfl rfl) (Ext.refl _ _) ⟨none, 0, 0, rfl, rfl⟩
  refine mvg rfl <| yg (lss rfl rfl) <| pf rfl rfl <| mv rfl <| spl h decide_eq_true decide_eq_false (fun hc10 h => ?_) fun hc10 h => ?_
  ·refine sk <| sk <| pt rfl rfl <| dz k3 <| cdT rfl <| sr fun _ k11 => asn rfl <| ak rfl k11 <| re <| tr <| QK.nilOwn 112 96 (Lay.sz Sneedlestoreref05_Piece) none ?_
   obtain rfl := si h
   exact rt [112] (ResIs.two rfl rfl rfl) (Ext.refl _ _) ⟨none, 0, 0, rfl, rfl⟩
  refine mvg rfl <| yg (gtr rfl rfl) <| pf rfl rfl <| dz k3 <| cI h rfl (fun hc13 h => ?_) fun hc13 h => ?_
  ·refine sr fun _ k14 => asn rfl <| ak rfl k14 <| re <| tr <| QK.nilOwn 115 96 (Lay.sz Sneedlestoreref05_Piece) none ?_
   obtain rfl := si h
   exact rt [115] (ResIs.two rfl rfl rfl) (Ext.refl _ _) ⟨none, 0, 0, rfl, rfl⟩
  exact WC.skip <| tn <| kw (k2 () h)
 rintro _ h
 unfold m_r05_Pieces_j0 at h
 refine sr fun _ k16 => ak rfl k16 <| ct (σ := (Option Addr) × Nat × Nat × (List Sneedlestoreref05_Piece)) (fun ⟨A19, n20, c21, x22⟩ => [(6, .slice A19 n20 c21)]) (fun ⟨A19, n20, c21, x22⟩ => [(0, .mem M0), (118, .own 96 (Lay.sz Sneedlestoreref05_Piece) A19 n20 c21 (cel x22))]) (fun ⟨A19, n20, c21, x22⟩ => m_r05_Pieces_j1 x22 = some res) (fun _ k23 => ?_) ?_
 ·refine sr fun _ k24 => ak rfl k24 <| bl <| WC.nilOwn 126 96 (Lay.sz Sneedlestoreref05_Piece) none <| lp (τ := (Option Addr) × Nat × Nat × (List Sneedlestoreref05_Piece) × Int) (fun ⟨A27, n28, c29, x30, x31⟩ => [(0, I64 x00), (1, I64 x01), (6, .slice A27 n28 c29), (7, I64 x31)]) (fun ⟨A27, n28, c29, x30, x31⟩ => [(0, .mem M0), (126, .own 96 (Lay.sz Sneedlestoreref05_Piece) A27 n28 c29 (cel x30))]) (fun q32 ⟨A27, n28, c29, x30, x31⟩ => m_r05_Pieces_l2 x00 x01 q32 x30 x31 = some res) ⟨none, 0, 0, ([] : List Sneedlestoreref05_Piece), (0 : Int)⟩ ?_ (by simp [m_r05_Pieces_l2]) ?_
  ·exact h
  rintro q32 ⟨A27, n28, c29, x30, x31⟩ h _ k33
  unfold m_r05_Pieces_l2 at h
  refine sq fun _ k34 => sr fun _ k35 => mv rfl <| mv rfl <| ya (lss rfl rfl) <| dz k35 <| cI h rfl (fun hc36 h => ?_) fun hc36 h => ?_
  ·refine ss <| k34 _ _ <| bl <| sr fun _ k37 => ?_
   obtain ⟨x38, hx38, h⟩ := bnd h
   obtain ⟨x39, hx39, h⟩ := bnd h
   refine mv rfl <| mv rfl <| ya (addC rfl rfl hx38) <| c0 Tryz.func61 rfl (fun w hb hh => w_r05_Place (Mem.snap w) x38 hx39) <| mv rfl <| ya (extract rfl rfl) <| ya (extract rfl rfl) <| ya (extract rfl rfl) <| asn rfl <| asn rfl <| ak rfl k37 <| sr fun _ k41 => ?_
   obtain ⟨x42, hx42, h⟩ := bnd h
   obtain ⟨x43, hx43, h⟩ := bnd h
   obtain ⟨x44, hx44, h⟩ := bnd h
   obtain ⟨x45, hx45, h⟩ := bnd h
   refine mv rfl <| mv rfl <| ya (addC rfl rfl hx42) <| ya (remC rfl rfl hx43) <| ya (subC rfl rfl hx44) <| mv rfl <| mv rfl <| ya (subC rfl rfl hx45) <| ya (minI rfl rfl) <| ak rfl k41 <| sr fun _ k46 => bd h fun x48 hx48 h => mv rfl <| mv rfl <| mv rfl <| mv rfl <| ya (build rfl (bu_96_0_1_2 x39.1 x39.2.1 (min x44 x45))) <| WL.eff (by decide) (Eff.buildCA 147 ([(Sneedlestoreref05_Piece.mk x39.1 x39.2.1 (min x44 x45))] : List Sneedlestoreref05_Piece) sty_93 rfl rfl rfl (by decide)) ?_
   rintro _ _ ⟨g47, rfl, rfl⟩
   refine ap 126 (xs := x30) (ys := ([(Sneedlestoreref05_Piece.mk x39.1 x39.2.1 (min x44 x45))] : List Sneedlestoreref05_Piece)) sty_93 rfl rfl rfl (rO 147 rfl) hx48 fun A49 c50 => ak rfl k46 <| rg fun _ k51 => bd h fun x52 hx52 h => mv rfl <| mv rfl <| ya (addC rfl rfl hx52) <| ak rfl k51 <| bn <| tn <| kw (k33 ⟨A49, x48.length, c50, x48, x52⟩ h)
  exact xi <| te <| te <| bx <| tn <| KK.move 126 118 rfl rfl <| kw (k23 ⟨A27, n28, c29, x30⟩ h)
 rintro ⟨A19, n20, c21, x22⟩ h
 unfold m_r05_Pieces_j1 at h
 refine sr fun _ k53 => mv rfl <| asn rfl <| ak rfl k53 <| re ?_
 obtain rfl := si h
 exact rt [118] (ResIs.two rfl rfl rfl) (Ext.refl _ _) ⟨A19, n20, c21, rfl, rfl⟩
theorem w_shards_Valid (M0 : Mem) (u0 u1 u2 u3 : Int) (u4 u5 u6 u7 u8 u9 : BitVec 32) (A00_10 : Option Addr) (n00_10 c00_10 : Nat) (u10 : List Sapi_Item) (hf00_10 : SlT M0 A00_10 n00_10 c00_10 u10) {res : Bool} (h : m_shards_Valid u0 u1 u2 u3 u4 u5 u6 u7 u8 u9 u10 = some res) :
  Fn Tryz.prog 55 #[.agg ([I64 u0, I64 u1, I64 u2, I64 u3, U32 u4, U32 u5, U32 u6, U32 u7, U32 u8, U32 u9, .slice A00_10 n00_10 c00_10] : List Value).toArray] M0 fun r M' es => r = .bool res /\ es = [] := by
 refine Fn.intro (N := 28) Tryz.func55 rfl rfl (nle rfl) fun w0 => ?_
 unfold m_shards_Valid at h
 refine sr fun _ k1 => bb 102 [I64 u0, I64 u1, I64 u2, I64 u3, U32 u4, U32 u5, U32 u6, U32 u7, U32 u8, U32 u9, .slice A00_10 n00_10 c00_10] rfl fun g2 => ak rfl k1 <| sq fun _ k3 => sr fun _ k4 => bd h fun x5 hx5 h => ya (fieldAddr Tryz.underlying46 rfl nz_23 rfl rfl) <| ya (loadBP (k := 102) (us := [I64 u0, I64 u1, I64 u2]) agg_23 rfl rfl rfl rfl) <| c0 Tryz.func76 rfl (fun w hb hh => w_superblock_Valid (Mem.snap w) u0 u1 u2 hx5) <| ya (notB rfl) <| mv rfl <| spn h not_f (fun q => not_t (Bool.eq_false_iff.2 q)) (fun hc7 h => ?_) fun hc7 h => ?_
 ·refine yg (fieldAddr Tryz.underlying46 rfl nz_2 rfl rfl) <| yg (loadB (k := 102) scal_2 rfl rfl rfl) <| yg (lss rfl rfl) <| pf rfl rfl <| mv rfl <| spl h decide_eq_true decide_eq_false (fun hc8 h => ?_) fun hc8 h => ?_
  ·refine sk <| sk <| sk <| pt rfl rfl <| mv rfl <| sk <| sk <| sk <| sk <| pt rfl rfl <| dz k4 <| cdT rfl <| sr fun _ k9 => ak rfl k9 <| re <| tr ?_
   obtain rfl := si h
   exact rt0 (ResIs.one rfl rfl)
  refine yg (fieldAddr Tryz.underlying46 rfl nz_2 rfl rfl) <| yg (loadB (k := 102) scal_2 rfl rfl rfl) <| yg (gtr rfl rfl) <| pf rfl rfl <| mv rfl <| spl h decide_eq_true decide_eq_false (fun hc10 h => ?_) fun hc10 h => ?_
  ·refine sk <| sk <| sk <| sk <| pt rfl rfl <| dz k4 <| cdT rfl <| sr fun _ k11 => ak rfl k11 <| re <| tr ?_
   obtain rfl := si h
   exact rt0 (ResIs.one rfl rfl)
  obtain ⟨x12, hx12, h⟩ := bnd h
  refine yg (fieldAddr Tryz.underlying46 rfl nz_26 rfl rfl) <| yg (loadB (k := 102) scal_26 rfl rfl rfl) <| c0g Tryz.func77 rfl (fun w hb hh => w_index_Valid (Mem.snap w) A00_10 n00_10 c00_10 _ (sM rfl hf00_10 w hb hh) hx12) <| yg (notB rfl) <| pf rfl rfl <| dz k4 <| cnn h rfl not_f (fun q => not_t (Bool.eq_false_iff.2 q)) (fun hc14 h => ?_) fun hc14 h => ?_
  ·refine ss <| k3 _ _ <| sr fun _ k15 => ya (fieldAddr Tryz.underlying46 rfl nz_26 rfl rfl) <| ya (loadB (k := 102) scal_26 rfl rfl rfl) <| ya (makeFunc rfl rfl) <| WL.inl (by decide) Tryz.func78 nm_78 rfl rfl (Tri.intro (N := 9) Tryz.func78 rfl rfl (nle rfl) ?_)
   refine sr fun _ k16 => ak rfl k16 <| sr fun _ k17 => mv rfl <| mv rfl <| WL.inl (by decide) Tryz.func100 nm_100 rfl rfl (Tri.intro (N := 19) Tryz.func100 rfl rfl (nle rfl) ?_)
   refine sr fun _ k18 => ak rfl k18 <| ct (σ := Unit) (fun _ => []) (fun _ => [(0, .mem M0), (102, .blk g2 46 [I64 u0, I64 u1, I64 u2, I64 u3, U32 u4, U32 u5, U32 u6, U32 u7, U32 u8, U32 u9, .slice A00_10 n00_10 c00_10])]) (fun _ => m_shards_Valid_j0 = some res) (fun _ k19 => ?_) ?_
   ·refine sr fun _ k20 => mv rfl <| ya (lenC (xs := u10) und_26 rfl (mM rfl hf00_10)) <| mv rfl <| dz k20 <| bl <| lp (τ := Int) (fun x21 => [(0, .slice A00_10 n00_10 c00_10), (1, .func (.func 79) #[] #[pv g2]), (7, I64 (u10.length : Int)), (8, I64 x21)]) (fun x21 => [(0, .mem M0), (102, .blk g2 46 [I64 u0, I64 u1, I64 u2, I64 u3, U32 u4, U32 u5, U32 u6, U32 u7, U32 u8, U32 u9, .slice A00_10 n00_10 c00_10])]) (fun q22 x21 => m_shards_Valid_l1 u10 u3 q22 x21 = some res) ((0 : Int)) ?_ (by simp [m_shards_Valid_l1]) ?_
    ·exact h
    rintro q22 x21 h _ k23
    unfold m_shards_Valid_l1 at h
    refine sr fun _ k24 => ya (lss rfl rfl) <| dz k24 <| sq fun _ k25 => cI h rfl (fun hc26 h => ?_) fun hc26 h => ?_
    ·refine ss <| k25 _ _ <| sq fun _ k27 => bl <| sr fun _ k28 => mv rfl <| ak rfl k28 <| sr fun _ k29 => bd h fun x30 hx30 h => mv rfl <| mv rfl <| mv rfl <| ya (idxC (xs := u10) sty_26 rfl rfl (mM rfl hf00_10) hx30) <| ya (loadA (xs := u10) agg_59 rfl (mM rfl hf00_10) hx30 rfl) <| WL.inlV (by decide) rfl Tryz.func79 nm_79 rfl rfl (Tri.intro (N := 13) Tryz.func79 rfl rfl (nle rfl) ?_)
     refine sr fun _ k31 => bb 132 [U64 x30.fKey, U32 x30.fCookie, I64 x30.fOff, I64 x30.fSize] rfl fun g32 => ak rfl k31 <| sd [(0, _), (102, _), (132, _)] mixed fun _ k33 => ?_
     obtain ⟨x34, hx34, h⟩ := bnd h
     obtain ⟨x36, hx36, h⟩ := bnd h
     refine du 0 rfl (fieldAddr Tryz.underlying59 rfl nz_2 rfl rfl) <| du 1 rfl (loadB (k := 132) scal_2 rfl rfl rfl) <| du 2 rfl (fieldAddr Tryz.underlying59 rfl nz_3 rfl rfl) <| du 3 rfl (loadB (k := 132) scal_3 rfl rfl rfl) <| du 6 rfl (fieldAddr Tryz.underlying46 rfl nz_2 rfl rfl) <| du 7 rfl (loadB (k := 102) scal_2 rfl rfl rfl) <| on 4 <| d0 rfl Tryz.func21 rfl (fun w hb hh => w_needle_Size (Mem.snap w) x30.fSize hx34) <| du 5 rfl (addC rfl rfl hx36) <| du 8 rfl (gtr rfl rfl) <| du 9 rfl (Yld.assign rfl) <| dd <| k33 _ _ <| re <| Ret.go (ResIs.one rfl rfl) <| dz k29 <| cI h rfl (fun hc37 h => ?_) fun hc37 h => ?_
     ·refine sr fun _ k38 => mv rfl <| ak rfl k38 <| re <| br <| tr <| tr <| br <| tr <| Ret.go (ResIs.one rfl rfl) <| ya (geq rfl rfl) <| ak rfl k17 <| re <| Ret.go (ResIs.one rfl rfl) <| ya (notB rfl) <| ak rfl k15 <| re ?_
      obtain rfl := si h
      exact rt0 (ResIs.one rfl rfl)
     refine WC.skip <| bn <| tn <| k27 _ _ <| rg fun _ k39 => bd h fun x40 hx40 h => ya (addC rfl rfl hx40) <| mv rfl <| dz k39 <| tn <| kw (k23 (x40) h)
    exact xi <| te <| te <| bx <| tn <| kw (k19 () h)
   rintro _ h
   unfold m_shards_Valid_j0 at h
   refine sr fun _ k41 => ak rfl k41 <| re <| Ret.go (ResIs.one rfl rfl) <| ya (geq rfl rfl) <| ak rfl k17 <| re <| Ret.go (ResIs.one rfl rfl) <| ya (notB rfl) <| ak rfl k15 <| re ?_
   obtain rfl := si h
   exact rt0 (ResIs.one rfl rfl)
  refine sr fun _ k42 => ak rfl k42 <| re <| tr ?_
  obtain rfl := si h
  exact rt0 (ResIs.one rfl rfl)
 refine sk <| sk <| sk <| pt rfl rfl <| mv rfl <| sk <| sk <| sk <| pt rfl rfl <| mv rfl <| sk <| sk <| sk <| sk <| pt rfl rfl <| dz k4 <| cdT rfl <| sr fun _ k43 => ak rfl k43 <| re <| tr ?_
 obtain rfl := si h
 exact rt0 (ResIs.one rfl rfl)
theorem w_r17_Valid (M0 : Mem) (u0 u1 u2 u3 : Int) (u4 u5 u6 u7 u8 u9 : BitVec 32) (A00_10 : Option Addr) (n00_10 c00_10 : Nat) (u10 : List Sapi_Item) (hf00_10 : SlT M0 A00_10 n00_10 c00_10 u10) {res : Bool} (h : m_r17_Valid u0 u1 u2 u3 u4 u5 u6 u7 u8 u9 u10 = some res) :
  Fn Tryz.prog 33 #[.agg ([I64 u0, I64 u1, I64 u2, I64 u3, U32 u4, U32 u5, U32 u6, U32 u7, U32 u8, U32 u9, .slice A00_10 n00_10 c00_10] : List Value).toArray] M0 fun r M' es => r = .bool res /\ es = [] := by
 refine Fn.intro (N := 48) Tryz.func33 rfl rfl (nle rfl) fun w0 => ?_
 unfold m_r17_Valid at h
 refine sr fun _ k1 => bb 102 [I64 u0, I64 u1, I64 u2, I64 u3, U32 u4, U32 u5, U32 u6, U32 u7, U32 u8, U32 u9, .slice A00_10 n00_10 c00_10] rfl fun g2 => ak rfl k1 <| ct (σ := Unit) (fun _ => [(1, pv g2)]) (fun _ => [(0, .mem M0), (102, .blk g2 28 [I64 u0, I64 u1, I64 u2, I64 u3, U32 u4, U32 u5, U32 u6, U32 u7, U32 u8, U32 u9, .slice A00_10 n00_10 c00_10])]) (fun _ => m_r17_Valid_j0 u10 u3 = some res) (fun _ k3 => ?_) ?_
 ·refine sr fun _ k4 => bd h fun x5 hx5 h => ya (fieldAddr Tryz.underlying28 rfl nz_23 rfl rfl) <| ya (loadBP (k := 102) (us := [I64 u0, I64 u1, I64 u2]) agg_23 rfl rfl rfl rfl) <| c0 Tryz.func44 rfl (fun w hb hh => w_r07_Valid (Mem.snap w) u0 u1 u2 hx5) <| ya (notB rfl) <| mv rfl <| spn h not_f (fun q => not_t (Bool.eq_false_iff.2 q)) (fun hc7 h => ?_) fun hc7 h => ?_
  ·refine yg (fieldAddr Tryz.underlying28 rfl nz_2 rfl rfl) <| yg (loadB (k := 102) scal_2 rfl rfl rfl) <| yg (lss rfl rfl) <| pf rfl rfl <| mv rfl <| spl h decide_eq_true decide_eq_false (fun hc8 h => ?_) fun hc8 h => ?_
   ·refine sk <| sk <| sk <| pt rfl rfl <| mv rfl <| sk <| sk <| sk <| sk <| pt rfl rfl <| dz k4 <| cdT rfl <| sr fun _ k9 => ak rfl k9 <| re <| tr ?_
    obtain rfl := si h
    exact rt0 (ResIs.one rfl rfl)
   refine yg (fieldAddr Tryz.underlying28 rfl nz_2 rfl rfl) <| yg (loadB (k := 102) scal_2 rfl rfl rfl) <| yg (gtr rfl rfl) <| pf rfl rfl <| mv rfl <| spl h decide_eq_true decide_eq_false (fun hc10 h => ?_) fun hc10 h => ?_
   ·refine sk <| sk <| sk <| sk <| pt rfl rfl <| dz k4 <| cdT rfl <| sr fun _ k11 => ak rfl k11 <| re <| tr ?_
    obtain rfl := si h
    exact rt0 (ResIs.one rfl rfl)
   obtain ⟨x12, hx12, h⟩ := bnd h
   refine yg (fieldAddr Tryz.underlying28 rfl nz_26 rfl rfl) <| yg (loadB (k := 102) scal_26 rfl rfl rfl) <| c0g Tryz.func59 rfl (fun w hb hh => w_r08_Valid (Mem.snap w) A00_10 n00_10 c00_10 _ (sM rfl hf00_10 w hb hh) hx12) <| yg (notB rfl) <| pf rfl rfl <| dz k4 <| cnn h rfl not_f (fun q => not_t (Bool.eq_false_iff.2 q)) (fun hc14 h => ?_) fun hc14 h => ?_
   ·exact WC.skip <| tn <| kw (k3 () h)
   refine sr fun _ k15 => ak rfl k15 <| re <| tr ?_
   obtain rfl := si h
   exact rt0 (ResIs.one rfl rfl)
  refine sk <| sk <| sk <| pt rfl rfl <| mv rfl <| sk <| sk <| sk <| pt rfl rfl <| mv rfl <| sk <| sk <| sk <| sk <| pt rfl rfl <| dz k4 <| cdT rfl <| sr fun _ k16 => ak rfl k16 <| re <| tr ?_
  obtain rfl := si h
  exact rt0 (ResIs.one rfl rfl)
 rintro _ h
 unfold m_r17_Valid_j0 at h
 refine ct (σ := Unit) (fun _ => []) (fun _ => [(0, .mem M0)]) (fun _ => m_r17_Valid_j1 = some res) (fun _ k17 => ?_) ?_
 ·refine sr fun _ k18 => ak rfl k18 <| bl <| lp (τ := Int) (fun x19 => [(1, pv g2), (3, I64 x19)]) (fun x19 => [(0, .mem M0), (102, .blk g2 28 [I64 u0, I64 u1, I64 u2, I64 u3, U32 u4, U32 u5, U32 u6, U32 u7, U32 u8, U32 u9, .slice A00_10 n00_10 c00_10])]) (fun q20 x19 => m_r17_Valid_l2 u10 u3 q20 x19 = some res) ((0 : Int)) ?_ (by simp [m_r17_Valid_l2]) ?_
  ·exact h
  rintro q20 x19 h _ k21
  unfold m_r17_Valid_l2 at h
  refine sq fun _ k22 => sr fun _ k23 => mv rfl <| ya (fieldAddr Tryz.underlying28 rfl nz_26 rfl rfl) <| ya (loadB (k := 102) scal_26 rfl rfl rfl) <| ya (lenC (xs := u10) und_26 rfl (mM rfl hf00_10)) <| ya (lss rfl rfl) <| dz k23 <| cI h rfl (fun hc24 h => ?_) fun hc24 h => ?_
  ·refine ss <| k22 _ _ <| sq fun _ k25 => bl <| sd [(0, _), (102, _)] mixed fun _ k26 => ?_
   obtain ⟨x27, hx27, h⟩ := bnd h
   obtain ⟨x28, hx28, h⟩ := bnd h
   obtain ⟨x29, hx29, h⟩ := bnd h
   obtain ⟨x31, hx31, h⟩ := bnd h
   refine du 0 rfl (fieldAddr Tryz.underlying28 rfl nz_26 rfl rfl) <| du 1 rfl (loadB (k := 102) scal_26 rfl rfl rfl) <| dm 2 rfl rfl <| du 3 rfl (idxC (xs := u10) sty_26 rfl rfl (mM rfl hf00_10) hx27) <| du 4 rfl (fieldAddrC Tryz.underlying59 rfl nz_2 rfl rfl) <| du 5 rfl (loadC (xs := u10) (j := 2) scal_2 rfl (mM rfl hf00_10) hx27 rfl rfl) <| du 6 rfl (fieldAddr Tryz.underlying28 rfl nz_26 rfl rfl) <| du 7 rfl (loadB (k := 102) scal_26 rfl rfl rfl) <| dm 8 rfl rfl <| du 9 rfl (idxC (xs := u10) sty_26 rfl rfl (mM rfl hf00_10) hx28) <| du 10 rfl (fieldAddrC Tryz.underlying59 rfl nz_3 rfl rfl) <| du 11 rfl (loadC (xs := u10) (j := 3) scal_3 rfl (mM rfl hf00_10) hx28 rfl rfl) <| du 14 rfl (fieldAddr Tryz.underlying28 rfl nz_2 rfl rfl) <| du 15 rfl (loadB (k := 102) scal_2 rfl rfl rfl) <| on 12 <| d0 rfl Tryz.func42 rfl (fun w hb hh => w_r06_Size (Mem.snap w) x28.fSize hx29) <| du 13 rfl (addC rfl rfl hx31) <| du 16 rfl (gtr rfl rfl) <| dd <| k26 _ _ <| cI h rfl (fun hc32 h => ?_) fun hc32 h => ?_
   ·refine sr fun _ k33 => ak rfl k33 <| re <| br <| tr <| tr <| br <| tr ?_
    obtain rfl := si h
    exact rt0 (ResIs.one rfl rfl)
   refine WC.skip <| bn <| tn <| k25 _ _ <| rg fun _ k34 => bd h fun x35 hx35 h => mv rfl <| ya (addC rfl rfl hx35) <| ak rfl k34 <| tn <| kw (k21 (x35) h)
  exact xi <| te <| te <| bx <| tn <| kw (k17 () h)
 rintro _ h
 unfold m_r17_Valid_j1 at h
 refine sr fun _ k36 => ak rfl k36 <| re ?_
 obtain rfl := si h
 exact rt0 (ResIs.one rfl rfl)
theorem w_r09_Records (M0 : Mem) (A00 : Option Addr) (n00 c00 : Nat) (x00 : By) (hf00 : SlT M0 A00 n00 c00 x00) (x01 : Int) {res : (List Sneedlestoreref09_Record) × Int} (h : m_r09_Records x00 x01 = some res) :
  Fn Tryz.prog 49 #[.slice A00 n00 c00, I64 x01] M0 fun r M' es => ∃ (A1 : Option Addr) (n1 c1 : Nat), ∃ rs1 : List Rneedlestoreref09_Record, r = .tuple #[.slice A1 n1 c1, I64 res.2] /\ es = [.own 57 (Lay.sz Rneedlestoreref09_Record) A1 n1 c1 (cel rs1)] /\ Rels (rel_needlestoreref09_Record M') rs1 res.1 := by
 refine Fn.intro (N := 35) Tryz.func49 rfl rfl (nle rfl) fun w0 => ?_
 unfold m_r09_Records at h
 refine sr fun _ k1 => asn rfl <| ak rfl k1 <| sr fun _ k2 => ak rfl k2 <| ct (σ := Mem × Int × (Option Addr) × Nat × Nat × (List Sneedlestoreref09_Record) × (List Rneedlestoreref09_Record)) (fun ⟨M3, x4, A7, n8, c9, x10, rs11⟩ => [(1, I64 x4), (6, .slice A7 n8 c9)]) (fun ⟨M3, x4, A7, n8, c9, x10, rs11⟩ => [(0, .mem M3), (106, .own 57 (Lay.sz Rneedlestoreref09_Record) A7 n8 c9 (cel rs11))]) (fun ⟨M3, x4, A7, n8, c9, x10, rs11⟩ => m_r09_Records_j0 x4 x10 = some res /\ Ext w0.heap.size M0 M3 /\ Rels (rel_needlestoreref09_Record M3) rs11 x10) (fun _ k13 => ?_) ?_
 ·refine bl <| WC.nilOwn 117 57 (Lay.sz Rneedlestoreref09_Record) none <| lp (τ := Mem × Int × (Option Addr) × Nat × Nat × (List Sneedlestoreref09_Record) × (List Rneedlestoreref09_Record)) (fun ⟨M14, x15, A18, n19, c20, x21, rs22⟩ => [(0, .slice A00 n00 c00), (1, I64 x15), (6, .slice A18 n19 c20)]) (fun ⟨M14, x15, A18, n19, c20, x21, rs22⟩ => [(0, .mem M14), (117, .own 57 (Lay.sz Rneedlestoreref09_Record) A18 n19 c20 (cel rs22))]) (fun q24 ⟨M14, x15, A18, n19, c20, x21, rs22⟩ => m_r09_Records_l1 x00 q24 x15 x21 = some res /\ Ext w0.heap.size M0 M14 /\ Rels (rel_needlestoreref09_Record M14) rs22 x21) ⟨M0, x01, none, 0, 0, ([] : List Sneedlestoreref09_Record), ([] : List Rneedlestoreref09_Record)⟩ ?_ (by simp [m_r09_Records_l1]) ?_
  ·exact ⟨h, (Ext.refl _ _), (Rels.nil (R := rel_needlestoreref09_Record M0))⟩
  rintro q24 ⟨M14, x15, A18, n19, c20, x21, rs22⟩ ⟨h, hm_M14, hq23⟩ _ k25
  unfold m_r09_Records_l1 at h
  refine sq fun _ k26 => sr fun _ k27 => mv rfl <| mv rfl <| ya (lenC (xs := x00) und_35 rfl (mM rfl (SlRc.lift hf00 hm_M14))) <| ya (leq rfl rfl) <| dz k27 <| cI h rfl (fun hc28 h => ?_) fun hc28 h => ?_
  ·refine ss <| k26 _ _ <| bl <| sr fun _ k29 => ?_
   obtain ⟨x30, hx30, h⟩ := bnd h
   obtain ⟨x31, hx31, h⟩ := bnd h
   refine mv rfl <| mv rfl <| ya (sliceLC (xs := x00) sty_35 rfl rfl (mM rfl (SlRc.lift hf00 hm_M14)) hx30) <| c1 135 Tryz.func43 rfl (fun w hb hh => w_r06_Decode (Mem.snap w) (subA A00 c00 (x15).toNat (Lay.sz (BitVec 8))) x30.length (c00 - (x15).toNat) _ (RdH.sn (RdT.slc (mM rfl (SlRc.lift hf00 hm_M14)) hx30) w hb hh) hx31) fun A36 n37 c38 => mv rfl <| ya (extract rfl rfl) <| ya (extract rfl rfl) <| ya (extract rfl rfl) <| al 139 zr_55 fun g39 => sb 139 agg_55 rfl rfl rfl <| asn rfl <| ak rfl k29 <| sq fun _ k40 => sr fun _ k41 => mv rfl <| ya (neqI rfl rfl) <| dz k41 <| cnn h rfl bne_eq_false_iff_eq.2 bne_iff_ne.2 (fun hc42 h => ?_) fun hc42 h => ?_
   ·refine ss <| k40 _ _ <| sr fun _ k43 => bd h fun x48 hx48 h => mv rfl <| mv rfl <| ya (loadBM (k := 139) agg_55 rfl rfl rfl) <| ya (build rfl (bu_57_0_1 x15 x31.1 x31.2.1 x31.2.2.1 A36 n37 c38)) <| WL.freeze 135 rfl rfl rfl fun M45 hm_M45 hf46 => ?_
    have hq47 : Rels (rel_needlestoreref09_Record M45) ([(Rneedlestoreref09_Record.mk (Sneedlestoreref09_Record.mk x15 (Sapi_Needle.mk x31.1 x31.2.1 x31.2.2.1 x31.2.2.2.1)) (⟨A36, n37, c38⟩ : Hdr))] : List Rneedlestoreref09_Record) ([(Sneedlestoreref09_Record.mk x15 (Sapi_Needle.mk x31.1 x31.2.1 x31.2.2.1 x31.2.2.2.1))] : List Sneedlestoreref09_Record) := (Rels.cons ⟨rfl, hf46⟩ Rels.nil)
    refine WL.eff (by decide) (Eff.buildCA 144 ([(Rneedlestoreref09_Record.mk (Sneedlestoreref09_Record.mk x15 (Sapi_Needle.mk x31.1 x31.2.1 x31.2.2.1 x31.2.2.2.1)) (⟨A36, n37, c38⟩ : Hdr))] : List Rneedlestoreref09_Record) sty_36 rfl rfl rfl (by decide)) ?_
    rintro _ _ ⟨g44, rfl, rfl⟩
    obtain ⟨hu51, hq52⟩ := Rels.apd (Rels.lift hq23 hm_M45) hq47 hx48
    refine ap 117 (xs := rs22) (ys := ([(Rneedlestoreref09_Record.mk (Sneedlestoreref09_Record.mk x15 (Sapi_Needle.mk x31.1 x31.2.1 x31.2.2.1 x31.2.2.2.1)) (⟨A36, n37, c38⟩ : Hdr))] : List Rneedlestoreref09_Record)) sty_36 rfl rfl rfl (rO 144 rfl) hu51 fun A49 c50 => ak rfl k43 <| rg fun _ k53 => bd h fun x54 hx54 h => mv rfl <| mv rfl <| ya (addC rfl rfl hx54) <| ak rfl k53 <| bn <| tn <| kw (k25 ⟨M45, x54, A49, (rs22 ++ ([(Rneedlestoreref09_Record.mk (Sneedlestoreref09_Record.mk x15 (Sapi_Needle.mk x31.1 x31.2.1 x31.2.2.1 x31.2.2.2.1)) (⟨A36, n37, c38⟩ : Hdr))] : List Rneedlestoreref09_Record)).length, c50, x48, (rs22 ++ ([(Rneedlestoreref09_Record.mk (Sneedlestoreref09_Record.mk x15 (Sapi_Needle.mk x31.1 x31.2.1 x31.2.2.1 x31.2.2.2.1)) (⟨A36, n37, c38⟩ : Hdr))] : List Rneedlestoreref09_Record))⟩ ⟨h, (Ext.trans hm_M14 hm_M45), hq52⟩)
   exact xi <| te <| bo <| te <| bx <| tn <| KK.move 117 106 rfl rfl <| kw (k13 ⟨M14, x15, A18, n19, c20, x21, rs22⟩ ⟨h, hm_M14, hq23⟩)
  exact xi <| te <| te <| bx <| tn <| KK.move 117 106 rfl rfl <| kw (k13 ⟨M14, x15, A18, n19, c20, x21, rs22⟩ ⟨h, hm_M14, hq23⟩)
 rintro ⟨M3, x4, A7, n8, c9, x10, rs11⟩ ⟨h, hm_M3, hq12⟩
 unfold m_r09_Records_j0 at h
 refine sr fun _ k55 => mv rfl <| mv rfl <| asn rfl <| ak rfl k55 <| re ?_
 obtain rfl := si h
 exact rt [106] (ResIs.two rfl rfl rfl) hm_M3 ⟨A7, n8, c9, rs11, rfl, rfl, hq12⟩
theorem w_r09_Open (M0 : Mem) (A00 : Option Addr) (n00 c00 : Nat) (x00 : By) (hf00 : SlT M0 A00 n00 c00 x00) {res : Int × Int × Int × (List Sneedlestoreref09_Record) × Int × Int} (h : m_r09_Open x00 = some res) :
  Fn Tryz.prog 27 #[.slice A00 n00 c00] M0 fun r M' es => ∃ (A1 : Option Addr) (n1 c1 : Nat), ∃ rs1 : List Rneedlestoreref09_Record, r = .tuple #[.agg ([I64 res.1, I64 res.2.1, I64 res.2.2.1] : List Value).toArray, .slice A1 n1 c1, I64 res.2.2.2.2.1, I64 res.2.2.2.2.2] /\ es = [.own 57 (Lay.sz Rneedlestoreref09_Record) A1 n1 c1 (cel rs1)] /\ Rels (rel_needlestoreref09_Record M') rs1 res.2.2.2.1 := by
 refine Fn.intro (N := 27) Tryz.func27 rfl rfl (nle rfl) fun w0 => ?_
 unfold m_r09_Open at h
 refine sr fun _ k1 => al 102 zr_23 fun g2 => asn rfl <| asn rfl <| ak rfl k1 <| sr fun _ k3 => bd h fun x4 hx4 h => mv rfl <| c0 Tryz.func48 rfl (fun w hb hh => w_r07_Decode (Mem.snap w) A00 n00 c00 _ (sM rfl hf00 w hb hh) hx4) <| mv rfl <| ya (extract rfl rfl) <| ya (extract rfl rfl) <| al 106 zr_23 fun g6 => sb 106 agg_23 rfl rfl rfl <| ak rfl k3 <| sq fun _ k7 => sr fun _ k8 => mv rfl <| ya (neqI rfl rfl) <| dz k8 <| cnn h rfl bne_eq_false_iff_eq.2 bne_iff_ne.2 (fun hc9 h => ?_) fun hc9 h => ?_
 ·refine ss <| k7 _ _ <| sr fun _ k10 => bd h fun x11 hx11 h => mv rfl <| WL.eff (by decide) (Eff.callM 117 rfl Tryz.func49 nm_49 rfl rfl rfl (w_r09_Records _ A00 n00 c00 _ hf00 (16 : Int) hx11)) ?_
  rintro _ _ ⟨M23, _, ⟨A24, n25, c26, rs27, rfl, rfl, hq28⟩, hm_M23, rfl⟩
  refine mv rfl <| ya (extract rfl rfl) <| ya (extract rfl rfl) <| asn rfl <| ak rfl k10 <| sr fun _ k29 => ya (loadBM (k := 106) agg_23 rfl rfl rfl) <| mv rfl <| mv rfl <| sb 102 agg_23 rfl rfl rfl <| asn rfl <| asn rfl <| ak rfl k29 <| re ?_
  obtain rfl := si h
  exact rt [117] (ResIs.cellTmp3M (k := 102) rfl agg_23 rfl rfl rfl rfl rfl rfl) hm_M23 ⟨A24, n25, c26, rs27, rfl, rfl, hq28⟩
 refine sr fun _ k30 => ya (build rfl (bu_23_)) <| mv rfl <| sb 102 agg_23 rfl rfl rfl <| asn rfl <| asn rfl <| ak rfl k30 <| re <| tr <| QK.nilOwn 131 57 (Lay.sz Rneedlestoreref09_Record) none ?_
 obtain rfl := si h
 exact rt [131] (ResIs.cellTmp3M (k := 102) rfl agg_23 rfl rfl rfl rfl rfl rfl) (Ext.refl _ _) ⟨none, 0, 0, ([] : List Rneedlestoreref09_Record), rfl, rfl, (Rels.nil (R := rel_needlestoreref09_Record M0))⟩
theorem w_r09_Items (M0 : Mem) (A00 : Option Addr) (n00 c00 : Nat) (rs00 : List Rneedlestoreref09_Record) (x00 : List Sneedlestoreref09_Record) (hf00 : SlT M0 A00 n00 c00 rs00) (hq00 : Rels (rel_needlestoreref09_Record M0) rs00 x00) {res : (List Sapi_Item)} (h : m_r09_Items x00 = some res) :
  Fn Tryz.prog 29 #[.slice A00 n00 c00] M0 fun r M' es => ∃ (A1 : Option Addr) (n1 c1 : Nat), r = .slice A1 n1 c1 /\ es = [.own 59 (Lay.sz Sapi_Item) A1 n1 c1 (cel res)] := by
 refine Fn.intro (N := 39) Tryz.func29 rfl rfl (nle rfl) fun w0 => ?_
 unfold m_r09_Items at h
 refine sr fun _ k1 => ak rfl k1 <| sr fun _ k2 => ak rfl k2 <| ct (σ := (Option Addr) × Nat × Nat × (List Sapi_Item)) (fun ⟨A5, n6, c7, x8⟩ => [(3, .slice A5 n6 c7)]) (fun ⟨A5, n6, c7, x8⟩ => [(0, .mem M0), (104, .own 59 (Lay.sz Sapi_Item) A5 n6 c7 (cel x8))]) (fun ⟨A5, n6, c7, x8⟩ => m_r09_Items_j0 x8 = some res) (fun _ k9 => ?_) ?_
 ·refine sr fun _ k10 => ak rfl k10 <| bl <| WC.nilOwn 112 59 (Lay.sz Sapi_Item) none <| lp (τ := (Option Addr) × Nat × Nat × (List Sapi_Item) × Int) (fun ⟨A13, n14, c15, x16, x17⟩ => [(0, .slice A00 n00 c00), (3, .slice A13 n14 c15), (4, I64 x17)]) (fun ⟨A13, n14, c15, x16, x17⟩ => [(0, .mem M0), (112, .own 59 (Lay.sz Sapi_Item) A13 n14 c15 (cel x16))]) (fun q18 ⟨A13, n14, c15, x16, x17⟩ => m_r09_Items_l1 x00 q18 x16 x17 = some res) ⟨none, 0, 0, ([] : List Sapi_Item), (0 : Int)⟩ ?_ (by simp [m_r09_Items_l1]) ?_
  ·exact h
  rintro q18 ⟨A13, n14, c15, x16, x17⟩ h _ k19
  unfold m_r09_Items_l1 at h
  refine sq fun _ k20 => sr fun _ k21 => mv rfl <| mv rfl <| ya (lenD (rs := rs00) (xs := x00) (Rels.len hq00) und_36 rfl (mM rfl hf00)) <| ya (lss rfl rfl) <| dz k21 <| cI h rfl (fun hc22 h => ?_) fun hc22 h => ?_
  ·refine ss <| k20 _ _ <| sq fun _ k23 => bl <| sr fun _ k24 => bd h fun x25 hx25 h => mv rfl <| mv rfl ?_
   obtain ⟨⟨_, r_26_0⟩, hr27, rfl, hq28_0⟩ := Rels.idx hq00 hx25
   refine ya (idxC (xs := rs00) sty_36 rfl rfl (mM rfl hf00) hr27) <| ya (fieldAddrC Tryz.underlying57 rfl nz_55 rfl rfl) <| ya (loadAP (xs := rs00) (j := 1) agg_55 rfl (mM rfl hf00) hr27 rfl rfl) <| al 129 zr_55 fun g29 => sb 129 agg_55 rfl rfl rfl <| dz k24 <| sr fun _ k30 => ya (fieldAddr Tryz.underlying55 rfl nz_4 rfl rfl) <| ya (loadB (k := 129) scal_4 rfl rfl rfl) <| dz k30 <| cnd h rfl id Bool.eq_false_iff.2 (fun hc31 h => ?_) fun hc31 h => ?_
   ·refine rg fun _ k32 => bd h fun x33 hx33 h => mv rfl <| ya (fieldAddr Tryz.underlying55 rfl nz_53 rfl rfl) <| ya (loadB (k := 129) scal_53 rfl rfl rfl) <| c1 137 Tryz.func53 rfl (fun w hb hh => w_r08_Drop (Mem.snap w) A13 n14 c15 _ (RdH.sn (rO 112 rfl) w hb hh) x25.fNeedle.fKey hx33) fun A38 n39 c40 => ak rfl k32 <| bn <| tn <| k23 _ _ <| rg fun _ k41 => bd h fun x42 hx42 h => mv rfl <| ya (addC rfl rfl hx42) <| ak rfl k41 <| tn <| KK.move 137 112 rfl rfl <| kw (k19 ⟨A38, n39, c40, x33, x42⟩ h)
   refine rd [(0, _), (112, _), (129, _)] mixed fun _ k43 => ?_
   obtain ⟨x44, hx44, h⟩ := bnd h
   obtain ⟨x48, hx48, h⟩ := bnd h
   refine dm 0 rfl rfl <| du 1 rfl (fieldAddr Tryz.underlying55 rfl nz_53 rfl rfl) <| du 2 rfl (loadB (k := 129) scal_53 rfl rfl rfl) <| du 3 rfl (fieldAddr Tryz.underlying55 rfl nz_24 rfl rfl) <| du 4 rfl (loadB (k := 129) scal_24 rfl rfl rfl) <| dm 5 rfl rfl <| dm 6 rfl rfl ?_
   obtain ⟨⟨_, r_45_0⟩, hr46, rfl, hq47_0⟩ := Rels.idx hq00 hx44
   refine du 7 rfl (idxC (xs := rs00) sty_36 rfl rfl (mM rfl hf00) hr46) <| du 8 rfl (fieldAddrC Tryz.underlying57 rfl nz_2 rfl rfl) <| du 9 rfl (loadC (xs := rs00) (j := 0) scal_2 rfl (mM rfl hf00) hr46 rfl rfl) <| du 10 rfl (fieldAddr Tryz.underlying55 rfl nz_35 rfl rfl) <| du 11 rfl (loadB (k := 129) scal_35 rfl rfl rfl) <| du 12 rfl (lenC (xs := x25.fNeedle.fData) und_35 rfl (mM rfl hq28_0)) <| du 13 rfl (build rfl (bu_59_0_1_2_3 x25.fNeedle.fKey x25.fNeedle.fCookie x44.fOff (x25.fNeedle.fData.length : Int))) <| on 14 <| WS.eff rfl (by decide) (Eff.callS 152 rfl Tryz.func54 nm_54 rfl rfl (fun w hb hh => w_r08_Put (Mem.snap w) A13 n14 c15 _ (RdH.sn (rO 112 rfl) w hb hh) x25.fNeedle.fKey x25.fNeedle.fCookie x44.fOff (x25.fNeedle.fData.length : Int) hx48)) ?_
   rintro _ _ ⟨_, ⟨A53, n54, c55, rfl, rfl⟩, rfl⟩
   refine aq ?_
   refine du 15 rfl (Yld.assign rfl) <| dd <| k43 _ _ <| bn <| tn <| k23 _ _ <| rg fun _ k56 => bd h fun x57 hx57 h => mv rfl <| ya (addC rfl rfl hx57) <| ak rfl k56 <| tn <| KK.move 152 112 rfl rfl <| kw (k19 ⟨A53, n54, c55, x48, x57⟩ h)
  exact xi <| te <| te <| bx <| tn <| KK.move 112 104 rfl rfl <| kw (k9 ⟨A13, n14, c15, x16⟩ h)
 rintro ⟨A5, n6, c7, x8⟩ h
 unfold m_r09_Items_j0 at h
 refine sr fun _ k58 => mv rfl <| ak rfl k58 <| re ?_
 obtain rfl := si h
 exact rt [104] (ResIs.one rfl rfl) (Ext.refl _ _) ⟨A5, n6, c7, rfl, rfl⟩
end Go.Proofs.YtcncappgheopgaaGreat
