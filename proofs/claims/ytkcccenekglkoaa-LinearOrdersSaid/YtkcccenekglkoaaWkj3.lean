/-
 Walks (j3): what a function's model gives, the function returns. Printed by a program of ours (vcm.py) from the function's operations. Conditions: as each theorem says.
-/
import Derived.Test.YtkcccenekglkoaaWki
import Derived.Test.YtkcccenekglkoaaMdj3
namespace Go.Proofs.Ytkcccenekglkoaa
set_option maxRecDepth 10000
open Go Go.RowKit
set_option linter.unusedVariables false
theorem und_34 : Try.prog.underlying 34 = some (.slice 25) := by kernel_rfl
theorem nm_11 : (Try.f11.name == "runtime.NumGoroutine") = false := by kernel_rfl
theorem nm_17 : (Try.f17.name == "runtime.NumGoroutine") = false := by kernel_rfl
theorem nm_18 : (Try.f18.name == "runtime.NumGoroutine") = false := by kernel_rfl
theorem nm_9 : (Try.f9.name == "runtime.NumGoroutine") = false := by kernel_rfl
theorem sty_34 : STy Try.prog 34 25 (.agg #[(.bool false), (U32 0#32), (.slice none 0 0)]) 3 32 := STy.of und_34 (by kernel_rfl) rfl
structure Rneedlestoreref25_State where
 x : Sneedlestoreref25_State
 h0 : Hdr
instance : Lay Rneedlestoreref25_State := ⟨3, fun r => [.bool r.x.fHas, U32 r.x.fCookie, .slice r.h0.A r.h0.n r.h0.c], fun _ => rfl, fun _ u h => by simp only [List.mem_cons, List.not_mem_nil, or_false] at h; rcases h with rfl | rfl | rfl <;> rfl, by decide⟩
def rel_needlestoreref25_State (M : Mem) (r : Rneedlestoreref25_State) (x : Sneedlestoreref25_State) : Prop := x = r.x /\ (RelB (α := BitVec 8)) M r.h0 x.fData
instance : Mono rel_needlestoreref25_State := ⟨fun ⟨h0, h1⟩ hm => ⟨h0, Mono.mono h1 hm⟩⟩
theorem w_law25_LinearOrders (M0 : Mem) (A00 : Option Addr) (n00 c00 : Nat) (rs00 : List Rneedlestoreref24_Op) (x00 : List (Sneedlestoreref24_Op)) (hf00 : SlT M0 A00 n00 c00 rs00) (hq00 : Rels (rel_needlestoreref24_Op M0) rs00 x00) (A01 : Option Addr) (n01 c01 : Nat) (x01 : List (Sneedlestorelaw25_Act)) (hf01 : SlT M0 A01 n01 c01 x01) (A02 : Option Addr) (n02 c02 : Nat) (x02 : List (BitVec 8)) (hf02 : SlT M0 A02 n02 c02 x02) (x03_0 : Bool) (x03_1 : BitVec 32) (A03_2 : Option Addr) (n03_2 c03_2 : Nat) (x03_2 : List (BitVec 8)) (hf03_2 : SlT M0 A03_2 n03_2 c03_2 x03_2) {res : Bool} (h : m_law25_LinearOrders x00 x01 x02 x03_0 x03_1 x03_2 = some res) :
  Fn Try.prog 6 #[.slice A00 n00 c00, .slice A01 n01 c01, .slice A02 n02 c02, .agg ([.bool x03_0, U32 x03_1, .slice A03_2 n03_2 c03_2] : List Value).toArray] M0 fun r M' es => r = .bool res /\ es = [] := by
 refine Fn.intro (N := 140) Try.func6 rfl rfl (Nat.le_of_ble_eq_true rfl) fun w0 => ?_
 unfold m_law25_LinearOrders at h
 refine sr fun _ k1 => bb 102 [.bool x03_0, U32 x03_1, .slice A03_2 n03_2 c03_2] rfl fun g2 => asn rfl <| dn <| k1 _ _ <| ct (σ := Unit) (fun _ => [(0, .slice A00 n00 c00), (1, .slice A01 n01 c01), (2, .slice A02 n02 c02), (7, .pointer (some ⟨g2, 0, none⟩))]) (fun _ => [(0, .mem M0), (102, .blk g2 25 [.bool x03_0, U32 x03_1, .slice A03_2 n03_2 c03_2])]) (fun _ => m_law25_LinearOrders_j0 x00 x01 x02 x03_0 x03_1 x03_2 = some res) (fun _ k3 => ?_) ?_
 ·refine sr fun _ k4 => mv rfl <| ya (Yld.lenD (rs := rs00) (xs := x00) (Rels.len hq00) und_32 rfl (RdH.memM (k := 0) rfl hf00)) <| ya (Yld.gtr rfl rfl) <| mv rfl <| spl h decide_eq_true decide_eq_false (fun hc5 h => ?_) fun hc5 h => ?_
  ·refine sk <| sk <| sk <| sk <| pt rfl rfl <| dn <| k4 _ _ <| cdT rfl <| sr fun _ k6 => ?_
   obtain ⟨x7, hx7, h⟩ := bnd h
   refine c0 Try.func8 rfl (fun w hb hh => w_law25_awake (Mem.snap w) hx7) <| asn rfl <| dn <| k6 _ _ <| re <| tr ?_
   injection h with h; subst h
   exact rt0 (ResIs.one rfl rfl)
  refine yg (Yld.fieldAddr Try.underlying25 rfl nz_23 rfl rfl) <| yg (Yld.loadB (k := 102) scal_23 rfl rfl rfl) <| yg (Yld.lenC (xs := x03_2) und_23 rfl (RdH.memM (k := 0) rfl hf03_2)) <| yg (Yld.gtr rfl rfl) <| pf rfl rfl <| dn <| k4 _ _ <| cnd h rfl decide_eq_true decide_eq_false (fun hc9 h => ?_) fun hc9 h => ?_
  ·refine sr fun _ k10 => ?_
   obtain ⟨x11, hx11, h⟩ := bnd h
   refine c0 Try.func8 rfl (fun w hb hh => w_law25_awake (Mem.snap w) hx11) <| asn rfl <| dn <| k10 _ _ <| re <| tr ?_
   injection h with h; subst h
   exact rt0 (ResIs.one rfl rfl)
  exact WC.skip <| tn <| kw (k3 () h)
 rintro _ h
 unfold m_law25_LinearOrders_j0 at h
 refine sr fun _ k13 => asn rfl <| dn <| k13 _ _ <| ct (σ := Int) (fun x14 => [(0, .slice A00 n00 c00), (1, .slice A01 n01 c01), (2, .slice A02 n02 c02), (7, .pointer (some ⟨g2, 0, none⟩)), (9, I64 x14)]) (fun x14 => [(0, .mem M0), (102, .blk g2 25 [.bool x03_0, U32 x03_1, .slice A03_2 n03_2 c03_2])]) (fun x14 => m_law25_LinearOrders_j1 x00 x01 x02 x03_0 x03_1 x03_2 x14 = some res) (fun _ k15 => ?_) ?_
 ·refine sr fun _ k16 => mv rfl <| ya (Yld.lenD (rs := rs00) (xs := x00) (Rels.len hq00) und_32 rfl (RdH.memM (k := 0) rfl hf00)) <| mv rfl <| dn <| k16 _ _ <| bl <| lp (τ := Int × Int) (fun ⟨x17, x18⟩ => [(0, .slice A00 n00 c00), (1, .slice A01 n01 c01), (2, .slice A02 n02 c02), (7, .pointer (some ⟨g2, 0, none⟩)), (9, I64 x17), (31, I64 (x00.length : Int)), (32, I64 x18)]) (fun ⟨x17, x18⟩ => [(0, .mem M0), (102, .blk g2 25 [.bool x03_0, U32 x03_1, .slice A03_2 n03_2 c03_2])]) (fun q19 ⟨x17, x18⟩ => m_law25_LinearOrders_l2 x00 x01 x02 x03_0 x03_1 x03_2 q19 x17 x18 = some res) ⟨(0 : Int), (0 : Int)⟩ ?_ (by simp [m_law25_LinearOrders_l2]) ?_
  ·exact h
  rintro q19 ⟨x17, x18⟩ h _ k20
  unfold m_law25_LinearOrders_l2 at h
  refine sr fun _ k21 => ya (Yld.lss rfl rfl) <| dn <| k21 _ _ <| sq fun _ k22 => cnd h rfl decide_eq_true decide_eq_false (fun hc23 h => ?_) fun hc23 h => ?_
  ·refine ss <| k22 _ _ <| sq fun _ k24 => bl <| sr fun _ k25 => mv rfl <| asn rfl <| dn <| k25 _ _ <| sq fun _ k26 => sr fun _ k27 => ?_
   obtain ⟨x28, hx28, h⟩ := bnd h
   refine mv rfl <| mv rfl ?_
   obtain ⟨⟨_, r_29_0, r_29_1⟩, hr30, rfl, hq31_0, hq31_1⟩ := Rels.idx hq00 hx28
   refine ya (Yld.idxC (xs := rs00) sty_32 rfl rfl (RdH.memM (k := 0) rfl hf00) hr30) <| ya (Yld.fieldAddrC Try.underlying29 rfl nz_23 rfl rfl) <| ya (Yld.loadC (xs := rs00) (j := 4) scal_23 rfl (RdH.memM (k := 0) rfl hf00) hr30 rfl rfl) <| ya (Yld.lenC (xs := x28.fData) und_23 rfl (RdH.memM (k := 0) rfl hq31_0)) <| ya (Yld.gtr rfl rfl) <| mv rfl <| spl h decide_eq_true decide_eq_false (fun hc32 h => ?_) fun hc32 h => ?_
   ·refine sk <| sk <| sk <| sk <| sk <| sk <| sk <| pt rfl rfl <| dn <| k27 _ _ <| cdT rfl <| sr fun _ k33 => ?_
    obtain ⟨x34, hx34, h⟩ := bnd h
    refine c0 Try.func8 rfl (fun w hb hh => w_law25_awake (Mem.snap w) hx34) <| asn rfl <| dn <| k33 _ _ <| re <| tr <| br <| tr <| tr <| br <| tr ?_
    injection h with h; subst h
    exact rt0 (ResIs.one rfl rfl)
   obtain ⟨x36, hx36, h⟩ := bnd h
   refine mvg rfl <| mvg rfl ?_
   obtain ⟨⟨_, r_37_0, r_37_1⟩, hr38, rfl, hq39_0, hq39_1⟩ := Rels.idx hq00 hx36
   refine yg (Yld.idxC (xs := rs00) sty_32 rfl rfl (RdH.memM (k := 0) rfl hf00) hr38) <| yg (Yld.fieldAddrC Try.underlying29 rfl nz_23 rfl rfl) <| yg (Yld.loadC (xs := rs00) (j := 5) scal_23 rfl (RdH.memM (k := 0) rfl hf00) hr38 rfl rfl) <| yg (Yld.lenC (xs := x36.fGot) und_23 rfl (RdH.memM (k := 0) rfl hq39_1)) <| yg (Yld.gtr rfl rfl) <| pf rfl rfl <| dn <| k27 _ _ <| cnd h rfl decide_eq_true decide_eq_false (fun hc40 h => ?_) fun hc40 h => ?_
   ·refine sr fun _ k41 => ?_
    obtain ⟨x42, hx42, h⟩ := bnd h
    refine c0 Try.func8 rfl (fun w hb hh => w_law25_awake (Mem.snap w) hx42) <| asn rfl <| dn <| k41 _ _ <| re <| tr <| br <| tr <| tr <| br <| tr ?_
    injection h with h; subst h
    exact rt0 (ResIs.one rfl rfl)
   refine ss <| k26 _ _ <| rg fun _ k44 => ?_
   obtain ⟨x45, hx45, h⟩ := bnd h
   refine mv rfl <| ya (Yld.addC rfl rfl hx45) <| asn rfl <| dn <| k44 _ _ <| bn <| tn <| k24 _ _ <| rg fun _ k46 => ?_
   obtain ⟨x47, hx47, h⟩ := bnd h
   exact ya (Yld.addC rfl rfl hx47) <| mv rfl <| dn <| k46 _ _ <| tn <| kw (k20 ⟨x45, x47⟩ h)
  exact xi <| te <| te <| bx <| tn <| kw (k15 x17 h)
 rintro x14 h
 unfold m_law25_LinearOrders_j1 at h
 refine sd [(102, _)] mixed fun _ k48 => ?_
 obtain ⟨x49, hx49, h⟩ := bnd h
 obtain ⟨x67, hx67, h⟩ := bnd h
 obtain ⟨x82, hx82, h⟩ := bnd h
 refine dm 0 rfl rfl <| du 2 rfl (Yld.loadBM (k := 102) agg_25 rfl rfl rfl) <| on 1 <| WS.eff rfl (by decide) (Eff.callM 155 rfl Try.func18 nm_18 rfl rfl rfl (w_law25_ops _ A00 n00 c00 rs00 _ hf00 hq00 hx49)) ?_
 rintro _ _ ⟨M61, _, ⟨A62, n63, c64, rs65, rfl, rfl, hq66⟩, hm_M61, rfl⟩
 refine ad ?_ (by repeat (first | exact sn | refine sc ?_))
 refine on 3 <| WS.eff rfl (by decide) (Eff.callM 172 rfl Try.func11 nm_11 rfl rfl rfl (w_law25_state _ x03_0 x03_1 A03_2 n03_2 c03_2 _ (SlRc.lift hf03_2 hm_M61) hx67)) ?_
 rintro _ _ ⟨M77, _, ⟨A78, n79, c80, rfl, rfl, hf81⟩, hm_M77, rfl⟩
 refine ad ?_ (by repeat (first | exact sn | refine sc ?_))
 refine on 4 <| WS.freeze 155 rfl rfl rfl rfl rfl fun M92 hm_M92 hf93 => WS.eff rfl (by decide) (Eff.callM 187 rfl Try.func17 nm_17 rfl rfl rfl (w_linear_Order _ A62 n63 c64 rs65 _ hf93 (Rels.lift (Rels.lift hq66 hm_M77) hm_M92) x67.1 x67.2.1 A78 n79 c80 _ (SlRc.lift hf81 hm_M92) hx82)) ?_
 rintro _ _ ⟨M94, _, ⟨A95, n96, c97, rfl, rfl, hf98⟩, hm_M94, rfl⟩
 refine ad ?_ (by repeat (first | exact sn | refine sc ?_))
 refine dm 5 rfl rfl <| du 6 rfl (Yld.extract rfl rfl) <| du 7 rfl (Yld.extract rfl rfl) <| du 8 rfl (Yld.extract rfl rfl) <| du 9 rfl (Yld.assign rfl) <| du 10 rfl (Yld.assign rfl) <| du 11 rfl (Yld.assign rfl) <| dd <| k48 _ _ <| ct (σ := Unit) (fun _ => [(1, .slice A01 n01 c01), (2, .slice A02 n02 c02)]) (fun _ => [(0, .mem M94)]) (fun _ => m_law25_LinearOrders_j3 x01 x02 = some res) (fun _ k99 => ?_) ?_
 ·refine sr fun _ k100 => ?_
  obtain ⟨x101, hx101, h⟩ := bnd h
  refine mv rfl <| c0 Try.func19 rfl (fun w hb hh => w_r24_Valid (Mem.snap w) A00 n00 c00 rs00 _ (RdH.sn (RdH.memM (k := 0) rfl (SlRc.lift (SlRc.lift (SlRc.lift (SlRc.lift hf00 hm_M61) hm_M77) hm_M92) hm_M94)) w hb hh) (Rels.sn (Rels.lift (Rels.lift (Rels.lift (Rels.lift hq00 hm_M61) hm_M77) hm_M92) hm_M94) (hh.sat 0 _ rfl)) hx101) <| ya (Yld.notB rfl) <| dn <| k100 _ _ <| cnn h rfl not_f (fun q => not_t (Bool.eq_false_iff.2 q)) (fun hc103 h => ?_) fun hc103 h => ?_
  ·refine sr fun _ k104 => mv rfl <| ya (Yld.gtr rfl rfl) <| dn <| k104 _ _ <| cnd h rfl decide_eq_true decide_eq_false (fun hc105 h => ?_) fun hc105 h => ?_
   ·refine sr fun _ k106 => mv rfl <| ya (Yld.neqI rfl rfl) <| mv rfl <| spn h bne_eq_false_iff_eq.2 bne_iff_ne.2 (fun hc107 h => ?_) fun hc107 h => ?_
    ·refine mvg rfl <| pf rfl rfl <| mv rfl <| spl h id Bool.eq_false_iff.2 (fun hc108 h => ?_) fun hc108 h => ?_
     ·refine sk <| sk <| sk <| pt rfl rfl <| dn <| k106 _ _ <| cdT rfl <| sr fun _ k109 => asn rfl <| dn <| k109 _ _ <| re <| tr ?_
      injection h with h; subst h
      exact rt [] (ResIs.one rfl rfl) (Ext.trans (Ext.trans (Ext.trans hm_M61 hm_M77) hm_M92) hm_M94) ⟨rfl, rfl⟩
     refine mvg rfl <| yg (Yld.lenC (xs := x82.1) und_51 rfl (RdH.memM (k := 0) rfl hf98)) <| yg (Yld.gtr rfl rfl) <| pf rfl rfl <| dn <| k106 _ _ <| cnd h rfl decide_eq_true decide_eq_false (fun hc110 h => ?_) fun hc110 h => ?_
     ·refine sr fun _ k111 => asn rfl <| dn <| k111 _ _ <| re <| tr ?_
      injection h with h; subst h
      exact rt [] (ResIs.one rfl rfl) (Ext.trans (Ext.trans (Ext.trans hm_M61 hm_M77) hm_M92) hm_M94) ⟨rfl, rfl⟩
     exact WC.skip <| tn <| kw (k99 () h)
    refine sk <| pt rfl rfl <| mv rfl <| sk <| sk <| sk <| pt rfl rfl <| dn <| k106 _ _ <| cdT rfl <| sr fun _ k112 => asn rfl <| dn <| k112 _ _ <| re <| tr ?_
    injection h with h; subst h
    exact rt [] (ResIs.one rfl rfl) (Ext.trans (Ext.trans (Ext.trans hm_M61 hm_M77) hm_M92) hm_M94) ⟨rfl, rfl⟩
   exact WC.skip <| tn <| kw (k99 () h)
  refine sr fun _ k113 => mv rfl <| ya (Yld.neqI rfl rfl) <| mv rfl <| spn h bne_eq_false_iff_eq.2 bne_iff_ne.2 (fun hc114 h => ?_) fun hc114 h => ?_
  ·refine mvg rfl <| pf rfl rfl <| mv rfl <| spl h id Bool.eq_false_iff.2 (fun hc115 h => ?_) fun hc115 h => ?_
   ·refine sk <| sk <| sk <| pt rfl rfl <| dn <| k113 _ _ <| cdT rfl <| sr fun _ k116 => asn rfl <| dn <| k116 _ _ <| re <| tr ?_
    injection h with h; subst h
    exact rt [] (ResIs.one rfl rfl) (Ext.trans (Ext.trans (Ext.trans hm_M61 hm_M77) hm_M92) hm_M94) ⟨rfl, rfl⟩
   refine mvg rfl <| yg (Yld.lenC (xs := x82.1) und_51 rfl (RdH.memM (k := 0) rfl hf98)) <| yg (Yld.gtr rfl rfl) <| pf rfl rfl <| dn <| k113 _ _ <| cnd h rfl decide_eq_true decide_eq_false (fun hc117 h => ?_) fun hc117 h => ?_
   ·refine sr fun _ k118 => asn rfl <| dn <| k118 _ _ <| re <| tr ?_
    injection h with h; subst h
    exact rt [] (ResIs.one rfl rfl) (Ext.trans (Ext.trans (Ext.trans hm_M61 hm_M77) hm_M92) hm_M94) ⟨rfl, rfl⟩
   exact WC.skip <| tn <| kw (k99 () h)
  refine sk <| pt rfl rfl <| mv rfl <| sk <| sk <| sk <| pt rfl rfl <| dn <| k113 _ _ <| cdT rfl <| sr fun _ k119 => asn rfl <| dn <| k119 _ _ <| re <| tr ?_
  injection h with h; subst h
  exact rt [] (ResIs.one rfl rfl) (Ext.trans (Ext.trans (Ext.trans hm_M61 hm_M77) hm_M92) hm_M94) ⟨rfl, rfl⟩
 rintro _ h
 unfold m_law25_LinearOrders_j3 at h
 refine sr fun _ k120 => ?_
 obtain ⟨x121, hx121, h⟩ := bnd h
 refine mv rfl <| mv rfl <| WL.eff (by decide) (Eff.callM 227 rfl Try.func9 nm_9 rfl rfl rfl (w_law25_random _ A01 n01 c01 _ (SlRc.lift (SlRc.lift (SlRc.lift (SlRc.lift hf01 hm_M61) hm_M77) hm_M92) hm_M94) A02 n02 c02 _ (SlRc.lift (SlRc.lift (SlRc.lift (SlRc.lift hf02 hm_M61) hm_M77) hm_M92) hm_M94) hx121)) ?_
 rintro _ _ ⟨M133, _, ⟨A134, n135, c136, rs137, rfl, rfl, hq138⟩, hm_M133, rfl⟩
 refine asn rfl <| dn <| k120 _ _ <| ct (σ := Mem) (fun M139 => []) (fun M139 => [(0, .mem M139)]) (fun M139 => m_law25_LinearOrders_j4 = some res /\ Ext w0.heap.size M133 M139) (fun _ k140 => ?_) ?_
 ·refine sr fun _ k141 => ya (Yld.build rfl (bu_25_)) <| WL.eff (by decide) (Eff.buildC 242 ([1#8] : List (BitVec 8)) sty_23 rfl rfl rfl rfl rfl (by decide)) ?_
  rintro _ _ ⟨g142, rfl, rfl⟩
  refine ya (Yld.build rfl (bu_25_0_1_2 true 1#32 (some ⟨g142, 0, none⟩) (([1#8] : List (BitVec 8)).length) (([1#8] : List (BitVec 8)).length))) <| WL.freeze 242 rfl rfl rfl fun M144 hm_M144 hf145 => ?_
  have hq146 : Rels (rel_needlestoreref25_State M144) ([(Rneedlestoreref25_State.mk (Sneedlestoreref25_State.mk false 0#32 ([] : List (BitVec 8))) (⟨none, 0, 0⟩ : Hdr)), (Rneedlestoreref25_State.mk (Sneedlestoreref25_State.mk true 1#32 ([1#8] : List (BitVec 8))) (⟨(some ⟨g142, 0, none⟩), ([1#8] : List (BitVec 8)).length, ([1#8] : List (BitVec 8)).length⟩ : Hdr))] : List Rneedlestoreref25_State) ([(Sneedlestoreref25_State.mk false 0#32 ([] : List (BitVec 8))), (Sneedlestoreref25_State.mk true 1#32 ([1#8] : List (BitVec 8)))] : List (Sneedlestoreref25_State)) := (Rels.cons ⟨rfl, SlT.nil⟩ (Rels.cons ⟨rfl, hf145⟩ Rels.nil))
  refine WL.eff (by decide) (Eff.buildCA 243 ([(Rneedlestoreref25_State.mk (Sneedlestoreref25_State.mk false 0#32 ([] : List (BitVec 8))) (⟨none, 0, 0⟩ : Hdr)), (Rneedlestoreref25_State.mk (Sneedlestoreref25_State.mk true 1#32 ([1#8] : List (BitVec 8))) (⟨(some ⟨g142, 0, none⟩), ([1#8] : List (BitVec 8)).length, ([1#8] : List (BitVec 8)).length⟩ : Hdr))] : List Rneedlestoreref25_State) sty_34 rfl rfl rfl (by decide)) ?_
  rintro _ _ ⟨g143, rfl, rfl⟩
  refine ya (Yld.lenD (rs := ([(Rneedlestoreref25_State.mk (Sneedlestoreref25_State.mk false 0#32 ([] : List (BitVec 8))) (⟨none, 0, 0⟩ : Hdr)), (Rneedlestoreref25_State.mk (Sneedlestoreref25_State.mk true 1#32 ([1#8] : List (BitVec 8))) (⟨(some ⟨g142, 0, none⟩), ([1#8] : List (BitVec 8)).length, ([1#8] : List (BitVec 8)).length⟩ : Hdr))] : List Rneedlestoreref25_State)) (xs := ([(Sneedlestoreref25_State.mk false 0#32 ([] : List (BitVec 8))), (Sneedlestoreref25_State.mk true 1#32 ([1#8] : List (BitVec 8)))] : List (Sneedlestoreref25_State))) (Rels.len hq146) und_34 rfl (RdH.own (k := 243) rfl)) <| mv rfl <| dn <| k141 _ _ <| bl <| WC.freeze 227 rfl rfl rfl fun M159 hm_M159 hf160 => lp (τ := Mem × (Option Addr) × Nat × Nat × (List (Sneedlestoreref24_Op)) × (List Rneedlestoreref24_Op) × Int) (fun ⟨M149, A150, n151, c152, x153, rs155, x157⟩ => [(14, .slice A150 n151 c152), (95, .slice (some ⟨g143, 0, none⟩) (([(Rneedlestoreref25_State.mk (Sneedlestoreref25_State.mk false 0#32 ([] : List (BitVec 8))) (⟨none, 0, 0⟩ : Hdr)), (Rneedlestoreref25_State.mk (Sneedlestoreref25_State.mk true 1#32 ([1#8] : List (BitVec 8))) (⟨(some ⟨g142, 0, none⟩), ([1#8] : List (BitVec 8)).length, ([1#8] : List (BitVec 8)).length⟩ : Hdr))] : List Rneedlestoreref25_State).length) (([(Rneedlestoreref25_State.mk (Sneedlestoreref25_State.mk false 0#32 ([] : List (BitVec 8))) (⟨none, 0, 0⟩ : Hdr)), (Rneedlestoreref25_State.mk (Sneedlestoreref25_State.mk true 1#32 ([1#8] : List (BitVec 8))) (⟨(some ⟨g142, 0, none⟩), ([1#8] : List (BitVec 8)).length, ([1#8] : List (BitVec 8)).length⟩ : Hdr))] : List Rneedlestoreref25_State).length)), (96, I64 (([(Sneedlestoreref25_State.mk false 0#32 ([] : List (BitVec 8))), (Sneedlestoreref25_State.mk true 1#32 ([1#8] : List (BitVec 8)))] : List (Sneedlestoreref25_State)).length : Int)), (97, I64 x157)]) (fun ⟨M149, A150, n151, c152, x153, rs155, x157⟩ => [(0, .mem M149), (243, .own 25 (Lay.sz Rneedlestoreref25_State) (some ⟨g143, 0, none⟩) (([(Rneedlestoreref25_State.mk (Sneedlestoreref25_State.mk false 0#32 ([] : List (BitVec 8))) (⟨none, 0, 0⟩ : Hdr)), (Rneedlestoreref25_State.mk (Sneedlestoreref25_State.mk true 1#32 ([1#8] : List (BitVec 8))) (⟨(some ⟨g142, 0, none⟩), ([1#8] : List (BitVec 8)).length, ([1#8] : List (BitVec 8)).length⟩ : Hdr))] : List Rneedlestoreref25_State).length) (([(Rneedlestoreref25_State.mk (Sneedlestoreref25_State.mk false 0#32 ([] : List (BitVec 8))) (⟨none, 0, 0⟩ : Hdr)), (Rneedlestoreref25_State.mk (Sneedlestoreref25_State.mk true 1#32 ([1#8] : List (BitVec 8))) (⟨(some ⟨g142, 0, none⟩), ([1#8] : List (BitVec 8)).length, ([1#8] : List (BitVec 8)).length⟩ : Hdr))] : List Rneedlestoreref25_State).length) (cel ([(Rneedlestoreref25_State.mk (Sneedlestoreref25_State.mk false 0#32 ([] : List (BitVec 8))) (⟨none, 0, 0⟩ : Hdr)), (Rneedlestoreref25_State.mk (Sneedlestoreref25_State.mk true 1#32 ([1#8] : List (BitVec 8))) (⟨(some ⟨g142, 0, none⟩), ([1#8] : List (BitVec 8)).length, ([1#8] : List (BitVec 8)).length⟩ : Hdr))] : List Rneedlestoreref25_State)))]) (fun q158 ⟨M149, A150, n151, c152, x153, rs155, x157⟩ => m_law25_LinearOrders_l5 q158 x153 x157 = some res /\ Ext w0.heap.size M144 M149 /\ SlT M149 A150 n151 c152 rs155 /\ Rels (rel_needlestoreref24_Op M149) rs155 x153) ⟨M159, A134, n135, c136, x121, rs137, (0 : Int)⟩ ?_ (by simp [m_law25_LinearOrders_l5]) ?_
  ·exact ⟨h, hm_M159, hf160, (Rels.lift (Rels.lift hq138 hm_M144) hm_M159)⟩
  rintro q158 ⟨M149, A150, n151, c152, x153, rs155, x157⟩ ⟨h, hm_M149, hf154, hq156⟩ _ k161
  unfold m_law25_LinearOrders_l5 at h
  refine sr fun _ k162 => ya (Yld.lss rfl rfl) <| dn <| k162 _ _ <| sq fun _ k163 => cnd h rfl decide_eq_true decide_eq_false (fun hc164 h => ?_) fun hc164 h => ?_
  ·refine ss <| k163 _ _ <| sq fun _ k165 => bl <| sr fun _ k166 => ?_
   obtain ⟨x167, hx167, h⟩ := bnd h
   obtain ⟨⟨_, r_168_0⟩, hr169, rfl, hq170_0⟩ := Rels.idx (Rels.lift hq146 hm_M149) hx167
   refine ya (Yld.idxC (xs := ([(Rneedlestoreref25_State.mk (Sneedlestoreref25_State.mk false 0#32 ([] : List (BitVec 8))) (⟨none, 0, 0⟩ : Hdr)), (Rneedlestoreref25_State.mk (Sneedlestoreref25_State.mk true 1#32 ([1#8] : List (BitVec 8))) (⟨(some ⟨g142, 0, none⟩), ([1#8] : List (BitVec 8)).length, ([1#8] : List (BitVec 8)).length⟩ : Hdr))] : List Rneedlestoreref25_State)) sty_34 rfl rfl (RdH.own (k := 243) rfl) hr169) <| ya (Yld.loadA (xs := ([(Rneedlestoreref25_State.mk (Sneedlestoreref25_State.mk false 0#32 ([] : List (BitVec 8))) (⟨none, 0, 0⟩ : Hdr)), (Rneedlestoreref25_State.mk (Sneedlestoreref25_State.mk true 1#32 ([1#8] : List (BitVec 8))) (⟨(some ⟨g142, 0, none⟩), ([1#8] : List (BitVec 8)).length, ([1#8] : List (BitVec 8)).length⟩ : Hdr))] : List Rneedlestoreref25_State)) agg_25 rfl (RdH.own (k := 243) rfl) hr169 rfl) <| al 271 zr_25 fun g171 => sb 271 agg_25 rfl rfl rfl <| dn <| k166 _ _ <| sd [(243, _), (271, _)] mixed fun _ k172 => ?_
   obtain ⟨x173, hx173, h⟩ := bnd h
   obtain ⟨x191, hx191, h⟩ := bnd h
   obtain ⟨x206, hx206, h⟩ := bnd h
   refine dm 0 rfl rfl <| du 2 rfl (Yld.loadBM (k := 271) agg_25 rfl rfl rfl) <| on 1 <| WS.eff rfl (by decide) (Eff.callM 279 rfl Try.func18 nm_18 rfl rfl rfl (w_law25_ops _ A150 n151 c152 rs155 _ hf154 hq156 hx173)) ?_
   rintro _ _ ⟨M185, _, ⟨A186, n187, c188, rs189, rfl, rfl, hq190⟩, hm_M185, rfl⟩
   refine ad ?_ (by repeat (first | exact sn | refine sc ?_))
   refine on 3 <| WS.eff rfl (by decide) (Eff.callM 296 rfl Try.func11 nm_11 rfl rfl rfl (w_law25_state _ x167.fHas x167.fCookie r_168_0.A r_168_0.n r_168_0.c _ (SlRc.lift hq170_0 hm_M185) hx191)) ?_
   rintro _ _ ⟨M201, _, ⟨A202, n203, c204, rfl, rfl, hf205⟩, hm_M201, rfl⟩
   refine ad ?_ (by repeat (first | exact sn | refine sc ?_))
   refine on 4 <| WS.freeze 279 rfl rfl rfl rfl rfl fun M216 hm_M216 hf217 => WS.eff rfl (by decide) (Eff.callM 311 rfl Try.func17 nm_17 rfl rfl rfl (w_linear_Order _ A186 n187 c188 rs189 _ hf217 (Rels.lift (Rels.lift hq190 hm_M201) hm_M216) x191.1 x191.2.1 A202 n203 c204 _ (SlRc.lift hf205 hm_M216) hx206)) ?_
   rintro _ _ ⟨M218, _, ⟨A219, n220, c221, rfl, rfl, hf222⟩, hm_M218, rfl⟩
   refine ad ?_ (by repeat (first | exact sn | refine sc ?_))
   refine dm 5 rfl rfl <| du 6 rfl (Yld.extract rfl rfl) <| du 7 rfl (Yld.extract rfl rfl) <| du 8 rfl (Yld.extract rfl rfl) <| du 9 rfl (Yld.assign rfl) <| du 10 rfl (Yld.assign rfl) <| du 11 rfl (Yld.assign rfl) <| dd <| k172 _ _ <| sr fun _ k223 => mv rfl <| ya (Yld.neqI rfl rfl) <| mv rfl <| spn h bne_eq_false_iff_eq.2 bne_iff_ne.2 (fun hc224 h => ?_) fun hc224 h => ?_
   ·obtain ⟨x225, hx225, h⟩ := bnd h
    refine mvg rfl <| mvg rfl <| yg (Yld.loadBM (k := 271) agg_25 rfl rfl rfl) <| c0g Try.func20 rfl (fun w hb hh => w_r25_Has (Mem.snap w) A150 n151 c152 rs155 _ (RdH.sn (RdH.memM (k := 0) rfl (SlRc.lift (SlRc.lift (SlRc.lift (SlRc.lift hf154 hm_M185) hm_M201) hm_M216) hm_M218)) w hb hh) (Rels.sn (Rels.lift (Rels.lift (Rels.lift (Rels.lift hq156 hm_M185) hm_M201) hm_M216) hm_M218) (hh.sat 0 _ rfl)) x167.fHas x167.fCookie r_168_0.A r_168_0.n r_168_0.c _ (RdH.sn (RdH.memM (k := 0) rfl (SlRc.lift (SlRc.lift (SlRc.lift (SlRc.lift hq170_0 hm_M185) hm_M201) hm_M216) hm_M218)) w hb hh) hx225) <| yg (Yld.neqB und_4 rfl rfl) <| pf rfl rfl <| mv rfl <| spn h neq_of_eq neq_of_ne (fun hc227 h => ?_) fun hc227 h => ?_
    ·refine mvg rfl <| mvg rfl <| spl h id Bool.eq_false_iff.2 (fun hc228 h => ?_) fun hc228 h => ?_
     ·obtain ⟨x229, hx229, h⟩ := bnd h
      refine mvg rfl <| yg (Yld.loadBM (k := 271) agg_25 rfl rfl rfl) <| mvg rfl <| c0g Try.func21 rfl (fun w hb hh => w_r25_Legal (Mem.snap w) A150 n151 c152 rs155 _ (RdH.sn (RdH.memM (k := 0) rfl (SlRc.lift (SlRc.lift (SlRc.lift (SlRc.lift hf154 hm_M185) hm_M201) hm_M216) hm_M218)) w hb hh) (Rels.sn (Rels.lift (Rels.lift (Rels.lift (Rels.lift hq156 hm_M185) hm_M201) hm_M216) hm_M218) (hh.sat 0 _ rfl)) x167.fHas x167.fCookie r_168_0.A r_168_0.n r_168_0.c _ (RdH.sn (RdH.memM (k := 0) rfl (SlRc.lift (SlRc.lift (SlRc.lift (SlRc.lift hq170_0 hm_M185) hm_M201) hm_M216) hm_M218)) w hb hh) A219 n220 c221 _ (RdH.sn (RdH.memM (k := 0) rfl hf222) w hb hh) hx229) <| yg (Yld.notB rfl) <| yg (Yld.pickT rfl rfl) <| pf rfl rfl <| mv rfl <| spn h not_f (fun q => not_t (Bool.eq_false_iff.2 q)) (fun hc231 h => ?_) fun hc231 h => ?_
      ·refine mvg rfl <| yg (Yld.notB rfl) <| mvg rfl <| spn h not_f (fun q => not_t (Bool.eq_false_iff.2 q)) (fun hc232 h => ?_) fun hc232 h => ?_
       ·refine sk <| sk <| sk <| yg (Yld.pickF rfl rfl) <| pf rfl rfl <| dn <| k223 _ _ <| cdF rfl <| WC.skip <| bn <| tn <| k165 _ _ <| rg fun _ k233 => ?_
        obtain ⟨x234, hx234, h⟩ := bnd h
        exact ya (Yld.addC rfl rfl hx234) <| mv rfl <| dn <| k233 _ _ <| tn <| kw (k161 ⟨M218, A150, n151, c152, x153, rs155, x234⟩ ⟨h, (Ext.trans (Ext.trans (Ext.trans (Ext.trans hm_M149 hm_M185) hm_M201) hm_M216) hm_M218), (SlRc.lift (SlRc.lift (SlRc.lift (SlRc.lift hf154 hm_M185) hm_M201) hm_M216) hm_M218), (Rels.lift (Rels.lift (Rels.lift (Rels.lift hq156 hm_M185) hm_M201) hm_M216) hm_M218)⟩)
       refine mvg rfl <| yg (Yld.lenC (xs := x206.1) und_51 rfl (RdH.memM (k := 0) rfl hf222)) <| yg (Yld.gtr rfl rfl) <| yg (Yld.pickT rfl rfl) <| pf rfl rfl <| dn <| k223 _ _ <| cnd h rfl decide_eq_true decide_eq_false (fun hc235 h => ?_) fun hc235 h => ?_
       ·refine sr fun _ k236 => asn rfl <| dn <| k236 _ _ <| re <| br <| tr <| tr <| br <| tr ?_
        injection h with h; subst h
        exact rt [] (ResIs.one rfl rfl) (Ext.trans (Ext.trans (Ext.trans (Ext.trans (Ext.trans (Ext.trans (Ext.trans (Ext.trans (Ext.trans (Ext.trans hm_M61 hm_M77) hm_M92) hm_M94) hm_M133) hm_M144) hm_M149) hm_M185) hm_M201) hm_M216) hm_M218) ⟨rfl, rfl⟩
       refine WC.skip <| bn <| tn <| k165 _ _ <| rg fun _ k237 => ?_
       obtain ⟨x238, hx238, h⟩ := bnd h
       exact ya (Yld.addC rfl rfl hx238) <| mv rfl <| dn <| k237 _ _ <| tn <| kw (k161 ⟨M218, A150, n151, c152, x153, rs155, x238⟩ ⟨h, (Ext.trans (Ext.trans (Ext.trans (Ext.trans hm_M149 hm_M185) hm_M201) hm_M216) hm_M218), (SlRc.lift (SlRc.lift (SlRc.lift (SlRc.lift hf154 hm_M185) hm_M201) hm_M216) hm_M218), (Rels.lift (Rels.lift (Rels.lift (Rels.lift hq156 hm_M185) hm_M201) hm_M216) hm_M218)⟩)
      refine sk <| sk <| sk <| WL.skipU (by decide) rfl <| WL.skipU (by decide) rfl <| WL.skipU (by decide) rfl <| sk <| pt rfl rfl <| dn <| k223 _ _ <| cdT rfl <| sr fun _ k239 => asn rfl <| dn <| k239 _ _ <| re <| br <| tr <| tr <| br <| tr ?_
      injection h with h; subst h
      exact rt [] (ResIs.one rfl rfl) (Ext.trans (Ext.trans (Ext.trans (Ext.trans (Ext.trans (Ext.trans (Ext.trans (Ext.trans (Ext.trans (Ext.trans hm_M61 hm_M77) hm_M92) hm_M94) hm_M133) hm_M144) hm_M149) hm_M185) hm_M201) hm_M216) hm_M218) ⟨rfl, rfl⟩
     refine sk <| sk <| sk <| sk <| sk <| yg (Yld.pickF rfl rfl) <| pf rfl rfl <| mv rfl <| mvg rfl <| yg (Yld.notB rfl) <| mvg rfl <| spn h not_f (fun q => not_t (Bool.eq_false_iff.2 q)) (fun hc240 h => ?_) fun hc240 h => ?_
     ·refine sk <| sk <| sk <| yg (Yld.pickF rfl rfl) <| pf rfl rfl <| dn <| k223 _ _ <| cdF rfl <| WC.skip <| bn <| tn <| k165 _ _ <| rg fun _ k241 => ?_
      obtain ⟨x242, hx242, h⟩ := bnd h
      exact ya (Yld.addC rfl rfl hx242) <| mv rfl <| dn <| k241 _ _ <| tn <| kw (k161 ⟨M218, A150, n151, c152, x153, rs155, x242⟩ ⟨h, (Ext.trans (Ext.trans (Ext.trans (Ext.trans hm_M149 hm_M185) hm_M201) hm_M216) hm_M218), (SlRc.lift (SlRc.lift (SlRc.lift (SlRc.lift hf154 hm_M185) hm_M201) hm_M216) hm_M218), (Rels.lift (Rels.lift (Rels.lift (Rels.lift hq156 hm_M185) hm_M201) hm_M216) hm_M218)⟩)
     refine mvg rfl <| yg (Yld.lenC (xs := x206.1) und_51 rfl (RdH.memM (k := 0) rfl hf222)) <| yg (Yld.gtr rfl rfl) <| yg (Yld.pickT rfl rfl) <| pf rfl rfl <| dn <| k223 _ _ <| cnd h rfl decide_eq_true decide_eq_false (fun hc243 h => ?_) fun hc243 h => ?_
     ·refine sr fun _ k244 => asn rfl <| dn <| k244 _ _ <| re <| br <| tr <| tr <| br <| tr ?_
      injection h with h; subst h
      exact rt [] (ResIs.one rfl rfl) (Ext.trans (Ext.trans (Ext.trans (Ext.trans (Ext.trans (Ext.trans (Ext.trans (Ext.trans (Ext.trans (Ext.trans hm_M61 hm_M77) hm_M92) hm_M94) hm_M133) hm_M144) hm_M149) hm_M185) hm_M201) hm_M216) hm_M218) ⟨rfl, rfl⟩
     refine WC.skip <| bn <| tn <| k165 _ _ <| rg fun _ k245 => ?_
     obtain ⟨x246, hx246, h⟩ := bnd h
     exact ya (Yld.addC rfl rfl hx246) <| mv rfl <| dn <| k245 _ _ <| tn <| kw (k161 ⟨M218, A150, n151, c152, x153, rs155, x246⟩ ⟨h, (Ext.trans (Ext.trans (Ext.trans (Ext.trans hm_M149 hm_M185) hm_M201) hm_M216) hm_M218), (SlRc.lift (SlRc.lift (SlRc.lift (SlRc.lift hf154 hm_M185) hm_M201) hm_M216) hm_M218), (Rels.lift (Rels.lift (Rels.lift (Rels.lift hq156 hm_M185) hm_M201) hm_M216) hm_M218)⟩)
    refine sk <| sk <| WL.skipU (by decide) rfl <| WL.skipU (by decide) rfl <| WL.skipU (by decide) rfl <| WL.skipU (by decide) rfl <| WL.skipU (by decide) rfl <| sk <| pt rfl rfl <| mv rfl <| sk <| sk <| sk <| WL.skipU (by decide) rfl <| WL.skipU (by decide) rfl <| WL.skipU (by decide) rfl <| sk <| pt rfl rfl <| dn <| k223 _ _ <| cdT rfl <| sr fun _ k247 => asn rfl <| dn <| k247 _ _ <| re <| br <| tr <| tr <| br <| tr ?_
    injection h with h; subst h
    exact rt [] (ResIs.one rfl rfl) (Ext.trans (Ext.trans (Ext.trans (Ext.trans (Ext.trans (Ext.trans (Ext.trans (Ext.trans (Ext.trans (Ext.trans hm_M61 hm_M77) hm_M92) hm_M94) hm_M133) hm_M144) hm_M149) hm_M185) hm_M201) hm_M216) hm_M218) ⟨rfl, rfl⟩
   refine sk <| sk <| sk <| sk <| sk <| pt rfl rfl <| mv rfl <| sk <| sk <| WL.skipU (by decide) rfl <| WL.skipU (by decide) rfl <| WL.skipU (by decide) rfl <| WL.skipU (by decide) rfl <| WL.skipU (by decide) rfl <| sk <| pt rfl rfl <| mv rfl <| sk <| sk <| sk <| WL.skipU (by decide) rfl <| WL.skipU (by decide) rfl <| WL.skipU (by decide) rfl <| sk <| pt rfl rfl <| dn <| k223 _ _ <| cdT rfl <| sr fun _ k248 => asn rfl <| dn <| k248 _ _ <| re <| br <| tr <| tr <| br <| tr ?_
   injection h with h; subst h
   exact rt [] (ResIs.one rfl rfl) (Ext.trans (Ext.trans (Ext.trans (Ext.trans (Ext.trans (Ext.trans (Ext.trans (Ext.trans (Ext.trans (Ext.trans hm_M61 hm_M77) hm_M92) hm_M94) hm_M133) hm_M144) hm_M149) hm_M185) hm_M201) hm_M216) hm_M218) ⟨rfl, rfl⟩
  exact xi <| te <| te <| bx <| tn <| kw (k140 M149 ⟨h, (Ext.trans hm_M144 hm_M149)⟩)
 rintro M139 ⟨h, hm_M139⟩
 unfold m_law25_LinearOrders_j4 at h
 refine sr fun _ k249 => ?_
 obtain ⟨x250, hx250, h⟩ := bnd h
 refine c0 Try.func8 rfl (fun w hb hh => w_law25_awake (Mem.snap w) hx250) <| asn rfl <| dn <| k249 _ _ <| re ?_
 injection h with h; subst h
 exact rt [] (ResIs.one rfl rfl) (Ext.trans (Ext.trans (Ext.trans (Ext.trans (Ext.trans hm_M61 hm_M77) hm_M92) hm_M94) hm_M133) hm_M139) ⟨rfl, rfl⟩
end Go.Proofs.Ytkcccenekglkoaa
