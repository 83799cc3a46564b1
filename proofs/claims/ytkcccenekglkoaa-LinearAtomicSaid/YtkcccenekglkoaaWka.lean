/-
 Walks (a): what a function's model gives, the function returns. Printed by a program of ours (vcm.py) from the function's operations. Conditions: as each theorem says.
-/
import Derived.Test.YtkcccenekglkoaaX18
import Derived.Test.YtkcccenekglkoaaProg
import Derived.Test.YtkcccenekglkoaaMda
import Derived.Test.YtkcccenekglkoaaX22
namespace Go.Proofs.Ytkcccenekglkoaa
set_option maxRecDepth 10000
open Go Go.RowKit
set_option linter.unusedVariables false
theorem und_23 : Try.prog.underlying 23 = some (.slice 5) := by kernel_rfl
theorem und_46 : Try.prog.underlying 46 = some (.slice 39) := by kernel_rfl
theorem und_61 : Try.prog.underlying 61 = some (.slice 87) := by kernel_rfl
theorem und_88 : Try.prog.underlying 88 = some (.pointer 39) := by kernel_rfl
theorem agg_39 : Agg Try.prog 39 10 := ⟨⟨_, Try.underlying39, rfl⟩, by kernel_rfl⟩
theorem agg_87 : Agg Try.prog 87 7 := ⟨⟨_, Try.underlying87, rfl⟩, by kernel_rfl⟩
theorem bu_39_0_1_2_3_6_7_8 : ∀ (a0 : Int) (a1 : Int) (a2 : BitVec 64) (a3 : BitVec 32) (a6 : Int) (a7 : Int) (a8 : Int), Try.prog.built 39 [(0, I64 a0), (1, I64 a1), (2, U64 a2), (3, U32 a3), (6, I64 a6), (7, I64 a7), (8, I64 a8)] = some ([I64 a0, I64 a1, U64 a2, U32 a3, .slice none 0 0, .slice none 0 0, I64 a6, I64 a7, I64 a8, I64 (0 : Int)] : List Value).toArray := fun a0 a1 a2 a3 a6 a7 a8 => by kernel_rfl
theorem mixed : Try.prog.follows .mixedOrders = true := by kernel_rfl
theorem nm_31 : (Try.f31.name == "runtime.NumGoroutine") = false := by kernel_rfl
theorem nm_39 : (Try.f39.name == "runtime.NumGoroutine") = false := by kernel_rfl
theorem nm_53 : (Try.f53.name == "runtime.NumGoroutine") = false := by kernel_rfl
theorem nm_58 : (Try.f58.name == "runtime.NumGoroutine") = false := by kernel_rfl
theorem nz_22 : (Try.prog.info? 22).map (fun i => decide (i.size = 0)) = some false := by kernel_rfl
theorem nz_23 : (Try.prog.info? 23).map (fun i => decide (i.size = 0)) = some false := by kernel_rfl
theorem nz_26 : (Try.prog.info? 26).map (fun i => decide (i.size = 0)) = some false := by kernel_rfl
theorem nz_27 : (Try.prog.info? 27).map (fun i => decide (i.size = 0)) = some false := by kernel_rfl
theorem nz_3 : (Try.prog.info? 3).map (fun i => decide (i.size = 0)) = some false := by kernel_rfl
theorem scal_22 : scal Try.prog 22 = true := by kernel_rfl
theorem scal_23 : scal Try.prog 23 = true := by kernel_rfl
theorem scal_26 : scal Try.prog 26 = true := by kernel_rfl
theorem scal_27 : scal Try.prog 27 = true := by kernel_rfl
theorem scal_3 : scal Try.prog 3 = true := by kernel_rfl
theorem scal_46 : scal Try.prog 46 = true := by kernel_rfl
theorem scal_88 : scal Try.prog 88 = true := by kernel_rfl
theorem siz_23 : (Try.prog.info? 23).map (·.size) = some 1 := by kernel_rfl
theorem siz_27 : (Try.prog.info? 27).map (·.size) = some 1 := by kernel_rfl
theorem siz_3 : (Try.prog.info? 3).map (·.size) = some 1 := by kernel_rfl
theorem siz_88 : (Try.prog.info? 88).map (·.size) = some 1 := by kernel_rfl
theorem sty_23 : STy Try.prog 23 5 (U8 0#8) 1 1 := STy.of und_23 (by kernel_rfl) rfl
theorem sty_46 : STy Try.prog 46 39 (.agg #[(I64 0), (I64 0), (U64 0#64), (U32 0#32), (.slice none 0 0), (.slice none 0 0), (I64 0), (I64 0), (I64 0), (I64 0)]) 10 112 := STy.of und_46 (by kernel_rfl) rfl
theorem sty_61 : STy Try.prog 61 87 (.agg #[(I64 0), (I64 0), (I64 0), (U64 0#64), (U32 0#32), (.slice none 0 0), (I64 0)]) 7 72 := STy.of und_61 (by kernel_rfl) rfl
theorem zr_39 : (Try.prog.info? 39).map (fun i => i.zero.map (·.cells)) = some (some ([I64 (0 : Int), I64 (0 : Int), U64 0#64, U32 0#32, .slice none 0 0, .slice none 0 0, I64 (0 : Int), I64 (0 : Int), I64 (0 : Int), I64 (0 : Int)] : List Value).toArray) := by kernel_rfl
theorem zr_87 : (Try.prog.info? 87).map (fun i => i.zero.map (·.cells)) = some (some ([I64 (0 : Int), I64 (0 : Int), I64 (0 : Int), U64 0#64, U32 0#32, .slice none 0 0, I64 (0 : Int)] : List Value).toArray) := by kernel_rfl
theorem zr_88 : (Try.prog.info? 88).map (fun i => i.zero.map (·.cells)) = some (some ([.pointer none] : List Value).toArray) := by kernel_rfl
structure Rhistory_Op where
 x : Shistory_Op
 h0 : Hdr
 h1 : Hdr
instance : Lay Rhistory_Op := ⟨10, fun r => [I64 r.x.fClient, I64 r.x.fKind, U64 r.x.fKey, U32 r.x.fCookie, .slice r.h0.A r.h0.n r.h0.c, .slice r.h1.A r.h1.n r.h1.c, I64 r.x.fCall, I64 r.x.fReturn, I64 r.x.fClosed, I64 r.x.fResult], fun _ => rfl, fun _ u h => by simp only [List.mem_cons, List.not_mem_nil, or_false] at h; rcases h with rfl | rfl | rfl | rfl | rfl | rfl | rfl | rfl | rfl | rfl <;> rfl, by decide⟩
def rel_history_Op (M : Mem) (r : Rhistory_Op) (x : Shistory_Op) : Prop := x = r.x /\ (RelB (α := BitVec 8)) M r.h0 x.fData /\ (RelB (α := BitVec 8)) M r.h1 x.fGot
instance : Mono rel_history_Op := ⟨fun ⟨h0, h1, h2⟩ hm => ⟨h0, Mono.mono h1 hm, Mono.mono h2 hm⟩⟩
structure Rhistory_Event where
 x : Shistory_Event
 h0 : Hdr
instance : Lay Rhistory_Event := ⟨7, fun r => [I64 r.x.fKind, I64 r.x.fClient, I64 r.x.fOp, U64 r.x.fKey, U32 r.x.fCookie, .slice r.h0.A r.h0.n r.h0.c, I64 r.x.fResult], fun _ => rfl, fun _ u h => by simp only [List.mem_cons, List.not_mem_nil, or_false] at h; rcases h with rfl | rfl | rfl | rfl | rfl | rfl | rfl <;> rfl, by decide⟩
def rel_history_Event (M : Mem) (r : Rhistory_Event) (x : Shistory_Event) : Prop := x = r.x /\ (RelB (α := BitVec 8)) M r.h0 x.fData
instance : Mono rel_history_Event := ⟨fun ⟨h0, h1⟩ hm => ⟨h0, Mono.mono h1 hm⟩⟩
theorem w_history_Op_open (M0 : Mem) (x00_0 x00_1 : Int) (x00_2 : BitVec 64) (x00_3 : BitVec 32) (A00_4 : Option Addr) (n00_4 c00_4 : Nat) (x00_4 : List (BitVec 8)) (hf00_4 : SlT M0 A00_4 n00_4 c00_4 x00_4) (A00_5 : Option Addr) (n00_5 c00_5 : Nat) (x00_5 : List (BitVec 8)) (hf00_5 : SlT M0 A00_5 n00_5 c00_5 x00_5) (x00_6 x00_7 x00_8 x00_9 : Int) {res : Bool} (h : m_history_Op_open x00_0 x00_1 x00_2 x00_3 x00_4 x00_5 x00_6 x00_7 x00_8 x00_9 = some res) :
  Fn Try.prog 39 #[.agg ([I64 x00_0, I64 x00_1, U64 x00_2, U32 x00_3, .slice A00_4 n00_4 c00_4, .slice A00_5 n00_5 c00_5, I64 x00_6, I64 x00_7, I64 x00_8, I64 x00_9] : List Value).toArray] M0 fun r M' es => r = .bool res /\ es = [] := by
 refine Fn.intro (N := 11) Try.func39 rfl rfl (Nat.le_of_ble_eq_true rfl) fun w0 => ?_
 unfold m_history_Op_open at h
 refine sr fun _ k1 => bb 102 [I64 x00_0, I64 x00_1, U64 x00_2, U32 x00_3, .slice A00_4 n00_4 c00_4, .slice A00_5 n00_5 c00_5, I64 x00_6, I64 x00_7, I64 x00_8, I64 x00_9] rfl fun g2 => asn rfl <| dn <| k1 _ _ <| sr fun _ k3 => ya (Yld.fieldAddr Try.underlying39 rfl nz_3 rfl rfl) <| ya (Yld.loadB (k := 102) scal_3 rfl rfl rfl) <| ya (Yld.eqlI rfl rfl) <| mv rfl <| spl h beq_iff_eq.2 beq_eq_false_iff_ne.2 (fun hc4 h => ?_) fun hc4 h => ?_
 ·refine yg (Yld.fieldAddr Try.underlying39 rfl nz_3 rfl rfl) <| yg (Yld.loadB (k := 102) scal_3 rfl rfl rfl) <| yg (Yld.eqlI rfl rfl) <| pt rfl rfl <| asn rfl <| dn <| k3 _ _ <| re ?_
  injection h with h; subst h
  exact rt0 (ResIs.one rfl rfl)
 refine sk <| sk <| sk <| pf rfl rfl <| asn rfl <| dn <| k3 _ _ <| re ?_
 injection h with h; subst h
 exact rt0 (ResIs.one rfl rfl)
namespace Z
theorem _root_.Go.Proofs.Ytkcccenekglkoaa.w_history_last (M0 : Mem) (A00 : Option Addr) (n00 c00 : Nat) (rs00 : List Rhistory_Op) (x00 : List (Shistory_Op)) (hf00 : SlT M0 A00 n00 c00 rs00) (hq00 : Rels (rel_history_Op M0) rs00 x00) (x01 : Int) {res : Int} (h : m_history_last x00 x01 = some res) :
  Fn Try.prog 37 #[.slice A00 n00 c00, I64 x01] M0 fun r M' es => r = .pointer (optp A00 res (Lay.sz Rhistory_Op)) /\ es = [] := by
 refine Fn.intro (N := 27) Try.func37 rfl rfl (Nat.le_of_ble_eq_true rfl) fun w0 => ?_
 unfold m_history_last at h
 refine sr fun _ k1 => bb 102 [.slice A00 n00 c00] rfl fun g2 => bb 103 [I64 x01] rfl fun g3 => al 104 zr_88 fun g4 => dn <| k1 _ _ <| sq fun _ k5 => sr fun _ k6 => ya (Yld.loadB (k := 102) scal_46 rfl rfl rfl) <| WL.inl (by decide) Try.func53 nm_53 rfl rfl (Tri.intro (N := 4) Try.func53 rfl rfl (Nat.le_of_ble_eq_true rfl) ?_)
 refine sr fun _ k7 => bb 108 [.slice A00 n00 c00] rfl fun g8 => asn rfl <| dn <| k7 _ _ <| sr fun _ k9 => ya (Yld.makeFunc rfl rfl) <| asn rfl <| dn <| k9 _ _ <| re <| Ret.go (ResIs.one rfl rfl) <| dn <| k6 _ _ <| bl <| WC.rangeFunc 98 97 rfl Try.func58 nm_58 rfl rfl rfl rfl fun D10 l11 rc12 hrc13 => Tri.intro (N := 19) Try.func58 rfl rfl (Nat.le_of_ble_eq_true rfl) <| sr fun _ k14 => ?_
 obtain ⟨x15, hx15, h⟩ := bnd h
 refine ya (Yld.loadB (k := 108) scal_46 rfl rfl rfl) <| ya (Yld.lenD (rs := rs00) (xs := x00) (Rels.len hq00) und_46 rfl (RdH.memM (k := 0) rfl hf00)) <| ya (Yld.subC rfl rfl hx15) <| asn rfl <| dn <| k14 _ _ <| bl <| lp (τ := Int) (fun x16 => [(0, .func (.yield l11) #[] #[]), (1, .pointer (some ⟨g8, 0, none⟩)), (3, I64 x16)]) (fun x16 => [(0, .mem M0), (97, .obj l11 (.loop (Rc .ready none rc12))), (98, .obj D10 (.deferred (some []))), (102, .blk g2 46 [.slice A00 n00 c00]), (103, .blk g3 3 [I64 x01]), (104, .blk g4 88 [.pointer none]), (108, .blk g8 46 [.slice A00 n00 c00])]) (fun q17 x16 => m_history_last_l0 x00 x01 q17 x16 = some res) (x15) ?_ (by simp [m_history_last_l0]) ?_
 ·exact h
 rintro q17 x16 h _ k18
 unfold m_history_last_l0 at h
 refine sq fun _ k19 => sr fun _ k20 => mv rfl <| ya (Yld.geq rfl rfl) <| dn <| k20 _ _ <| cnd h rfl decide_eq_true decide_eq_false (fun hc21 h => ?_) fun hc21 h => ?_
 ·refine ss <| k19 _ _ <| sq fun _ k22 => bl <| sr fun _ k23 => ?_
  obtain ⟨x24, hx24, h⟩ := bnd h
  refine mv rfl <| mv rfl <| ya (Yld.loadB (k := 108) scal_46 rfl rfl rfl) <| mv rfl ?_
  obtain ⟨⟨_, r_25_0, r_25_1⟩, hr26, rfl, hq27_0, hq27_1⟩ := Rels.idx hq00 hx24
  refine ya (Yld.idxC (xs := rs00) sty_46 rfl rfl (RdH.memM (k := 0) rfl hf00) hr26) <| ya (Yld.loadA (xs := rs00) agg_39 rfl (RdH.memM (k := 0) rfl hf00) hr26 rfl) <| WL.round 97 (by decide) rfl rfl rfl hrc13 rfl rfl fun RQ28 hN29 hR30 hX31 KA32 hKA33 => rg fun _ k34 => asn rfl <| dn <| k34 _ _ <| QK.thenN (hKA33 _ _ rfl ?_)
  refine bl <| sd [(0, _), (97, _), (98, _), (102, _), (103, _), (104, _), (108, _)] mixed fun _ k35 => ?_
  obtain ⟨x36, hx36, h⟩ := bnd h
  by_cases hc40 : x36.fClient = x01
  ·replace h := of_t hc40 h
   obtain ⟨x41, hx41, h⟩ := bnd h
   obtain ⟨x45, hx45, h⟩ := bnd h
   refine du 0 rfl (Yld.loadB (k := 102) scal_46 rfl rfl rfl) <| dm 1 rfl rfl ?_
   obtain ⟨⟨_, r_37_0, r_37_1⟩, hr38, rfl, hq39_0, hq39_1⟩ := Rels.idx hq00 hx36
   refine du 2 rfl (Yld.idxC (xs := rs00) sty_46 rfl rfl (RdH.memM (k := 0) rfl hf00) hr38) <| du 3 rfl (Yld.fieldAddrC Try.underlying39 rfl nz_3 rfl rfl) <| du 4 rfl (Yld.loadC (xs := rs00) (j := 0) scal_3 rfl (RdH.memM (k := 0) rfl hf00) hr38 rfl rfl) <| du 5 rfl (Yld.loadB (k := 103) scal_3 rfl rfl rfl) <| du 6 rfl (Yld.eqlI rfl rfl) <| dm 7 rfl rfl <| WD.new (v' := .bool true) (congrArg Value.bool (beq_iff_eq.2 hc40)) <| dv 8 rfl (Yld.loadB (k := 102) scal_46 rfl rfl rfl) <| dv 9 rfl (Yld.move rfl) ?_
   obtain ⟨⟨_, r_42_0, r_42_1⟩, hr43, rfl, hq44_0, hq44_1⟩ := Rels.idx hq00 hx41
   refine dv 10 rfl (Yld.idxC (xs := rs00) sty_46 rfl rfl (RdH.memM (k := 0) rfl hf00) hr43) <| dv 11 rfl (Yld.loadA (xs := rs00) agg_39 rfl (RdH.memM (k := 0) rfl hf00) hr43 rfl) <| on 12 <| WS.effG rfl (by decide) rfl (Eff.callS 146 rfl Try.func39 nm_39 rfl rfl (fun w hb hh => w_history_Op_open (Mem.snap w) x41.fClient x41.fKind x41.fKey x41.fCookie r_42_0.A r_42_0.n r_42_0.c _ (RdH.sn (RdH.memM (k := 0) rfl hq44_0) w hb hh) r_42_1.A r_42_1.n r_42_1.c _ (RdH.sn (RdH.memM (k := 0) rfl hq44_1) w hb hh) x41.fCall x41.fReturn x41.fClosed x41.fResult hx45)) ?_
   rintro _ _ ⟨_, ⟨rfl, rfl⟩, rfl⟩
   refine ad ?_ (by repeat (first | exact sn | refine sc ?_))
   refine du 13 rfl (Yld.pickT rfl rfl) <| dd <| k35 _ _ <| cnd h rfl id Bool.eq_false_iff.2 (fun hc47 h => ?_) fun hc47 h => ?_
   ·refine sr fun _ k48 => ?_
    obtain ⟨x49, hx49, h⟩ := bnd h
    refine ya (Yld.loadB (k := 102) scal_46 rfl rfl rfl) <| mv rfl ?_
    obtain ⟨⟨_, r_50_0, r_50_1⟩, hr51, rfl, hq52_0, hq52_1⟩ := Rels.idx hq00 hx49
    refine ya (Yld.idxC (xs := rs00) sty_46 rfl rfl (RdH.memM (k := 0) rfl hf00) hr51) <| WL.eff0 (Eff0.storeB 104 siz_88 rfl rfl rfl rfl (Nat.le_of_ble_eq_true rfl)) <| dn <| k48 _ _ <| re <| br <| hR30 _ _ rfl <| ya (Yld.notB rfl) <| dn <| k23 _ _ <| cdT rfl <| re <| br <| tr <| tr <| br <| Ret.go (ResIs.zero rfl) <| After.ret 97 rfl <| (QK.blockR (QK.thenR ?_))
    refine QK.unmark 98 rfl ?_
    injection h with h; subst h
    exact rt [] (ResIs.cellS (k := 104) rfl scal_88 rfl rfl rfl) (Ext.refl _ _) ⟨(optp_some (idx_some hx49).1), rfl⟩
   refine WC.skip <| bn <| hN29 _ _ rfl <| ya (Yld.notB rfl) <| dn <| k23 _ _ <| cdF rfl <| WC.skip <| bn <| tn <| k22 _ _ <| rg fun _ k53 => ?_
   obtain ⟨x54, hx54, h⟩ := bnd h
   exact mv rfl <| ya (Yld.subC rfl rfl hx54) <| asn rfl <| dn <| k53 _ _ <| tn <| kw (k18 (x54) h)
  replace h := of_f hc40 h
  refine du 0 rfl (Yld.loadB (k := 102) scal_46 rfl rfl rfl) <| dm 1 rfl rfl ?_
  obtain ⟨⟨_, r_37_0, r_37_1⟩, hr38, rfl, hq39_0, hq39_1⟩ := Rels.idx hq00 hx36
  refine du 2 rfl (Yld.idxC (xs := rs00) sty_46 rfl rfl (RdH.memM (k := 0) rfl hf00) hr38) <| du 3 rfl (Yld.fieldAddrC Try.underlying39 rfl nz_3 rfl rfl) <| du 4 rfl (Yld.loadC (xs := rs00) (j := 0) scal_3 rfl (RdH.memM (k := 0) rfl hf00) hr38 rfl rfl) <| du 5 rfl (Yld.loadB (k := 103) scal_3 rfl rfl rfl) <| du 6 rfl (Yld.eqlI rfl rfl) <| dm 7 rfl rfl <| WD.new (v' := .bool false) (congrArg Value.bool (beq_eq_false_iff_ne.2 hc40)) <| dw 8 rfl <| dw 9 rfl <| dw 10 rfl <| dw 11 rfl <| dw 12 rfl <| du 13 rfl (Yld.pickF rfl rfl) <| dd <| k35 _ _ <| cdF rfl <| WC.skip <| bn <| hN29 _ _ rfl <| ya (Yld.notB rfl) <| dn <| k23 _ _ <| cdF rfl <| WC.skip <| bn <| tn <| k22 _ _ <| rg fun _ k55 => ?_
  obtain ⟨x56, hx56, h⟩ := bnd h
  exact mv rfl <| ya (Yld.subC rfl rfl hx56) <| asn rfl <| dn <| k55 _ _ <| tn <| kw (k18 (x56) h)
 refine xi <| te <| te <| bx <| Ret.goN (ResIs.zero rfl) <| After.go 97 rfl <| bn <| tn <| k5 _ _ <| sr fun _ k57 => WL.eff0 (Eff0.storeB 104 siz_88 rfl rfl rfl rfl (Nat.le_of_ble_eq_true rfl)) <| dn <| k57 _ _ <| re <| QK.unmark 98 rfl ?_
 injection h with h; subst h
 exact rt0 (ResIs.cellS (k := 104) rfl scal_88 rfl rfl rfl)
end Z
theorem w_history_known (M0 : Mem) (x00 : Int) {res : Bool} (h : m_history_known x00 = some res) :
  Fn Try.prog 38 #[I64 x00] M0 fun r M' es => r = .bool res /\ es = [] := by
 refine Fn.intro (N := 9) Try.func38 rfl rfl (Nat.le_of_ble_eq_true rfl) fun w0 => ?_
 unfold m_history_known at h
 refine sr fun _ k1 => asn rfl <| dn <| k1 _ _ <| sr fun _ k2 => mv rfl <| ya (Yld.geq rfl rfl) <| mv rfl <| spl h decide_eq_true decide_eq_false (fun hc3 h => ?_) fun hc3 h => ?_
 ·refine mvg rfl <| yg (Yld.leq rfl rfl) <| pt rfl rfl <| asn rfl <| dn <| k2 _ _ <| re ?_
  injection h with h; subst h
  exact rt0 (ResIs.one rfl rfl)
 refine sk <| sk <| pf rfl rfl <| asn rfl <| dn <| k2 _ _ <| re ?_
 injection h with h; subst h
 exact rt0 (ResIs.one rfl rfl)
theorem w_bytes_Clone (M0 : Mem) (A00 : Option Addr) (n00 c00 : Nat) (x00 : List (BitVec 8)) (hf00 : SlT M0 A00 n00 c00 x00) {res : (List (BitVec 8))} (h : m_bytes_Clone x00 = some res) :
  Fn Try.prog 31 #[.slice A00 n00 c00] M0 fun r M' es => ∃ (A1 : Option Addr) (n1 c1 : Nat), r = .slice A1 n1 c1 /\ es = [.own 5 (Lay.sz (BitVec 8)) A1 n1 c1 (cel res)] := by
 refine Fn.intro (N := 8) Try.func31 rfl rfl (Nat.le_of_ble_eq_true rfl) fun w0 => ?_
 unfold m_bytes_Clone at h
 refine sr fun _ k1 => asn rfl <| dn <| k1 _ _ <| sq fun _ k2 => sr fun _ k3 => mv rfl <| ya (Yld.eqlNil und_23 rfl rfl) <| dn <| k3 _ _ ?_
 by_cases hA4 : A00 = none
 ·have hz := nil_of hf00 hA4
  subst hz
  replace h : some ([] : List (BitVec 8)) = some res := h
  refine WC.condTe rfl (by rw [hA4]; rfl) <| sr fun _ k5 => asn rfl <| dn <| k5 _ _ <| re <| tr <| QK.nilOwn 106 5 (Lay.sz (BitVec 8)) none ?_
  injection h with h; subst h
  exact rt [106] (ResIs.one rfl rfl) (Ext.refl _ _) ⟨none, 0, 0, rfl, rfl⟩
 skip
 refine WC.condFe rfl (isNone_ne hA4) <| ss <| k2 _ _ <| sr fun _ k7 => ?_
 obtain ⟨x9, hx9, h⟩ := bnd h
 refine WL.eff (by decide) (Eff.buildC 108 ([] : List (BitVec 8)) sty_23 rfl rfl rfl rfl rfl (by decide)) ?_
 rintro _ _ ⟨g8, rfl, rfl⟩
 refine mv rfl <| ap 108 (xs := ([] : List (BitVec 8))) (ys := x00) sty_23 rfl rfl rfl (RdH.memM (k := 0) rfl hf00) hx9 fun A10 c11 => asn rfl <| dn <| k7 _ _ <| re ?_
 injection h with h; subst h
 exact rt [108] (ResIs.one rfl rfl) (Ext.refl _ _) ⟨A10, x9.length, c11, rfl, rfl⟩
theorem w_history_Build (M0 : Mem) (A00 : Option Addr) (n00 c00 : Nat) (rs00 : List Rhistory_Event) (x00 : List (Shistory_Event)) (hf00 : SlT M0 A00 n00 c00 rs00) (hq00 : Rels (rel_history_Event M0) rs00 x00) {res : (List (Shistory_Op)) × Int} (h : m_history_Build x00 = some res) :
  Fn Try.prog 22 #[.slice A00 n00 c00] M0 fun r M' es => ∃ (A1 : Option Addr) (n1 c1 : Nat), ∃ rs1 : List Rhistory_Op, r = .tuple #[.slice A1 n1 c1, I64 res.2] /\ es = [.own 39 (Lay.sz Rhistory_Op) A1 n1 c1 (cel rs1)] /\ Rels (rel_history_Op M') rs1 res.1 := by
 refine Fn.intro (N := 110) Try.func22 rfl rfl (Nat.le_of_ble_eq_true rfl) fun w0 => ?_
 unfold m_history_Build at h
 refine sr fun _ k1 => asn rfl <| asn rfl <| dn <| k1 _ _ <| sr fun _ k2 => asn rfl <| dn <| k2 _ _ <| ct (σ := Mem × (Option Addr) × Nat × Nat × (List (Shistory_Op)) × (List Rhistory_Op)) (fun ⟨M3, A6, n7, c8, x9, rs10⟩ => [(4, .slice A6 n7 c8)]) (fun ⟨M3, A6, n7, c8, x9, rs10⟩ => [(0, .mem M3), (105, .own 39 (Lay.sz Rhistory_Op) A6 n7 c8 (cel rs10))]) (fun ⟨M3, A6, n7, c8, x9, rs10⟩ => m_history_Build_j0 x9 = some res /\ Ext w0.heap.size M0 M3 /\ Rels (rel_history_Op M3) rs10 x9) (fun _ k12 => ?_) ?_
 ·refine sr fun _ k13 => mv rfl <| ya (Yld.lenD (rs := rs00) (xs := x00) (Rels.len hq00) und_61 rfl (RdH.memM (k := 0) rfl hf00)) <| mv rfl <| dn <| k13 _ _ <| bl <| WC.nilOwn 116 39 (Lay.sz Rhistory_Op) none <| lp (τ := Mem × (Option Addr) × Nat × Nat × (List (Shistory_Op)) × (List Rhistory_Op) × Int) (fun ⟨M14, A17, n18, c19, x20, rs21, x23⟩ => [(4, .slice A17 n18 c19), (10, .slice A00 n00 c00), (11, I64 (x00.length : Int)), (12, I64 x23)]) (fun ⟨M14, A17, n18, c19, x20, rs21, x23⟩ => [(0, .mem M14), (116, .own 39 (Lay.sz Rhistory_Op) A17 n18 c19 (cel rs21))]) (fun q24 ⟨M14, A17, n18, c19, x20, rs21, x23⟩ => m_history_Build_l1 x00 q24 x20 x23 = some res /\ Ext w0.heap.size M0 M14 /\ Rels (rel_history_Op M14) rs21 x20) ⟨M0, none, 0, 0, ([] : List (Shistory_Op)), ([] : List Rhistory_Op), (0 : Int)⟩ ?_ (by simp [m_history_Build_l1]) ?_
  ·exact ⟨h, (Ext.refl _ _), (Rels.nil (R := rel_history_Op M0))⟩
  rintro q24 ⟨M14, A17, n18, c19, x20, rs21, x23⟩ ⟨h, hm_M14, hq22⟩ _ k25
  unfold m_history_Build_l1 at h
  refine sr fun _ k26 => ya (Yld.lss rfl rfl) <| dn <| k26 _ _ <| sq fun _ k27 => cnd h rfl decide_eq_true decide_eq_false (fun hc28 h => ?_) fun hc28 h => ?_
  ·refine ss <| k27 _ _ <| ct (σ := Mem × (Option Addr) × Nat × Nat × (List (Shistory_Op)) × (List Rhistory_Op)) (fun ⟨M29, A30, n31, c32, x33, rs34⟩ => [(4, .slice A30 n31 c32), (10, .slice A00 n00 c00), (11, I64 (x00.length : Int)), (12, I64 x23)]) (fun ⟨M29, A30, n31, c32, x33, rs34⟩ => [(0, .mem M29), (116, .own 39 (Lay.sz Rhistory_Op) A30 n31 c32 (cel rs34))]) (fun ⟨M29, A30, n31, c32, x33, rs34⟩ => m_history_Build_j2 x23 (m_history_Build_l1 x00 q24) x33 = some res /\ Ext w0.heap.size M14 M29 /\ Rels (rel_history_Op M29) rs34 x33) (fun _ k36 => ?_) ?_
   ·refine bl <| sr fun _ k37 => ?_
    obtain ⟨x38, hx38, h⟩ := bnd h
    refine mv rfl ?_
    obtain ⟨⟨_, r_39_0⟩, hr40, rfl, hq41_0⟩ := Rels.idx (Rels.lift hq00 hm_M14) hx38
    refine ya (Yld.idxC (xs := rs00) sty_61 rfl rfl (RdH.memM (k := 0) rfl (SlRc.lift hf00 hm_M14)) hr40) <| ya (Yld.loadA (xs := rs00) agg_87 rfl (RdH.memM (k := 0) rfl (SlRc.lift hf00 hm_M14)) hr40 rfl) <| al 142 zr_87 fun g42 => asn rfl <| sb 142 agg_87 rfl rfl rfl <| dn <| k37 _ _ <| sr fun _ k43 => ?_
    obtain ⟨x44, hx44, h⟩ := bnd h
    refine mv rfl <| ya (Yld.fieldAddr Try.underlying87 rfl nz_3 rfl rfl) <| ya (Yld.loadB (k := 142) scal_3 rfl rfl rfl) <| c0 Try.func37 rfl (fun w hb hh => w_history_last (Mem.snap w) A17 n18 c19 rs21 _ (RdH.sn (RdH.own (k := 116) rfl) w hb hh) (Rels.sn hq22 (hh.sat 0 _ rfl)) x38.fClient hx44) <| asn rfl <| dn <| k43 _ _ <| bl <| ctr (σ := Bool) (fun x46 => [(4, .slice A17 n18 c19), (5, I64 x23), (6, .pointer (some ⟨g42, 0, none⟩)), (7, .pointer (optp A17 x44 (Lay.sz Rhistory_Op))), (10, .slice A00 n00 c00), (11, I64 (x00.length : Int)), (12, I64 x23), (21, .bool x46)]) (fun x46 => [(0, .mem M14), (116, .own 39 (Lay.sz Rhistory_Op) A17 n18 c19 (cel rs21)), (142, .blk g42 87 [I64 x38.fKind, I64 x38.fClient, I64 x38.fOp, U64 x38.fKey, U32 x38.fCookie, .slice r_39_0.A r_39_0.n r_39_0.c, I64 x38.fResult])]) (fun x46 => m_history_Build_j3 x20 x23 x38 x44 (m_history_Build_l1 x00 q24) x46 = some res) (fun _ k47 => ?_) ?_
    ·refine ya (Yld.fieldAddr Try.underlying87 rfl nz_3 rfl rfl) <| ya (Yld.loadB (k := 142) scal_3 rfl rfl rfl) <| ya (Yld.eqlI rfl rfl) <| mv rfl <| spl h beq_iff_eq.2 beq_eq_false_iff_ne.2 (fun hc49 h => ?_) fun hc49 h => ?_
     ·obtain ⟨x50, hx50, h⟩ := bnd h
      refine yg (Yld.fieldAddr Try.underlying87 rfl nz_3 rfl rfl) <| yg (Yld.loadB (k := 142) scal_3 rfl rfl rfl) <| c0g Try.func38 rfl (fun w hb hh => w_history_known (Mem.snap w) x38.fOp hx50) <| pt rfl rfl <| mv rfl <| spl h id Bool.eq_false_iff.2 (fun hc52 h => ?_) fun hc52 h => ?_
      ·exact mvg rfl <| yg (Yld.eqlPN und_88 rfl rfl) <| pt rfl rfl <| asn rfl <| WL.done <| kw (k47 (decide (x44 < 0)) h)
      exact sk <| sk <| pf rfl rfl <| asn rfl <| WL.done <| kw (k47 false h)
     exact sk <| sk <| sk <| pf rfl rfl <| mv rfl <| sk <| sk <| pf rfl rfl <| asn rfl <| WL.done <| kw (k47 false h)
    rintro x46 h
    unfold m_history_Build_j3 at h
    refine cnd h rfl id Bool.eq_false_iff.2 (fun hc53 h => ?_) fun hc53 h => ?_
    ·refine sr fun _ k54 => ya (Yld.fieldAddr Try.underlying87 rfl nz_3 rfl rfl) <| ya (Yld.loadB (k := 142) scal_3 rfl rfl rfl) <| ya (Yld.fieldAddr Try.underlying87 rfl nz_3 rfl rfl) <| ya (Yld.loadB (k := 142) scal_3 rfl rfl rfl) <| ya (Yld.fieldAddr Try.underlying87 rfl nz_26 rfl rfl) <| ya (Yld.loadB (k := 142) scal_26 rfl rfl rfl) <| ya (Yld.fieldAddr Try.underlying87 rfl nz_22 rfl rfl) <| ya (Yld.loadB (k := 142) scal_22 rfl rfl rfl) <| mv rfl <| ya (Yld.build rfl (bu_39_0_1_2_3_6_7_8 x38.fClient x38.fOp x38.fKey x38.fCookie x23 (-1 : Int) (-1 : Int))) <| al 155 zr_39 fun g55 => sb 155 agg_39 rfl rfl rfl <| dn <| k54 _ _ <| sq fun _ k56 => sr fun _ k57 => ya (Yld.fieldAddr Try.underlying87 rfl nz_3 rfl rfl) <| ya (Yld.loadB (k := 142) scal_3 rfl rfl rfl) <| ya (Yld.eqlI rfl rfl) <| dn <| k57 _ _ <| cnd h rfl beq_iff_eq.2 beq_eq_false_iff_ne.2 (fun hc58 h => ?_) fun hc58 h => ?_
     ·refine rg fun _ k59 => ?_
      obtain ⟨x60, hx60, h⟩ := bnd h
      refine ya (Yld.fieldAddr Try.underlying87 rfl nz_23 rfl rfl) <| ya (Yld.loadB (k := 142) scal_23 rfl rfl rfl) <| c1 164 Try.func31 rfl (fun w hb hh => w_bytes_Clone (Mem.snap w) r_39_0.A r_39_0.n r_39_0.c _ (RdH.sn (RdH.memM (k := 0) rfl hq41_0) w hb hh) hx60) fun A65 n66 c67 => ya (Yld.fieldAddr Try.underlying39 rfl nz_23 rfl rfl) <| WL.eff0 (Eff0.storeB 155 siz_23 rfl rfl rfl rfl (Nat.le_of_ble_eq_true rfl)) <| dn <| k59 _ _ <| tn <| k56 _ _ <| rg fun _ k68 => ?_
      obtain ⟨x73, hx73, h⟩ := bnd h
      refine mv rfl <| ya (Yld.loadBM (k := 155) agg_39 rfl rfl rfl) <| WL.freeze 164 rfl rfl rfl fun M70 hm_M70 hf71 => ?_
      have hq72 : Rels (rel_history_Op M70) ([(Rhistory_Op.mk (Shistory_Op.mk x38.fClient x38.fOp x38.fKey x38.fCookie x60 ([] : List (BitVec 8)) x23 (-1 : Int) (-1 : Int) (0 : Int)) (⟨A65, n66, c67⟩ : Hdr) (⟨none, 0, 0⟩ : Hdr))] : List Rhistory_Op) ([(Shistory_Op.mk x38.fClient x38.fOp x38.fKey x38.fCookie x60 ([] : List (BitVec 8)) x23 (-1 : Int) (-1 : Int) (0 : Int))] : List (Shistory_Op)) := (Rels.cons ⟨rfl, hf71, SlT.nil⟩ Rels.nil)
      refine WL.eff (by decide) (Eff.buildCA 169 ([(Rhistory_Op.mk (Shistory_Op.mk x38.fClient x38.fOp x38.fKey x38.fCookie x60 ([] : List (BitVec 8)) x23 (-1 : Int) (-1 : Int) (0 : Int)) (⟨A65, n66, c67⟩ : Hdr) (⟨none, 0, 0⟩ : Hdr))] : List Rhistory_Op) sty_46 rfl rfl rfl (by decide)) ?_
      rintro _ _ ⟨g69, rfl, rfl⟩
      obtain ⟨hu76, hq77⟩ := Rels.apd (Rels.lift hq22 hm_M70) hq72 hx73
      exact ap 116 (xs := rs21) (ys := ([(Rhistory_Op.mk (Shistory_Op.mk x38.fClient x38.fOp x38.fKey x38.fCookie x60 ([] : List (BitVec 8)) x23 (-1 : Int) (-1 : Int) (0 : Int)) (⟨A65, n66, c67⟩ : Hdr) (⟨none, 0, 0⟩ : Hdr))] : List Rhistory_Op)) sty_46 rfl rfl rfl (RdH.own (k := 169) rfl) hu76 fun A74 c75 => asn rfl <| dn <| k68 _ _ <| bn <| bn <| tn <| kw (k36 ⟨M70, A74, (rs21 ++ ([(Rhistory_Op.mk (Shistory_Op.mk x38.fClient x38.fOp x38.fKey x38.fCookie x60 ([] : List (BitVec 8)) x23 (-1 : Int) (-1 : Int) (0 : Int)) (⟨A65, n66, c67⟩ : Hdr) (⟨none, 0, 0⟩ : Hdr))] : List Rhistory_Op)).length, c75, x73, (rs21 ++ ([(Rhistory_Op.mk (Shistory_Op.mk x38.fClient x38.fOp x38.fKey x38.fCookie x60 ([] : List (BitVec 8)) x23 (-1 : Int) (-1 : Int) (0 : Int)) (⟨A65, n66, c67⟩ : Hdr) (⟨none, 0, 0⟩ : Hdr))] : List Rhistory_Op))⟩ ⟨h, hm_M70, hq77⟩)
     refine ss <| k56 _ _ <| rg fun _ k78 => ?_
     obtain ⟨x81, hx81, h⟩ := bnd h
     refine mv rfl <| ya (Yld.loadBM (k := 155) agg_39 rfl rfl rfl) ?_
     have hq80 : Rels (rel_history_Op M14) ([(Rhistory_Op.mk (Shistory_Op.mk x38.fClient x38.fOp x38.fKey x38.fCookie ([] : List (BitVec 8)) ([] : List (BitVec 8)) x23 (-1 : Int) (-1 : Int) (0 : Int)) (⟨none, 0, 0⟩ : Hdr) (⟨none, 0, 0⟩ : Hdr))] : List Rhistory_Op) ([(Shistory_Op.mk x38.fClient x38.fOp x38.fKey x38.fCookie ([] : List (BitVec 8)) ([] : List (BitVec 8)) x23 (-1 : Int) (-1 : Int) (0 : Int))] : List (Shistory_Op)) := (Rels.cons ⟨rfl, SlT.nil, SlT.nil⟩ Rels.nil)
     refine WL.eff (by decide) (Eff.buildCA 179 ([(Rhistory_Op.mk (Shistory_Op.mk x38.fClient x38.fOp x38.fKey x38.fCookie ([] : List (BitVec 8)) ([] : List (BitVec 8)) x23 (-1 : Int) (-1 : Int) (0 : Int)) (⟨none, 0, 0⟩ : Hdr) (⟨none, 0, 0⟩ : Hdr))] : List Rhistory_Op) sty_46 rfl rfl rfl (by decide)) ?_
     rintro _ _ ⟨g79, rfl, rfl⟩
     obtain ⟨hu84, hq85⟩ := Rels.apd hq22 hq80 hx81
     exact ap 116 (xs := rs21) (ys := ([(Rhistory_Op.mk (Shistory_Op.mk x38.fClient x38.fOp x38.fKey x38.fCookie ([] : List (BitVec 8)) ([] : List (BitVec 8)) x23 (-1 : Int) (-1 : Int) (0 : Int)) (⟨none, 0, 0⟩ : Hdr) (⟨none, 0, 0⟩ : Hdr))] : List Rhistory_Op)) sty_46 rfl rfl rfl (RdH.own (k := 179) rfl) hu84 fun A82 c83 => asn rfl <| dn <| k78 _ _ <| bn <| bn <| tn <| kw (k36 ⟨M14, A82, (rs21 ++ ([(Rhistory_Op.mk (Shistory_Op.mk x38.fClient x38.fOp x38.fKey x38.fCookie ([] : List (BitVec 8)) ([] : List (BitVec 8)) x23 (-1 : Int) (-1 : Int) (0 : Int)) (⟨none, 0, 0⟩ : Hdr) (⟨none, 0, 0⟩ : Hdr))] : List Rhistory_Op)).length, c83, x81, (rs21 ++ ([(Rhistory_Op.mk (Shistory_Op.mk x38.fClient x38.fOp x38.fKey x38.fCookie ([] : List (BitVec 8)) ([] : List (BitVec 8)) x23 (-1 : Int) (-1 : Int) (0 : Int)) (⟨none, 0, 0⟩ : Hdr) (⟨none, 0, 0⟩ : Hdr))] : List Rhistory_Op))⟩ ⟨h, (Ext.refl _ _), hq85⟩)
    refine ctr (σ := Bool) (fun x86 => [(4, .slice A17 n18 c19), (5, I64 x23), (6, .pointer (some ⟨g42, 0, none⟩)), (7, .pointer (optp A17 x44 (Lay.sz Rhistory_Op))), (10, .slice A00 n00 c00), (11, I64 (x00.length : Int)), (12, I64 x23), (55, .bool x86)]) (fun x86 => [(0, .mem M14), (116, .own 39 (Lay.sz Rhistory_Op) A17 n18 c19 (cel rs21)), (142, .blk g42 87 [I64 x38.fKind, I64 x38.fClient, I64 x38.fOp, U64 x38.fKey, U32 x38.fCookie, .slice r_39_0.A r_39_0.n r_39_0.c, I64 x38.fResult])]) (fun x86 => m_history_Build_j4 x20 x23 x38 x44 (m_history_Build_l1 x00 q24) x86 = some res) (fun _ k87 => ?_) ?_
    ·refine ya (Yld.fieldAddr Try.underlying87 rfl nz_3 rfl rfl) <| ya (Yld.loadB (k := 142) scal_3 rfl rfl rfl) <| ya (Yld.eqlI rfl rfl) <| mv rfl <| spl h beq_iff_eq.2 beq_eq_false_iff_ne.2 (fun hc89 h => ?_) fun hc89 h => ?_
     ·exact mvg rfl <| yg (Yld.neqPN und_88 rfl rfl) <| pt rfl rfl <| asn rfl <| WL.done <| kw (k87 (decide (0 <= x44)) h)
     exact sk <| sk <| pf rfl rfl <| asn rfl <| WL.done <| kw (k87 false h)
    rintro x86 h
    unfold m_history_Build_j4 at h
    refine cnd h rfl id Bool.eq_false_iff.2 (fun hc90 h => ?_) fun hc90 h => ?_
    ·refine sd [(0, _), (142, _)] mixed fun _ k91 => ?_
     obtain ⟨x92, hx92, h⟩ := bnd h
     obtain ⟨x96, hx96, h⟩ := bnd h
     obtain ⟨x97, hx97, h⟩ := bnd h
     obtain ⟨x103, hx103, h⟩ := bnd h
     obtain ⟨x107, hx107, h⟩ := bnd h
     obtain ⟨x108, hx108, h⟩ := bnd h
     refine dm 0 rfl rfl <| dm 1 rfl rfl <| dm 2 rfl rfl <| du 3 rfl (Yld.fieldAddr Try.underlying87 rfl nz_27 rfl rfl) <| du 4 rfl (Yld.loadB (k := 142) scal_27 rfl rfl rfl) <| on 5 ?_
     obtain ⟨⟨_, r_93_0, r_93_1⟩, hr94, rfl, hq95_0, hq95_1⟩ := Rels.idx hq22 hx92
     refine dy rfl (Yld.nilCheckQ (bs := x20) rfl hx92) <| du 6 rfl (Yld.fieldAddrC Try.underlying39 rfl nz_3 rfl rfl) <| on 7 ?_
     obtain ⟨⟨_, r_98_0, r_98_1⟩, hr99, rfl, hq100_0, hq100_1⟩ := Rels.idx hq22 hx96
     obtain ⟨hu101, hq102⟩ := Rels.upd (r := (Rhistory_Op.mk ({ x96 with fReturn := x23 } : Shistory_Op) r_98_0 r_98_1)) hq22 hx97 ⟨rfl, hq100_0, hq100_1⟩
     refine WS.eff0 rfl (Eff0.storeC 116 (xs := rs21) (j := 7) (a := (Rhistory_Op.mk x96 r_98_0 r_98_1)) (a' := (Rhistory_Op.mk ({ x96 with fReturn := x23 } : Shistory_Op) r_98_0 r_98_1)) siz_3 rfl rfl rfl rfl hr99 rfl rfl hu101) (sc (sc sn)) <| on 8 ?_
     obtain ⟨⟨_, r_104_0, r_104_1⟩, hr105, rfl, hq106_0, hq106_1⟩ := Rels.idx hq102 hx103
     refine dy rfl (Yld.nilCheckQ (bs := x97) rfl hx103) <| du 9 rfl (Yld.fieldAddrC Try.underlying39 rfl nz_27 rfl rfl) <| on 10 ?_
     obtain ⟨⟨_, r_109_0, r_109_1⟩, hr110, rfl, hq111_0, hq111_1⟩ := Rels.idx hq102 hx107
     obtain ⟨hu112, hq113⟩ := Rels.upd (r := (Rhistory_Op.mk ({ x107 with fResult := x38.fResult } : Shistory_Op) r_109_0 r_109_1)) hq102 hx108 ⟨rfl, hq111_0, hq111_1⟩
     refine WS.eff0 rfl (Eff0.storeC 116 (xs := (rs21.set (x44).toNat (Rhistory_Op.mk ({ x96 with fReturn := x23 } : Shistory_Op) r_98_0 r_98_1))) (j := 9) (a := (Rhistory_Op.mk x107 r_109_0 r_109_1)) (a' := (Rhistory_Op.mk ({ x107 with fResult := x38.fResult } : Shistory_Op) r_109_0 r_109_1)) siz_27 rfl rfl rfl rfl hr110 rfl rfl hu112) (sc (sc sn)) <| dd <| k91 _ _ <| sr fun _ k114 => ?_
     obtain ⟨x115, hx115, h⟩ := bnd h
     refine mv rfl ?_
     obtain ⟨⟨_, r_116_0, r_116_1⟩, hr117, rfl, hq118_0, hq118_1⟩ := Rels.idx hq113 hx115
     refine ya (Yld.nilCheckQ (bs := x108) rfl hx115) <| ya (Yld.fieldAddrC Try.underlying39 rfl nz_3 rfl rfl) <| ya (Yld.loadC (xs := ((rs21.set (x44).toNat (Rhistory_Op.mk ({ x96 with fReturn := x23 } : Shistory_Op) r_98_0 r_98_1)).set (x44).toNat (Rhistory_Op.mk ({ x107 with fResult := x38.fResult } : Shistory_Op) r_109_0 r_109_1))) (j := 1) scal_3 rfl (RdH.own (k := 116) rfl) hr117 rfl rfl) <| ya (Yld.eqlI rfl rfl) <| mv rfl <| spl h beq_iff_eq.2 beq_eq_false_iff_ne.2 (fun hc119 h => ?_) fun hc119 h => ?_
     ·refine yg (Yld.fieldAddr Try.underlying87 rfl nz_27 rfl rfl) <| yg (Yld.loadB (k := 142) scal_27 rfl rfl rfl) <| yg (Yld.eqlI rfl rfl) <| pt rfl rfl <| dn <| k114 _ _ <| cnd h rfl beq_iff_eq.2 beq_eq_false_iff_ne.2 (fun hc120 h => ?_) fun hc120 h => ?_
      ·refine rg fun _ k121 => ?_
       obtain ⟨x122, hx122, h⟩ := bnd h
       obtain ⟨x130, hx130, h⟩ := bnd h
       obtain ⟨x134, hx134, h⟩ := bnd h
       obtain ⟨x135, hx135, h⟩ := bnd h
       refine mv rfl <| ya (Yld.fieldAddr Try.underlying87 rfl nz_23 rfl rfl) <| ya (Yld.loadB (k := 142) scal_23 rfl rfl rfl) <| c1 226 Try.func31 rfl (fun w hb hh => w_bytes_Clone (Mem.snap w) r_39_0.A r_39_0.n r_39_0.c _ (RdH.sn (RdH.memM (k := 0) rfl hq41_0) w hb hh) hx122) fun A127 n128 c129 => ?_
       obtain ⟨⟨_, r_131_0, r_131_1⟩, hr132, rfl, hq133_0, hq133_1⟩ := Rels.idx hq113 hx130
       refine ya (Yld.nilCheckQ (bs := x108) rfl hx130) <| ya (Yld.fieldAddrC Try.underlying39 rfl nz_23 rfl rfl) <| WL.freeze 226 rfl rfl rfl fun M136 hm_M136 hf137 => ?_
       obtain ⟨⟨_, r_138_0, r_138_1⟩, hr139, rfl, hq140_0, hq140_1⟩ := Rels.idx (Rels.lift hq113 hm_M136) hx134
       obtain ⟨hu141, hq142⟩ := Rels.upd (r := (Rhistory_Op.mk ({ x134 with fGot := x122 } : Shistory_Op) r_138_0 (⟨A127, n128, c129⟩ : Hdr))) (Rels.lift hq113 hm_M136) hx135 ⟨rfl, hq140_0, hf137⟩
       exact WL.eff0 (Eff0.storeC 116 (xs := ((rs21.set (x44).toNat (Rhistory_Op.mk ({ x96 with fReturn := x23 } : Shistory_Op) r_98_0 r_98_1)).set (x44).toNat (Rhistory_Op.mk ({ x107 with fResult := x38.fResult } : Shistory_Op) r_109_0 r_109_1))) (j := 5) (a := (Rhistory_Op.mk x134 r_138_0 r_138_1)) (a' := (Rhistory_Op.mk ({ x134 with fGot := x122 } : Shistory_Op) r_138_0 (⟨A127, n128, c129⟩ : Hdr))) siz_23 rfl rfl rfl rfl hr139 rfl rfl hu141) <| dn <| k121 _ _ <| bn <| bn <| tn <| kw (k36 ⟨M136, A17, n18, c19, x135, (((rs21.set (x44).toNat (Rhistory_Op.mk ({ x96 with fReturn := x23 } : Shistory_Op) r_98_0 r_98_1)).set (x44).toNat (Rhistory_Op.mk ({ x107 with fResult := x38.fResult } : Shistory_Op) r_109_0 r_109_1)).set (x44).toNat (Rhistory_Op.mk ({ x134 with fGot := x122 } : Shistory_Op) r_138_0 (⟨A127, n128, c129⟩ : Hdr)))⟩ ⟨h, hm_M136, hq142⟩)
      exact WC.skip <| bn <| bn <| tn <| kw (k36 ⟨M14, A17, n18, c19, x108, ((rs21.set (x44).toNat (Rhistory_Op.mk ({ x96 with fReturn := x23 } : Shistory_Op) r_98_0 r_98_1)).set (x44).toNat (Rhistory_Op.mk ({ x107 with fResult := x38.fResult } : Shistory_Op) r_109_0 r_109_1))⟩ ⟨h, (Ext.refl _ _), hq113⟩)
     exact sk <| sk <| sk <| pf rfl rfl <| dn <| k114 _ _ <| cdF rfl <| WC.skip <| bn <| bn <| tn <| kw (k36 ⟨M14, A17, n18, c19, x108, ((rs21.set (x44).toNat (Rhistory_Op.mk ({ x96 with fReturn := x23 } : Shistory_Op) r_98_0 r_98_1)).set (x44).toNat (Rhistory_Op.mk ({ x107 with fResult := x38.fResult } : Shistory_Op) r_109_0 r_109_1))⟩ ⟨h, (Ext.refl _ _), hq113⟩)
    refine sr fun _ k143 => ya (Yld.fieldAddr Try.underlying87 rfl nz_3 rfl rfl) <| ya (Yld.loadB (k := 142) scal_3 rfl rfl rfl) <| ya (Yld.eqlI rfl rfl) <| asn rfl <| dn <| k143 _ _ <| cnd h rfl beq_iff_eq.2 beq_eq_false_iff_ne.2 (fun hc144 h => ?_) fun hc144 h => ?_
    ·refine sr fun _ k145 => mv rfl <| ya (Yld.lenD (rs := rs21) (xs := x20) (Rels.len hq22) und_46 rfl (RdH.own (k := 116) rfl)) <| mv rfl <| dn <| k145 _ _ <| bl <| lp (τ := (List (Shistory_Op)) × (List Rhistory_Op) × Int) (fun ⟨x146, rs147, x149⟩ => [(4, .slice A17 n18 c19), (5, I64 x23), (10, .slice A00 n00 c00), (11, I64 (x00.length : Int)), (12, I64 x23), (93, I64 (x20.length : Int)), (94, I64 x149)]) (fun ⟨x146, rs147, x149⟩ => [(0, .mem M14), (116, .own 39 (Lay.sz Rhistory_Op) A17 n18 c19 (cel rs147))]) (fun q150 ⟨x146, rs147, x149⟩ => m_history_Build_l5 x20 x23 (m_history_Build_l1 x00 q24) q150 x146 x149 = some res /\ Rels (rel_history_Op M14) rs147 x146) ⟨x20, rs21, (0 : Int)⟩ ?_ (by simp [m_history_Build_l5]) ?_
     ·exact ⟨h, hq22⟩
     rintro q150 ⟨x146, rs147, x149⟩ ⟨h, hq148⟩ _ k151
     unfold m_history_Build_l5 at h
     refine sr fun _ k152 => ya (Yld.lss rfl rfl) <| dn <| k152 _ _ <| sq fun _ k153 => cnd h rfl decide_eq_true decide_eq_false (fun hc154 h => ?_) fun hc154 h => ?_
     ·refine ss <| k153 _ _ <| sq fun _ k155 => bl <| sr fun _ k156 => mv rfl <| asn rfl <| dn <| k156 _ _ <| sr fun _ k157 => ?_
      obtain ⟨x158, hx158, h⟩ := bnd h
      obtain ⟨x162, hx162, h⟩ := bnd h
      refine mv rfl <| mv rfl ?_
      obtain ⟨⟨_, r_159_0, r_159_1⟩, hr160, rfl, hq161_0, hq161_1⟩ := Rels.idx hq148 hx158
      refine ya (Yld.idxC (xs := rs147) sty_46 rfl rfl (RdH.own (k := 116) rfl) hr160) <| ya (Yld.loadA (xs := rs147) agg_39 rfl (RdH.own (k := 116) rfl) hr160 rfl) <| c0 Try.func39 rfl (fun w hb hh => w_history_Op_open (Mem.snap w) x158.fClient x158.fKind x158.fKey x158.fCookie r_159_0.A r_159_0.n r_159_0.c _ (RdH.sn (RdH.memM (k := 0) rfl hq161_0) w hb hh) r_159_1.A r_159_1.n r_159_1.c _ (RdH.sn (RdH.memM (k := 0) rfl hq161_1) w hb hh) x158.fCall x158.fReturn x158.fClosed x158.fResult hx162) <| dn <| k157 _ _ <| cnd h rfl id Bool.eq_false_iff.2 (fun hc164 h => ?_) fun hc164 h => ?_
      ·refine rg fun _ k165 => ?_
       obtain ⟨x166, hx166, h⟩ := bnd h
       obtain ⟨x170, hx170, h⟩ := bnd h
       obtain ⟨x171, hx171, h⟩ := bnd h
       refine mv rfl <| mv rfl <| mv rfl ?_
       obtain ⟨⟨_, r_167_0, r_167_1⟩, hr168, rfl, hq169_0, hq169_1⟩ := Rels.idx hq148 hx166
       refine ya (Yld.idxC (xs := rs147) sty_46 rfl rfl (RdH.own (k := 116) rfl) hr168) <| ya (Yld.fieldAddrC Try.underlying39 rfl nz_3 rfl rfl) ?_
       obtain ⟨⟨_, r_172_0, r_172_1⟩, hr173, rfl, hq174_0, hq174_1⟩ := Rels.idx hq148 hx170
       obtain ⟨hu175, hq176⟩ := Rels.upd (r := (Rhistory_Op.mk ({ x170 with fClosed := x23 } : Shistory_Op) r_172_0 r_172_1)) hq148 hx171 ⟨rfl, hq174_0, hq174_1⟩
       refine WL.eff0 (Eff0.storeC 116 (xs := rs147) (j := 8) (a := (Rhistory_Op.mk x170 r_172_0 r_172_1)) (a' := (Rhistory_Op.mk ({ x170 with fClosed := x23 } : Shistory_Op) r_172_0 r_172_1)) siz_3 rfl rfl rfl rfl hr173 rfl rfl hu175) <| dn <| k165 _ _ <| bn <| tn <| k155 _ _ <| rg fun _ k177 => ?_
       obtain ⟨x178, hx178, h⟩ := bnd h
       exact ya (Yld.addC rfl rfl hx178) <| mv rfl <| dn <| k177 _ _ <| tn <| kw (k151 ⟨x171, (rs147.set (x149).toNat (Rhistory_Op.mk ({ x170 with fClosed := x23 } : Shistory_Op) r_172_0 r_172_1)), x178⟩ ⟨h, hq176⟩)
      refine WC.skip <| bn <| tn <| k155 _ _ <| rg fun _ k179 => ?_
      obtain ⟨x180, hx180, h⟩ := bnd h
      exact ya (Yld.addC rfl rfl hx180) <| mv rfl <| dn <| k179 _ _ <| tn <| kw (k151 ⟨x146, rs147, x180⟩ ⟨h, hq148⟩)
     exact xi <| te <| te <| bx <| bn <| bn <| tn <| kw (k36 ⟨M14, A17, n18, c19, x146, rs147⟩ ⟨h, (Ext.refl _ _), hq148⟩)
    refine sr fun _ k181 => asn rfl <| asn rfl <| dn <| k181 _ _ <| re <| br <| br <| tr <| tr <| br <| tr <| QK.nilOwn 282 39 (Lay.sz Rhistory_Op) none ?_
    injection h with h; subst h
    exact rt [282] (ResIs.two rfl rfl rfl) hm_M14 ⟨none, 0, 0, ([] : List Rhistory_Op), rfl, rfl, (Rels.nil (R := rel_history_Op M14))⟩
   rintro ⟨M29, A30, n31, c32, x33, rs34⟩ ⟨h, hm_M29, hq35⟩
   unfold m_history_Build_j2 at h
   refine rg fun _ k183 => ?_
   obtain ⟨x184, hx184, h⟩ := bnd h
   exact ya (Yld.addC rfl rfl hx184) <| mv rfl <| dn <| k183 _ _ <| tn <| kw (k25 ⟨M29, A30, n31, c32, x33, rs34, x184⟩ ⟨h, (Ext.trans hm_M14 hm_M29), hq35⟩)
  exact xi <| te <| te <| bx <| tn <| KK.move 116 105 rfl rfl <| kw (k12 ⟨M14, A17, n18, c19, x20, rs21⟩ ⟨h, hm_M14, hq22⟩)
 rintro ⟨M3, A6, n7, c8, x9, rs10⟩ ⟨h, hm_M3, hq11⟩
 unfold m_history_Build_j0 at h
 refine sr fun _ k185 => mv rfl <| asn rfl <| asn rfl <| dn <| k185 _ _ <| re ?_
 injection h with h; subst h
 exact rt [105] (ResIs.two rfl rfl rfl) hm_M3 ⟨A6, n7, c8, rs10, rfl, rfl, hq11⟩
end Go.Proofs.Ytkcccenekglkoaa
