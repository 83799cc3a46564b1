/-
 Walks (j2): what a function's model gives, the function returns. Printed by a program of ours (vcm.py) from the function's operations. Conditions: as each theorem says.
-/
import Derived.Test.YtkcccenekglkoaaWki
import Derived.Test.YtkcccenekglkoaaMdj2
namespace Go.Proofs.Ytkcccenekglkoaa
open Go Go.RowKit
set_option linter.unusedVariables false

theorem bu_39_0_1_3_5_6_7_8 : ∀ (a0 : Int) (a1 : Int) (a3 : BitVec 32) (a5 : Option Addr) (n5 c5 : Nat) (a6 : Int) (a7 : Int) (a8 : Int), Try.prog.built 39 [(0, I64 a0), (1, I64 a1), (3, U32 a3), (5, .slice a5 n5 c5), (6, I64 a6), (7, I64 a7), (8, I64 a8)] = some ([I64 a0, I64 a1, U64 0#64, U32 a3, .slice none 0 0, .slice a5 n5 c5, I64 a6, I64 a7, I64 a8, I64 (0 : Int)] : List Value).toArray := fun a0 a1 a3 a5 n5 c5 a6 a7 a8 => by kernel_rfl
theorem bu_39_0_1_3_6_7_8_9 : ∀ (a0 : Int) (a1 : Int) (a3 : BitVec 32) (a6 : Int) (a7 : Int) (a8 : Int) (a9 : Int), Try.prog.built 39 [(0, I64 a0), (1, I64 a1), (3, U32 a3), (6, I64 a6), (7, I64 a7), (8, I64 a8), (9, I64 a9)] = some ([I64 a0, I64 a1, U64 0#64, U32 a3, .slice none 0 0, .slice none 0 0, I64 a6, I64 a7, I64 a8, I64 a9] : List Value).toArray := fun a0 a1 a3 a6 a7 a8 a9 => by kernel_rfl
theorem bu_39_1_3_4_6_7_8 : ∀ (a1 : Int) (a3 : BitVec 32) (a4 : Option Addr) (n4 c4 : Nat) (a6 : Int) (a7 : Int) (a8 : Int), Try.prog.built 39 [(1, I64 a1), (3, U32 a3), (4, .slice a4 n4 c4), (6, I64 a6), (7, I64 a7), (8, I64 a8)] = some ([I64 (0 : Int), I64 a1, U64 0#64, U32 a3, .slice a4 n4 c4, .slice none 0 0, I64 a6, I64 a7, I64 a8, I64 (0 : Int)] : List Value).toArray := fun a1 a3 a4 n4 c4 a6 a7 a8 => by kernel_rfl
theorem nm_8 : (Try.f8.name == "runtime.NumGoroutine") = false := by kernel_rfl

structure Rneedlestoreref25_State where
 x : Sneedlestoreref25_State
 h0 : Hdr
instance : Lay Rneedlestoreref25_State := ⟨3, fun r => [.bool r.x.fHas, U32 r.x.fCookie, .slice r.h0.A r.h0.n r.h0.c], fun _ => rfl, fun _ u h => by simp only [List.mem_cons, List.not_mem_nil, or_false] at h; rcases h with rfl | rfl | rfl <;> rfl, by decide⟩
def rel_needlestoreref25_State (M : Mem) (r : Rneedlestoreref25_State) (x : Sneedlestoreref25_State) : Prop := x = r.x ∧ (RelB (α := BitVec 8)) M r.h0 x.fData
instance : Mono rel_needlestoreref25_State := ⟨fun ⟨h0, h1⟩ hm => ⟨h0, Mono.mono h1 hm⟩⟩

set_option maxRecDepth 10000 in
theorem w_law25_LinearClosed (M0 : Mem) (x00 : BitVec 32) (A01 : Option Addr) (n01 c01 : Nat) (x01 : List (BitVec 8)) (hf01 : SlT M0 A01 n01 c01 x01) (x02 : Bool) {res : Bool} (h : m_law25_LinearClosed x00 x01 x02 = some res) :
  Fn Try.prog 5 #[U32 x00, .slice A01 n01 c01, .bool x02] M0 fun r M' es => r = .bool res ∧ es = [] := by
 refine Fn.intro (N := 42) Try.func5 rfl rfl (Nat.le_of_ble_eq_true rfl) fun w0 => ?_
 unfold m_law25_LinearClosed at h
 refine sr fun _ k1 => asn rfl <| dn <| k1 _ _ <| sq fun _ k2 => sr fun _ k3 => mv rfl <| ya (Yld.lenC (xs := x01) und_23 rfl (RdH.memM (k := 0) rfl hf01)) <| ya (Yld.gtr rfl rfl) <| dn <| k3 _ _ <| cnd h rfl decide_eq_true decide_eq_false (fun hc4 h => ?_) fun hc4 h => ?_
 ·
  refine sr fun _ k5 => ?_
  obtain ⟨x6, hx6, h⟩ := bnd h
  refine c0 Try.func8 rfl (fun w hb hh => w_law25_awake (Mem.snap w) hx6) <| asn rfl <| dn <| k5 _ _ <| re <| tr ?_
  injection h with h; subst h
  exact rt0 (ResIs.one rfl rfl)
 refine ss <| k2 _ _ <| sr fun _ k8 => mv rfl <| mv rfl <| ya (Yld.build rfl (bu_39_1_3_4_6_7_8 (1 : Int) x00 A01 n01 c01 (0 : Int) (-1 : Int) (1 : Int))) <| mv rfl <| ya (Yld.build rfl (bu_39_0_1_3_6_7_8_9 (1 : Int) (3 : Int) x00 (2 : Int) (3 : Int) (-1 : Int) (6 : Int))) <| mv rfl <| mv rfl <| ya (Yld.build rfl (bu_39_0_1_3_5_6_7_8 (1 : Int) (3 : Int) x00 A01 n01 c01 (4 : Int) (5 : Int) (-1 : Int))) ?_
 have hq10 : Rels (rel_history_Op M0) ([(Rhistory_Op.mk (Shistory_Op.mk (0 : Int) (1 : Int) 0#64 x00 x01 ([] : List (BitVec 8)) (0 : Int) (-1 : Int) (1 : Int) (0 : Int)) (⟨A01, n01, c01⟩ : Hdr) (⟨none, 0, 0⟩ : Hdr)), (Rhistory_Op.mk (Shistory_Op.mk (1 : Int) (3 : Int) 0#64 x00 ([] : List (BitVec 8)) ([] : List (BitVec 8)) (2 : Int) (3 : Int) (-1 : Int) (6 : Int)) (⟨none, 0, 0⟩ : Hdr) (⟨none, 0, 0⟩ : Hdr)), (Rhistory_Op.mk (Shistory_Op.mk (1 : Int) (3 : Int) 0#64 x00 ([] : List (BitVec 8)) x01 (4 : Int) (5 : Int) (-1 : Int) (0 : Int)) (⟨none, 0, 0⟩ : Hdr) (⟨A01, n01, c01⟩ : Hdr))] : List Rhistory_Op) ([(Shistory_Op.mk (0 : Int) (1 : Int) 0#64 x00 x01 ([] : List (BitVec 8)) (0 : Int) (-1 : Int) (1 : Int) (0 : Int)), (Shistory_Op.mk (1 : Int) (3 : Int) 0#64 x00 ([] : List (BitVec 8)) ([] : List (BitVec 8)) (2 : Int) (3 : Int) (-1 : Int) (6 : Int)), (Shistory_Op.mk (1 : Int) (3 : Int) 0#64 x00 ([] : List (BitVec 8)) x01 (4 : Int) (5 : Int) (-1 : Int) (0 : Int))] : List (Shistory_Op)) := (Rels.cons ⟨rfl, hf01, SlT.nil⟩ (Rels.cons ⟨rfl, SlT.nil, SlT.nil⟩ (Rels.cons ⟨rfl, SlT.nil, hf01⟩ Rels.nil)))
 refine WL.eff (by decide) (Eff.buildCA 109 ([(Rhistory_Op.mk (Shistory_Op.mk (0 : Int) (1 : Int) 0#64 x00 x01 ([] : List (BitVec 8)) (0 : Int) (-1 : Int) (1 : Int) (0 : Int)) (⟨A01, n01, c01⟩ : Hdr) (⟨none, 0, 0⟩ : Hdr)), (Rhistory_Op.mk (Shistory_Op.mk (1 : Int) (3 : Int) 0#64 x00 ([] : List (BitVec 8)) ([] : List (BitVec 8)) (2 : Int) (3 : Int) (-1 : Int) (6 : Int)) (⟨none, 0, 0⟩ : Hdr) (⟨none, 0, 0⟩ : Hdr)), (Rhistory_Op.mk (Shistory_Op.mk (1 : Int) (3 : Int) 0#64 x00 ([] : List (BitVec 8)) x01 (4 : Int) (5 : Int) (-1 : Int) (0 : Int)) (⟨none, 0, 0⟩ : Hdr) (⟨A01, n01, c01⟩ : Hdr))] : List Rhistory_Op) sty_46 rfl rfl rfl (by decide)) ?_
 rintro _ _ ⟨g9, rfl, rfl⟩
 refine asn rfl <| dn <| k8 _ _ <| sq fun _ k11 => sr fun _ k12 => mv rfl <| dn <| k12 _ _ <| cnd h rfl id Bool.eq_false_iff.2 (fun hc13 h => ?_) fun hc13 h => ?_
 ·
  refine rg fun _ k14 => ?_
  obtain ⟨x15, hx15, h⟩ := bnd h
  obtain ⟨x19, hx19, h⟩ := bnd h
  obtain ⟨x20, hx20, h⟩ := bnd h
  refine mv rfl ?_
  obtain ⟨⟨_, r_16_0, r_16_1⟩, hr17, rfl, hq18_0, hq18_1⟩ := Rels.idx hq10 hx15
  refine ya (Yld.idxC (xs := ([(Rhistory_Op.mk (Shistory_Op.mk (0 : Int) (1 : Int) 0#64 x00 x01 ([] : List (BitVec 8)) (0 : Int) (-1 : Int) (1 : Int) (0 : Int)) (⟨A01, n01, c01⟩ : Hdr) (⟨none, 0, 0⟩ : Hdr)), (Rhistory_Op.mk (Shistory_Op.mk (1 : Int) (3 : Int) 0#64 x00 ([] : List (BitVec 8)) ([] : List (BitVec 8)) (2 : Int) (3 : Int) (-1 : Int) (6 : Int)) (⟨none, 0, 0⟩ : Hdr) (⟨none, 0, 0⟩ : Hdr)), (Rhistory_Op.mk (Shistory_Op.mk (1 : Int) (3 : Int) 0#64 x00 ([] : List (BitVec 8)) x01 (4 : Int) (5 : Int) (-1 : Int) (0 : Int)) (⟨none, 0, 0⟩ : Hdr) (⟨A01, n01, c01⟩ : Hdr))] : List Rhistory_Op)) sty_46 rfl rfl (RdH.own (k := 109) rfl) hr17) <| ya (Yld.fieldAddrC Try.underlying39 rfl nz_3 rfl rfl) ?_
  obtain ⟨⟨_, r_21_0, r_21_1⟩, hr22, rfl, hq23_0, hq23_1⟩ := Rels.idx hq10 hx19
  obtain ⟨hu24, hq25⟩ := Rels.upd (r := (Rhistory_Op.mk ({ x19 with fClosed := (-1 : Int) } : Shistory_Op) r_21_0 r_21_1)) hq10 hx20 ⟨rfl, hq23_0, hq23_1⟩
  refine WL.eff0 (Eff0.storeC 109 (xs := ([(Rhistory_Op.mk (Shistory_Op.mk (0 : Int) (1 : Int) 0#64 x00 x01 ([] : List (BitVec 8)) (0 : Int) (-1 : Int) (1 : Int) (0 : Int)) (⟨A01, n01, c01⟩ : Hdr) (⟨none, 0, 0⟩ : Hdr)), (Rhistory_Op.mk (Shistory_Op.mk (1 : Int) (3 : Int) 0#64 x00 ([] : List (BitVec 8)) ([] : List (BitVec 8)) (2 : Int) (3 : Int) (-1 : Int) (6 : Int)) (⟨none, 0, 0⟩ : Hdr) (⟨none, 0, 0⟩ : Hdr)), (Rhistory_Op.mk (Shistory_Op.mk (1 : Int) (3 : Int) 0#64 x00 ([] : List (BitVec 8)) x01 (4 : Int) (5 : Int) (-1 : Int) (0 : Int)) (⟨none, 0, 0⟩ : Hdr) (⟨A01, n01, c01⟩ : Hdr))] : List Rhistory_Op)) (j := 8) (a := (Rhistory_Op.mk x19 r_21_0 r_21_1)) (a' := (Rhistory_Op.mk ({ x19 with fClosed := (-1 : Int) } : Shistory_Op) r_21_0 r_21_1)) siz_3 rfl rfl rfl rfl hr22 rfl rfl hu24) <| dn <| k14 _ _ <| tn <| k11 _ _ <| sr fun _ k26 => ?_
  obtain ⟨x27, hx27, h⟩ := bnd h
  refine mv rfl <| c0 Try.func16 rfl (fun w hb hh => w_linear_Check (Mem.snap w) (some ⟨g9, 0, none⟩) (([(Rhistory_Op.mk (Shistory_Op.mk (0 : Int) (1 : Int) 0#64 x00 x01 ([] : List (BitVec 8)) (0 : Int) (-1 : Int) (1 : Int) (0 : Int)) (⟨A01, n01, c01⟩ : Hdr) (⟨none, 0, 0⟩ : Hdr)), (Rhistory_Op.mk (Shistory_Op.mk (1 : Int) (3 : Int) 0#64 x00 ([] : List (BitVec 8)) ([] : List (BitVec 8)) (2 : Int) (3 : Int) (-1 : Int) (6 : Int)) (⟨none, 0, 0⟩ : Hdr) (⟨none, 0, 0⟩ : Hdr)), (Rhistory_Op.mk (Shistory_Op.mk (1 : Int) (3 : Int) 0#64 x00 ([] : List (BitVec 8)) x01 (4 : Int) (5 : Int) (-1 : Int) (0 : Int)) (⟨none, 0, 0⟩ : Hdr) (⟨A01, n01, c01⟩ : Hdr))] : List Rhistory_Op).length) (([(Rhistory_Op.mk (Shistory_Op.mk (0 : Int) (1 : Int) 0#64 x00 x01 ([] : List (BitVec 8)) (0 : Int) (-1 : Int) (1 : Int) (0 : Int)) (⟨A01, n01, c01⟩ : Hdr) (⟨none, 0, 0⟩ : Hdr)), (Rhistory_Op.mk (Shistory_Op.mk (1 : Int) (3 : Int) 0#64 x00 ([] : List (BitVec 8)) ([] : List (BitVec 8)) (2 : Int) (3 : Int) (-1 : Int) (6 : Int)) (⟨none, 0, 0⟩ : Hdr) (⟨none, 0, 0⟩ : Hdr)), (Rhistory_Op.mk (Shistory_Op.mk (1 : Int) (3 : Int) 0#64 x00 ([] : List (BitVec 8)) x01 (4 : Int) (5 : Int) (-1 : Int) (0 : Int)) (⟨none, 0, 0⟩ : Hdr) (⟨A01, n01, c01⟩ : Hdr))] : List Rhistory_Op).length) (([(Rhistory_Op.mk (Shistory_Op.mk (0 : Int) (1 : Int) 0#64 x00 x01 ([] : List (BitVec 8)) (0 : Int) (-1 : Int) (1 : Int) (0 : Int)) (⟨A01, n01, c01⟩ : Hdr) (⟨none, 0, 0⟩ : Hdr)), (Rhistory_Op.mk (Shistory_Op.mk (1 : Int) (3 : Int) 0#64 x00 ([] : List (BitVec 8)) ([] : List (BitVec 8)) (2 : Int) (3 : Int) (-1 : Int) (6 : Int)) (⟨none, 0, 0⟩ : Hdr) (⟨none, 0, 0⟩ : Hdr)), (Rhistory_Op.mk (Shistory_Op.mk (1 : Int) (3 : Int) 0#64 x00 ([] : List (BitVec 8)) x01 (4 : Int) (5 : Int) (-1 : Int) (0 : Int)) (⟨none, 0, 0⟩ : Hdr) (⟨A01, n01, c01⟩ : Hdr))] : List Rhistory_Op).set ((0 : Int)).toNat (Rhistory_Op.mk ({ x19 with fClosed := (-1 : Int) } : Shistory_Op) r_21_0 r_21_1)) _ (RdH.sn (RdH.own (k := 109) rfl) w hb hh) (Rels.sn hq25 (hh.sat 0 _ rfl)) hx27) <| mv rfl <| ya (Yld.extract rfl rfl) <| ya (Yld.extract rfl rfl) <| asn rfl <| asn rfl <| dn <| k26 _ _ <| sr fun _ k29 => mv rfl <| mv rfl <| ya (Yld.eqlB und_4 rfl rfl) <| mv rfl <| spl h beq_iff_eq.2 beq_eq_false_iff_ne.2 (fun hc30 h => ?_) fun hc30 h => ?_
  ·
   refine mvg rfl <| yg (Yld.eqlI rfl rfl) <| pt rfl rfl <| mv rfl <| spl h beq_iff_eq.2 beq_eq_false_iff_ne.2 (fun hc31 h => ?_) fun hc31 h => ?_
   ·
    obtain ⟨x32, hx32, h⟩ := bnd h
    refine c0g Try.func8 rfl (fun w hb hh => w_law25_awake (Mem.snap w) hx32) <| pt rfl rfl <| asn rfl <| dn <| k29 _ _ <| re ?_
    injection h with h; subst h
    exact rt0 (ResIs.one rfl rfl)
   refine sk <| pf rfl rfl <| asn rfl <| dn <| k29 _ _ <| re ?_
   injection h with h; subst h
   exact rt0 (ResIs.one rfl rfl)
  refine sk <| sk <| pf rfl rfl <| mv rfl <| sk <| pf rfl rfl <| asn rfl <| dn <| k29 _ _ <| re ?_
  injection h with h; subst h
  exact rt0 (ResIs.one rfl rfl)
 refine ss <| k11 _ _ <| sr fun _ k34 => ?_
 obtain ⟨x35, hx35, h⟩ := bnd h
 refine mv rfl <| c0 Try.func16 rfl (fun w hb hh => w_linear_Check (Mem.snap w) (some ⟨g9, 0, none⟩) (([(Rhistory_Op.mk (Shistory_Op.mk (0 : Int) (1 : Int) 0#64 x00 x01 ([] : List (BitVec 8)) (0 : Int) (-1 : Int) (1 : Int) (0 : Int)) (⟨A01, n01, c01⟩ : Hdr) (⟨none, 0, 0⟩ : Hdr)), (Rhistory_Op.mk (Shistory_Op.mk (1 : Int) (3 : Int) 0#64 x00 ([] : List (BitVec 8)) ([] : List (BitVec 8)) (2 : Int) (3 : Int) (-1 : Int) (6 : Int)) (⟨none, 0, 0⟩ : Hdr) (⟨none, 0, 0⟩ : Hdr)), (Rhistory_Op.mk (Shistory_Op.mk (1 : Int) (3 : Int) 0#64 x00 ([] : List (BitVec 8)) x01 (4 : Int) (5 : Int) (-1 : Int) (0 : Int)) (⟨none, 0, 0⟩ : Hdr) (⟨A01, n01, c01⟩ : Hdr))] : List Rhistory_Op).length) (([(Rhistory_Op.mk (Shistory_Op.mk (0 : Int) (1 : Int) 0#64 x00 x01 ([] : List (BitVec 8)) (0 : Int) (-1 : Int) (1 : Int) (0 : Int)) (⟨A01, n01, c01⟩ : Hdr) (⟨none, 0, 0⟩ : Hdr)), (Rhistory_Op.mk (Shistory_Op.mk (1 : Int) (3 : Int) 0#64 x00 ([] : List (BitVec 8)) ([] : List (BitVec 8)) (2 : Int) (3 : Int) (-1 : Int) (6 : Int)) (⟨none, 0, 0⟩ : Hdr) (⟨none, 0, 0⟩ : Hdr)), (Rhistory_Op.mk (Shistory_Op.mk (1 : Int) (3 : Int) 0#64 x00 ([] : List (BitVec 8)) x01 (4 : Int) (5 : Int) (-1 : Int) (0 : Int)) (⟨none, 0, 0⟩ : Hdr) (⟨A01, n01, c01⟩ : Hdr))] : List Rhistory_Op).length) ([(Rhistory_Op.mk (Shistory_Op.mk (0 : Int) (1 : Int) 0#64 x00 x01 ([] : List (BitVec 8)) (0 : Int) (-1 : Int) (1 : Int) (0 : Int)) (⟨A01, n01, c01⟩ : Hdr) (⟨none, 0, 0⟩ : Hdr)), (Rhistory_Op.mk (Shistory_Op.mk (1 : Int) (3 : Int) 0#64 x00 ([] : List (BitVec 8)) ([] : List (BitVec 8)) (2 : Int) (3 : Int) (-1 : Int) (6 : Int)) (⟨none, 0, 0⟩ : Hdr) (⟨none, 0, 0⟩ : Hdr)), (Rhistory_Op.mk (Shistory_Op.mk (1 : Int) (3 : Int) 0#64 x00 ([] : List (BitVec 8)) x01 (4 : Int) (5 : Int) (-1 : Int) (0 : Int)) (⟨none, 0, 0⟩ : Hdr) (⟨A01, n01, c01⟩ : Hdr))] : List Rhistory_Op) _ (RdH.sn (RdH.own (k := 109) rfl) w hb hh) (Rels.sn hq10 (hh.sat 0 _ rfl)) hx35) <| mv rfl <| ya (Yld.extract rfl rfl) <| ya (Yld.extract rfl rfl) <| asn rfl <| asn rfl <| dn <| k34 _ _ <| sr fun _ k37 => mv rfl <| mv rfl <| ya (Yld.eqlB und_4 rfl rfl) <| mv rfl <| spl h beq_iff_eq.2 beq_eq_false_iff_ne.2 (fun hc38 h => ?_) fun hc38 h => ?_
 ·
  refine mvg rfl <| yg (Yld.eqlI rfl rfl) <| pt rfl rfl <| mv rfl <| spl h beq_iff_eq.2 beq_eq_false_iff_ne.2 (fun hc39 h => ?_) fun hc39 h => ?_
  ·
   obtain ⟨x40, hx40, h⟩ := bnd h
   refine c0g Try.func8 rfl (fun w hb hh => w_law25_awake (Mem.snap w) hx40) <| pt rfl rfl <| asn rfl <| dn <| k37 _ _ <| re ?_
   injection h with h; subst h
   exact rt0 (ResIs.one rfl rfl)
  refine sk <| pf rfl rfl <| asn rfl <| dn <| k37 _ _ <| re ?_
  injection h with h; subst h
  exact rt0 (ResIs.one rfl rfl)
 refine sk <| sk <| pf rfl rfl <| mv rfl <| sk <| pf rfl rfl <| asn rfl <| dn <| k37 _ _ <| re ?_
 injection h with h; subst h
 exact rt0 (ResIs.one rfl rfl)

end Go.Proofs.Ytkcccenekglkoaa
