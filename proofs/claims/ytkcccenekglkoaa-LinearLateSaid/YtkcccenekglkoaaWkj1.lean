/-
 Walks (j1): what a function's model gives, the function returns. Printed by a program of ours (vcm.py) from the function's operations. Conditions: as each theorem says.
-/
import Derived.Test.YtkcccenekglkoaaWki
import Derived.Test.YtkcccenekglkoaaMdj1
namespace Go.Proofs.Ytkcccenekglkoaa
open Go Go.RowKit
set_option linter.unusedVariables false

theorem bu_39_1_3_4_6_7_8 : ∀ (a1 : Int) (a3 : BitVec 32) (a4 : Option Addr) (n4 c4 : Nat) (a6 : Int) (a7 : Int) (a8 : Int), Try.prog.built 39 [(1, I64 a1), (3, U32 a3), (4, .slice a4 n4 c4), (6, I64 a6), (7, I64 a7), (8, I64 a8)] = some ([I64 (0 : Int), I64 a1, U64 0#64, U32 a3, .slice a4 n4 c4, .slice none 0 0, I64 a6, I64 a7, I64 a8, I64 (0 : Int)] : List Value).toArray := fun a1 a3 a4 n4 c4 a6 a7 a8 => by kernel_rfl
theorem bu_39_1_3_5_6_7_8 : ∀ (a1 : Int) (a3 : BitVec 32) (a5 : Option Addr) (n5 c5 : Nat) (a6 : Int) (a7 : Int) (a8 : Int), Try.prog.built 39 [(1, I64 a1), (3, U32 a3), (5, .slice a5 n5 c5), (6, I64 a6), (7, I64 a7), (8, I64 a8)] = some ([I64 (0 : Int), I64 a1, U64 0#64, U32 a3, .slice none 0 0, .slice a5 n5 c5, I64 a6, I64 a7, I64 a8, I64 (0 : Int)] : List Value).toArray := fun a1 a3 a5 n5 c5 a6 a7 a8 => by kernel_rfl
theorem nm_8 : (Try.f8.name == "runtime.NumGoroutine") = false := by kernel_rfl

structure Rneedlestoreref25_State where
 x : Sneedlestoreref25_State
 h0 : Hdr
instance : Lay Rneedlestoreref25_State := ⟨3, fun r => [.bool r.x.fHas, U32 r.x.fCookie, .slice r.h0.A r.h0.n r.h0.c], fun _ => rfl, fun _ u h => by simp only [List.mem_cons, List.not_mem_nil, or_false] at h; rcases h with rfl | rfl | rfl <;> rfl, by decide⟩
def rel_needlestoreref25_State (M : Mem) (r : Rneedlestoreref25_State) (x : Sneedlestoreref25_State) : Prop := x = r.x ∧ (RelB (α := BitVec 8)) M r.h0 x.fData
instance : Mono rel_needlestoreref25_State := ⟨fun ⟨h0, h1⟩ hm => ⟨h0, Mono.mono h1 hm⟩⟩

set_option maxRecDepth 10000 in
theorem w_law25_LinearLate (M0 : Mem) (x00 : BitVec 32) (A01 : Option Addr) (n01 c01 : Nat) (x01 : List (BitVec 8)) (hf01 : SlT M0 A01 n01 c01 x01) (A02 : Option Addr) (n02 c02 : Nat) (x02 : List (BitVec 8)) (hf02 : SlT M0 A02 n02 c02 x02) (x03 : Bool) {res : Bool} (h : m_law25_LinearLate x00 x01 x02 x03 = some res) :
  Fn Try.prog 4 #[U32 x00, .slice A01 n01 c01, .slice A02 n02 c02, .bool x03] M0 fun r M' es => r = .bool res ∧ es = [] := by
 refine Fn.intro (N := 85) Try.func4 rfl rfl (Nat.le_of_ble_eq_true rfl) fun w0 => ?_
 unfold m_law25_LinearLate at h
 refine sr fun _ k1 => asn rfl <| dn <| k1 _ _ <| ct (σ := (Option Addr) × Nat × Nat × (List (BitVec 8)) × Bool) (fun ⟨A2, n3, c4, x5, x7⟩ => [(0, U32 x00), (1, .slice A01 n01 c01), (2, .slice A2 n3 c4), (3, .bool x7)]) (fun ⟨A2, n3, c4, x5, x7⟩ => [(0, .mem M0)]) (fun ⟨A2, n3, c4, x5, x7⟩ => m_law25_LinearLate_j0 x00 x01 x5 x7 = some res ∧ SlT M0 A2 n3 c4 x5) (fun _ k8 => ?_) ?_
 ·
  refine sr fun _ k9 => mv rfl <| ya (Yld.lenC (xs := x01) und_23 rfl (RdH.memM (k := 0) rfl hf01)) <| ya (Yld.gtr rfl rfl) <| mv rfl <| spl h decide_eq_true decide_eq_false (fun hc10 h => ?_) fun hc10 h => ?_
  ·
   refine sk <| sk <| sk <| pt rfl rfl <| mv rfl <| sk <| sk <| sk <| sk <| sk <| pt rfl rfl <| dn <| k9 _ _ <| cdT rfl <| sr fun _ k11 => ?_
   obtain ⟨x12, hx12, h⟩ := bnd h
   refine c0 Try.func8 rfl (fun w hb hh => w_law25_awake (Mem.snap w) hx12) <| asn rfl <| dn <| k11 _ _ <| re <| tr ?_
   injection h with h; subst h
   exact rt0 (ResIs.one rfl rfl)
  refine mvg rfl <| yg (Yld.lenC (xs := x02) und_23 rfl (RdH.memM (k := 0) rfl hf02)) <| yg (Yld.gtr rfl rfl) <| pf rfl rfl <| mv rfl <| spl h decide_eq_true decide_eq_false (fun hc14 h => ?_) fun hc14 h => ?_
  ·
   refine sk <| sk <| sk <| sk <| sk <| pt rfl rfl <| dn <| k9 _ _ <| cdT rfl <| sr fun _ k15 => ?_
   obtain ⟨x16, hx16, h⟩ := bnd h
   refine c0 Try.func8 rfl (fun w hb hh => w_law25_awake (Mem.snap w) hx16) <| asn rfl <| dn <| k15 _ _ <| re <| tr ?_
   injection h with h; subst h
   exact rt0 (ResIs.one rfl rfl)
  refine mvg rfl <| yg (Yld.b2sC (xs := x01) und_23 und_5 und_9 rfl (RdH.memM (k := 0) rfl hf01)) <| mvg rfl <| yg (Yld.b2sC (xs := x02) und_23 und_5 und_9 rfl (RdH.memM (k := 0) rfl hf02)) <| yg (Yld.eqlStr (a := x01) (b := x02) rfl rfl) <| pf rfl rfl <| dn <| k9 _ _ <| cnd h rfl beq_iff_eq.2 beq_eq_false_iff_ne.2 (fun hc18 h => ?_) fun hc18 h => ?_
  ·
   refine sr fun _ k19 => ?_
   obtain ⟨x20, hx20, h⟩ := bnd h
   refine c0 Try.func8 rfl (fun w hb hh => w_law25_awake (Mem.snap w) hx20) <| asn rfl <| dn <| k19 _ _ <| re <| tr ?_
   injection h with h; subst h
   exact rt0 (ResIs.one rfl rfl)
  exact WC.skip <| tn <| kw (k8 ⟨A02, n02, c02, x02, x03⟩ ⟨h, hf02⟩)
 rintro ⟨A2, n3, c4, x5, x7⟩ ⟨h, hf6⟩
 unfold m_law25_LinearLate_j0 at h
 refine sr fun _ k22 => mv rfl <| mv rfl <| ya (Yld.build rfl (bu_39_1_3_4_6_7_8 (1 : Int) x00 A01 n01 c01 (0 : Int) (1 : Int) (-1 : Int))) <| mv rfl <| mv rfl <| ya (Yld.build rfl (bu_39_1_3_4_6_7_8 (1 : Int) x00 A2 n3 c4 (2 : Int) (3 : Int) (-1 : Int))) <| mv rfl <| mv rfl <| ya (Yld.build rfl (bu_39_1_3_5_6_7_8 (3 : Int) x00 A01 n01 c01 (4 : Int) (5 : Int) (-1 : Int))) ?_
 have hq24 : Rels (rel_history_Op M0) ([(Rhistory_Op.mk (Shistory_Op.mk (0 : Int) (1 : Int) 0#64 x00 x01 ([] : List (BitVec 8)) (0 : Int) (1 : Int) (-1 : Int) (0 : Int)) (⟨A01, n01, c01⟩ : Hdr) (⟨none, 0, 0⟩ : Hdr)), (Rhistory_Op.mk (Shistory_Op.mk (0 : Int) (1 : Int) 0#64 x00 x5 ([] : List (BitVec 8)) (2 : Int) (3 : Int) (-1 : Int) (0 : Int)) (⟨A2, n3, c4⟩ : Hdr) (⟨none, 0, 0⟩ : Hdr)), (Rhistory_Op.mk (Shistory_Op.mk (0 : Int) (3 : Int) 0#64 x00 ([] : List (BitVec 8)) x01 (4 : Int) (5 : Int) (-1 : Int) (0 : Int)) (⟨none, 0, 0⟩ : Hdr) (⟨A01, n01, c01⟩ : Hdr))] : List Rhistory_Op) ([(Shistory_Op.mk (0 : Int) (1 : Int) 0#64 x00 x01 ([] : List (BitVec 8)) (0 : Int) (1 : Int) (-1 : Int) (0 : Int)), (Shistory_Op.mk (0 : Int) (1 : Int) 0#64 x00 x5 ([] : List (BitVec 8)) (2 : Int) (3 : Int) (-1 : Int) (0 : Int)), (Shistory_Op.mk (0 : Int) (3 : Int) 0#64 x00 ([] : List (BitVec 8)) x01 (4 : Int) (5 : Int) (-1 : Int) (0 : Int))] : List (Shistory_Op)) := (Rels.cons ⟨rfl, hf01, SlT.nil⟩ (Rels.cons ⟨rfl, hf6, SlT.nil⟩ (Rels.cons ⟨rfl, SlT.nil, hf01⟩ Rels.nil)))
 refine WL.eff (by decide) (Eff.buildCA 123 ([(Rhistory_Op.mk (Shistory_Op.mk (0 : Int) (1 : Int) 0#64 x00 x01 ([] : List (BitVec 8)) (0 : Int) (1 : Int) (-1 : Int) (0 : Int)) (⟨A01, n01, c01⟩ : Hdr) (⟨none, 0, 0⟩ : Hdr)), (Rhistory_Op.mk (Shistory_Op.mk (0 : Int) (1 : Int) 0#64 x00 x5 ([] : List (BitVec 8)) (2 : Int) (3 : Int) (-1 : Int) (0 : Int)) (⟨A2, n3, c4⟩ : Hdr) (⟨none, 0, 0⟩ : Hdr)), (Rhistory_Op.mk (Shistory_Op.mk (0 : Int) (3 : Int) 0#64 x00 ([] : List (BitVec 8)) x01 (4 : Int) (5 : Int) (-1 : Int) (0 : Int)) (⟨none, 0, 0⟩ : Hdr) (⟨A01, n01, c01⟩ : Hdr))] : List Rhistory_Op) sty_46 rfl rfl rfl (by decide)) ?_
 rintro _ _ ⟨g23, rfl, rfl⟩
 refine asn rfl <| dn <| k22 _ _ <| ct (σ := (List (Shistory_Op)) × (List Rhistory_Op)) (fun ⟨x25, rs26⟩ => [(9, .slice (some ⟨g23, 0, none⟩) (([(Rhistory_Op.mk (Shistory_Op.mk (0 : Int) (1 : Int) 0#64 x00 x01 ([] : List (BitVec 8)) (0 : Int) (1 : Int) (-1 : Int) (0 : Int)) (⟨A01, n01, c01⟩ : Hdr) (⟨none, 0, 0⟩ : Hdr)), (Rhistory_Op.mk (Shistory_Op.mk (0 : Int) (1 : Int) 0#64 x00 x5 ([] : List (BitVec 8)) (2 : Int) (3 : Int) (-1 : Int) (0 : Int)) (⟨A2, n3, c4⟩ : Hdr) (⟨none, 0, 0⟩ : Hdr)), (Rhistory_Op.mk (Shistory_Op.mk (0 : Int) (3 : Int) 0#64 x00 ([] : List (BitVec 8)) x01 (4 : Int) (5 : Int) (-1 : Int) (0 : Int)) (⟨none, 0, 0⟩ : Hdr) (⟨A01, n01, c01⟩ : Hdr))] : List Rhistory_Op).length) (([(Rhistory_Op.mk (Shistory_Op.mk (0 : Int) (1 : Int) 0#64 x00 x01 ([] : List (BitVec 8)) (0 : Int) (1 : Int) (-1 : Int) (0 : Int)) (⟨A01, n01, c01⟩ : Hdr) (⟨none, 0, 0⟩ : Hdr)), (Rhistory_Op.mk (Shistory_Op.mk (0 : Int) (1 : Int) 0#64 x00 x5 ([] : List (BitVec 8)) (2 : Int) (3 : Int) (-1 : Int) (0 : Int)) (⟨A2, n3, c4⟩ : Hdr) (⟨none, 0, 0⟩ : Hdr)), (Rhistory_Op.mk (Shistory_Op.mk (0 : Int) (3 : Int) 0#64 x00 ([] : List (BitVec 8)) x01 (4 : Int) (5 : Int) (-1 : Int) (0 : Int)) (⟨none, 0, 0⟩ : Hdr) (⟨A01, n01, c01⟩ : Hdr))] : List Rhistory_Op).length))]) (fun ⟨x25, rs26⟩ => [(0, .mem M0), (123, .own 39 (Lay.sz Rhistory_Op) (some ⟨g23, 0, none⟩) (([(Rhistory_Op.mk (Shistory_Op.mk (0 : Int) (1 : Int) 0#64 x00 x01 ([] : List (BitVec 8)) (0 : Int) (1 : Int) (-1 : Int) (0 : Int)) (⟨A01, n01, c01⟩ : Hdr) (⟨none, 0, 0⟩ : Hdr)), (Rhistory_Op.mk (Shistory_Op.mk (0 : Int) (1 : Int) 0#64 x00 x5 ([] : List (BitVec 8)) (2 : Int) (3 : Int) (-1 : Int) (0 : Int)) (⟨A2, n3, c4⟩ : Hdr) (⟨none, 0, 0⟩ : Hdr)), (Rhistory_Op.mk (Shistory_Op.mk (0 : Int) (3 : Int) 0#64 x00 ([] : List (BitVec 8)) x01 (4 : Int) (5 : Int) (-1 : Int) (0 : Int)) (⟨none, 0, 0⟩ : Hdr) (⟨A01, n01, c01⟩ : Hdr))] : List Rhistory_Op).length) (([(Rhistory_Op.mk (Shistory_Op.mk (0 : Int) (1 : Int) 0#64 x00 x01 ([] : List (BitVec 8)) (0 : Int) (1 : Int) (-1 : Int) (0 : Int)) (⟨A01, n01, c01⟩ : Hdr) (⟨none, 0, 0⟩ : Hdr)), (Rhistory_Op.mk (Shistory_Op.mk (0 : Int) (1 : Int) 0#64 x00 x5 ([] : List (BitVec 8)) (2 : Int) (3 : Int) (-1 : Int) (0 : Int)) (⟨A2, n3, c4⟩ : Hdr) (⟨none, 0, 0⟩ : Hdr)), (Rhistory_Op.mk (Shistory_Op.mk (0 : Int) (3 : Int) 0#64 x00 ([] : List (BitVec 8)) x01 (4 : Int) (5 : Int) (-1 : Int) (0 : Int)) (⟨none, 0, 0⟩ : Hdr) (⟨A01, n01, c01⟩ : Hdr))] : List Rhistory_Op).length) (cel rs26))]) (fun ⟨x25, rs26⟩ => m_law25_LinearLate_j1 x25 = some res ∧ Rels (rel_history_Op M0) rs26 x25) (fun _ k28 => ?_) ?_
 ·
  refine sr fun _ k29 => mv rfl <| dn <| k29 _ _ <| cnd h rfl id Bool.eq_false_iff.2 (fun hc30 h => ?_) fun hc30 h => ?_
  ·
   refine rg fun _ k31 => ?_
   obtain ⟨x32, hx32, h⟩ := bnd h
   obtain ⟨x36, hx36, h⟩ := bnd h
   obtain ⟨x37, hx37, h⟩ := bnd h
   obtain ⟨x43, hx43, h⟩ := bnd h
   obtain ⟨x47, hx47, h⟩ := bnd h
   obtain ⟨x48, hx48, h⟩ := bnd h
   refine mv rfl <| mv rfl ?_
   obtain ⟨⟨_, r_33_0, r_33_1⟩, hr34, rfl, hq35_0, hq35_1⟩ := Rels.idx hq24 hx32
   refine ya (Yld.idxC (xs := ([(Rhistory_Op.mk (Shistory_Op.mk (0 : Int) (1 : Int) 0#64 x00 x01 ([] : List (BitVec 8)) (0 : Int) (1 : Int) (-1 : Int) (0 : Int)) (⟨A01, n01, c01⟩ : Hdr) (⟨none, 0, 0⟩ : Hdr)), (Rhistory_Op.mk (Shistory_Op.mk (0 : Int) (1 : Int) 0#64 x00 x5 ([] : List (BitVec 8)) (2 : Int) (3 : Int) (-1 : Int) (0 : Int)) (⟨A2, n3, c4⟩ : Hdr) (⟨none, 0, 0⟩ : Hdr)), (Rhistory_Op.mk (Shistory_Op.mk (0 : Int) (3 : Int) 0#64 x00 ([] : List (BitVec 8)) x01 (4 : Int) (5 : Int) (-1 : Int) (0 : Int)) (⟨none, 0, 0⟩ : Hdr) (⟨A01, n01, c01⟩ : Hdr))] : List Rhistory_Op)) sty_46 rfl rfl (RdH.own (k := 123) rfl) hr34) <| ya (Yld.fieldAddrC Try.underlying39 rfl nz_3 rfl rfl) ?_
   obtain ⟨⟨_, r_38_0, r_38_1⟩, hr39, rfl, hq40_0, hq40_1⟩ := Rels.idx hq24 hx36
   obtain ⟨hu41, hq42⟩ := Rels.upd (r := (Rhistory_Op.mk ({ x36 with fKind := (2 : Int) } : Shistory_Op) r_38_0 r_38_1)) hq24 hx37 ⟨rfl, hq40_0, hq40_1⟩
   refine WL.eff0 (Eff0.storeC 123 (xs := ([(Rhistory_Op.mk (Shistory_Op.mk (0 : Int) (1 : Int) 0#64 x00 x01 ([] : List (BitVec 8)) (0 : Int) (1 : Int) (-1 : Int) (0 : Int)) (⟨A01, n01, c01⟩ : Hdr) (⟨none, 0, 0⟩ : Hdr)), (Rhistory_Op.mk (Shistory_Op.mk (0 : Int) (1 : Int) 0#64 x00 x5 ([] : List (BitVec 8)) (2 : Int) (3 : Int) (-1 : Int) (0 : Int)) (⟨A2, n3, c4⟩ : Hdr) (⟨none, 0, 0⟩ : Hdr)), (Rhistory_Op.mk (Shistory_Op.mk (0 : Int) (3 : Int) 0#64 x00 ([] : List (BitVec 8)) x01 (4 : Int) (5 : Int) (-1 : Int) (0 : Int)) (⟨none, 0, 0⟩ : Hdr) (⟨A01, n01, c01⟩ : Hdr))] : List Rhistory_Op)) (j := 1) (a := (Rhistory_Op.mk x36 r_38_0 r_38_1)) (a' := (Rhistory_Op.mk ({ x36 with fKind := (2 : Int) } : Shistory_Op) r_38_0 r_38_1)) siz_3 rfl rfl rfl rfl hr39 rfl rfl hu41) ?_
   obtain ⟨⟨_, r_44_0, r_44_1⟩, hr45, rfl, hq46_0, hq46_1⟩ := Rels.idx hq42 hx43
   refine ya (Yld.idxC (xs := (([(Rhistory_Op.mk (Shistory_Op.mk (0 : Int) (1 : Int) 0#64 x00 x01 ([] : List (BitVec 8)) (0 : Int) (1 : Int) (-1 : Int) (0 : Int)) (⟨A01, n01, c01⟩ : Hdr) (⟨none, 0, 0⟩ : Hdr)), (Rhistory_Op.mk (Shistory_Op.mk (0 : Int) (1 : Int) 0#64 x00 x5 ([] : List (BitVec 8)) (2 : Int) (3 : Int) (-1 : Int) (0 : Int)) (⟨A2, n3, c4⟩ : Hdr) (⟨none, 0, 0⟩ : Hdr)), (Rhistory_Op.mk (Shistory_Op.mk (0 : Int) (3 : Int) 0#64 x00 ([] : List (BitVec 8)) x01 (4 : Int) (5 : Int) (-1 : Int) (0 : Int)) (⟨none, 0, 0⟩ : Hdr) (⟨A01, n01, c01⟩ : Hdr))] : List Rhistory_Op).set ((1 : Int)).toNat (Rhistory_Op.mk ({ x36 with fKind := (2 : Int) } : Shistory_Op) r_38_0 r_38_1))) sty_46 rfl rfl (RdH.own (k := 123) rfl) hr45) <| ya (Yld.fieldAddrC Try.underlying39 rfl nz_23 rfl rfl) ?_
   obtain ⟨⟨_, r_49_0, r_49_1⟩, hr50, rfl, hq51_0, hq51_1⟩ := Rels.idx hq42 hx47
   obtain ⟨hu52, hq53⟩ := Rels.upd (r := (Rhistory_Op.mk ({ x47 with fData := ([] : List (BitVec 8)) } : Shistory_Op) (⟨none, 0, 0⟩ : Hdr) r_49_1)) hq42 hx48 ⟨rfl, SlT.nil, hq51_1⟩
   exact WL.eff0 (Eff0.storeC 123 (xs := (([(Rhistory_Op.mk (Shistory_Op.mk (0 : Int) (1 : Int) 0#64 x00 x01 ([] : List (BitVec 8)) (0 : Int) (1 : Int) (-1 : Int) (0 : Int)) (⟨A01, n01, c01⟩ : Hdr) (⟨none, 0, 0⟩ : Hdr)), (Rhistory_Op.mk (Shistory_Op.mk (0 : Int) (1 : Int) 0#64 x00 x5 ([] : List (BitVec 8)) (2 : Int) (3 : Int) (-1 : Int) (0 : Int)) (⟨A2, n3, c4⟩ : Hdr) (⟨none, 0, 0⟩ : Hdr)), (Rhistory_Op.mk (Shistory_Op.mk (0 : Int) (3 : Int) 0#64 x00 ([] : List (BitVec 8)) x01 (4 : Int) (5 : Int) (-1 : Int) (0 : Int)) (⟨none, 0, 0⟩ : Hdr) (⟨A01, n01, c01⟩ : Hdr))] : List Rhistory_Op).set ((1 : Int)).toNat (Rhistory_Op.mk ({ x36 with fKind := (2 : Int) } : Shistory_Op) r_38_0 r_38_1))) (j := 4) (a := (Rhistory_Op.mk x47 r_49_0 r_49_1)) (a' := (Rhistory_Op.mk ({ x47 with fData := ([] : List (BitVec 8)) } : Shistory_Op) (⟨none, 0, 0⟩ : Hdr) r_49_1)) siz_23 rfl rfl rfl rfl hr50 rfl rfl hu52) <| dn <| k31 _ _ <| tn <| kw (k28 ⟨x48, ((([(Rhistory_Op.mk (Shistory_Op.mk (0 : Int) (1 : Int) 0#64 x00 x01 ([] : List (BitVec 8)) (0 : Int) (1 : Int) (-1 : Int) (0 : Int)) (⟨A01, n01, c01⟩ : Hdr) (⟨none, 0, 0⟩ : Hdr)), (Rhistory_Op.mk (Shistory_Op.mk (0 : Int) (1 : Int) 0#64 x00 x5 ([] : List (BitVec 8)) (2 : Int) (3 : Int) (-1 : Int) (0 : Int)) (⟨A2, n3, c4⟩ : Hdr) (⟨none, 0, 0⟩ : Hdr)), (Rhistory_Op.mk (Shistory_Op.mk (0 : Int) (3 : Int) 0#64 x00 ([] : List (BitVec 8)) x01 (4 : Int) (5 : Int) (-1 : Int) (0 : Int)) (⟨none, 0, 0⟩ : Hdr) (⟨A01, n01, c01⟩ : Hdr))] : List Rhistory_Op).set ((1 : Int)).toNat (Rhistory_Op.mk ({ x36 with fKind := (2 : Int) } : Shistory_Op) r_38_0 r_38_1)).set ((1 : Int)).toNat (Rhistory_Op.mk ({ x47 with fData := ([] : List (BitVec 8)) } : Shistory_Op) (⟨none, 0, 0⟩ : Hdr) r_49_1))⟩ ⟨h, hq53⟩)
  exact WC.skip <| tn <| kw (k28 ⟨([(Shistory_Op.mk (0 : Int) (1 : Int) 0#64 x00 x01 ([] : List (BitVec 8)) (0 : Int) (1 : Int) (-1 : Int) (0 : Int)), (Shistory_Op.mk (0 : Int) (1 : Int) 0#64 x00 x5 ([] : List (BitVec 8)) (2 : Int) (3 : Int) (-1 : Int) (0 : Int)), (Shistory_Op.mk (0 : Int) (3 : Int) 0#64 x00 ([] : List (BitVec 8)) x01 (4 : Int) (5 : Int) (-1 : Int) (0 : Int))] : List (Shistory_Op)), ([(Rhistory_Op.mk (Shistory_Op.mk (0 : Int) (1 : Int) 0#64 x00 x01 ([] : List (BitVec 8)) (0 : Int) (1 : Int) (-1 : Int) (0 : Int)) (⟨A01, n01, c01⟩ : Hdr) (⟨none, 0, 0⟩ : Hdr)), (Rhistory_Op.mk (Shistory_Op.mk (0 : Int) (1 : Int) 0#64 x00 x5 ([] : List (BitVec 8)) (2 : Int) (3 : Int) (-1 : Int) (0 : Int)) (⟨A2, n3, c4⟩ : Hdr) (⟨none, 0, 0⟩ : Hdr)), (Rhistory_Op.mk (Shistory_Op.mk (0 : Int) (3 : Int) 0#64 x00 ([] : List (BitVec 8)) x01 (4 : Int) (5 : Int) (-1 : Int) (0 : Int)) (⟨none, 0, 0⟩ : Hdr) (⟨A01, n01, c01⟩ : Hdr))] : List Rhistory_Op)⟩ ⟨h, hq24⟩)
 rintro ⟨x25, rs26⟩ ⟨h, hq27⟩
 unfold m_law25_LinearLate_j1 at h
 refine sr fun _ k54 => ?_
 obtain ⟨x55, hx55, h⟩ := bnd h
 refine mv rfl <| c0 Try.func16 rfl (fun w hb hh => w_linear_Check (Mem.snap w) (some ⟨g23, 0, none⟩) (([(Rhistory_Op.mk (Shistory_Op.mk (0 : Int) (1 : Int) 0#64 x00 x01 ([] : List (BitVec 8)) (0 : Int) (1 : Int) (-1 : Int) (0 : Int)) (⟨A01, n01, c01⟩ : Hdr) (⟨none, 0, 0⟩ : Hdr)), (Rhistory_Op.mk (Shistory_Op.mk (0 : Int) (1 : Int) 0#64 x00 x5 ([] : List (BitVec 8)) (2 : Int) (3 : Int) (-1 : Int) (0 : Int)) (⟨A2, n3, c4⟩ : Hdr) (⟨none, 0, 0⟩ : Hdr)), (Rhistory_Op.mk (Shistory_Op.mk (0 : Int) (3 : Int) 0#64 x00 ([] : List (BitVec 8)) x01 (4 : Int) (5 : Int) (-1 : Int) (0 : Int)) (⟨none, 0, 0⟩ : Hdr) (⟨A01, n01, c01⟩ : Hdr))] : List Rhistory_Op).length) (([(Rhistory_Op.mk (Shistory_Op.mk (0 : Int) (1 : Int) 0#64 x00 x01 ([] : List (BitVec 8)) (0 : Int) (1 : Int) (-1 : Int) (0 : Int)) (⟨A01, n01, c01⟩ : Hdr) (⟨none, 0, 0⟩ : Hdr)), (Rhistory_Op.mk (Shistory_Op.mk (0 : Int) (1 : Int) 0#64 x00 x5 ([] : List (BitVec 8)) (2 : Int) (3 : Int) (-1 : Int) (0 : Int)) (⟨A2, n3, c4⟩ : Hdr) (⟨none, 0, 0⟩ : Hdr)), (Rhistory_Op.mk (Shistory_Op.mk (0 : Int) (3 : Int) 0#64 x00 ([] : List (BitVec 8)) x01 (4 : Int) (5 : Int) (-1 : Int) (0 : Int)) (⟨none, 0, 0⟩ : Hdr) (⟨A01, n01, c01⟩ : Hdr))] : List Rhistory_Op).length) rs26 _ (RdH.sn (RdH.own (k := 123) rfl) w hb hh) (Rels.sn hq27 (hh.sat 0 _ rfl)) hx55) <| mv rfl <| ya (Yld.extract rfl rfl) <| ya (Yld.extract rfl rfl) <| asn rfl <| asn rfl <| dn <| k54 _ _ <| sr fun _ k57 => ?_
 obtain ⟨x58, hx58, h⟩ := bnd h
 obtain ⟨x62, hx62, h⟩ := bnd h
 obtain ⟨x63, hx63, h⟩ := bnd h
 obtain ⟨x69, hx69, h⟩ := bnd h
 obtain ⟨x73, hx73, h⟩ := bnd h
 obtain ⟨x74, hx74, h⟩ := bnd h
 obtain ⟨x80, hx80, h⟩ := bnd h
 obtain ⟨x84, hx84, h⟩ := bnd h
 obtain ⟨x85, hx85, h⟩ := bnd h
 obtain ⟨x91, hx91, h⟩ := bnd h
 obtain ⟨x95, hx95, h⟩ := bnd h
 obtain ⟨x96, hx96, h⟩ := bnd h
 refine mv rfl <| mv rfl <| mv rfl <| mv rfl ?_
 obtain ⟨⟨_, r_59_0, r_59_1⟩, hr60, rfl, hq61_0, hq61_1⟩ := Rels.idx hq27 hx58
 refine ya (Yld.idxC (xs := rs26) sty_46 rfl rfl (RdH.own (k := 123) rfl) hr60) <| ya (Yld.fieldAddrC Try.underlying39 rfl nz_3 rfl rfl) ?_
 obtain ⟨⟨_, r_64_0, r_64_1⟩, hr65, rfl, hq66_0, hq66_1⟩ := Rels.idx hq27 hx62
 obtain ⟨hu67, hq68⟩ := Rels.upd (r := (Rhistory_Op.mk ({ x62 with fCall := (3 : Int) } : Shistory_Op) r_64_0 r_64_1)) hq27 hx63 ⟨rfl, hq66_0, hq66_1⟩
 refine WL.eff0 (Eff0.storeC 123 (xs := rs26) (j := 6) (a := (Rhistory_Op.mk x62 r_64_0 r_64_1)) (a' := (Rhistory_Op.mk ({ x62 with fCall := (3 : Int) } : Shistory_Op) r_64_0 r_64_1)) siz_3 rfl rfl rfl rfl hr65 rfl rfl hu67) ?_
 obtain ⟨⟨_, r_70_0, r_70_1⟩, hr71, rfl, hq72_0, hq72_1⟩ := Rels.idx hq68 hx69
 refine ya (Yld.idxC (xs := (rs26.set ((2 : Int)).toNat (Rhistory_Op.mk ({ x62 with fCall := (3 : Int) } : Shistory_Op) r_64_0 r_64_1))) sty_46 rfl rfl (RdH.own (k := 123) rfl) hr71) <| ya (Yld.fieldAddrC Try.underlying39 rfl nz_3 rfl rfl) ?_
 obtain ⟨⟨_, r_75_0, r_75_1⟩, hr76, rfl, hq77_0, hq77_1⟩ := Rels.idx hq68 hx73
 obtain ⟨hu78, hq79⟩ := Rels.upd (r := (Rhistory_Op.mk ({ x73 with fReturn := (5 : Int) } : Shistory_Op) r_75_0 r_75_1)) hq68 hx74 ⟨rfl, hq77_0, hq77_1⟩
 refine WL.eff0 (Eff0.storeC 123 (xs := (rs26.set ((2 : Int)).toNat (Rhistory_Op.mk ({ x62 with fCall := (3 : Int) } : Shistory_Op) r_64_0 r_64_1))) (j := 7) (a := (Rhistory_Op.mk x73 r_75_0 r_75_1)) (a' := (Rhistory_Op.mk ({ x73 with fReturn := (5 : Int) } : Shistory_Op) r_75_0 r_75_1)) siz_3 rfl rfl rfl rfl hr76 rfl rfl hu78) ?_
 obtain ⟨⟨_, r_81_0, r_81_1⟩, hr82, rfl, hq83_0, hq83_1⟩ := Rels.idx hq79 hx80
 refine ya (Yld.idxC (xs := ((rs26.set ((2 : Int)).toNat (Rhistory_Op.mk ({ x62 with fCall := (3 : Int) } : Shistory_Op) r_64_0 r_64_1)).set ((2 : Int)).toNat (Rhistory_Op.mk ({ x73 with fReturn := (5 : Int) } : Shistory_Op) r_75_0 r_75_1))) sty_46 rfl rfl (RdH.own (k := 123) rfl) hr82) <| ya (Yld.fieldAddrC Try.underlying39 rfl nz_3 rfl rfl) ?_
 obtain ⟨⟨_, r_86_0, r_86_1⟩, hr87, rfl, hq88_0, hq88_1⟩ := Rels.idx hq79 hx84
 obtain ⟨hu89, hq90⟩ := Rels.upd (r := (Rhistory_Op.mk ({ x84 with fClient := (1 : Int) } : Shistory_Op) r_86_0 r_86_1)) hq79 hx85 ⟨rfl, hq88_0, hq88_1⟩
 refine WL.eff0 (Eff0.storeC 123 (xs := ((rs26.set ((2 : Int)).toNat (Rhistory_Op.mk ({ x62 with fCall := (3 : Int) } : Shistory_Op) r_64_0 r_64_1)).set ((2 : Int)).toNat (Rhistory_Op.mk ({ x73 with fReturn := (5 : Int) } : Shistory_Op) r_75_0 r_75_1))) (j := 0) (a := (Rhistory_Op.mk x84 r_86_0 r_86_1)) (a' := (Rhistory_Op.mk ({ x84 with fClient := (1 : Int) } : Shistory_Op) r_86_0 r_86_1)) siz_3 rfl rfl rfl rfl hr87 rfl rfl hu89) ?_
 obtain ⟨⟨_, r_92_0, r_92_1⟩, hr93, rfl, hq94_0, hq94_1⟩ := Rels.idx hq90 hx91
 refine ya (Yld.idxC (xs := (((rs26.set ((2 : Int)).toNat (Rhistory_Op.mk ({ x62 with fCall := (3 : Int) } : Shistory_Op) r_64_0 r_64_1)).set ((2 : Int)).toNat (Rhistory_Op.mk ({ x73 with fReturn := (5 : Int) } : Shistory_Op) r_75_0 r_75_1)).set ((2 : Int)).toNat (Rhistory_Op.mk ({ x84 with fClient := (1 : Int) } : Shistory_Op) r_86_0 r_86_1))) sty_46 rfl rfl (RdH.own (k := 123) rfl) hr93) <| ya (Yld.fieldAddrC Try.underlying39 rfl nz_3 rfl rfl) ?_
 obtain ⟨⟨_, r_97_0, r_97_1⟩, hr98, rfl, hq99_0, hq99_1⟩ := Rels.idx hq90 hx95
 obtain ⟨hu100, hq101⟩ := Rels.upd (r := (Rhistory_Op.mk ({ x95 with fReturn := (4 : Int) } : Shistory_Op) r_97_0 r_97_1)) hq90 hx96 ⟨rfl, hq99_0, hq99_1⟩
 refine WL.eff0 (Eff0.storeC 123 (xs := (((rs26.set ((2 : Int)).toNat (Rhistory_Op.mk ({ x62 with fCall := (3 : Int) } : Shistory_Op) r_64_0 r_64_1)).set ((2 : Int)).toNat (Rhistory_Op.mk ({ x73 with fReturn := (5 : Int) } : Shistory_Op) r_75_0 r_75_1)).set ((2 : Int)).toNat (Rhistory_Op.mk ({ x84 with fClient := (1 : Int) } : Shistory_Op) r_86_0 r_86_1))) (j := 7) (a := (Rhistory_Op.mk x95 r_97_0 r_97_1)) (a' := (Rhistory_Op.mk ({ x95 with fReturn := (4 : Int) } : Shistory_Op) r_97_0 r_97_1)) siz_3 rfl rfl rfl rfl hr98 rfl rfl hu100) <| dn <| k57 _ _ <| sr fun _ k102 => ?_
 obtain ⟨x103, hx103, h⟩ := bnd h
 refine mv rfl <| c0 Try.func16 rfl (fun w hb hh => w_linear_Check (Mem.snap w) (some ⟨g23, 0, none⟩) (([(Rhistory_Op.mk (Shistory_Op.mk (0 : Int) (1 : Int) 0#64 x00 x01 ([] : List (BitVec 8)) (0 : Int) (1 : Int) (-1 : Int) (0 : Int)) (⟨A01, n01, c01⟩ : Hdr) (⟨none, 0, 0⟩ : Hdr)), (Rhistory_Op.mk (Shistory_Op.mk (0 : Int) (1 : Int) 0#64 x00 x5 ([] : List (BitVec 8)) (2 : Int) (3 : Int) (-1 : Int) (0 : Int)) (⟨A2, n3, c4⟩ : Hdr) (⟨none, 0, 0⟩ : Hdr)), (Rhistory_Op.mk (Shistory_Op.mk (0 : Int) (3 : Int) 0#64 x00 ([] : List (BitVec 8)) x01 (4 : Int) (5 : Int) (-1 : Int) (0 : Int)) (⟨none, 0, 0⟩ : Hdr) (⟨A01, n01, c01⟩ : Hdr))] : List Rhistory_Op).length) (([(Rhistory_Op.mk (Shistory_Op.mk (0 : Int) (1 : Int) 0#64 x00 x01 ([] : List (BitVec 8)) (0 : Int) (1 : Int) (-1 : Int) (0 : Int)) (⟨A01, n01, c01⟩ : Hdr) (⟨none, 0, 0⟩ : Hdr)), (Rhistory_Op.mk (Shistory_Op.mk (0 : Int) (1 : Int) 0#64 x00 x5 ([] : List (BitVec 8)) (2 : Int) (3 : Int) (-1 : Int) (0 : Int)) (⟨A2, n3, c4⟩ : Hdr) (⟨none, 0, 0⟩ : Hdr)), (Rhistory_Op.mk (Shistory_Op.mk (0 : Int) (3 : Int) 0#64 x00 ([] : List (BitVec 8)) x01 (4 : Int) (5 : Int) (-1 : Int) (0 : Int)) (⟨none, 0, 0⟩ : Hdr) (⟨A01, n01, c01⟩ : Hdr))] : List Rhistory_Op).length) ((((rs26.set ((2 : Int)).toNat (Rhistory_Op.mk ({ x62 with fCall := (3 : Int) } : Shistory_Op) r_64_0 r_64_1)).set ((2 : Int)).toNat (Rhistory_Op.mk ({ x73 with fReturn := (5 : Int) } : Shistory_Op) r_75_0 r_75_1)).set ((2 : Int)).toNat (Rhistory_Op.mk ({ x84 with fClient := (1 : Int) } : Shistory_Op) r_86_0 r_86_1)).set ((1 : Int)).toNat (Rhistory_Op.mk ({ x95 with fReturn := (4 : Int) } : Shistory_Op) r_97_0 r_97_1)) _ (RdH.sn (RdH.own (k := 123) rfl) w hb hh) (Rels.sn hq101 (hh.sat 0 _ rfl)) hx103) <| mv rfl <| ya (Yld.extract rfl rfl) <| ya (Yld.extract rfl rfl) <| asn rfl <| asn rfl <| dn <| k102 _ _ <| sr fun _ k105 => mv rfl <| ya (Yld.notB rfl) <| mv rfl <| spn h not_f (fun q => not_t (Bool.eq_false_iff.2 q)) (fun hc106 h => ?_) fun hc106 h => ?_
 ·
  refine sk <| sk <| pf rfl rfl <| mv rfl <| sk <| pf rfl rfl <| mv rfl <| sk <| sk <| pf rfl rfl <| mv rfl <| sk <| pf rfl rfl <| asn rfl <| dn <| k105 _ _ <| re ?_
  injection h with h; subst h
  exact rt0 (ResIs.one rfl rfl)
 refine mvg rfl <| yg (Yld.eqlI rfl rfl) <| pt rfl rfl <| mv rfl <| spl h beq_iff_eq.2 beq_eq_false_iff_ne.2 (fun hc107 h => ?_) fun hc107 h => ?_
 ·
  refine mvg rfl <| pt rfl rfl <| mv rfl <| spl h id Bool.eq_false_iff.2 (fun hc108 h => ?_) fun hc108 h => ?_
  ·
   refine mvg rfl <| yg (Yld.eqlI rfl rfl) <| pt rfl rfl <| mv rfl <| spl h beq_iff_eq.2 beq_eq_false_iff_ne.2 (fun hc109 h => ?_) fun hc109 h => ?_
   ·
    obtain ⟨x110, hx110, h⟩ := bnd h
    refine c0g Try.func8 rfl (fun w hb hh => w_law25_awake (Mem.snap w) hx110) <| pt rfl rfl <| asn rfl <| dn <| k105 _ _ <| re ?_
    injection h with h; subst h
    exact rt0 (ResIs.one rfl rfl)
   refine sk <| pf rfl rfl <| asn rfl <| dn <| k105 _ _ <| re ?_
   injection h with h; subst h
   exact rt0 (ResIs.one rfl rfl)
  refine sk <| sk <| pf rfl rfl <| mv rfl <| sk <| pf rfl rfl <| asn rfl <| dn <| k105 _ _ <| re ?_
  injection h with h; subst h
  exact rt0 (ResIs.one rfl rfl)
 refine sk <| pf rfl rfl <| mv rfl <| sk <| sk <| pf rfl rfl <| mv rfl <| sk <| pf rfl rfl <| asn rfl <| dn <| k105 _ _ <| re ?_
 injection h with h; subst h
 exact rt0 (ResIs.one rfl rfl)

end Go.Proofs.Ytkcccenekglkoaa
