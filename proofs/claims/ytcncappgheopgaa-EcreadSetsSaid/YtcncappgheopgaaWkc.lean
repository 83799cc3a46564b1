/-
 Walks (c): what a function's model gives, the function returns. Printed by a program of ours (vcm.py) from the function's operations. Conditions: as each theorem says.
-/
import Derived.Test.YtcncappgheopgaaWkb
import Derived.Test.YtcncappgheopgaaMdc
namespace Go.Proofs.Ytcncappgheopgaa
open Go Go.RowKit
set_option linter.unusedVariables false

theorem agg_34 : Agg Try.prog 34 4 := ⟨⟨_, Try.underlying34, rfl⟩, by kernel_rfl⟩
theorem agg_39 : Agg Try.prog 39 3 := ⟨⟨_, Try.underlying39, rfl⟩, by kernel_rfl⟩
theorem agg_43 : Agg Try.prog 43 11 := ⟨⟨_, Try.underlying43, rfl⟩, by kernel_rfl⟩
theorem bu_34_ : Try.prog.built 34 [] = some ([U64 0#64, U32 0#32, .bool false, .slice none 0 0] : List Value).toArray := by kernel_rfl
theorem bu_43_ : Try.prog.built 43 [] = some ([I64 (0 : Int), I64 (0 : Int), I64 (0 : Int), I64 (0 : Int), U32 0#32, U32 0#32, U32 0#32, U32 0#32, U32 0#32, U32 0#32, .slice none 0 0] : List Value).toArray := by kernel_rfl
theorem bu_45_ : Try.prog.built 45 [] = some ([U64 0#64, U32 0#32, I64 (0 : Int), I64 (0 : Int)] : List Value).toArray := by kernel_rfl
theorem nm_10 : (Try.f10.name == "runtime.NumGoroutine") = false := by kernel_rfl
theorem nm_13 : (Try.f13.name == "runtime.NumGoroutine") = false := by kernel_rfl
theorem nm_18 : (Try.f18.name == "runtime.NumGoroutine") = false := by kernel_rfl
theorem nm_4 : (Try.f4.name == "runtime.NumGoroutine") = false := by kernel_rfl
theorem nm_8 : (Try.f8.name == "runtime.NumGoroutine") = false := by kernel_rfl
theorem nz_39 : (Try.prog.info? 39).map (fun i => decide (i.size = 0)) = some false := by kernel_rfl
theorem scal_35 : scal Try.prog 35 = true := by kernel_rfl
theorem scal_47 : scal Try.prog 47 = true := by kernel_rfl
theorem scal_48 : scal Try.prog 48 = true := by kernel_rfl
theorem siz_35 : (Try.prog.info? 35).map (·.size) = some 1 := by kernel_rfl
theorem zr_34 : (Try.prog.info? 34).map (fun i => i.zero.map (·.cells)) = some (some ([U64 0#64, U32 0#32, .bool false, .slice none 0 0] : List Value).toArray) := by kernel_rfl
theorem zr_35 : (Try.prog.info? 35).map (fun i => i.zero.map (·.cells)) = some (some ([I64 (0 : Int)] : List Value).toArray) := by kernel_rfl

instance : Lay Sapi_Item := ⟨4, fun a => [U64 a.fKey, U32 a.fCookie, I64 a.fOff, I64 a.fSize], fun _ => rfl, fun _ u h => by simp only [List.mem_cons, List.not_mem_nil, or_false] at h; rcases h with rfl | rfl | rfl | rfl <;> rfl, by decide⟩

set_option maxRecDepth 10000 in
theorem w_law18_awake (M0 : Mem)  {res : Bool} (h : m_law18_awake = some res) :
  Fn Try.prog 6 #[] M0 fun r M' es => r = .bool res ∧ es = [] := by
 refine Fn.intro (N := 67) Try.func6 rfl rfl (Nat.le_of_ble_eq_true rfl) fun w0 => ?_
 unfold m_law18_awake at h
 refine WC.seqRegion fun K1 hK1 => ?_
 refine WL.yld (by decide) (Yld.assign rfl) ?_
 refine WL.done (hK1 _ _ ?_)
 refine WC.seqRegion fun K2 hK2 => ?_
 obtain ⟨x3, hx3, h⟩ := bnd h
 obtain ⟨x11, hx11, h⟩ := bnd h
 obtain ⟨x19, hx19, h⟩ := bnd h
 refine WL.eff (by decide) (Eff.callS 107 rfl Try.func4 nm_4 rfl rfl (fun w hb hh => w_ecread_Exclude (Mem.snap w) (6 : Int) hx3)) ?_
 rintro _ _ ⟨_, ⟨A8, n9, c10, rfl, rfl⟩, rfl⟩
 refine WL.eff (by decide) (Eff.callS 115 rfl Try.func4 nm_4 rfl rfl (fun w hb hh => w_ecread_Exclude (Mem.snap w) (7 : Int) hx11)) ?_
 rintro _ _ ⟨_, ⟨A16, n17, c18, rfl, rfl⟩, rfl⟩
 refine WL.eff (by decide) (Eff.callS 123 rfl Try.func4 nm_4 rfl rfl (fun w hb hh => w_ecread_Exclude (Mem.snap w) (21 : Int) hx19)) ?_
 rintro _ _ ⟨_, ⟨A24, n25, c26, rfl, rfl⟩, rfl⟩
 refine WL.yld (by decide) (Yld.assign rfl) ?_
 refine WL.yld (by decide) (Yld.assign rfl) ?_
 refine WL.yld (by decide) (Yld.assign rfl) ?_
 refine WL.done (hK2 _ _ ?_)
 refine WC.seqRegion fun K27 hK27 => ?_
 refine WL.yld (by decide) (Yld.build rfl (bu_43_)) ?_
 refine WL.yld (by decide) (Yld.build rfl (bu_45_)) ?_
 refine WL.inl (by decide) Try.func8 nm_8 rfl rfl (Tri.intro (N := 40) Try.func8 rfl rfl (Nat.le_of_ble_eq_true rfl) ?_)
 refine WC.seqRegion fun K28 hK28 => ?_
 refine WL.eff (by decide) (Eff.box 129 (us := [I64 (0 : Int), I64 (0 : Int), I64 (0 : Int), I64 (0 : Int), U32 0#32, U32 0#32, U32 0#32, U32 0#32, U32 0#32, U32 0#32, .slice none 0 0]) rfl rfl rfl) ?_
 rintro _ _ ⟨g29, rfl, rfl⟩
 refine WL.eff (by decide) (Eff.box 130 (us := [.slice none 0 0]) rfl rfl rfl) ?_
 rintro _ _ ⟨g30, rfl, rfl⟩
 refine WL.eff (by decide) (Eff.box 131 (us := [.slice none 0 0]) rfl rfl rfl) ?_
 rintro _ _ ⟨g31, rfl, rfl⟩
 refine WL.eff (by decide) (Eff.box 132 (us := [U64 0#64, U32 0#32, I64 (0 : Int), I64 (0 : Int)]) rfl rfl rfl) ?_
 rintro _ _ ⟨g32, rfl, rfl⟩
 refine WL.eff (by decide) (Eff.alloc 133 rfl zr_34) ?_
 rintro _ _ ⟨g33, rfl, rfl⟩
 refine WL.eff (by decide) (Eff.alloc 134 rfl zr_35) ?_
 rintro _ _ ⟨g34, rfl, rfl⟩
 refine WL.done (hK28 _ _ ?_)
 refine WC.seq fun K35 hK35 => ?_
 refine WC.seqRegion fun K36 hK36 => ?_
 refine WL.yld (by decide) (Yld.loadBM (k := 129) agg_43 rfl rfl rfl) ?_
 refine WL.yld (by decide) (Yld.loadB (k := 130) scal_47 rfl rfl rfl) ?_
 refine WL.yld (by decide) (Yld.loadB (k := 131) scal_48 rfl rfl rfl) ?_
 refine WL.inl (by decide) Try.func10 nm_10 rfl rfl (Tri.intro (N := 19) Try.func10 rfl rfl (Nat.le_of_ble_eq_true rfl) ?_)
 refine WC.seqRegion fun K37 hK37 => ?_
 refine WL.eff (by decide) (Eff.box 138 (us := [I64 (0 : Int), I64 (0 : Int), I64 (0 : Int), I64 (0 : Int), U32 0#32, U32 0#32, U32 0#32, U32 0#32, U32 0#32, U32 0#32, .slice none 0 0]) rfl rfl rfl) ?_
 rintro _ _ ⟨g38, rfl, rfl⟩
 refine WL.yld (by decide) (Yld.assign rfl) ?_
 refine WL.done (hK37 _ _ ?_)
 refine WC.seqRegion fun K39 hK39 => ?_
 refine WL.yld (by decide) (Yld.loadBM (k := 138) agg_43 rfl rfl rfl) ?_
 refine WL.inl (by decide) Try.func13 nm_13 rfl rfl (Tri.intro (N := 28) Try.func13 rfl rfl (Nat.le_of_ble_eq_true rfl) ?_)
 refine WC.seqRegion fun K40 hK40 => ?_
 refine WL.eff (by decide) (Eff.box 141 (us := [I64 (0 : Int), I64 (0 : Int), I64 (0 : Int), I64 (0 : Int), U32 0#32, U32 0#32, U32 0#32, U32 0#32, U32 0#32, U32 0#32, .slice none 0 0]) rfl rfl rfl) ?_
 rintro _ _ ⟨g41, rfl, rfl⟩
 refine WL.yld (by decide) (Yld.assign rfl) ?_
 refine WL.done (hK40 _ _ ?_)
 refine WC.seq fun K42 hK42 => ?_
 refine WC.seqRegion fun K43 hK43 => ?_
 obtain ⟨x44, hx44, h⟩ := bnd h
 by_cases hc46 : x44 = true
 ·
  replace h := of_t hc46 h
  have hc47 : (0 : Int) < (16 : Int) := by decide
  refine WL.yld (by decide) (Yld.fieldAddr Try.underlying43 rfl nz_39 rfl rfl) ?_
  refine WL.yld (by decide) (Yld.loadBP (k := 141) agg_39 rfl rfl rfl rfl) ?_
  refine WL.eff (by decide) (Eff.callS 145 rfl Try.func18 nm_18 rfl rfl (fun w hb hh => w_superblock_Valid (Mem.snap w) (0 : Int) (0 : Int) (0 : Int) hx44)) ?_
  rintro _ _ ⟨_, ⟨rfl, rfl⟩, rfl⟩
  refine WL.yld (by decide) (Yld.notB rfl) ?_
  refine WL.yld (by decide) (Yld.move rfl) ?_
  refine WL.new (v' := .bool false) (congrArg Value.bool (not_f hc46)) ?_
  refine WL.yldG (by decide) rfl (Yld.fieldAddr Try.underlying43 rfl nz_2 rfl rfl) ?_
  refine WL.yldG (by decide) rfl (Yld.loadB (k := 141) scal_2 rfl rfl rfl) ?_
  refine WL.yldG (by decide) rfl (Yld.lss rfl rfl) ?_
  refine WL.yld (by decide) (Yld.pickF rfl rfl) ?_
  refine WL.yld (by decide) (Yld.move rfl) ?_
  refine WL.new (v' := .bool true) (congrArg Value.bool (decide_eq_true hc47)) ?_
  refine WL.skip (by decide) rfl rfl ?_
  refine WL.skip (by decide) rfl rfl ?_
  refine WL.skip (by decide) rfl rfl ?_
  refine WL.yld (by decide) (Yld.pickT rfl rfl) ?_
  refine WL.yld (by decide) (Yld.move rfl) ?_
  refine WL.skip (by decide) rfl rfl ?_
  refine WL.skip (by decide) rfl rfl ?_
  refine WL.skip (by decide) rfl rfl ?_
  refine WL.skip (by decide) rfl rfl ?_
  refine WL.yld (by decide) (Yld.pickT rfl rfl) ?_
  refine WL.done (hK43 _ _ ?_)
  refine WC.condT rfl ?_
  refine WC.seqRegion fun K48 hK48 => ?_
  refine WL.yld (by decide) (Yld.assign rfl) ?_
  refine WL.done (hK48 _ _ ?_)
  refine WC.ret (QK.thenR ?_)
  refine Ret.go (ResIs.one rfl rfl) ?_
  refine WL.yld (by decide) (Yld.move rfl) ?_
  refine WL.skip (by decide) rfl rfl ?_
  refine WL.skip (by decide) rfl rfl ?_
  refine WL.skip (by decide) rfl rfl ?_
  refine WL.yld (by decide) (Yld.pickF rfl rfl) ?_
  refine WL.yld (by decide) (Yld.move rfl) ?_
  refine WL.skip (by decide) rfl rfl ?_
  refine WL.skip (by decide) rfl rfl ?_
  refine WL.skip (by decide) rfl rfl ?_
  refine WL.yld (by decide) (Yld.pickF rfl rfl) ?_
  refine WL.yld (by decide) (Yld.assign rfl) ?_
  refine WL.done (hK39 _ _ ?_)
  refine WC.ret ?_
  refine Ret.go (ResIs.one rfl rfl) ?_
  refine WL.yld (by decide) (Yld.notB rfl) ?_
  refine WL.yld (by decide) (Yld.move rfl) ?_
  refine WL.skip (by decide) rfl rfl ?_
  refine WL.skip (by decide) rfl rfl ?_
  refine WL.skip (by decide) rfl rfl ?_
  refine WL.skip (by decide) rfl rfl ?_
  refine WL.skip (by decide) rfl rfl ?_
  refine WL.yld (by decide) (Yld.pickT rfl rfl) ?_
  refine WL.done (hK36 _ _ ?_)
  refine WC.condT rfl ?_
  refine WC.seqRegion fun K49 hK49 => ?_
  refine WL.yld (by decide) (Yld.build rfl (bu_34_)) ?_
  refine WL.eff0 (Eff0.storeBAM 133 agg_34 rfl rfl rfl ⟨rfl, rfl⟩ rfl) ?_
  refine WL.eff0 (Eff0.storeB 134 siz_35 rfl rfl rfl rfl (Nat.le_of_ble_eq_true rfl)) ?_
  refine WL.done (hK49 _ _ ?_)
  refine WC.ret (QK.thenR ?_)
  refine Ret.go (ResIs.cellAS (k := 133) (k' := 134) rfl agg_34 scal_35 rfl rfl rfl rfl (rfl) rfl) ?_
  refine WL.yld (by decide) (Yld.move rfl) ?_
  refine WL.yld (by decide) (Yld.extract rfl rfl) ?_
  refine WL.yld (by decide) (Yld.extract rfl rfl) ?_
  refine WL.eff (by decide) (Eff.alloc 150 rfl zr_34) ?_
  rintro _ _ ⟨g50, rfl, rfl⟩
  refine WL.eff0 (Eff0.storeBAM 150 agg_34 rfl rfl rfl ⟨rfl, rfl⟩ rfl) ?_
  refine WL.yld (by decide) (Yld.assign rfl) ?_
  refine WL.done (hK27 _ _ ?_)
  refine WC.seqRegion fun K51 hK51 => ?_
  obtain ⟨x52, hx52, h⟩ := bnd h
  by_cases hc60 : (x52.length : Int) = (0 : Int)
  ·
   replace h := of_t hc60 h
   by_cases hc61 : (x3.length : Int) = (1 : Int)
   ·
    replace h := of_t hc61 h
    obtain ⟨x62, hx62, h⟩ := bnd h
    by_cases hc63 : x62 = (5 : Int)
    ·
     replace h := of_t hc63 h
     by_cases hc64 : (x11.length : Int) = (2 : Int)
     ·
      replace h := of_t hc64 h
      obtain ⟨x65, hx65, h⟩ := bnd h
      by_cases hc66 : x65 = (0 : Int)
      ·
       replace h := of_t hc66 h
       obtain ⟨x67, hx67, h⟩ := bnd h
       by_cases hc68 : x67 = (1 : Int)
       ·
        replace h := of_t hc68 h
        by_cases hc69 : (x19.length : Int) = (2 : Int)
        ·
         replace h := of_t hc69 h
         obtain ⟨x70, hx70, h⟩ := bnd h
         by_cases hc71 : x70 = (4 : Int)
         ·
          replace h := of_t hc71 h
          obtain ⟨x72, hx72, h⟩ := bnd h
          by_cases hc73 : x72 = (5 : Int)
          ·
           replace h := of_t hc73 h
           refine WL.eff (by decide) (Eff.callS 156 rfl Try.func4 nm_4 rfl rfl (fun w hb hh => w_ecread_Exclude (Mem.snap w) (0 : Int) hx52)) ?_
           rintro _ _ ⟨_, ⟨A57, n58, c59, rfl, rfl⟩, rfl⟩
           refine WL.yld (by decide) (Yld.lenC (xs := x52) und_22 rfl (RdH.own (k := 156) rfl)) ?_
           refine WL.yld (by decide) (Yld.eqlI rfl rfl) ?_
           refine WL.yld (by decide) (Yld.move rfl) ?_
           refine WL.new (v' := .bool true) (congrArg Value.bool (beq_iff_eq.2 hc60)) ?_
           refine WL.yldG (by decide) rfl (Yld.move rfl) ?_
           refine WL.yldG (by decide) rfl (Yld.lenC (xs := x3) und_22 rfl (RdH.own (k := 107) rfl)) ?_
           refine WL.yldG (by decide) rfl (Yld.eqlI rfl rfl) ?_
           refine WL.yld (by decide) (Yld.pickT rfl rfl) ?_
           refine WL.yld (by decide) (Yld.move rfl) ?_
           refine WL.new (v' := .bool true) (congrArg Value.bool (beq_iff_eq.2 hc61)) ?_
           refine WL.yldG (by decide) rfl (Yld.move rfl) ?_
           refine WL.yldG (by decide) rfl (Yld.idxC (xs := x3) sty_22 rfl rfl (RdH.own (k := 107) rfl) hx62) ?_
           refine WL.yldG (by decide) rfl (Yld.loadC0 (xs := x3) scal_3 rfl (RdH.own (k := 107) rfl) hx62 rfl) ?_
           refine WL.yldG (by decide) rfl (Yld.eqlI rfl rfl) ?_
           refine WL.yld (by decide) (Yld.pickT rfl rfl) ?_
           refine WL.yld (by decide) (Yld.move rfl) ?_
           refine WL.new (v' := .bool true) (congrArg Value.bool (beq_iff_eq.2 hc63)) ?_
           refine WL.yldG (by decide) rfl (Yld.move rfl) ?_
           refine WL.yldG (by decide) rfl (Yld.lenC (xs := x11) und_22 rfl (RdH.own (k := 115) rfl)) ?_
           refine WL.yldG (by decide) rfl (Yld.eqlI rfl rfl) ?_
           refine WL.yld (by decide) (Yld.pickT rfl rfl) ?_
           refine WL.yld (by decide) (Yld.move rfl) ?_
           refine WL.new (v' := .bool true) (congrArg Value.bool (beq_iff_eq.2 hc64)) ?_
           refine WL.yldG (by decide) rfl (Yld.move rfl) ?_
           refine WL.yldG (by decide) rfl (Yld.idxC (xs := x11) sty_22 rfl rfl (RdH.own (k := 115) rfl) hx65) ?_
           refine WL.yldG (by decide) rfl (Yld.loadC0 (xs := x11) scal_3 rfl (RdH.own (k := 115) rfl) hx65 rfl) ?_
           refine WL.yldG (by decide) rfl (Yld.eqlI rfl rfl) ?_
           refine WL.yld (by decide) (Yld.pickT rfl rfl) ?_
           refine WL.yld (by decide) (Yld.move rfl) ?_
           refine WL.new (v' := .bool true) (congrArg Value.bool (beq_iff_eq.2 hc66)) ?_
           refine WL.yldG (by decide) rfl (Yld.move rfl) ?_
           refine WL.yldG (by decide) rfl (Yld.idxC (xs := x11) sty_22 rfl rfl (RdH.own (k := 115) rfl) hx67) ?_
           refine WL.yldG (by decide) rfl (Yld.loadC0 (xs := x11) scal_3 rfl (RdH.own (k := 115) rfl) hx67 rfl) ?_
           refine WL.yldG (by decide) rfl (Yld.eqlI rfl rfl) ?_
           refine WL.yld (by decide) (Yld.pickT rfl rfl) ?_
           refine WL.yld (by decide) (Yld.move rfl) ?_
           refine WL.new (v' := .bool true) (congrArg Value.bool (beq_iff_eq.2 hc68)) ?_
           refine WL.yldG (by decide) rfl (Yld.move rfl) ?_
           refine WL.yldG (by decide) rfl (Yld.lenC (xs := x19) und_22 rfl (RdH.own (k := 123) rfl)) ?_
           refine WL.yldG (by decide) rfl (Yld.eqlI rfl rfl) ?_
           refine WL.yld (by decide) (Yld.pickT rfl rfl) ?_
           refine WL.yld (by decide) (Yld.move rfl) ?_
           refine WL.new (v' := .bool true) (congrArg Value.bool (beq_iff_eq.2 hc69)) ?_
           refine WL.yldG (by decide) rfl (Yld.move rfl) ?_
           refine WL.yldG (by decide) rfl (Yld.idxC (xs := x19) sty_22 rfl rfl (RdH.own (k := 123) rfl) hx70) ?_
           refine WL.yldG (by decide) rfl (Yld.loadC0 (xs := x19) scal_3 rfl (RdH.own (k := 123) rfl) hx70 rfl) ?_
           refine WL.yldG (by decide) rfl (Yld.eqlI rfl rfl) ?_
           refine WL.yld (by decide) (Yld.pickT rfl rfl) ?_
           refine WL.yld (by decide) (Yld.move rfl) ?_
           refine WL.new (v' := .bool true) (congrArg Value.bool (beq_iff_eq.2 hc71)) ?_
           refine WL.yldG (by decide) rfl (Yld.move rfl) ?_
           refine WL.yldG (by decide) rfl (Yld.idxC (xs := x19) sty_22 rfl rfl (RdH.own (k := 123) rfl) hx72) ?_
           refine WL.yldG (by decide) rfl (Yld.loadC0 (xs := x19) scal_3 rfl (RdH.own (k := 123) rfl) hx72 rfl) ?_
           refine WL.yldG (by decide) rfl (Yld.eqlI rfl rfl) ?_
           refine WL.yld (by decide) (Yld.pickT rfl rfl) ?_
           refine WL.yld (by decide) (Yld.move rfl) ?_
           refine WL.new (v' := .bool true) (congrArg Value.bool (beq_iff_eq.2 hc73)) ?_
           refine WL.yldG (by decide) rfl (Yld.move rfl) ?_
           refine WL.yldG (by decide) rfl (Yld.eqlI rfl rfl) ?_
           refine WL.yld (by decide) (Yld.pickT rfl rfl) ?_
           refine WL.yld (by decide) (Yld.assign rfl) ?_
           refine WL.done (hK51 _ _ ?_)
           refine WC.ret ?_
           injection h with h; subst h
           exact Ret.fn [] (ResIs.one rfl rfl) rfl (Ext.refl _ _) rfl (by decide) rfl rfl ⟨rfl, rfl⟩
          ·
           replace h := of_f hc73 h
           refine WL.eff (by decide) (Eff.callS 156 rfl Try.func4 nm_4 rfl rfl (fun w hb hh => w_ecread_Exclude (Mem.snap w) (0 : Int) hx52)) ?_
           rintro _ _ ⟨_, ⟨A57, n58, c59, rfl, rfl⟩, rfl⟩
           refine WL.yld (by decide) (Yld.lenC (xs := x52) und_22 rfl (RdH.own (k := 156) rfl)) ?_
           refine WL.yld (by decide) (Yld.eqlI rfl rfl) ?_
           refine WL.yld (by decide) (Yld.move rfl) ?_
           refine WL.new (v' := .bool true) (congrArg Value.bool (beq_iff_eq.2 hc60)) ?_
           refine WL.yldG (by decide) rfl (Yld.move rfl) ?_
           refine WL.yldG (by decide) rfl (Yld.lenC (xs := x3) und_22 rfl (RdH.own (k := 107) rfl)) ?_
           refine WL.yldG (by decide) rfl (Yld.eqlI rfl rfl) ?_
           refine WL.yld (by decide) (Yld.pickT rfl rfl) ?_
           refine WL.yld (by decide) (Yld.move rfl) ?_
           refine WL.new (v' := .bool true) (congrArg Value.bool (beq_iff_eq.2 hc61)) ?_
           refine WL.yldG (by decide) rfl (Yld.move rfl) ?_
           refine WL.yldG (by decide) rfl (Yld.idxC (xs := x3) sty_22 rfl rfl (RdH.own (k := 107) rfl) hx62) ?_
           refine WL.yldG (by decide) rfl (Yld.loadC0 (xs := x3) scal_3 rfl (RdH.own (k := 107) rfl) hx62 rfl) ?_
           refine WL.yldG (by decide) rfl (Yld.eqlI rfl rfl) ?_
           refine WL.yld (by decide) (Yld.pickT rfl rfl) ?_
           refine WL.yld (by decide) (Yld.move rfl) ?_
           refine WL.new (v' := .bool true) (congrArg Value.bool (beq_iff_eq.2 hc63)) ?_
           refine WL.yldG (by decide) rfl (Yld.move rfl) ?_
           refine WL.yldG (by decide) rfl (Yld.lenC (xs := x11) und_22 rfl (RdH.own (k := 115) rfl)) ?_
           refine WL.yldG (by decide) rfl (Yld.eqlI rfl rfl) ?_
           refine WL.yld (by decide) (Yld.pickT rfl rfl) ?_
           refine WL.yld (by decide) (Yld.move rfl) ?_
           refine WL.new (v' := .bool true) (congrArg Value.bool (beq_iff_eq.2 hc64)) ?_
           refine WL.yldG (by decide) rfl (Yld.move rfl) ?_
           refine WL.yldG (by decide) rfl (Yld.idxC (xs := x11) sty_22 rfl rfl (RdH.own (k := 115) rfl) hx65) ?_
           refine WL.yldG (by decide) rfl (Yld.loadC0 (xs := x11) scal_3 rfl (RdH.own (k := 115) rfl) hx65 rfl) ?_
           refine WL.yldG (by decide) rfl (Yld.eqlI rfl rfl) ?_
           refine WL.yld (by decide) (Yld.pickT rfl rfl) ?_
           refine WL.yld (by decide) (Yld.move rfl) ?_
           refine WL.new (v' := .bool true) (congrArg Value.bool (beq_iff_eq.2 hc66)) ?_
           refine WL.yldG (by decide) rfl (Yld.move rfl) ?_
           refine WL.yldG (by decide) rfl (Yld.idxC (xs := x11) sty_22 rfl rfl (RdH.own (k := 115) rfl) hx67) ?_
           refine WL.yldG (by decide) rfl (Yld.loadC0 (xs := x11) scal_3 rfl (RdH.own (k := 115) rfl) hx67 rfl) ?_
           refine WL.yldG (by decide) rfl (Yld.eqlI rfl rfl) ?_
           refine WL.yld (by decide) (Yld.pickT rfl rfl) ?_
           refine WL.yld (by decide) (Yld.move rfl) ?_
           refine WL.new (v' := .bool true) (congrArg Value.bool (beq_iff_eq.2 hc68)) ?_
           refine WL.yldG (by decide) rfl (Yld.move rfl) ?_
           refine WL.yldG (by decide) rfl (Yld.lenC (xs := x19) und_22 rfl (RdH.own (k := 123) rfl)) ?_
           refine WL.yldG (by decide) rfl (Yld.eqlI rfl rfl) ?_
           refine WL.yld (by decide) (Yld.pickT rfl rfl) ?_
           refine WL.yld (by decide) (Yld.move rfl) ?_
           refine WL.new (v' := .bool true) (congrArg Value.bool (beq_iff_eq.2 hc69)) ?_
           refine WL.yldG (by decide) rfl (Yld.move rfl) ?_
           refine WL.yldG (by decide) rfl (Yld.idxC (xs := x19) sty_22 rfl rfl (RdH.own (k := 123) rfl) hx70) ?_
           refine WL.yldG (by decide) rfl (Yld.loadC0 (xs := x19) scal_3 rfl (RdH.own (k := 123) rfl) hx70 rfl) ?_
           refine WL.yldG (by decide) rfl (Yld.eqlI rfl rfl) ?_
           refine WL.yld (by decide) (Yld.pickT rfl rfl) ?_
           refine WL.yld (by decide) (Yld.move rfl) ?_
           refine WL.new (v' := .bool true) (congrArg Value.bool (beq_iff_eq.2 hc71)) ?_
           refine WL.yldG (by decide) rfl (Yld.move rfl) ?_
           refine WL.yldG (by decide) rfl (Yld.idxC (xs := x19) sty_22 rfl rfl (RdH.own (k := 123) rfl) hx72) ?_
           refine WL.yldG (by decide) rfl (Yld.loadC0 (xs := x19) scal_3 rfl (RdH.own (k := 123) rfl) hx72 rfl) ?_
           refine WL.yldG (by decide) rfl (Yld.eqlI rfl rfl) ?_
           refine WL.yld (by decide) (Yld.pickT rfl rfl) ?_
           refine WL.yld (by decide) (Yld.move rfl) ?_
           refine WL.new (v' := .bool false) (congrArg Value.bool (beq_eq_false_iff_ne.2 hc73)) ?_
           refine WL.skip (by decide) rfl rfl ?_
           refine WL.skip (by decide) rfl rfl ?_
           refine WL.yld (by decide) (Yld.pickF rfl rfl) ?_
           refine WL.yld (by decide) (Yld.assign rfl) ?_
           refine WL.done (hK51 _ _ ?_)
           refine WC.ret ?_
           injection h with h; subst h
           exact Ret.fn [] (ResIs.one rfl rfl) rfl (Ext.refl _ _) rfl (by decide) rfl rfl ⟨rfl, rfl⟩
         ·
          replace h := of_f hc71 h
          refine WL.eff (by decide) (Eff.callS 156 rfl Try.func4 nm_4 rfl rfl (fun w hb hh => w_ecread_Exclude (Mem.snap w) (0 : Int) hx52)) ?_
          rintro _ _ ⟨_, ⟨A57, n58, c59, rfl, rfl⟩, rfl⟩
          refine WL.yld (by decide) (Yld.lenC (xs := x52) und_22 rfl (RdH.own (k := 156) rfl)) ?_
          refine WL.yld (by decide) (Yld.eqlI rfl rfl) ?_
          refine WL.yld (by decide) (Yld.move rfl) ?_
          refine WL.new (v' := .bool true) (congrArg Value.bool (beq_iff_eq.2 hc60)) ?_
          refine WL.yldG (by decide) rfl (Yld.move rfl) ?_
          refine WL.yldG (by decide) rfl (Yld.lenC (xs := x3) und_22 rfl (RdH.own (k := 107) rfl)) ?_
          refine WL.yldG (by decide) rfl (Yld.eqlI rfl rfl) ?_
          refine WL.yld (by decide) (Yld.pickT rfl rfl) ?_
          refine WL.yld (by decide) (Yld.move rfl) ?_
          refine WL.new (v' := .bool true) (congrArg Value.bool (beq_iff_eq.2 hc61)) ?_
          refine WL.yldG (by decide) rfl (Yld.move rfl) ?_
          refine WL.yldG (by decide) rfl (Yld.idxC (xs := x3) sty_22 rfl rfl (RdH.own (k := 107) rfl) hx62) ?_
          refine WL.yldG (by decide) rfl (Yld.loadC0 (xs := x3) scal_3 rfl (RdH.own (k := 107) rfl) hx62 rfl) ?_
          refine WL.yldG (by decide) rfl (Yld.eqlI rfl rfl) ?_
          refine WL.yld (by decide) (Yld.pickT rfl rfl) ?_
          refine WL.yld (by decide) (Yld.move rfl) ?_
          refine WL.new (v' := .bool true) (congrArg Value.bool (beq_iff_eq.2 hc63)) ?_
          refine WL.yldG (by decide) rfl (Yld.move rfl) ?_
          refine WL.yldG (by decide) rfl (Yld.lenC (xs := x11) und_22 rfl (RdH.own (k := 115) rfl)) ?_
          refine WL.yldG (by decide) rfl (Yld.eqlI rfl rfl) ?_
          refine WL.yld (by decide) (Yld.pickT rfl rfl) ?_
          refine WL.yld (by decide) (Yld.move rfl) ?_
          refine WL.new (v' := .bool true) (congrArg Value.bool (beq_iff_eq.2 hc64)) ?_
          refine WL.yldG (by decide) rfl (Yld.move rfl) ?_
          refine WL.yldG (by decide) rfl (Yld.idxC (xs := x11) sty_22 rfl rfl (RdH.own (k := 115) rfl) hx65) ?_
          refine WL.yldG (by decide) rfl (Yld.loadC0 (xs := x11) scal_3 rfl (RdH.own (k := 115) rfl) hx65 rfl) ?_
          refine WL.yldG (by decide) rfl (Yld.eqlI rfl rfl) ?_
          refine WL.yld (by decide) (Yld.pickT rfl rfl) ?_
          refine WL.yld (by decide) (Yld.move rfl) ?_
          refine WL.new (v' := .bool true) (congrArg Value.bool (beq_iff_eq.2 hc66)) ?_
          refine WL.yldG (by decide) rfl (Yld.move rfl) ?_
          refine WL.yldG (by decide) rfl (Yld.idxC (xs := x11) sty_22 rfl rfl (RdH.own (k := 115) rfl) hx67) ?_
          refine WL.yldG (by decide) rfl (Yld.loadC0 (xs := x11) scal_3 rfl (RdH.own (k := 115) rfl) hx67 rfl) ?_
          refine WL.yldG (by decide) rfl (Yld.eqlI rfl rfl) ?_
          refine WL.yld (by decide) (Yld.pickT rfl rfl) ?_
          refine WL.yld (by decide) (Yld.move rfl) ?_
          refine WL.new (v' := .bool true) (congrArg Value.bool (beq_iff_eq.2 hc68)) ?_
          refine WL.yldG (by decide) rfl (Yld.move rfl) ?_
          refine WL.yldG (by decide) rfl (Yld.lenC (xs := x19) und_22 rfl (RdH.own (k := 123) rfl)) ?_
          refine WL.yldG (by decide) rfl (Yld.eqlI rfl rfl) ?_
          refine WL.yld (by decide) (Yld.pickT rfl rfl) ?_
          refine WL.yld (by decide) (Yld.move rfl) ?_
          refine WL.new (v' := .bool true) (congrArg Value.bool (beq_iff_eq.2 hc69)) ?_
          refine WL.yldG (by decide) rfl (Yld.move rfl) ?_
          refine WL.yldG (by decide) rfl (Yld.idxC (xs := x19) sty_22 rfl rfl (RdH.own (k := 123) rfl) hx70) ?_
          refine WL.yldG (by decide) rfl (Yld.loadC0 (xs := x19) scal_3 rfl (RdH.own (k := 123) rfl) hx70 rfl) ?_
          refine WL.yldG (by decide) rfl (Yld.eqlI rfl rfl) ?_
          refine WL.yld (by decide) (Yld.pickT rfl rfl) ?_
          refine WL.yld (by decide) (Yld.move rfl) ?_
          refine WL.new (v' := .bool false) (congrArg Value.bool (beq_eq_false_iff_ne.2 hc71)) ?_
          refine WL.skip (by decide) rfl rfl ?_
          refine WL.skip (by decide) rfl rfl ?_
          refine WL.skip (by decide) rfl rfl ?_
          refine WL.skip (by decide) rfl rfl ?_
          refine WL.yld (by decide) (Yld.pickF rfl rfl) ?_
          refine WL.yld (by decide) (Yld.move rfl) ?_
          refine WL.skip (by decide) rfl rfl ?_
          refine WL.skip (by decide) rfl rfl ?_
          refine WL.yld (by decide) (Yld.pickF rfl rfl) ?_
          refine WL.yld (by decide) (Yld.assign rfl) ?_
          refine WL.done (hK51 _ _ ?_)
          refine WC.ret ?_
          injection h with h; subst h
          exact Ret.fn [] (ResIs.one rfl rfl) rfl (Ext.refl _ _) rfl (by decide) rfl rfl ⟨rfl, rfl⟩
        ·
         replace h := of_f hc69 h
         refine WL.eff (by decide) (Eff.callS 156 rfl Try.func4 nm_4 rfl rfl (fun w hb hh => w_ecread_Exclude (Mem.snap w) (0 : Int) hx52)) ?_
         rintro _ _ ⟨_, ⟨A57, n58, c59, rfl, rfl⟩, rfl⟩
         refine WL.yld (by decide) (Yld.lenC (xs := x52) und_22 rfl (RdH.own (k := 156) rfl)) ?_
         refine WL.yld (by decide) (Yld.eqlI rfl rfl) ?_
         refine WL.yld (by decide) (Yld.move rfl) ?_
         refine WL.new (v' := .bool true) (congrArg Value.bool (beq_iff_eq.2 hc60)) ?_
         refine WL.yldG (by decide) rfl (Yld.move rfl) ?_
         refine WL.yldG (by decide) rfl (Yld.lenC (xs := x3) und_22 rfl (RdH.own (k := 107) rfl)) ?_
         refine WL.yldG (by decide) rfl (Yld.eqlI rfl rfl) ?_
         refine WL.yld (by decide) (Yld.pickT rfl rfl) ?_
         refine WL.yld (by decide) (Yld.move rfl) ?_
         refine WL.new (v' := .bool true) (congrArg Value.bool (beq_iff_eq.2 hc61)) ?_
         refine WL.yldG (by decide) rfl (Yld.move rfl) ?_
         refine WL.yldG (by decide) rfl (Yld.idxC (xs := x3) sty_22 rfl rfl (RdH.own (k := 107) rfl) hx62) ?_
         refine WL.yldG (by decide) rfl (Yld.loadC0 (xs := x3) scal_3 rfl (RdH.own (k := 107) rfl) hx62 rfl) ?_
         refine WL.yldG (by decide) rfl (Yld.eqlI rfl rfl) ?_
         refine WL.yld (by decide) (Yld.pickT rfl rfl) ?_
         refine WL.yld (by decide) (Yld.move rfl) ?_
         refine WL.new (v' := .bool true) (congrArg Value.bool (beq_iff_eq.2 hc63)) ?_
         refine WL.yldG (by decide) rfl (Yld.move rfl) ?_
         refine WL.yldG (by decide) rfl (Yld.lenC (xs := x11) und_22 rfl (RdH.own (k := 115) rfl)) ?_
         refine WL.yldG (by decide) rfl (Yld.eqlI rfl rfl) ?_
         refine WL.yld (by decide) (Yld.pickT rfl rfl) ?_
         refine WL.yld (by decide) (Yld.move rfl) ?_
         refine WL.new (v' := .bool true) (congrArg Value.bool (beq_iff_eq.2 hc64)) ?_
         refine WL.yldG (by decide) rfl (Yld.move rfl) ?_
         refine WL.yldG (by decide) rfl (Yld.idxC (xs := x11) sty_22 rfl rfl (RdH.own (k := 115) rfl) hx65) ?_
         refine WL.yldG (by decide) rfl (Yld.loadC0 (xs := x11) scal_3 rfl (RdH.own (k := 115) rfl) hx65 rfl) ?_
         refine WL.yldG (by decide) rfl (Yld.eqlI rfl rfl) ?_
         refine WL.yld (by decide) (Yld.pickT rfl rfl) ?_
         refine WL.yld (by decide) (Yld.move rfl) ?_
         refine WL.new (v' := .bool true) (congrArg Value.bool (beq_iff_eq.2 hc66)) ?_
         refine WL.yldG (by decide) rfl (Yld.move rfl) ?_
         refine WL.yldG (by decide) rfl (Yld.idxC (xs := x11) sty_22 rfl rfl (RdH.own (k := 115) rfl) hx67) ?_
         refine WL.yldG (by decide) rfl (Yld.loadC0 (xs := x11) scal_3 rfl (RdH.own (k := 115) rfl) hx67 rfl) ?_
         refine WL.yldG (by decide) rfl (Yld.eqlI rfl rfl) ?_
         refine WL.yld (by decide) (Yld.pickT rfl rfl) ?_
         refine WL.yld (by decide) (Yld.move rfl) ?_
         refine WL.new (v' := .bool true) (congrArg Value.bool (beq_iff_eq.2 hc68)) ?_
         refine WL.yldG (by decide) rfl (Yld.move rfl) ?_
         refine WL.yldG (by decide) rfl (Yld.lenC (xs := x19) und_22 rfl (RdH.own (k := 123) rfl)) ?_
         refine WL.yldG (by decide) rfl (Yld.eqlI rfl rfl) ?_
         refine WL.yld (by decide) (Yld.pickT rfl rfl) ?_
         refine WL.yld (by decide) (Yld.move rfl) ?_
         refine WL.new (v' := .bool false) (congrArg Value.bool (beq_eq_false_iff_ne.2 hc69)) ?_
         refine WL.skip (by decide) rfl rfl ?_
         refine WL.skip (by decide) rfl rfl ?_
         refine WL.skip (by decide) rfl rfl ?_
         refine WL.skip (by decide) rfl rfl ?_
         refine WL.yld (by decide) (Yld.pickF rfl rfl) ?_
         refine WL.yld (by decide) (Yld.move rfl) ?_
         refine WL.skip (by decide) rfl rfl ?_
         refine WL.skip (by decide) rfl rfl ?_
         refine WL.skip (by decide) rfl rfl ?_
         refine WL.skip (by decide) rfl rfl ?_
         refine WL.yld (by decide) (Yld.pickF rfl rfl) ?_
         refine WL.yld (by decide) (Yld.move rfl) ?_
         refine WL.skip (by decide) rfl rfl ?_
         refine WL.skip (by decide) rfl rfl ?_
         refine WL.yld (by decide) (Yld.pickF rfl rfl) ?_
         refine WL.yld (by decide) (Yld.assign rfl) ?_
         refine WL.done (hK51 _ _ ?_)
         refine WC.ret ?_
         injection h with h; subst h
         exact Ret.fn [] (ResIs.one rfl rfl) rfl (Ext.refl _ _) rfl (by decide) rfl rfl ⟨rfl, rfl⟩
       ·
        replace h := of_f hc68 h
        refine WL.eff (by decide) (Eff.callS 156 rfl Try.func4 nm_4 rfl rfl (fun w hb hh => w_ecread_Exclude (Mem.snap w) (0 : Int) hx52)) ?_
        rintro _ _ ⟨_, ⟨A57, n58, c59, rfl, rfl⟩, rfl⟩
        refine WL.yld (by decide) (Yld.lenC (xs := x52) und_22 rfl (RdH.own (k := 156) rfl)) ?_
        refine WL.yld (by decide) (Yld.eqlI rfl rfl) ?_
        refine WL.yld (by decide) (Yld.move rfl) ?_
        refine WL.new (v' := .bool true) (congrArg Value.bool (beq_iff_eq.2 hc60)) ?_
        refine WL.yldG (by decide) rfl (Yld.move rfl) ?_
        refine WL.yldG (by decide) rfl (Yld.lenC (xs := x3) und_22 rfl (RdH.own (k := 107) rfl)) ?_
        refine WL.yldG (by decide) rfl (Yld.eqlI rfl rfl) ?_
        refine WL.yld (by decide) (Yld.pickT rfl rfl) ?_
        refine WL.yld (by decide) (Yld.move rfl) ?_
        refine WL.new (v' := .bool true) (congrArg Value.bool (beq_iff_eq.2 hc61)) ?_
        refine WL.yldG (by decide) rfl (Yld.move rfl) ?_
        refine WL.yldG (by decide) rfl (Yld.idxC (xs := x3) sty_22 rfl rfl (RdH.own (k := 107) rfl) hx62) ?_
        refine WL.yldG (by decide) rfl (Yld.loadC0 (xs := x3) scal_3 rfl (RdH.own (k := 107) rfl) hx62 rfl) ?_
        refine WL.yldG (by decide) rfl (Yld.eqlI rfl rfl) ?_
        refine WL.yld (by decide) (Yld.pickT rfl rfl) ?_
        refine WL.yld (by decide) (Yld.move rfl) ?_
        refine WL.new (v' := .bool true) (congrArg Value.bool (beq_iff_eq.2 hc63)) ?_
        refine WL.yldG (by decide) rfl (Yld.move rfl) ?_
        refine WL.yldG (by decide) rfl (Yld.lenC (xs := x11) und_22 rfl (RdH.own (k := 115) rfl)) ?_
        refine WL.yldG (by decide) rfl (Yld.eqlI rfl rfl) ?_
        refine WL.yld (by decide) (Yld.pickT rfl rfl) ?_
        refine WL.yld (by decide) (Yld.move rfl) ?_
        refine WL.new (v' := .bool true) (congrArg Value.bool (beq_iff_eq.2 hc64)) ?_
        refine WL.yldG (by decide) rfl (Yld.move rfl) ?_
        refine WL.yldG (by decide) rfl (Yld.idxC (xs := x11) sty_22 rfl rfl (RdH.own (k := 115) rfl) hx65) ?_
        refine WL.yldG (by decide) rfl (Yld.loadC0 (xs := x11) scal_3 rfl (RdH.own (k := 115) rfl) hx65 rfl) ?_
        refine WL.yldG (by decide) rfl (Yld.eqlI rfl rfl) ?_
        refine WL.yld (by decide) (Yld.pickT rfl rfl) ?_
        refine WL.yld (by decide) (Yld.move rfl) ?_
        refine WL.new (v' := .bool true) (congrArg Value.bool (beq_iff_eq.2 hc66)) ?_
        refine WL.yldG (by decide) rfl (Yld.move rfl) ?_
        refine WL.yldG (by decide) rfl (Yld.idxC (xs := x11) sty_22 rfl rfl (RdH.own (k := 115) rfl) hx67) ?_
        refine WL.yldG (by decide) rfl (Yld.loadC0 (xs := x11) scal_3 rfl (RdH.own (k := 115) rfl) hx67 rfl) ?_
        refine WL.yldG (by decide) rfl (Yld.eqlI rfl rfl) ?_
        refine WL.yld (by decide) (Yld.pickT rfl rfl) ?_
        refine WL.yld (by decide) (Yld.move rfl) ?_
        refine WL.new (v' := .bool false) (congrArg Value.bool (beq_eq_false_iff_ne.2 hc68)) ?_
        refine WL.skip (by decide) rfl rfl ?_
        refine WL.skip (by decide) rfl rfl ?_
        refine WL.skip (by decide) rfl rfl ?_
        refine WL.yld (by decide) (Yld.pickF rfl rfl) ?_
        refine WL.yld (by decide) (Yld.move rfl) ?_
        refine WL.skip (by decide) rfl rfl ?_
        refine WL.skip (by decide) rfl rfl ?_
        refine WL.skip (by decide) rfl rfl ?_
        refine WL.skip (by decide) rfl rfl ?_
        refine WL.yld (by decide) (Yld.pickF rfl rfl) ?_
        refine WL.yld (by decide) (Yld.move rfl) ?_
        refine WL.skip (by decide) rfl rfl ?_
        refine WL.skip (by decide) rfl rfl ?_
        refine WL.skip (by decide) rfl rfl ?_
        refine WL.skip (by decide) rfl rfl ?_
        refine WL.yld (by decide) (Yld.pickF rfl rfl) ?_
        refine WL.yld (by decide) (Yld.move rfl) ?_
        refine WL.skip (by decide) rfl rfl ?_
        refine WL.skip (by decide) rfl rfl ?_
        refine WL.yld (by decide) (Yld.pickF rfl rfl) ?_
        refine WL.yld (by decide) (Yld.assign rfl) ?_
        refine WL.done (hK51 _ _ ?_)
        refine WC.ret ?_
        injection h with h; subst h
        exact Ret.fn [] (ResIs.one rfl rfl) rfl (Ext.refl _ _) rfl (by decide) rfl rfl ⟨rfl, rfl⟩
      ·
       replace h := of_f hc66 h
       refine WL.eff (by decide) (Eff.callS 156 rfl Try.func4 nm_4 rfl rfl (fun w hb hh => w_ecread_Exclude (Mem.snap w) (0 : Int) hx52)) ?_
       rintro _ _ ⟨_, ⟨A57, n58, c59, rfl, rfl⟩, rfl⟩
       refine WL.yld (by decide) (Yld.lenC (xs := x52) und_22 rfl (RdH.own (k := 156) rfl)) ?_
       refine WL.yld (by decide) (Yld.eqlI rfl rfl) ?_
       refine WL.yld (by decide) (Yld.move rfl) ?_
       refine WL.new (v' := .bool true) (congrArg Value.bool (beq_iff_eq.2 hc60)) ?_
       refine WL.yldG (by decide) rfl (Yld.move rfl) ?_
       refine WL.yldG (by decide) rfl (Yld.lenC (xs := x3) und_22 rfl (RdH.own (k := 107) rfl)) ?_
       refine WL.yldG (by decide) rfl (Yld.eqlI rfl rfl) ?_
       refine WL.yld (by decide) (Yld.pickT rfl rfl) ?_
       refine WL.yld (by decide) (Yld.move rfl) ?_
       refine WL.new (v' := .bool true) (congrArg Value.bool (beq_iff_eq.2 hc61)) ?_
       refine WL.yldG (by decide) rfl (Yld.move rfl) ?_
       refine WL.yldG (by decide) rfl (Yld.idxC (xs := x3) sty_22 rfl rfl (RdH.own (k := 107) rfl) hx62) ?_
       refine WL.yldG (by decide) rfl (Yld.loadC0 (xs := x3) scal_3 rfl (RdH.own (k := 107) rfl) hx62 rfl) ?_
       refine WL.yldG (by decide) rfl (Yld.eqlI rfl rfl) ?_
       refine WL.yld (by decide) (Yld.pickT rfl rfl) ?_
       refine WL.yld (by decide) (Yld.move rfl) ?_
       refine WL.new (v' := .bool true) (congrArg Value.bool (beq_iff_eq.2 hc63)) ?_
       refine WL.yldG (by decide) rfl (Yld.move rfl) ?_
       refine WL.yldG (by decide) rfl (Yld.lenC (xs := x11) und_22 rfl (RdH.own (k := 115) rfl)) ?_
       refine WL.yldG (by decide) rfl (Yld.eqlI rfl rfl) ?_
       refine WL.yld (by decide) (Yld.pickT rfl rfl) ?_
       refine WL.yld (by decide) (Yld.move rfl) ?_
       refine WL.new (v' := .bool true) (congrArg Value.bool (beq_iff_eq.2 hc64)) ?_
       refine WL.yldG (by decide) rfl (Yld.move rfl) ?_
       refine WL.yldG (by decide) rfl (Yld.idxC (xs := x11) sty_22 rfl rfl (RdH.own (k := 115) rfl) hx65) ?_
       refine WL.yldG (by decide) rfl (Yld.loadC0 (xs := x11) scal_3 rfl (RdH.own (k := 115) rfl) hx65 rfl) ?_
       refine WL.yldG (by decide) rfl (Yld.eqlI rfl rfl) ?_
       refine WL.yld (by decide) (Yld.pickT rfl rfl) ?_
       refine WL.yld (by decide) (Yld.move rfl) ?_
       refine WL.new (v' := .bool false) (congrArg Value.bool (beq_eq_false_iff_ne.2 hc66)) ?_
       refine WL.skip (by decide) rfl rfl ?_
       refine WL.skip (by decide) rfl rfl ?_
       refine WL.skip (by decide) rfl rfl ?_
       refine WL.skip (by decide) rfl rfl ?_
       refine WL.yld (by decide) (Yld.pickF rfl rfl) ?_
       refine WL.yld (by decide) (Yld.move rfl) ?_
       refine WL.skip (by decide) rfl rfl ?_
       refine WL.skip (by decide) rfl rfl ?_
       refine WL.skip (by decide) rfl rfl ?_
       refine WL.yld (by decide) (Yld.pickF rfl rfl) ?_
       refine WL.yld (by decide) (Yld.move rfl) ?_
       refine WL.skip (by decide) rfl rfl ?_
       refine WL.skip (by decide) rfl rfl ?_
       refine WL.skip (by decide) rfl rfl ?_
       refine WL.skip (by decide) rfl rfl ?_
       refine WL.yld (by decide) (Yld.pickF rfl rfl) ?_
       refine WL.yld (by decide) (Yld.move rfl) ?_
       refine WL.skip (by decide) rfl rfl ?_
       refine WL.skip (by decide) rfl rfl ?_
       refine WL.skip (by decide) rfl rfl ?_
       refine WL.skip (by decide) rfl rfl ?_
       refine WL.yld (by decide) (Yld.pickF rfl rfl) ?_
       refine WL.yld (by decide) (Yld.move rfl) ?_
       refine WL.skip (by decide) rfl rfl ?_
       refine WL.skip (by decide) rfl rfl ?_
       refine WL.yld (by decide) (Yld.pickF rfl rfl) ?_
       refine WL.yld (by decide) (Yld.assign rfl) ?_
       refine WL.done (hK51 _ _ ?_)
       refine WC.ret ?_
       injection h with h; subst h
       exact Ret.fn [] (ResIs.one rfl rfl) rfl (Ext.refl _ _) rfl (by decide) rfl rfl ⟨rfl, rfl⟩
     ·
      replace h := of_f hc64 h
      refine WL.eff (by decide) (Eff.callS 156 rfl Try.func4 nm_4 rfl rfl (fun w hb hh => w_ecread_Exclude (Mem.snap w) (0 : Int) hx52)) ?_
      rintro _ _ ⟨_, ⟨A57, n58, c59, rfl, rfl⟩, rfl⟩
      refine WL.yld (by decide) (Yld.lenC (xs := x52) und_22 rfl (RdH.own (k := 156) rfl)) ?_
      refine WL.yld (by decide) (Yld.eqlI rfl rfl) ?_
      refine WL.yld (by decide) (Yld.move rfl) ?_
      refine WL.new (v' := .bool true) (congrArg Value.bool (beq_iff_eq.2 hc60)) ?_
      refine WL.yldG (by decide) rfl (Yld.move rfl) ?_
      refine WL.yldG (by decide) rfl (Yld.lenC (xs := x3) und_22 rfl (RdH.own (k := 107) rfl)) ?_
      refine WL.yldG (by decide) rfl (Yld.eqlI rfl rfl) ?_
      refine WL.yld (by decide) (Yld.pickT rfl rfl) ?_
      refine WL.yld (by decide) (Yld.move rfl) ?_
      refine WL.new (v' := .bool true) (congrArg Value.bool (beq_iff_eq.2 hc61)) ?_
      refine WL.yldG (by decide) rfl (Yld.move rfl) ?_
      refine WL.yldG (by decide) rfl (Yld.idxC (xs := x3) sty_22 rfl rfl (RdH.own (k := 107) rfl) hx62) ?_
      refine WL.yldG (by decide) rfl (Yld.loadC0 (xs := x3) scal_3 rfl (RdH.own (k := 107) rfl) hx62 rfl) ?_
      refine WL.yldG (by decide) rfl (Yld.eqlI rfl rfl) ?_
      refine WL.yld (by decide) (Yld.pickT rfl rfl) ?_
      refine WL.yld (by decide) (Yld.move rfl) ?_
      refine WL.new (v' := .bool true) (congrArg Value.bool (beq_iff_eq.2 hc63)) ?_
      refine WL.yldG (by decide) rfl (Yld.move rfl) ?_
      refine WL.yldG (by decide) rfl (Yld.lenC (xs := x11) und_22 rfl (RdH.own (k := 115) rfl)) ?_
      refine WL.yldG (by decide) rfl (Yld.eqlI rfl rfl) ?_
      refine WL.yld (by decide) (Yld.pickT rfl rfl) ?_
      refine WL.yld (by decide) (Yld.move rfl) ?_
      refine WL.new (v' := .bool false) (congrArg Value.bool (beq_eq_false_iff_ne.2 hc64)) ?_
      refine WL.skip (by decide) rfl rfl ?_
      refine WL.skip (by decide) rfl rfl ?_
      refine WL.skip (by decide) rfl rfl ?_
      refine WL.skip (by decide) rfl rfl ?_
      refine WL.yld (by decide) (Yld.pickF rfl rfl) ?_
      refine WL.yld (by decide) (Yld.move rfl) ?_
      refine WL.skip (by decide) rfl rfl ?_
      refine WL.skip (by decide) rfl rfl ?_
      refine WL.skip (by decide) rfl rfl ?_
      refine WL.skip (by decide) rfl rfl ?_
      refine WL.yld (by decide) (Yld.pickF rfl rfl) ?_
      refine WL.yld (by decide) (Yld.move rfl) ?_
      refine WL.skip (by decide) rfl rfl ?_
      refine WL.skip (by decide) rfl rfl ?_
      refine WL.skip (by decide) rfl rfl ?_
      refine WL.yld (by decide) (Yld.pickF rfl rfl) ?_
      refine WL.yld (by decide) (Yld.move rfl) ?_
      refine WL.skip (by decide) rfl rfl ?_
      refine WL.skip (by decide) rfl rfl ?_
      refine WL.skip (by decide) rfl rfl ?_
      refine WL.skip (by decide) rfl rfl ?_
      refine WL.yld (by decide) (Yld.pickF rfl rfl) ?_
      refine WL.yld (by decide) (Yld.move rfl) ?_
      refine WL.skip (by decide) rfl rfl ?_
      refine WL.skip (by decide) rfl rfl ?_
      refine WL.skip (by decide) rfl rfl ?_
      refine WL.skip (by decide) rfl rfl ?_
      refine WL.yld (by decide) (Yld.pickF rfl rfl) ?_
      refine WL.yld (by decide) (Yld.move rfl) ?_
      refine WL.skip (by decide) rfl rfl ?_
      refine WL.skip (by decide) rfl rfl ?_
      refine WL.yld (by decide) (Yld.pickF rfl rfl) ?_
      refine WL.yld (by decide) (Yld.assign rfl) ?_
      refine WL.done (hK51 _ _ ?_)
      refine WC.ret ?_
      injection h with h; subst h
      exact Ret.fn [] (ResIs.one rfl rfl) rfl (Ext.refl _ _) rfl (by decide) rfl rfl ⟨rfl, rfl⟩
    ·
     replace h := of_f hc63 h
     refine WL.eff (by decide) (Eff.callS 156 rfl Try.func4 nm_4 rfl rfl (fun w hb hh => w_ecread_Exclude (Mem.snap w) (0 : Int) hx52)) ?_
     rintro _ _ ⟨_, ⟨A57, n58, c59, rfl, rfl⟩, rfl⟩
     refine WL.yld (by decide) (Yld.lenC (xs := x52) und_22 rfl (RdH.own (k := 156) rfl)) ?_
     refine WL.yld (by decide) (Yld.eqlI rfl rfl) ?_
     refine WL.yld (by decide) (Yld.move rfl) ?_
     refine WL.new (v' := .bool true) (congrArg Value.bool (beq_iff_eq.2 hc60)) ?_
     refine WL.yldG (by decide) rfl (Yld.move rfl) ?_
     refine WL.yldG (by decide) rfl (Yld.lenC (xs := x3) und_22 rfl (RdH.own (k := 107) rfl)) ?_
     refine WL.yldG (by decide) rfl (Yld.eqlI rfl rfl) ?_
     refine WL.yld (by decide) (Yld.pickT rfl rfl) ?_
     refine WL.yld (by decide) (Yld.move rfl) ?_
     refine WL.new (v' := .bool true) (congrArg Value.bool (beq_iff_eq.2 hc61)) ?_
     refine WL.yldG (by decide) rfl (Yld.move rfl) ?_
     refine WL.yldG (by decide) rfl (Yld.idxC (xs := x3) sty_22 rfl rfl (RdH.own (k := 107) rfl) hx62) ?_
     refine WL.yldG (by decide) rfl (Yld.loadC0 (xs := x3) scal_3 rfl (RdH.own (k := 107) rfl) hx62 rfl) ?_
     refine WL.yldG (by decide) rfl (Yld.eqlI rfl rfl) ?_
     refine WL.yld (by decide) (Yld.pickT rfl rfl) ?_
     refine WL.yld (by decide) (Yld.move rfl) ?_
     refine WL.new (v' := .bool false) (congrArg Value.bool (beq_eq_false_iff_ne.2 hc63)) ?_
     refine WL.skip (by decide) rfl rfl ?_
     refine WL.skip (by decide) rfl rfl ?_
     refine WL.skip (by decide) rfl rfl ?_
     refine WL.yld (by decide) (Yld.pickF rfl rfl) ?_
     refine WL.yld (by decide) (Yld.move rfl) ?_
     refine WL.skip (by decide) rfl rfl ?_
     refine WL.skip (by decide) rfl rfl ?_
     refine WL.skip (by decide) rfl rfl ?_
     refine WL.skip (by decide) rfl rfl ?_
     refine WL.yld (by decide) (Yld.pickF rfl rfl) ?_
     refine WL.yld (by decide) (Yld.move rfl) ?_
     refine WL.skip (by decide) rfl rfl ?_
     refine WL.skip (by decide) rfl rfl ?_
     refine WL.skip (by decide) rfl rfl ?_
     refine WL.skip (by decide) rfl rfl ?_
     refine WL.yld (by decide) (Yld.pickF rfl rfl) ?_
     refine WL.yld (by decide) (Yld.move rfl) ?_
     refine WL.skip (by decide) rfl rfl ?_
     refine WL.skip (by decide) rfl rfl ?_
     refine WL.skip (by decide) rfl rfl ?_
     refine WL.yld (by decide) (Yld.pickF rfl rfl) ?_
     refine WL.yld (by decide) (Yld.move rfl) ?_
     refine WL.skip (by decide) rfl rfl ?_
     refine WL.skip (by decide) rfl rfl ?_
     refine WL.skip (by decide) rfl rfl ?_
     refine WL.skip (by decide) rfl rfl ?_
     refine WL.yld (by decide) (Yld.pickF rfl rfl) ?_
     refine WL.yld (by decide) (Yld.move rfl) ?_
     refine WL.skip (by decide) rfl rfl ?_
     refine WL.skip (by decide) rfl rfl ?_
     refine WL.skip (by decide) rfl rfl ?_
     refine WL.skip (by decide) rfl rfl ?_
     refine WL.yld (by decide) (Yld.pickF rfl rfl) ?_
     refine WL.yld (by decide) (Yld.move rfl) ?_
     refine WL.skip (by decide) rfl rfl ?_
     refine WL.skip (by decide) rfl rfl ?_
     refine WL.yld (by decide) (Yld.pickF rfl rfl) ?_
     refine WL.yld (by decide) (Yld.assign rfl) ?_
     refine WL.done (hK51 _ _ ?_)
     refine WC.ret ?_
     injection h with h; subst h
     exact Ret.fn [] (ResIs.one rfl rfl) rfl (Ext.refl _ _) rfl (by decide) rfl rfl ⟨rfl, rfl⟩
   ·
    replace h := of_f hc61 h
    refine WL.eff (by decide) (Eff.callS 156 rfl Try.func4 nm_4 rfl rfl (fun w hb hh => w_ecread_Exclude (Mem.snap w) (0 : Int) hx52)) ?_
    rintro _ _ ⟨_, ⟨A57, n58, c59, rfl, rfl⟩, rfl⟩
    refine WL.yld (by decide) (Yld.lenC (xs := x52) und_22 rfl (RdH.own (k := 156) rfl)) ?_
    refine WL.yld (by decide) (Yld.eqlI rfl rfl) ?_
    refine WL.yld (by decide) (Yld.move rfl) ?_
    refine WL.new (v' := .bool true) (congrArg Value.bool (beq_iff_eq.2 hc60)) ?_
    refine WL.yldG (by decide) rfl (Yld.move rfl) ?_
    refine WL.yldG (by decide) rfl (Yld.lenC (xs := x3) und_22 rfl (RdH.own (k := 107) rfl)) ?_
    refine WL.yldG (by decide) rfl (Yld.eqlI rfl rfl) ?_
    refine WL.yld (by decide) (Yld.pickT rfl rfl) ?_
    refine WL.yld (by decide) (Yld.move rfl) ?_
    refine WL.new (v' := .bool false) (congrArg Value.bool (beq_eq_false_iff_ne.2 hc61)) ?_
    refine WL.skip (by decide) rfl rfl ?_
    refine WL.skip (by decide) rfl rfl ?_
    refine WL.skip (by decide) rfl rfl ?_
    refine WL.skip (by decide) rfl rfl ?_
    refine WL.yld (by decide) (Yld.pickF rfl rfl) ?_
    refine WL.yld (by decide) (Yld.move rfl) ?_
    refine WL.skip (by decide) rfl rfl ?_
    refine WL.skip (by decide) rfl rfl ?_
    refine WL.skip (by decide) rfl rfl ?_
    refine WL.yld (by decide) (Yld.pickF rfl rfl) ?_
    refine WL.yld (by decide) (Yld.move rfl) ?_
    refine WL.skip (by decide) rfl rfl ?_
    refine WL.skip (by decide) rfl rfl ?_
    refine WL.skip (by decide) rfl rfl ?_
    refine WL.skip (by decide) rfl rfl ?_
    refine WL.yld (by decide) (Yld.pickF rfl rfl) ?_
    refine WL.yld (by decide) (Yld.move rfl) ?_
    refine WL.skip (by decide) rfl rfl ?_
    refine WL.skip (by decide) rfl rfl ?_
    refine WL.skip (by decide) rfl rfl ?_
    refine WL.skip (by decide) rfl rfl ?_
    refine WL.yld (by decide) (Yld.pickF rfl rfl) ?_
    refine WL.yld (by decide) (Yld.move rfl) ?_
    refine WL.skip (by decide) rfl rfl ?_
    refine WL.skip (by decide) rfl rfl ?_
    refine WL.skip (by decide) rfl rfl ?_
    refine WL.yld (by decide) (Yld.pickF rfl rfl) ?_
    refine WL.yld (by decide) (Yld.move rfl) ?_
    refine WL.skip (by decide) rfl rfl ?_
    refine WL.skip (by decide) rfl rfl ?_
    refine WL.skip (by decide) rfl rfl ?_
    refine WL.skip (by decide) rfl rfl ?_
    refine WL.yld (by decide) (Yld.pickF rfl rfl) ?_
    refine WL.yld (by decide) (Yld.move rfl) ?_
    refine WL.skip (by decide) rfl rfl ?_
    refine WL.skip (by decide) rfl rfl ?_
    refine WL.skip (by decide) rfl rfl ?_
    refine WL.skip (by decide) rfl rfl ?_
    refine WL.yld (by decide) (Yld.pickF rfl rfl) ?_
    refine WL.yld (by decide) (Yld.move rfl) ?_
    refine WL.skip (by decide) rfl rfl ?_
    refine WL.skip (by decide) rfl rfl ?_
    refine WL.yld (by decide) (Yld.pickF rfl rfl) ?_
    refine WL.yld (by decide) (Yld.assign rfl) ?_
    refine WL.done (hK51 _ _ ?_)
    refine WC.ret ?_
    injection h with h; subst h
    exact Ret.fn [] (ResIs.one rfl rfl) rfl (Ext.refl _ _) rfl (by decide) rfl rfl ⟨rfl, rfl⟩
  ·
   replace h := of_f hc60 h
   refine WL.eff (by decide) (Eff.callS 156 rfl Try.func4 nm_4 rfl rfl (fun w hb hh => w_ecread_Exclude (Mem.snap w) (0 : Int) hx52)) ?_
   rintro _ _ ⟨_, ⟨A57, n58, c59, rfl, rfl⟩, rfl⟩
   refine WL.yld (by decide) (Yld.lenC (xs := x52) und_22 rfl (RdH.own (k := 156) rfl)) ?_
   refine WL.yld (by decide) (Yld.eqlI rfl rfl) ?_
   refine WL.yld (by decide) (Yld.move rfl) ?_
   refine WL.new (v' := .bool false) (congrArg Value.bool (beq_eq_false_iff_ne.2 hc60)) ?_
   refine WL.skip (by decide) rfl rfl ?_
   refine WL.skip (by decide) rfl rfl ?_
   refine WL.skip (by decide) rfl rfl ?_
   refine WL.yld (by decide) (Yld.pickF rfl rfl) ?_
   refine WL.yld (by decide) (Yld.move rfl) ?_
   refine WL.skip (by decide) rfl rfl ?_
   refine WL.skip (by decide) rfl rfl ?_
   refine WL.skip (by decide) rfl rfl ?_
   refine WL.skip (by decide) rfl rfl ?_
   refine WL.yld (by decide) (Yld.pickF rfl rfl) ?_
   refine WL.yld (by decide) (Yld.move rfl) ?_
   refine WL.skip (by decide) rfl rfl ?_
   refine WL.skip (by decide) rfl rfl ?_
   refine WL.skip (by decide) rfl rfl ?_
   refine WL.yld (by decide) (Yld.pickF rfl rfl) ?_
   refine WL.yld (by decide) (Yld.move rfl) ?_
   refine WL.skip (by decide) rfl rfl ?_
   refine WL.skip (by decide) rfl rfl ?_
   refine WL.skip (by decide) rfl rfl ?_
   refine WL.skip (by decide) rfl rfl ?_
   refine WL.yld (by decide) (Yld.pickF rfl rfl) ?_
   refine WL.yld (by decide) (Yld.move rfl) ?_
   refine WL.skip (by decide) rfl rfl ?_
   refine WL.skip (by decide) rfl rfl ?_
   refine WL.skip (by decide) rfl rfl ?_
   refine WL.skip (by decide) rfl rfl ?_
   refine WL.yld (by decide) (Yld.pickF rfl rfl) ?_
   refine WL.yld (by decide) (Yld.move rfl) ?_
   refine WL.skip (by decide) rfl rfl ?_
   refine WL.skip (by decide) rfl rfl ?_
   refine WL.skip (by decide) rfl rfl ?_
   refine WL.yld (by decide) (Yld.pickF rfl rfl) ?_
   refine WL.yld (by decide) (Yld.move rfl) ?_
   refine WL.skip (by decide) rfl rfl ?_
   refine WL.skip (by decide) rfl rfl ?_
   refine WL.skip (by decide) rfl rfl ?_
   refine WL.skip (by decide) rfl rfl ?_
   refine WL.yld (by decide) (Yld.pickF rfl rfl) ?_
   refine WL.yld (by decide) (Yld.move rfl) ?_
   refine WL.skip (by decide) rfl rfl ?_
   refine WL.skip (by decide) rfl rfl ?_
   refine WL.skip (by decide) rfl rfl ?_
   refine WL.skip (by decide) rfl rfl ?_
   refine WL.yld (by decide) (Yld.pickF rfl rfl) ?_
   refine WL.yld (by decide) (Yld.move rfl) ?_
   refine WL.skip (by decide) rfl rfl ?_
   refine WL.skip (by decide) rfl rfl ?_
   refine WL.yld (by decide) (Yld.pickF rfl rfl) ?_
   refine WL.yld (by decide) (Yld.assign rfl) ?_
   refine WL.done (hK51 _ _ ?_)
   refine WC.ret ?_
   injection h with h; subst h
   exact Ret.fn [] (ResIs.one rfl rfl) rfl (Ext.refl _ _) rfl (by decide) rfl rfl ⟨rfl, rfl⟩
 ·
  replace h := of_f hc46 h
  refine WL.yld (by decide) (Yld.fieldAddr Try.underlying43 rfl nz_39 rfl rfl) ?_
  refine WL.yld (by decide) (Yld.loadBP (k := 141) agg_39 rfl rfl rfl rfl) ?_
  refine WL.eff (by decide) (Eff.callS 145 rfl Try.func18 nm_18 rfl rfl (fun w hb hh => w_superblock_Valid (Mem.snap w) (0 : Int) (0 : Int) (0 : Int) hx44)) ?_
  rintro _ _ ⟨_, ⟨rfl, rfl⟩, rfl⟩
  refine WL.yld (by decide) (Yld.notB rfl) ?_
  refine WL.yld (by decide) (Yld.move rfl) ?_
  refine WL.new (v' := .bool true) (congrArg Value.bool (not_t (Bool.eq_false_iff.2 hc46))) ?_
  refine WL.skip (by decide) rfl rfl ?_
  refine WL.skip (by decide) rfl rfl ?_
  refine WL.skip (by decide) rfl rfl ?_
  refine WL.yld (by decide) (Yld.pickT rfl rfl) ?_
  refine WL.yld (by decide) (Yld.move rfl) ?_
  refine WL.skip (by decide) rfl rfl ?_
  refine WL.skip (by decide) rfl rfl ?_
  refine WL.skip (by decide) rfl rfl ?_
  refine WL.yld (by decide) (Yld.pickT rfl rfl) ?_
  refine WL.yld (by decide) (Yld.move rfl) ?_
  refine WL.skip (by decide) rfl rfl ?_
  refine WL.skip (by decide) rfl rfl ?_
  refine WL.skip (by decide) rfl rfl ?_
  refine WL.skip (by decide) rfl rfl ?_
  refine WL.yld (by decide) (Yld.pickT rfl rfl) ?_
  refine WL.done (hK43 _ _ ?_)
  refine WC.condT rfl ?_
  refine WC.seqRegion fun K74 hK74 => ?_
  refine WL.yld (by decide) (Yld.assign rfl) ?_
  refine WL.done (hK74 _ _ ?_)
  refine WC.ret (QK.thenR ?_)
  refine Ret.go (ResIs.one rfl rfl) ?_
  refine WL.yld (by decide) (Yld.move rfl) ?_
  refine WL.skip (by decide) rfl rfl ?_
  refine WL.skip (by decide) rfl rfl ?_
  refine WL.skip (by decide) rfl rfl ?_
  refine WL.yld (by decide) (Yld.pickF rfl rfl) ?_
  refine WL.yld (by decide) (Yld.move rfl) ?_
  refine WL.skip (by decide) rfl rfl ?_
  refine WL.skip (by decide) rfl rfl ?_
  refine WL.skip (by decide) rfl rfl ?_
  refine WL.yld (by decide) (Yld.pickF rfl rfl) ?_
  refine WL.yld (by decide) (Yld.assign rfl) ?_
  refine WL.done (hK39 _ _ ?_)
  refine WC.ret ?_
  refine Ret.go (ResIs.one rfl rfl) ?_
  refine WL.yld (by decide) (Yld.notB rfl) ?_
  refine WL.yld (by decide) (Yld.move rfl) ?_
  refine WL.skip (by decide) rfl rfl ?_
  refine WL.skip (by decide) rfl rfl ?_
  refine WL.skip (by decide) rfl rfl ?_
  refine WL.skip (by decide) rfl rfl ?_
  refine WL.skip (by decide) rfl rfl ?_
  refine WL.yld (by decide) (Yld.pickT rfl rfl) ?_
  refine WL.done (hK36 _ _ ?_)
  refine WC.condT rfl ?_
  refine WC.seqRegion fun K75 hK75 => ?_
  refine WL.yld (by decide) (Yld.build rfl (bu_34_)) ?_
  refine WL.eff0 (Eff0.storeBAM 133 agg_34 rfl rfl rfl ⟨rfl, rfl⟩ rfl) ?_
  refine WL.eff0 (Eff0.storeB 134 siz_35 rfl rfl rfl rfl (Nat.le_of_ble_eq_true rfl)) ?_
  refine WL.done (hK75 _ _ ?_)
  refine WC.ret (QK.thenR ?_)
  refine Ret.go (ResIs.cellAS (k := 133) (k' := 134) rfl agg_34 scal_35 rfl rfl rfl rfl (rfl) rfl) ?_
  refine WL.yld (by decide) (Yld.move rfl) ?_
  refine WL.yld (by decide) (Yld.extract rfl rfl) ?_
  refine WL.yld (by decide) (Yld.extract rfl rfl) ?_
  refine WL.eff (by decide) (Eff.alloc 176 rfl zr_34) ?_
  rintro _ _ ⟨g76, rfl, rfl⟩
  refine WL.eff0 (Eff0.storeBAM 176 agg_34 rfl rfl rfl ⟨rfl, rfl⟩ rfl) ?_
  refine WL.yld (by decide) (Yld.assign rfl) ?_
  refine WL.done (hK27 _ _ ?_)
  refine WC.seqRegion fun K77 hK77 => ?_
  obtain ⟨x78, hx78, h⟩ := bnd h
  by_cases hc86 : (x78.length : Int) = (0 : Int)
  ·
   replace h := of_t hc86 h
   by_cases hc87 : (x3.length : Int) = (1 : Int)
   ·
    replace h := of_t hc87 h
    obtain ⟨x88, hx88, h⟩ := bnd h
    by_cases hc89 : x88 = (5 : Int)
    ·
     replace h := of_t hc89 h
     by_cases hc90 : (x11.length : Int) = (2 : Int)
     ·
      replace h := of_t hc90 h
      obtain ⟨x91, hx91, h⟩ := bnd h
      by_cases hc92 : x91 = (0 : Int)
      ·
       replace h := of_t hc92 h
       obtain ⟨x93, hx93, h⟩ := bnd h
       by_cases hc94 : x93 = (1 : Int)
       ·
        replace h := of_t hc94 h
        by_cases hc95 : (x19.length : Int) = (2 : Int)
        ·
         replace h := of_t hc95 h
         obtain ⟨x96, hx96, h⟩ := bnd h
         by_cases hc97 : x96 = (4 : Int)
         ·
          replace h := of_t hc97 h
          obtain ⟨x98, hx98, h⟩ := bnd h
          by_cases hc99 : x98 = (5 : Int)
          ·
           replace h := of_t hc99 h
           refine WL.eff (by decide) (Eff.callS 182 rfl Try.func4 nm_4 rfl rfl (fun w hb hh => w_ecread_Exclude (Mem.snap w) (0 : Int) hx78)) ?_
           rintro _ _ ⟨_, ⟨A83, n84, c85, rfl, rfl⟩, rfl⟩
           refine WL.yld (by decide) (Yld.lenC (xs := x78) und_22 rfl (RdH.own (k := 182) rfl)) ?_
           refine WL.yld (by decide) (Yld.eqlI rfl rfl) ?_
           refine WL.yld (by decide) (Yld.move rfl) ?_
           refine WL.new (v' := .bool true) (congrArg Value.bool (beq_iff_eq.2 hc86)) ?_
           refine WL.yldG (by decide) rfl (Yld.move rfl) ?_
           refine WL.yldG (by decide) rfl (Yld.lenC (xs := x3) und_22 rfl (RdH.own (k := 107) rfl)) ?_
           refine WL.yldG (by decide) rfl (Yld.eqlI rfl rfl) ?_
           refine WL.yld (by decide) (Yld.pickT rfl rfl) ?_
           refine WL.yld (by decide) (Yld.move rfl) ?_
           refine WL.new (v' := .bool true) (congrArg Value.bool (beq_iff_eq.2 hc87)) ?_
           refine WL.yldG (by decide) rfl (Yld.move rfl) ?_
           refine WL.yldG (by decide) rfl (Yld.idxC (xs := x3) sty_22 rfl rfl (RdH.own (k := 107) rfl) hx88) ?_
           refine WL.yldG (by decide) rfl (Yld.loadC0 (xs := x3) scal_3 rfl (RdH.own (k := 107) rfl) hx88 rfl) ?_
           refine WL.yldG (by decide) rfl (Yld.eqlI rfl rfl) ?_
           refine WL.yld (by decide) (Yld.pickT rfl rfl) ?_
           refine WL.yld (by decide) (Yld.move rfl) ?_
           refine WL.new (v' := .bool true) (congrArg Value.bool (beq_iff_eq.2 hc89)) ?_
           refine WL.yldG (by decide) rfl (Yld.move rfl) ?_
           refine WL.yldG (by decide) rfl (Yld.lenC (xs := x11) und_22 rfl (RdH.own (k := 115) rfl)) ?_
           refine WL.yldG (by decide) rfl (Yld.eqlI rfl rfl) ?_
           refine WL.yld (by decide) (Yld.pickT rfl rfl) ?_
           refine WL.yld (by decide) (Yld.move rfl) ?_
           refine WL.new (v' := .bool true) (congrArg Value.bool (beq_iff_eq.2 hc90)) ?_
           refine WL.yldG (by decide) rfl (Yld.move rfl) ?_
           refine WL.yldG (by decide) rfl (Yld.idxC (xs := x11) sty_22 rfl rfl (RdH.own (k := 115) rfl) hx91) ?_
           refine WL.yldG (by decide) rfl (Yld.loadC0 (xs := x11) scal_3 rfl (RdH.own (k := 115) rfl) hx91 rfl) ?_
           refine WL.yldG (by decide) rfl (Yld.eqlI rfl rfl) ?_
           refine WL.yld (by decide) (Yld.pickT rfl rfl) ?_
           refine WL.yld (by decide) (Yld.move rfl) ?_
           refine WL.new (v' := .bool true) (congrArg Value.bool (beq_iff_eq.2 hc92)) ?_
           refine WL.yldG (by decide) rfl (Yld.move rfl) ?_
           refine WL.yldG (by decide) rfl (Yld.idxC (xs := x11) sty_22 rfl rfl (RdH.own (k := 115) rfl) hx93) ?_
           refine WL.yldG (by decide) rfl (Yld.loadC0 (xs := x11) scal_3 rfl (RdH.own (k := 115) rfl) hx93 rfl) ?_
           refine WL.yldG (by decide) rfl (Yld.eqlI rfl rfl) ?_
           refine WL.yld (by decide) (Yld.pickT rfl rfl) ?_
           refine WL.yld (by decide) (Yld.move rfl) ?_
           refine WL.new (v' := .bool true) (congrArg Value.bool (beq_iff_eq.2 hc94)) ?_
           refine WL.yldG (by decide) rfl (Yld.move rfl) ?_
           refine WL.yldG (by decide) rfl (Yld.lenC (xs := x19) und_22 rfl (RdH.own (k := 123) rfl)) ?_
           refine WL.yldG (by decide) rfl (Yld.eqlI rfl rfl) ?_
           refine WL.yld (by decide) (Yld.pickT rfl rfl) ?_
           refine WL.yld (by decide) (Yld.move rfl) ?_
           refine WL.new (v' := .bool true) (congrArg Value.bool (beq_iff_eq.2 hc95)) ?_
           refine WL.yldG (by decide) rfl (Yld.move rfl) ?_
           refine WL.yldG (by decide) rfl (Yld.idxC (xs := x19) sty_22 rfl rfl (RdH.own (k := 123) rfl) hx96) ?_
           refine WL.yldG (by decide) rfl (Yld.loadC0 (xs := x19) scal_3 rfl (RdH.own (k := 123) rfl) hx96 rfl) ?_
           refine WL.yldG (by decide) rfl (Yld.eqlI rfl rfl) ?_
           refine WL.yld (by decide) (Yld.pickT rfl rfl) ?_
           refine WL.yld (by decide) (Yld.move rfl) ?_
           refine WL.new (v' := .bool true) (congrArg Value.bool (beq_iff_eq.2 hc97)) ?_
           refine WL.yldG (by decide) rfl (Yld.move rfl) ?_
           refine WL.yldG (by decide) rfl (Yld.idxC (xs := x19) sty_22 rfl rfl (RdH.own (k := 123) rfl) hx98) ?_
           refine WL.yldG (by decide) rfl (Yld.loadC0 (xs := x19) scal_3 rfl (RdH.own (k := 123) rfl) hx98 rfl) ?_
           refine WL.yldG (by decide) rfl (Yld.eqlI rfl rfl) ?_
           refine WL.yld (by decide) (Yld.pickT rfl rfl) ?_
           refine WL.yld (by decide) (Yld.move rfl) ?_
           refine WL.new (v' := .bool true) (congrArg Value.bool (beq_iff_eq.2 hc99)) ?_
           refine WL.yldG (by decide) rfl (Yld.move rfl) ?_
           refine WL.yldG (by decide) rfl (Yld.eqlI rfl rfl) ?_
           refine WL.yld (by decide) (Yld.pickT rfl rfl) ?_
           refine WL.yld (by decide) (Yld.assign rfl) ?_
           refine WL.done (hK77 _ _ ?_)
           refine WC.ret ?_
           injection h with h; subst h
           exact Ret.fn [] (ResIs.one rfl rfl) rfl (Ext.refl _ _) rfl (by decide) rfl rfl ⟨rfl, rfl⟩
          ·
           replace h := of_f hc99 h
           refine WL.eff (by decide) (Eff.callS 182 rfl Try.func4 nm_4 rfl rfl (fun w hb hh => w_ecread_Exclude (Mem.snap w) (0 : Int) hx78)) ?_
           rintro _ _ ⟨_, ⟨A83, n84, c85, rfl, rfl⟩, rfl⟩
           refine WL.yld (by decide) (Yld.lenC (xs := x78) und_22 rfl (RdH.own (k := 182) rfl)) ?_
           refine WL.yld (by decide) (Yld.eqlI rfl rfl) ?_
           refine WL.yld (by decide) (Yld.move rfl) ?_
           refine WL.new (v' := .bool true) (congrArg Value.bool (beq_iff_eq.2 hc86)) ?_
           refine WL.yldG (by decide) rfl (Yld.move rfl) ?_
           refine WL.yldG (by decide) rfl (Yld.lenC (xs := x3) und_22 rfl (RdH.own (k := 107) rfl)) ?_
           refine WL.yldG (by decide) rfl (Yld.eqlI rfl rfl) ?_
           refine WL.yld (by decide) (Yld.pickT rfl rfl) ?_
           refine WL.yld (by decide) (Yld.move rfl) ?_
           refine WL.new (v' := .bool true) (congrArg Value.bool (beq_iff_eq.2 hc87)) ?_
           refine WL.yldG (by decide) rfl (Yld.move rfl) ?_
           refine WL.yldG (by decide) rfl (Yld.idxC (xs := x3) sty_22 rfl rfl (RdH.own (k := 107) rfl) hx88) ?_
           refine WL.yldG (by decide) rfl (Yld.loadC0 (xs := x3) scal_3 rfl (RdH.own (k := 107) rfl) hx88 rfl) ?_
           refine WL.yldG (by decide) rfl (Yld.eqlI rfl rfl) ?_
           refine WL.yld (by decide) (Yld.pickT rfl rfl) ?_
           refine WL.yld (by decide) (Yld.move rfl) ?_
           refine WL.new (v' := .bool true) (congrArg Value.bool (beq_iff_eq.2 hc89)) ?_
           refine WL.yldG (by decide) rfl (Yld.move rfl) ?_
           refine WL.yldG (by decide) rfl (Yld.lenC (xs := x11) und_22 rfl (RdH.own (k := 115) rfl)) ?_
           refine WL.yldG (by decide) rfl (Yld.eqlI rfl rfl) ?_
           refine WL.yld (by decide) (Yld.pickT rfl rfl) ?_
           refine WL.yld (by decide) (Yld.move rfl) ?_
           refine WL.new (v' := .bool true) (congrArg Value.bool (beq_iff_eq.2 hc90)) ?_
           refine WL.yldG (by decide) rfl (Yld.move rfl) ?_
           refine WL.yldG (by decide) rfl (Yld.idxC (xs := x11) sty_22 rfl rfl (RdH.own (k := 115) rfl) hx91) ?_
           refine WL.yldG (by decide) rfl (Yld.loadC0 (xs := x11) scal_3 rfl (RdH.own (k := 115) rfl) hx91 rfl) ?_
           refine WL.yldG (by decide) rfl (Yld.eqlI rfl rfl) ?_
           refine WL.yld (by decide) (Yld.pickT rfl rfl) ?_
           refine WL.yld (by decide) (Yld.move rfl) ?_
           refine WL.new (v' := .bool true) (congrArg Value.bool (beq_iff_eq.2 hc92)) ?_
           refine WL.yldG (by decide) rfl (Yld.move rfl) ?_
           refine WL.yldG (by decide) rfl (Yld.idxC (xs := x11) sty_22 rfl rfl (RdH.own (k := 115) rfl) hx93) ?_
           refine WL.yldG (by decide) rfl (Yld.loadC0 (xs := x11) scal_3 rfl (RdH.own (k := 115) rfl) hx93 rfl) ?_
           refine WL.yldG (by decide) rfl (Yld.eqlI rfl rfl) ?_
           refine WL.yld (by decide) (Yld.pickT rfl rfl) ?_
           refine WL.yld (by decide) (Yld.move rfl) ?_
           refine WL.new (v' := .bool true) (congrArg Value.bool (beq_iff_eq.2 hc94)) ?_
           refine WL.yldG (by decide) rfl (Yld.move rfl) ?_
           refine WL.yldG (by decide) rfl (Yld.lenC (xs := x19) und_22 rfl (RdH.own (k := 123) rfl)) ?_
           refine WL.yldG (by decide) rfl (Yld.eqlI rfl rfl) ?_
           refine WL.yld (by decide) (Yld.pickT rfl rfl) ?_
           refine WL.yld (by decide) (Yld.move rfl) ?_
           refine WL.new (v' := .bool true) (congrArg Value.bool (beq_iff_eq.2 hc95)) ?_
           refine WL.yldG (by decide) rfl (Yld.move rfl) ?_
           refine WL.yldG (by decide) rfl (Yld.idxC (xs := x19) sty_22 rfl rfl (RdH.own (k := 123) rfl) hx96) ?_
           refine WL.yldG (by decide) rfl (Yld.loadC0 (xs := x19) scal_3 rfl (RdH.own (k := 123) rfl) hx96 rfl) ?_
           refine WL.yldG (by decide) rfl (Yld.eqlI rfl rfl) ?_
           refine WL.yld (by decide) (Yld.pickT rfl rfl) ?_
           refine WL.yld (by decide) (Yld.move rfl) ?_
           refine WL.new (v' := .bool true) (congrArg Value.bool (beq_iff_eq.2 hc97)) ?_
           refine WL.yldG (by decide) rfl (Yld.move rfl) ?_
           refine WL.yldG (by decide) rfl (Yld.idxC (xs := x19) sty_22 rfl rfl (RdH.own (k := 123) rfl) hx98) ?_
           refine WL.yldG (by decide) rfl (Yld.loadC0 (xs := x19) scal_3 rfl (RdH.own (k := 123) rfl) hx98 rfl) ?_
           refine WL.yldG (by decide) rfl (Yld.eqlI rfl rfl) ?_
           refine WL.yld (by decide) (Yld.pickT rfl rfl) ?_
           refine WL.yld (by decide) (Yld.move rfl) ?_
           refine WL.new (v' := .bool false) (congrArg Value.bool (beq_eq_false_iff_ne.2 hc99)) ?_
           refine WL.skip (by decide) rfl rfl ?_
           refine WL.skip (by decide) rfl rfl ?_
           refine WL.yld (by decide) (Yld.pickF rfl rfl) ?_
           refine WL.yld (by decide) (Yld.assign rfl) ?_
           refine WL.done (hK77 _ _ ?_)
           refine WC.ret ?_
           injection h with h; subst h
           exact Ret.fn [] (ResIs.one rfl rfl) rfl (Ext.refl _ _) rfl (by decide) rfl rfl ⟨rfl, rfl⟩
         ·
          replace h := of_f hc97 h
          refine WL.eff (by decide) (Eff.callS 182 rfl Try.func4 nm_4 rfl rfl (fun w hb hh => w_ecread_Exclude (Mem.snap w) (0 : Int) hx78)) ?_
          rintro _ _ ⟨_, ⟨A83, n84, c85, rfl, rfl⟩, rfl⟩
          refine WL.yld (by decide) (Yld.lenC (xs := x78) und_22 rfl (RdH.own (k := 182) rfl)) ?_
          refine WL.yld (by decide) (Yld.eqlI rfl rfl) ?_
          refine WL.yld (by decide) (Yld.move rfl) ?_
          refine WL.new (v' := .bool true) (congrArg Value.bool (beq_iff_eq.2 hc86)) ?_
          refine WL.yldG (by decide) rfl (Yld.move rfl) ?_
          refine WL.yldG (by decide) rfl (Yld.lenC (xs := x3) und_22 rfl (RdH.own (k := 107) rfl)) ?_
          refine WL.yldG (by decide) rfl (Yld.eqlI rfl rfl) ?_
          refine WL.yld (by decide) (Yld.pickT rfl rfl) ?_
          refine WL.yld (by decide) (Yld.move rfl) ?_
          refine WL.new (v' := .bool true) (congrArg Value.bool (beq_iff_eq.2 hc87)) ?_
          refine WL.yldG (by decide) rfl (Yld.move rfl) ?_
          refine WL.yldG (by decide) rfl (Yld.idxC (xs := x3) sty_22 rfl rfl (RdH.own (k := 107) rfl) hx88) ?_
          refine WL.yldG (by decide) rfl (Yld.loadC0 (xs := x3) scal_3 rfl (RdH.own (k := 107) rfl) hx88 rfl) ?_
          refine WL.yldG (by decide) rfl (Yld.eqlI rfl rfl) ?_
          refine WL.yld (by decide) (Yld.pickT rfl rfl) ?_
          refine WL.yld (by decide) (Yld.move rfl) ?_
          refine WL.new (v' := .bool true) (congrArg Value.bool (beq_iff_eq.2 hc89)) ?_
          refine WL.yldG (by decide) rfl (Yld.move rfl) ?_
          refine WL.yldG (by decide) rfl (Yld.lenC (xs := x11) und_22 rfl (RdH.own (k := 115) rfl)) ?_
          refine WL.yldG (by decide) rfl (Yld.eqlI rfl rfl) ?_
          refine WL.yld (by decide) (Yld.pickT rfl rfl) ?_
          refine WL.yld (by decide) (Yld.move rfl) ?_
          refine WL.new (v' := .bool true) (congrArg Value.bool (beq_iff_eq.2 hc90)) ?_
          refine WL.yldG (by decide) rfl (Yld.move rfl) ?_
          refine WL.yldG (by decide) rfl (Yld.idxC (xs := x11) sty_22 rfl rfl (RdH.own (k := 115) rfl) hx91) ?_
          refine WL.yldG (by decide) rfl (Yld.loadC0 (xs := x11) scal_3 rfl (RdH.own (k := 115) rfl) hx91 rfl) ?_
          refine WL.yldG (by decide) rfl (Yld.eqlI rfl rfl) ?_
          refine WL.yld (by decide) (Yld.pickT rfl rfl) ?_
          refine WL.yld (by decide) (Yld.move rfl) ?_
          refine WL.new (v' := .bool true) (congrArg Value.bool (beq_iff_eq.2 hc92)) ?_
          refine WL.yldG (by decide) rfl (Yld.move rfl) ?_
          refine WL.yldG (by decide) rfl (Yld.idxC (xs := x11) sty_22 rfl rfl (RdH.own (k := 115) rfl) hx93) ?_
          refine WL.yldG (by decide) rfl (Yld.loadC0 (xs := x11) scal_3 rfl (RdH.own (k := 115) rfl) hx93 rfl) ?_
          refine WL.yldG (by decide) rfl (Yld.eqlI rfl rfl) ?_
          refine WL.yld (by decide) (Yld.pickT rfl rfl) ?_
          refine WL.yld (by decide) (Yld.move rfl) ?_
          refine WL.new (v' := .bool true) (congrArg Value.bool (beq_iff_eq.2 hc94)) ?_
          refine WL.yldG (by decide) rfl (Yld.move rfl) ?_
          refine WL.yldG (by decide) rfl (Yld.lenC (xs := x19) und_22 rfl (RdH.own (k := 123) rfl)) ?_
          refine WL.yldG (by decide) rfl (Yld.eqlI rfl rfl) ?_
          refine WL.yld (by decide) (Yld.pickT rfl rfl) ?_
          refine WL.yld (by decide) (Yld.move rfl) ?_
          refine WL.new (v' := .bool true) (congrArg Value.bool (beq_iff_eq.2 hc95)) ?_
          refine WL.yldG (by decide) rfl (Yld.move rfl) ?_
          refine WL.yldG (by decide) rfl (Yld.idxC (xs := x19) sty_22 rfl rfl (RdH.own (k := 123) rfl) hx96) ?_
          refine WL.yldG (by decide) rfl (Yld.loadC0 (xs := x19) scal_3 rfl (RdH.own (k := 123) rfl) hx96 rfl) ?_
          refine WL.yldG (by decide) rfl (Yld.eqlI rfl rfl) ?_
          refine WL.yld (by decide) (Yld.pickT rfl rfl) ?_
          refine WL.yld (by decide) (Yld.move rfl) ?_
          refine WL.new (v' := .bool false) (congrArg Value.bool (beq_eq_false_iff_ne.2 hc97)) ?_
          refine WL.skip (by decide) rfl rfl ?_
          refine WL.skip (by decide) rfl rfl ?_
          refine WL.skip (by decide) rfl rfl ?_
          refine WL.skip (by decide) rfl rfl ?_
          refine WL.yld (by decide) (Yld.pickF rfl rfl) ?_
          refine WL.yld (by decide) (Yld.move rfl) ?_
          refine WL.skip (by decide) rfl rfl ?_
          refine WL.skip (by decide) rfl rfl ?_
          refine WL.yld (by decide) (Yld.pickF rfl rfl) ?_
          refine WL.yld (by decide) (Yld.assign rfl) ?_
          refine WL.done (hK77 _ _ ?_)
          refine WC.ret ?_
          injection h with h; subst h
          exact Ret.fn [] (ResIs.one rfl rfl) rfl (Ext.refl _ _) rfl (by decide) rfl rfl ⟨rfl, rfl⟩
        ·
         replace h := of_f hc95 h
         refine WL.eff (by decide) (Eff.callS 182 rfl Try.func4 nm_4 rfl rfl (fun w hb hh => w_ecread_Exclude (Mem.snap w) (0 : Int) hx78)) ?_
         rintro _ _ ⟨_, ⟨A83, n84, c85, rfl, rfl⟩, rfl⟩
         refine WL.yld (by decide) (Yld.lenC (xs := x78) und_22 rfl (RdH.own (k := 182) rfl)) ?_
         refine WL.yld (by decide) (Yld.eqlI rfl rfl) ?_
         refine WL.yld (by decide) (Yld.move rfl) ?_
         refine WL.new (v' := .bool true) (congrArg Value.bool (beq_iff_eq.2 hc86)) ?_
         refine WL.yldG (by decide) rfl (Yld.move rfl) ?_
         refine WL.yldG (by decide) rfl (Yld.lenC (xs := x3) und_22 rfl (RdH.own (k := 107) rfl)) ?_
         refine WL.yldG (by decide) rfl (Yld.eqlI rfl rfl) ?_
         refine WL.yld (by decide) (Yld.pickT rfl rfl) ?_
         refine WL.yld (by decide) (Yld.move rfl) ?_
         refine WL.new (v' := .bool true) (congrArg Value.bool (beq_iff_eq.2 hc87)) ?_
         refine WL.yldG (by decide) rfl (Yld.move rfl) ?_
         refine WL.yldG (by decide) rfl (Yld.idxC (xs := x3) sty_22 rfl rfl (RdH.own (k := 107) rfl) hx88) ?_
         refine WL.yldG (by decide) rfl (Yld.loadC0 (xs := x3) scal_3 rfl (RdH.own (k := 107) rfl) hx88 rfl) ?_
         refine WL.yldG (by decide) rfl (Yld.eqlI rfl rfl) ?_
         refine WL.yld (by decide) (Yld.pickT rfl rfl) ?_
         refine WL.yld (by decide) (Yld.move rfl) ?_
         refine WL.new (v' := .bool true) (congrArg Value.bool (beq_iff_eq.2 hc89)) ?_
         refine WL.yldG (by decide) rfl (Yld.move rfl) ?_
         refine WL.yldG (by decide) rfl (Yld.lenC (xs := x11) und_22 rfl (RdH.own (k := 115) rfl)) ?_
         refine WL.yldG (by decide) rfl (Yld.eqlI rfl rfl) ?_
         refine WL.yld (by decide) (Yld.pickT rfl rfl) ?_
         refine WL.yld (by decide) (Yld.move rfl) ?_
         refine WL.new (v' := .bool true) (congrArg Value.bool (beq_iff_eq.2 hc90)) ?_
         refine WL.yldG (by decide) rfl (Yld.move rfl) ?_
         refine WL.yldG (by decide) rfl (Yld.idxC (xs := x11) sty_22 rfl rfl (RdH.own (k := 115) rfl) hx91) ?_
         refine WL.yldG (by decide) rfl (Yld.loadC0 (xs := x11) scal_3 rfl (RdH.own (k := 115) rfl) hx91 rfl) ?_
         refine WL.yldG (by decide) rfl (Yld.eqlI rfl rfl) ?_
         refine WL.yld (by decide) (Yld.pickT rfl rfl) ?_
         refine WL.yld (by decide) (Yld.move rfl) ?_
         refine WL.new (v' := .bool true) (congrArg Value.bool (beq_iff_eq.2 hc92)) ?_
         refine WL.yldG (by decide) rfl (Yld.move rfl) ?_
         refine WL.yldG (by decide) rfl (Yld.idxC (xs := x11) sty_22 rfl rfl (RdH.own (k := 115) rfl) hx93) ?_
         refine WL.yldG (by decide) rfl (Yld.loadC0 (xs := x11) scal_3 rfl (RdH.own (k := 115) rfl) hx93 rfl) ?_
         refine WL.yldG (by decide) rfl (Yld.eqlI rfl rfl) ?_
         refine WL.yld (by decide) (Yld.pickT rfl rfl) ?_
         refine WL.yld (by decide) (Yld.move rfl) ?_
         refine WL.new (v' := .bool true) (congrArg Value.bool (beq_iff_eq.2 hc94)) ?_
         refine WL.yldG (by decide) rfl (Yld.move rfl) ?_
         refine WL.yldG (by decide) rfl (Yld.lenC (xs := x19) und_22 rfl (RdH.own (k := 123) rfl)) ?_
         refine WL.yldG (by decide) rfl (Yld.eqlI rfl rfl) ?_
         refine WL.yld (by decide) (Yld.pickT rfl rfl) ?_
         refine WL.yld (by decide) (Yld.move rfl) ?_
         refine WL.new (v' := .bool false) (congrArg Value.bool (beq_eq_false_iff_ne.2 hc95)) ?_
         refine WL.skip (by decide) rfl rfl ?_
         refine WL.skip (by decide) rfl rfl ?_
         refine WL.skip (by decide) rfl rfl ?_
         refine WL.skip (by decide) rfl rfl ?_
         refine WL.yld (by decide) (Yld.pickF rfl rfl) ?_
         refine WL.yld (by decide) (Yld.move rfl) ?_
         refine WL.skip (by decide) rfl rfl ?_
         refine WL.skip (by decide) rfl rfl ?_
         refine WL.skip (by decide) rfl rfl ?_
         refine WL.skip (by decide) rfl rfl ?_
         refine WL.yld (by decide) (Yld.pickF rfl rfl) ?_
         refine WL.yld (by decide) (Yld.move rfl) ?_
         refine WL.skip (by decide) rfl rfl ?_
         refine WL.skip (by decide) rfl rfl ?_
         refine WL.yld (by decide) (Yld.pickF rfl rfl) ?_
         refine WL.yld (by decide) (Yld.assign rfl) ?_
         refine WL.done (hK77 _ _ ?_)
         refine WC.ret ?_
         injection h with h; subst h
         exact Ret.fn [] (ResIs.one rfl rfl) rfl (Ext.refl _ _) rfl (by decide) rfl rfl ⟨rfl, rfl⟩
       ·
        replace h := of_f hc94 h
        refine WL.eff (by decide) (Eff.callS 182 rfl Try.func4 nm_4 rfl rfl (fun w hb hh => w_ecread_Exclude (Mem.snap w) (0 : Int) hx78)) ?_
        rintro _ _ ⟨_, ⟨A83, n84, c85, rfl, rfl⟩, rfl⟩
        refine WL.yld (by decide) (Yld.lenC (xs := x78) und_22 rfl (RdH.own (k := 182) rfl)) ?_
        refine WL.yld (by decide) (Yld.eqlI rfl rfl) ?_
        refine WL.yld (by decide) (Yld.move rfl) ?_
        refine WL.new (v' := .bool true) (congrArg Value.bool (beq_iff_eq.2 hc86)) ?_
        refine WL.yldG (by decide) rfl (Yld.move rfl) ?_
        refine WL.yldG (by decide) rfl (Yld.lenC (xs := x3) und_22 rfl (RdH.own (k := 107) rfl)) ?_
        refine WL.yldG (by decide) rfl (Yld.eqlI rfl rfl) ?_
        refine WL.yld (by decide) (Yld.pickT rfl rfl) ?_
        refine WL.yld (by decide) (Yld.move rfl) ?_
        refine WL.new (v' := .bool true) (congrArg Value.bool (beq_iff_eq.2 hc87)) ?_
        refine WL.yldG (by decide) rfl (Yld.move rfl) ?_
        refine WL.yldG (by decide) rfl (Yld.idxC (xs := x3) sty_22 rfl rfl (RdH.own (k := 107) rfl) hx88) ?_
        refine WL.yldG (by decide) rfl (Yld.loadC0 (xs := x3) scal_3 rfl (RdH.own (k := 107) rfl) hx88 rfl) ?_
        refine WL.yldG (by decide) rfl (Yld.eqlI rfl rfl) ?_
        refine WL.yld (by decide) (Yld.pickT rfl rfl) ?_
        refine WL.yld (by decide) (Yld.move rfl) ?_
        refine WL.new (v' := .bool true) (congrArg Value.bool (beq_iff_eq.2 hc89)) ?_
        refine WL.yldG (by decide) rfl (Yld.move rfl) ?_
        refine WL.yldG (by decide) rfl (Yld.lenC (xs := x11) und_22 rfl (RdH.own (k := 115) rfl)) ?_
        refine WL.yldG (by decide) rfl (Yld.eqlI rfl rfl) ?_
        refine WL.yld (by decide) (Yld.pickT rfl rfl) ?_
        refine WL.yld (by decide) (Yld.move rfl) ?_
        refine WL.new (v' := .bool true) (congrArg Value.bool (beq_iff_eq.2 hc90)) ?_
        refine WL.yldG (by decide) rfl (Yld.move rfl) ?_
        refine WL.yldG (by decide) rfl (Yld.idxC (xs := x11) sty_22 rfl rfl (RdH.own (k := 115) rfl) hx91) ?_
        refine WL.yldG (by decide) rfl (Yld.loadC0 (xs := x11) scal_3 rfl (RdH.own (k := 115) rfl) hx91 rfl) ?_
        refine WL.yldG (by decide) rfl (Yld.eqlI rfl rfl) ?_
        refine WL.yld (by decide) (Yld.pickT rfl rfl) ?_
        refine WL.yld (by decide) (Yld.move rfl) ?_
        refine WL.new (v' := .bool true) (congrArg Value.bool (beq_iff_eq.2 hc92)) ?_
        refine WL.yldG (by decide) rfl (Yld.move rfl) ?_
        refine WL.yldG (by decide) rfl (Yld.idxC (xs := x11) sty_22 rfl rfl (RdH.own (k := 115) rfl) hx93) ?_
        refine WL.yldG (by decide) rfl (Yld.loadC0 (xs := x11) scal_3 rfl (RdH.own (k := 115) rfl) hx93 rfl) ?_
        refine WL.yldG (by decide) rfl (Yld.eqlI rfl rfl) ?_
        refine WL.yld (by decide) (Yld.pickT rfl rfl) ?_
        refine WL.yld (by decide) (Yld.move rfl) ?_
        refine WL.new (v' := .bool false) (congrArg Value.bool (beq_eq_false_iff_ne.2 hc94)) ?_
        refine WL.skip (by decide) rfl rfl ?_
        refine WL.skip (by decide) rfl rfl ?_
        refine WL.skip (by decide) rfl rfl ?_
        refine WL.yld (by decide) (Yld.pickF rfl rfl) ?_
        refine WL.yld (by decide) (Yld.move rfl) ?_
        refine WL.skip (by decide) rfl rfl ?_
        refine WL.skip (by decide) rfl rfl ?_
        refine WL.skip (by decide) rfl rfl ?_
        refine WL.skip (by decide) rfl rfl ?_
        refine WL.yld (by decide) (Yld.pickF rfl rfl) ?_
        refine WL.yld (by decide) (Yld.move rfl) ?_
        refine WL.skip (by decide) rfl rfl ?_
        refine WL.skip (by decide) rfl rfl ?_
        refine WL.skip (by decide) rfl rfl ?_
        refine WL.skip (by decide) rfl rfl ?_
        refine WL.yld (by decide) (Yld.pickF rfl rfl) ?_
        refine WL.yld (by decide) (Yld.move rfl) ?_
        refine WL.skip (by decide) rfl rfl ?_
        refine WL.skip (by decide) rfl rfl ?_
        refine WL.yld (by decide) (Yld.pickF rfl rfl) ?_
        refine WL.yld (by decide) (Yld.assign rfl) ?_
        refine WL.done (hK77 _ _ ?_)
        refine WC.ret ?_
        injection h with h; subst h
        exact Ret.fn [] (ResIs.one rfl rfl) rfl (Ext.refl _ _) rfl (by decide) rfl rfl ⟨rfl, rfl⟩
      ·
       replace h := of_f hc92 h
       refine WL.eff (by decide) (Eff.callS 182 rfl Try.func4 nm_4 rfl rfl (fun w hb hh => w_ecread_Exclude (Mem.snap w) (0 : Int) hx78)) ?_
       rintro _ _ ⟨_, ⟨A83, n84, c85, rfl, rfl⟩, rfl⟩
       refine WL.yld (by decide) (Yld.lenC (xs := x78) und_22 rfl (RdH.own (k := 182) rfl)) ?_
       refine WL.yld (by decide) (Yld.eqlI rfl rfl) ?_
       refine WL.yld (by decide) (Yld.move rfl) ?_
       refine WL.new (v' := .bool true) (congrArg Value.bool (beq_iff_eq.2 hc86)) ?_
       refine WL.yldG (by decide) rfl (Yld.move rfl) ?_
       refine WL.yldG (by decide) rfl (Yld.lenC (xs := x3) und_22 rfl (RdH.own (k := 107) rfl)) ?_
       refine WL.yldG (by decide) rfl (Yld.eqlI rfl rfl) ?_
       refine WL.yld (by decide) (Yld.pickT rfl rfl) ?_
       refine WL.yld (by decide) (Yld.move rfl) ?_
       refine WL.new (v' := .bool true) (congrArg Value.bool (beq_iff_eq.2 hc87)) ?_
       refine WL.yldG (by decide) rfl (Yld.move rfl) ?_
       refine WL.yldG (by decide) rfl (Yld.idxC (xs := x3) sty_22 rfl rfl (RdH.own (k := 107) rfl) hx88) ?_
       refine WL.yldG (by decide) rfl (Yld.loadC0 (xs := x3) scal_3 rfl (RdH.own (k := 107) rfl) hx88 rfl) ?_
       refine WL.yldG (by decide) rfl (Yld.eqlI rfl rfl) ?_
       refine WL.yld (by decide) (Yld.pickT rfl rfl) ?_
       refine WL.yld (by decide) (Yld.move rfl) ?_
       refine WL.new (v' := .bool true) (congrArg Value.bool (beq_iff_eq.2 hc89)) ?_
       refine WL.yldG (by decide) rfl (Yld.move rfl) ?_
       refine WL.yldG (by decide) rfl (Yld.lenC (xs := x11) und_22 rfl (RdH.own (k := 115) rfl)) ?_
       refine WL.yldG (by decide) rfl (Yld.eqlI rfl rfl) ?_
       refine WL.yld (by decide) (Yld.pickT rfl rfl) ?_
       refine WL.yld (by decide) (Yld.move rfl) ?_
       refine WL.new (v' := .bool true) (congrArg Value.bool (beq_iff_eq.2 hc90)) ?_
       refine WL.yldG (by decide) rfl (Yld.move rfl) ?_
       refine WL.yldG (by decide) rfl (Yld.idxC (xs := x11) sty_22 rfl rfl (RdH.own (k := 115) rfl) hx91) ?_
       refine WL.yldG (by decide) rfl (Yld.loadC0 (xs := x11) scal_3 rfl (RdH.own (k := 115) rfl) hx91 rfl) ?_
       refine WL.yldG (by decide) rfl (Yld.eqlI rfl rfl) ?_
       refine WL.yld (by decide) (Yld.pickT rfl rfl) ?_
       refine WL.yld (by decide) (Yld.move rfl) ?_
       refine WL.new (v' := .bool false) (congrArg Value.bool (beq_eq_false_iff_ne.2 hc92)) ?_
       refine WL.skip (by decide) rfl rfl ?_
       refine WL.skip (by decide) rfl rfl ?_
       refine WL.skip (by decide) rfl rfl ?_
       refine WL.skip (by decide) rfl rfl ?_
       refine WL.yld (by decide) (Yld.pickF rfl rfl) ?_
       refine WL.yld (by decide) (Yld.move rfl) ?_
       refine WL.skip (by decide) rfl rfl ?_
       refine WL.skip (by decide) rfl rfl ?_
       refine WL.skip (by decide) rfl rfl ?_
       refine WL.yld (by decide) (Yld.pickF rfl rfl) ?_
       refine WL.yld (by decide) (Yld.move rfl) ?_
       refine WL.skip (by decide) rfl rfl ?_
       refine WL.skip (by decide) rfl rfl ?_
       refine WL.skip (by decide) rfl rfl ?_
       refine WL.skip (by decide) rfl rfl ?_
       refine WL.yld (by decide) (Yld.pickF rfl rfl) ?_
       refine WL.yld (by decide) (Yld.move rfl) ?_
       refine WL.skip (by decide) rfl rfl ?_
       refine WL.skip (by decide) rfl rfl ?_
       refine WL.skip (by decide) rfl rfl ?_
       refine WL.skip (by decide) rfl rfl ?_
       refine WL.yld (by decide) (Yld.pickF rfl rfl) ?_
       refine WL.yld (by decide) (Yld.move rfl) ?_
       refine WL.skip (by decide) rfl rfl ?_
       refine WL.skip (by decide) rfl rfl ?_
       refine WL.yld (by decide) (Yld.pickF rfl rfl) ?_
       refine WL.yld (by decide) (Yld.assign rfl) ?_
       refine WL.done (hK77 _ _ ?_)
       refine WC.ret ?_
       injection h with h; subst h
       exact Ret.fn [] (ResIs.one rfl rfl) rfl (Ext.refl _ _) rfl (by decide) rfl rfl ⟨rfl, rfl⟩
     ·
      replace h := of_f hc90 h
      refine WL.eff (by decide) (Eff.callS 182 rfl Try.func4 nm_4 rfl rfl (fun w hb hh => w_ecread_Exclude (Mem.snap w) (0 : Int) hx78)) ?_
      rintro _ _ ⟨_, ⟨A83, n84, c85, rfl, rfl⟩, rfl⟩
      refine WL.yld (by decide) (Yld.lenC (xs := x78) und_22 rfl (RdH.own (k := 182) rfl)) ?_
      refine WL.yld (by decide) (Yld.eqlI rfl rfl) ?_
      refine WL.yld (by decide) (Yld.move rfl) ?_
      refine WL.new (v' := .bool true) (congrArg Value.bool (beq_iff_eq.2 hc86)) ?_
      refine WL.yldG (by decide) rfl (Yld.move rfl) ?_
      refine WL.yldG (by decide) rfl (Yld.lenC (xs := x3) und_22 rfl (RdH.own (k := 107) rfl)) ?_
      refine WL.yldG (by decide) rfl (Yld.eqlI rfl rfl) ?_
      refine WL.yld (by decide) (Yld.pickT rfl rfl) ?_
      refine WL.yld (by decide) (Yld.move rfl) ?_
      refine WL.new (v' := .bool true) (congrArg Value.bool (beq_iff_eq.2 hc87)) ?_
      refine WL.yldG (by decide) rfl (Yld.move rfl) ?_
      refine WL.yldG (by decide) rfl (Yld.idxC (xs := x3) sty_22 rfl rfl (RdH.own (k := 107) rfl) hx88) ?_
      refine WL.yldG (by decide) rfl (Yld.loadC0 (xs := x3) scal_3 rfl (RdH.own (k := 107) rfl) hx88 rfl) ?_
      refine WL.yldG (by decide) rfl (Yld.eqlI rfl rfl) ?_
      refine WL.yld (by decide) (Yld.pickT rfl rfl) ?_
      refine WL.yld (by decide) (Yld.move rfl) ?_
      refine WL.new (v' := .bool true) (congrArg Value.bool (beq_iff_eq.2 hc89)) ?_
      refine WL.yldG (by decide) rfl (Yld.move rfl) ?_
      refine WL.yldG (by decide) rfl (Yld.lenC (xs := x11) und_22 rfl (RdH.own (k := 115) rfl)) ?_
      refine WL.yldG (by decide) rfl (Yld.eqlI rfl rfl) ?_
      refine WL.yld (by decide) (Yld.pickT rfl rfl) ?_
      refine WL.yld (by decide) (Yld.move rfl) ?_
      refine WL.new (v' := .bool false) (congrArg Value.bool (beq_eq_false_iff_ne.2 hc90)) ?_
      refine WL.skip (by decide) rfl rfl ?_
      refine WL.skip (by decide) rfl rfl ?_
      refine WL.skip (by decide) rfl rfl ?_
      refine WL.skip (by decide) rfl rfl ?_
      refine WL.yld (by decide) (Yld.pickF rfl rfl) ?_
      refine WL.yld (by decide) (Yld.move rfl) ?_
      refine WL.skip (by decide) rfl rfl ?_
      refine WL.skip (by decide) rfl rfl ?_
      refine WL.skip (by decide) rfl rfl ?_
      refine WL.skip (by decide) rfl rfl ?_
      refine WL.yld (by decide) (Yld.pickF rfl rfl) ?_
      refine WL.yld (by decide) (Yld.move rfl) ?_
      refine WL.skip (by decide) rfl rfl ?_
      refine WL.skip (by decide) rfl rfl ?_
      refine WL.skip (by decide) rfl rfl ?_
      refine WL.yld (by decide) (Yld.pickF rfl rfl) ?_
      refine WL.yld (by decide) (Yld.move rfl) ?_
      refine WL.skip (by decide) rfl rfl ?_
      refine WL.skip (by decide) rfl rfl ?_
      refine WL.skip (by decide) rfl rfl ?_
      refine WL.skip (by decide) rfl rfl ?_
      refine WL.yld (by decide) (Yld.pickF rfl rfl) ?_
      refine WL.yld (by decide) (Yld.move rfl) ?_
      refine WL.skip (by decide) rfl rfl ?_
      refine WL.skip (by decide) rfl rfl ?_
      refine WL.skip (by decide) rfl rfl ?_
      refine WL.skip (by decide) rfl rfl ?_
      refine WL.yld (by decide) (Yld.pickF rfl rfl) ?_
      refine WL.yld (by decide) (Yld.move rfl) ?_
      refine WL.skip (by decide) rfl rfl ?_
      refine WL.skip (by decide) rfl rfl ?_
      refine WL.yld (by decide) (Yld.pickF rfl rfl) ?_
      refine WL.yld (by decide) (Yld.assign rfl) ?_
      refine WL.done (hK77 _ _ ?_)
      refine WC.ret ?_
      injection h with h; subst h
      exact Ret.fn [] (ResIs.one rfl rfl) rfl (Ext.refl _ _) rfl (by decide) rfl rfl ⟨rfl, rfl⟩
    ·
     replace h := of_f hc89 h
     refine WL.eff (by decide) (Eff.callS 182 rfl Try.func4 nm_4 rfl rfl (fun w hb hh => w_ecread_Exclude (Mem.snap w) (0 : Int) hx78)) ?_
     rintro _ _ ⟨_, ⟨A83, n84, c85, rfl, rfl⟩, rfl⟩
     refine WL.yld (by decide) (Yld.lenC (xs := x78) und_22 rfl (RdH.own (k := 182) rfl)) ?_
     refine WL.yld (by decide) (Yld.eqlI rfl rfl) ?_
     refine WL.yld (by decide) (Yld.move rfl) ?_
     refine WL.new (v' := .bool true) (congrArg Value.bool (beq_iff_eq.2 hc86)) ?_
     refine WL.yldG (by decide) rfl (Yld.move rfl) ?_
     refine WL.yldG (by decide) rfl (Yld.lenC (xs := x3) und_22 rfl (RdH.own (k := 107) rfl)) ?_
     refine WL.yldG (by decide) rfl (Yld.eqlI rfl rfl) ?_
     refine WL.yld (by decide) (Yld.pickT rfl rfl) ?_
     refine WL.yld (by decide) (Yld.move rfl) ?_
     refine WL.new (v' := .bool true) (congrArg Value.bool (beq_iff_eq.2 hc87)) ?_
     refine WL.yldG (by decide) rfl (Yld.move rfl) ?_
     refine WL.yldG (by decide) rfl (Yld.idxC (xs := x3) sty_22 rfl rfl (RdH.own (k := 107) rfl) hx88) ?_
     refine WL.yldG (by decide) rfl (Yld.loadC0 (xs := x3) scal_3 rfl (RdH.own (k := 107) rfl) hx88 rfl) ?_
     refine WL.yldG (by decide) rfl (Yld.eqlI rfl rfl) ?_
     refine WL.yld (by decide) (Yld.pickT rfl rfl) ?_
     refine WL.yld (by decide) (Yld.move rfl) ?_
     refine WL.new (v' := .bool false) (congrArg Value.bool (beq_eq_false_iff_ne.2 hc89)) ?_
     refine WL.skip (by decide) rfl rfl ?_
     refine WL.skip (by decide) rfl rfl ?_
     refine WL.skip (by decide) rfl rfl ?_
     refine WL.yld (by decide) (Yld.pickF rfl rfl) ?_
     refine WL.yld (by decide) (Yld.move rfl) ?_
     refine WL.skip (by decide) rfl rfl ?_
     refine WL.skip (by decide) rfl rfl ?_
     refine WL.skip (by decide) rfl rfl ?_
     refine WL.skip (by decide) rfl rfl ?_
     refine WL.yld (by decide) (Yld.pickF rfl rfl) ?_
     refine WL.yld (by decide) (Yld.move rfl) ?_
     refine WL.skip (by decide) rfl rfl ?_
     refine WL.skip (by decide) rfl rfl ?_
     refine WL.skip (by decide) rfl rfl ?_
     refine WL.skip (by decide) rfl rfl ?_
     refine WL.yld (by decide) (Yld.pickF rfl rfl) ?_
     refine WL.yld (by decide) (Yld.move rfl) ?_
     refine WL.skip (by decide) rfl rfl ?_
     refine WL.skip (by decide) rfl rfl ?_
     refine WL.skip (by decide) rfl rfl ?_
     refine WL.yld (by decide) (Yld.pickF rfl rfl) ?_
     refine WL.yld (by decide) (Yld.move rfl) ?_
     refine WL.skip (by decide) rfl rfl ?_
     refine WL.skip (by decide) rfl rfl ?_
     refine WL.skip (by decide) rfl rfl ?_
     refine WL.skip (by decide) rfl rfl ?_
     refine WL.yld (by decide) (Yld.pickF rfl rfl) ?_
     refine WL.yld (by decide) (Yld.move rfl) ?_
     refine WL.skip (by decide) rfl rfl ?_
     refine WL.skip (by decide) rfl rfl ?_
     refine WL.skip (by decide) rfl rfl ?_
     refine WL.skip (by decide) rfl rfl ?_
     refine WL.yld (by decide) (Yld.pickF rfl rfl) ?_
     refine WL.yld (by decide) (Yld.move rfl) ?_
     refine WL.skip (by decide) rfl rfl ?_
     refine WL.skip (by decide) rfl rfl ?_
     refine WL.yld (by decide) (Yld.pickF rfl rfl) ?_
     refine WL.yld (by decide) (Yld.assign rfl) ?_
     refine WL.done (hK77 _ _ ?_)
     refine WC.ret ?_
     injection h with h; subst h
     exact Ret.fn [] (ResIs.one rfl rfl) rfl (Ext.refl _ _) rfl (by decide) rfl rfl ⟨rfl, rfl⟩
   ·
    replace h := of_f hc87 h
    refine WL.eff (by decide) (Eff.callS 182 rfl Try.func4 nm_4 rfl rfl (fun w hb hh => w_ecread_Exclude (Mem.snap w) (0 : Int) hx78)) ?_
    rintro _ _ ⟨_, ⟨A83, n84, c85, rfl, rfl⟩, rfl⟩
    refine WL.yld (by decide) (Yld.lenC (xs := x78) und_22 rfl (RdH.own (k := 182) rfl)) ?_
    refine WL.yld (by decide) (Yld.eqlI rfl rfl) ?_
    refine WL.yld (by decide) (Yld.move rfl) ?_
    refine WL.new (v' := .bool true) (congrArg Value.bool (beq_iff_eq.2 hc86)) ?_
    refine WL.yldG (by decide) rfl (Yld.move rfl) ?_
    refine WL.yldG (by decide) rfl (Yld.lenC (xs := x3) und_22 rfl (RdH.own (k := 107) rfl)) ?_
    refine WL.yldG (by decide) rfl (Yld.eqlI rfl rfl) ?_
    refine WL.yld (by decide) (Yld.pickT rfl rfl) ?_
    refine WL.yld (by decide) (Yld.move rfl) ?_
    refine WL.new (v' := .bool false) (congrArg Value.bool (beq_eq_false_iff_ne.2 hc87)) ?_
    refine WL.skip (by decide) rfl rfl ?_
    refine WL.skip (by decide) rfl rfl ?_
    refine WL.skip (by decide) rfl rfl ?_
    refine WL.skip (by decide) rfl rfl ?_
    refine WL.yld (by decide) (Yld.pickF rfl rfl) ?_
    refine WL.yld (by decide) (Yld.move rfl) ?_
    refine WL.skip (by decide) rfl rfl ?_
    refine WL.skip (by decide) rfl rfl ?_
    refine WL.skip (by decide) rfl rfl ?_
    refine WL.yld (by decide) (Yld.pickF rfl rfl) ?_
    refine WL.yld (by decide) (Yld.move rfl) ?_
    refine WL.skip (by decide) rfl rfl ?_
    refine WL.skip (by decide) rfl rfl ?_
    refine WL.skip (by decide) rfl rfl ?_
    refine WL.skip (by decide) rfl rfl ?_
    refine WL.yld (by decide) (Yld.pickF rfl rfl) ?_
    refine WL.yld (by decide) (Yld.move rfl) ?_
    refine WL.skip (by decide) rfl rfl ?_
    refine WL.skip (by decide) rfl rfl ?_
    refine WL.skip (by decide) rfl rfl ?_
    refine WL.skip (by decide) rfl rfl ?_
    refine WL.yld (by decide) (Yld.pickF rfl rfl) ?_
    refine WL.yld (by decide) (Yld.move rfl) ?_
    refine WL.skip (by decide) rfl rfl ?_
    refine WL.skip (by decide) rfl rfl ?_
    refine WL.skip (by decide) rfl rfl ?_
    refine WL.yld (by decide) (Yld.pickF rfl rfl) ?_
    refine WL.yld (by decide) (Yld.move rfl) ?_
    refine WL.skip (by decide) rfl rfl ?_
    refine WL.skip (by decide) rfl rfl ?_
    refine WL.skip (by decide) rfl rfl ?_
    refine WL.skip (by decide) rfl rfl ?_
    refine WL.yld (by decide) (Yld.pickF rfl rfl) ?_
    refine WL.yld (by decide) (Yld.move rfl) ?_
    refine WL.skip (by decide) rfl rfl ?_
    refine WL.skip (by decide) rfl rfl ?_
    refine WL.skip (by decide) rfl rfl ?_
    refine WL.skip (by decide) rfl rfl ?_
    refine WL.yld (by decide) (Yld.pickF rfl rfl) ?_
    refine WL.yld (by decide) (Yld.move rfl) ?_
    refine WL.skip (by decide) rfl rfl ?_
    refine WL.skip (by decide) rfl rfl ?_
    refine WL.yld (by decide) (Yld.pickF rfl rfl) ?_
    refine WL.yld (by decide) (Yld.assign rfl) ?_
    refine WL.done (hK77 _ _ ?_)
    refine WC.ret ?_
    injection h with h; subst h
    exact Ret.fn [] (ResIs.one rfl rfl) rfl (Ext.refl _ _) rfl (by decide) rfl rfl ⟨rfl, rfl⟩
  ·
   replace h := of_f hc86 h
   refine WL.eff (by decide) (Eff.callS 182 rfl Try.func4 nm_4 rfl rfl (fun w hb hh => w_ecread_Exclude (Mem.snap w) (0 : Int) hx78)) ?_
   rintro _ _ ⟨_, ⟨A83, n84, c85, rfl, rfl⟩, rfl⟩
   refine WL.yld (by decide) (Yld.lenC (xs := x78) und_22 rfl (RdH.own (k := 182) rfl)) ?_
   refine WL.yld (by decide) (Yld.eqlI rfl rfl) ?_
   refine WL.yld (by decide) (Yld.move rfl) ?_
   refine WL.new (v' := .bool false) (congrArg Value.bool (beq_eq_false_iff_ne.2 hc86)) ?_
   refine WL.skip (by decide) rfl rfl ?_
   refine WL.skip (by decide) rfl rfl ?_
   refine WL.skip (by decide) rfl rfl ?_
   refine WL.yld (by decide) (Yld.pickF rfl rfl) ?_
   refine WL.yld (by decide) (Yld.move rfl) ?_
   refine WL.skip (by decide) rfl rfl ?_
   refine WL.skip (by decide) rfl rfl ?_
   refine WL.skip (by decide) rfl rfl ?_
   refine WL.skip (by decide) rfl rfl ?_
   refine WL.yld (by decide) (Yld.pickF rfl rfl) ?_
   refine WL.yld (by decide) (Yld.move rfl) ?_
   refine WL.skip (by decide) rfl rfl ?_
   refine WL.skip (by decide) rfl rfl ?_
   refine WL.skip (by decide) rfl rfl ?_
   refine WL.yld (by decide) (Yld.pickF rfl rfl) ?_
   refine WL.yld (by decide) (Yld.move rfl) ?_
   refine WL.skip (by decide) rfl rfl ?_
   refine WL.skip (by decide) rfl rfl ?_
   refine WL.skip (by decide) rfl rfl ?_
   refine WL.skip (by decide) rfl rfl ?_
   refine WL.yld (by decide) (Yld.pickF rfl rfl) ?_
   refine WL.yld (by decide) (Yld.move rfl) ?_
   refine WL.skip (by decide) rfl rfl ?_
   refine WL.skip (by decide) rfl rfl ?_
   refine WL.skip (by decide) rfl rfl ?_
   refine WL.skip (by decide) rfl rfl ?_
   refine WL.yld (by decide) (Yld.pickF rfl rfl) ?_
   refine WL.yld (by decide) (Yld.move rfl) ?_
   refine WL.skip (by decide) rfl rfl ?_
   refine WL.skip (by decide) rfl rfl ?_
   refine WL.skip (by decide) rfl rfl ?_
   refine WL.yld (by decide) (Yld.pickF rfl rfl) ?_
   refine WL.yld (by decide) (Yld.move rfl) ?_
   refine WL.skip (by decide) rfl rfl ?_
   refine WL.skip (by decide) rfl rfl ?_
   refine WL.skip (by decide) rfl rfl ?_
   refine WL.skip (by decide) rfl rfl ?_
   refine WL.yld (by decide) (Yld.pickF rfl rfl) ?_
   refine WL.yld (by decide) (Yld.move rfl) ?_
   refine WL.skip (by decide) rfl rfl ?_
   refine WL.skip (by decide) rfl rfl ?_
   refine WL.skip (by decide) rfl rfl ?_
   refine WL.skip (by decide) rfl rfl ?_
   refine WL.yld (by decide) (Yld.pickF rfl rfl) ?_
   refine WL.yld (by decide) (Yld.move rfl) ?_
   refine WL.skip (by decide) rfl rfl ?_
   refine WL.skip (by decide) rfl rfl ?_
   refine WL.yld (by decide) (Yld.pickF rfl rfl) ?_
   refine WL.yld (by decide) (Yld.assign rfl) ?_
   refine WL.done (hK77 _ _ ?_)
   refine WC.ret ?_
   injection h with h; subst h
   exact Ret.fn [] (ResIs.one rfl rfl) rfl (Ext.refl _ _) rfl (by decide) rfl rfl ⟨rfl, rfl⟩

end Go.Proofs.Ytcncappgheopgaa
