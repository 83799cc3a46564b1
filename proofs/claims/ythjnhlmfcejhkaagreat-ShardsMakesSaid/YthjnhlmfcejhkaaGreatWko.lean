/- A part of the proof. Conditions: as each theorem says. -/
import Derived.Test.YthjnhlmfcejhkaaGreatWkh
import Derived.Test.YthjnhlmfcejhkaaGreatMdr
import Derived.Test.YthjnhlmfcejhkaaGreatX19
namespace Go.Proofs.YthjnhlmfcejhkaaGreat
set_option maxRecDepth 100000
open Go Go.RowKit Yld
set_option linter.unusedVariables false
theorem und_32 : Tryz.prog.underlying 32 = some (.array 6 31) := by kernel_rfl
theorem agg_32 : Agg Tryz.prog 32 6 := ⟨⟨_, Tryz.underlying32, rfl⟩, by kernel_rfl⟩
theorem agg_34 : Agg Tryz.prog 34 11 := ⟨⟨_, Tryz.underlying34, rfl⟩, by kernel_rfl⟩
theorem agg_38 : Agg Tryz.prog 38 11 := ⟨⟨_, Tryz.underlying38, rfl⟩, by kernel_rfl⟩
theorem bu_34_ : Tryz.prog.built 34 [] = some ([I64 (0 : Int), I64 (0 : Int), I64 (0 : Int), I64 (0 : Int), U32 0#32, U32 0#32, U32 0#32, U32 0#32, U32 0#32, U32 0#32, .slice none 0 0] : List Value).toArray := by kernel_rfl
theorem bu_38_ : Tryz.prog.built 38 [] = some ([I64 (0 : Int), I64 (0 : Int), I64 (0 : Int), I64 (0 : Int), U32 0#32, U32 0#32, U32 0#32, U32 0#32, U32 0#32, U32 0#32, .slice none 0 0] : List Value).toArray := by kernel_rfl
theorem bu_38_0_1_3 : ∀ (a0_0 : Int) (a0_1 : Int) (a0_2 : Int) (a1 : Int) (a3 : Option Addr) (n3 c3 : Nat), Tryz.prog.built 38 [(0, .agg ([I64 a0_0, I64 a0_1, I64 a0_2] : List Value).toArray), (1, I64 a1), (3, .slice a3 n3 c3)] = some ([I64 a0_0, I64 a0_1, I64 a0_2, I64 a1, U32 0#32, U32 0#32, U32 0#32, U32 0#32, U32 0#32, U32 0#32, .slice a3 n3 c3] : List Value).toArray := fun a0_0 a0_1 a0_2 a1 a3 n3 c3 => by kernel_rfl
theorem nz_32 : (Tryz.prog.info? 32).map (fun i => decide (i.size = 0)) = some false := by kernel_rfl
theorem siz_31 : (Tryz.prog.info? 31).map (·.size) = some 1 := by kernel_rfl
theorem zeqs_24 : ∀ (a0 b0 : Int) (a1 b1 : Int) (a2 b2 : Int), EqA Tryz.prog 24 [I64 a0, I64 a1, I64 a2] [I64 b0, I64 b1, I64 b2] (decide (a0 = b0 /\ a1 = b1 /\ a2 = b2 /\ True)) := fun a0 b0 a1 b1 a2 b2 => EqA.struct (by kernel_rfl) (by kernel_rfl) (by kernel_rfl) (show (Tryz.prog.fieldsOf 24).toList = _ by simp only [Program.fieldsOf, Tryz.underlying24]; rfl) (EqF.cons (by decide) scal_3 rfl rfl (EqV.i64 und_3) (EqF.cons (by decide) scal_3 rfl rfl (EqV.i64 und_3) (EqF.cons (by decide) scal_2 rfl rfl (EqV.i64 und_2) EqF.nil)))
theorem zeqs_32 : ∀ (a0 a1 a2 a3 a4 a5 b0 b1 b2 b3 b4 b5 : BitVec 32), EqA Tryz.prog 32 [U32 a0, U32 a1, U32 a2, U32 a3, U32 a4, U32 a5] [U32 b0, U32 b1, U32 b2, U32 b3, U32 b4, U32 b5] (decide (a0 = b0 /\ a1 = b1 /\ a2 = b2 /\ a3 = b3 /\ a4 = b4 /\ a5 = b5 /\ True)) := fun a0 a1 a2 a3 a4 a5 b0 b1 b2 b3 b4 b5 => EqA.array (by kernel_rfl) und_32 siz_31 scal_31 (EqL.cons (EqV.bv und_31) (EqL.cons (EqV.bv und_31) (EqL.cons (EqV.bv und_31) (EqL.cons (EqV.bv und_31) (EqL.cons (EqV.bv und_31) (EqL.cons (EqV.bv und_31) EqL.nil)))))) rfl (by simp only [List.all_cons, List.all_nil, id_eq, Bool.decide_and, decide_true])
theorem zr_34 : (Tryz.prog.info? 34).map (fun i => i.zero.map (·.cells)) = some (some ([I64 (0 : Int), I64 (0 : Int), I64 (0 : Int), I64 (0 : Int), U32 0#32, U32 0#32, U32 0#32, U32 0#32, U32 0#32, U32 0#32, .slice none 0 0] : List Value).toArray) := by kernel_rfl
theorem zr_38 : (Tryz.prog.info? 38).map (fun i => i.zero.map (·.cells)) = some (some ([I64 (0 : Int), I64 (0 : Int), I64 (0 : Int), I64 (0 : Int), U32 0#32, U32 0#32, U32 0#32, U32 0#32, U32 0#32, U32 0#32, .slice none 0 0] : List Value).toArray) := by kernel_rfl
theorem w_r17_Same (M0 : Mem) (u0 u1 u2 u3 : Int) (u4 u5 u6 u7 u8 u9 : BitVec 32) (A00_10 : Option Addr) (n00_10 c00_10 : Nat) (u10 : List Sapi_Item) (hf00_10 : SlT M0 A00_10 n00_10 c00_10 u10) (v0 v1 v2 v3 : Int) (v4 v5 v6 v7 v8 v9 : BitVec 32) (A01_10 : Option Addr) (n01_10 c01_10 : Nat) (v10 : List Sapi_Item) (hf01_10 : SlT M0 A01_10 n01_10 c01_10 v10) {res : Bool} (h : m_r17_Same u0 u1 u2 u3 u4 u5 u6 u7 u8 u9 u10 v0 v1 v2 v3 v4 v5 v6 v7 v8 v9 v10 = some res) :
  Fn Tryz.prog 14 #[.agg ([I64 u0, I64 u1, I64 u2, I64 u3, U32 u4, U32 u5, U32 u6, U32 u7, U32 u8, U32 u9, .slice A00_10 n00_10 c00_10] : List Value).toArray, .agg ([I64 v0, I64 v1, I64 v2, I64 v3, U32 v4, U32 v5, U32 v6, U32 v7, U32 v8, U32 v9, .slice A01_10 n01_10 c01_10] : List Value).toArray] M0 fun r M' es => r = .bool res /\ es = [] := by
 refine Fn.intro (N := 31) Tryz.func14 rfl rfl (nle rfl) fun w0 => ?_
 unfold m_r17_Same at h
 refine sr fun _ k1 => bb 102 [I64 u0, I64 u1, I64 u2, I64 u3, U32 u4, U32 u5, U32 u6, U32 u7, U32 u8, U32 u9, .slice A00_10 n00_10 c00_10] rfl fun g2 => bb 103 [I64 v0, I64 v1, I64 v2, I64 v3, U32 v4, U32 v5, U32 v6, U32 v7, U32 v8, U32 v9, .slice A01_10 n01_10 c01_10] rfl fun g3 => ak rfl k1 <| sr fun _ k4 => ya (fieldAddr Tryz.underlying38 rfl nz_24 rfl rfl) <| ya (loadBP (k := 102) (us := [I64 u0, I64 u1, I64 u2]) agg_24 rfl rfl rfl rfl) <| ya (fieldAddr Tryz.underlying38 rfl nz_24 rfl rfl) <| ya (loadBP (k := 103) (us := [I64 v0, I64 v1, I64 v2]) agg_24 rfl rfl rfl rfl) <| ya (eqlA (zeqs_24 u0 v0 u1 v1 u2 v2) rfl rfl) <| mv rfl <| spl h decide_eq_true decide_eq_false (fun hc5 h => ?_) fun hc5 h => ?_
 ·refine yg (fieldAddr Tryz.underlying38 rfl nz_2 rfl rfl) <| yg (loadB (k := 102) scal_2 rfl rfl rfl) <| yg (fieldAddr Tryz.underlying38 rfl nz_2 rfl rfl) <| yg (loadB (k := 103) scal_2 rfl rfl rfl) <| yg (eqlI rfl rfl) <| pt rfl rfl <| mv rfl <| spl h beq_iff_eq.2 beq_eq_false_iff_ne.2 (fun hc6 h => ?_) fun hc6 h => ?_
  ·refine yg (fieldAddr Tryz.underlying38 rfl nz_32 rfl rfl) <| yg (loadBP (k := 102) (us := [U32 u4, U32 u5, U32 u6, U32 u7, U32 u8, U32 u9]) agg_32 rfl rfl rfl rfl) <| yg (fieldAddr Tryz.underlying38 rfl nz_32 rfl rfl) <| yg (loadBP (k := 103) (us := [U32 v4, U32 v5, U32 v6, U32 v7, U32 v8, U32 v9]) agg_32 rfl rfl rfl rfl) <| yg (eqlA (zeqs_32 u4 u5 u6 u7 u8 u9 v4 v5 v6 v7 v8 v9) rfl rfl) <| pt rfl rfl <| mv rfl <| spl h decide_eq_true decide_eq_false (fun hc7 h => ?_) fun hc7 h => ?_
   ·obtain ⟨x8, hx8, h⟩ := bnd h
    refine yg (fieldAddr Tryz.underlying38 rfl nz_25 rfl rfl) <| yg (loadB (k := 102) scal_25 rfl rfl rfl) <| yg (fieldAddr Tryz.underlying38 rfl nz_25 rfl rfl) <| yg (loadB (k := 103) scal_25 rfl rfl rfl) <| c0g Tryz.func43 rfl (fun w hb hh => w_r08_Same (Mem.snap w) A00_10 n00_10 c00_10 _ (sM rfl hf00_10 w hb hh) A01_10 n01_10 c01_10 _ (sM rfl hf01_10 w hb hh) hx8) <| pt rfl rfl <| ak rfl k4 <| re ?_
    obtain rfl := si h
    exact rt0 (ResIs.one rfl rfl)
   refine sk <| sk <| sk <| sk <| sk <| pf rfl rfl <| ak rfl k4 <| re ?_
   obtain rfl := si h
   exact rt0 (ResIs.one rfl rfl)
  refine sk <| sk <| sk <| sk <| sk <| pf rfl rfl <| mv rfl <| sk <| sk <| sk <| sk <| sk <| pf rfl rfl <| ak rfl k4 <| re ?_
  obtain rfl := si h
  exact rt0 (ResIs.one rfl rfl)
 refine sk <| sk <| sk <| sk <| sk <| pf rfl rfl <| mv rfl <| sk <| sk <| sk <| sk <| sk <| pf rfl rfl <| mv rfl <| sk <| sk <| sk <| sk <| sk <| pf rfl rfl <| ak rfl k4 <| re ?_
 obtain rfl := si h
 exact rt0 (ResIs.one rfl rfl)
end Go.Proofs.YthjnhlmfcejhkaaGreat
