/- A part of the proof. Conditions: as each theorem says. -/
import Derived.Test.YthjnhlmfcejhkaaGreatWkn
import Derived.Test.YthjnhlmfcejhkaaGreatMdr
namespace Go.Proofs.YthjnhlmfcejhkaaGreat
set_option maxRecDepth 10000
open Go Go.RowKit Yld
set_option linter.unusedVariables false
theorem nm_57 : (Tryz.f57.name == "runtime.NumGoroutine") = false := by kernel_rfl
theorem nz_24 : (Tryz.prog.info? 24).map (fun i => decide (i.size = 0)) = some false := by kernel_rfl
theorem nz_25 : (Tryz.prog.info? 25).map (fun i => decide (i.size = 0)) = some false := by kernel_rfl
theorem scal_25 : scal Tryz.prog 25 = true := by kernel_rfl
theorem w_stripe_Size (M0 : Mem) (x00 : Int) {res : Int} (h : m_stripe_Size x00 = some res) :
  Fn Tryz.prog 68 #[I64 x00] M0 fun r M' es => r = I64 res /\ es = [] := by
 refine Fn.intro (N := 10) Tryz.func68 rfl rfl (nle rfl) fun w0 => ?_
 unfold m_stripe_Size at h
 refine sr fun _ k1 => ak rfl k1 <| sq fun _ k2 => sr fun _ k3 => mv rfl <| ya (leq rfl rfl) <| dz k3 <| cI h rfl (fun hc4 h => ?_) fun hc4 h => ?_
 ·refine sr fun _ k5 => ak rfl k5 <| re <| tr ?_
  obtain rfl := si h
  exact rt0 (ResIs.one rfl rfl)
 refine ss <| k2 _ _ <| sr fun _ k6 => ?_
 obtain ⟨x7, hx7, h⟩ := bnd h
 obtain ⟨x8, hx8, h⟩ := bnd h
 obtain ⟨x9, hx9, h⟩ := bnd h
 obtain ⟨x10, hx10, h⟩ := bnd h
 refine mv rfl <| ya (subC rfl rfl hx7) <| ya (quoC rfl rfl hx8) <| ya (addC rfl rfl hx9) <| ya (mulC rfl rfl hx10) <| ak rfl k6 <| re ?_
 obtain rfl := si h
 exact rt0 (ResIs.one rfl rfl)
theorem w_stripe_place (M0 : Mem) (x00 : Int) {res : Int × Int} (h : m_stripe_place x00 = some res) :
  Fn Tryz.prog 101 #[I64 x00] M0 fun r M' es => r = .tuple #[I64 res.1, I64 res.2] /\ es = [] := by
 refine Fn.intro (N := 15) Tryz.func101 rfl rfl (nle rfl) fun w0 => ?_
 unfold m_stripe_place at h
 refine sr fun _ k1 => asn rfl <| ak rfl k1 <| sr fun _ k2 => bd h fun x3 hx3 h => mv rfl <| ya (quoC rfl rfl hx3) <| ak rfl k2 <| sr fun _ k4 => ?_
 obtain ⟨x5, hx5, h⟩ := bnd h
 obtain ⟨x6, hx6, h⟩ := bnd h
 obtain ⟨x7, hx7, h⟩ := bnd h
 obtain ⟨x8, hx8, h⟩ := bnd h
 obtain ⟨x9, hx9, h⟩ := bnd h
 refine mv rfl <| ya (remC rfl rfl hx5) <| mv rfl <| ya (quoC rfl rfl hx6) <| ya (mulC rfl rfl hx7) <| mv rfl <| ya (remC rfl rfl hx8) <| ya (addC rfl rfl hx9) <| asn rfl <| ak rfl k4 <| re ?_
 obtain rfl := si h
 exact rt0 (ResIs.two rfl rfl rfl)
theorem w_shards_Valid (M0 : Mem) (u0 u1 u2 u3 : Int) (u4 u5 u6 u7 u8 u9 : BitVec 32) (A00_10 : Option Addr) (n00_10 c00_10 : Nat) (u10 : List Sapi_Item) (hf00_10 : SlT M0 A00_10 n00_10 c00_10 u10) {res : Bool} (h : m_shards_Valid u0 u1 u2 u3 u4 u5 u6 u7 u8 u9 u10 = some res) :
  Fn Tryz.prog 24 #[.agg ([I64 u0, I64 u1, I64 u2, I64 u3, U32 u4, U32 u5, U32 u6, U32 u7, U32 u8, U32 u9, .slice A00_10 n00_10 c00_10] : List Value).toArray] M0 fun r M' es => r = .bool res /\ es = [] := by
 refine Fn.intro (N := 28) Tryz.func24 rfl rfl (nle rfl) fun w0 => ?_
 unfold m_shards_Valid at h
 refine sr fun _ k1 => bb 102 [I64 u0, I64 u1, I64 u2, I64 u3, U32 u4, U32 u5, U32 u6, U32 u7, U32 u8, U32 u9, .slice A00_10 n00_10 c00_10] rfl fun g2 => ak rfl k1 <| sq fun _ k3 => sr fun _ k4 => bd h fun x5 hx5 h => ya (fieldAddr Tryz.underlying34 rfl nz_24 rfl rfl) <| ya (loadBP (k := 102) (us := [I64 u0, I64 u1, I64 u2]) agg_24 rfl rfl rfl rfl) <| c0 Tryz.func54 rfl (fun w hb hh => w_superblock_Valid (Mem.snap w) u0 u1 u2 hx5) <| ya (notB rfl) <| mv rfl <| spn h not_f (fun q => not_t (Bool.eq_false_iff.2 q)) (fun hc7 h => ?_) fun hc7 h => ?_
 ·refine yg (fieldAddr Tryz.underlying34 rfl nz_2 rfl rfl) <| yg (loadB (k := 102) scal_2 rfl rfl rfl) <| yg (lss rfl rfl) <| pf rfl rfl <| mv rfl <| spl h decide_eq_true decide_eq_false (fun hc8 h => ?_) fun hc8 h => ?_
  ·refine sk <| sk <| sk <| pt rfl rfl <| mv rfl <| sk <| sk <| sk <| sk <| pt rfl rfl <| dz k4 <| cdT rfl <| sr fun _ k9 => ak rfl k9 <| re <| tr ?_
   obtain rfl := si h
   exact rt0 (ResIs.one rfl rfl)
  refine yg (fieldAddr Tryz.underlying34 rfl nz_2 rfl rfl) <| yg (loadB (k := 102) scal_2 rfl rfl rfl) <| yg (gtr rfl rfl) <| pf rfl rfl <| mv rfl <| spl h decide_eq_true decide_eq_false (fun hc10 h => ?_) fun hc10 h => ?_
  ·refine sk <| sk <| sk <| sk <| pt rfl rfl <| dz k4 <| cdT rfl <| sr fun _ k11 => ak rfl k11 <| re <| tr ?_
   obtain rfl := si h
   exact rt0 (ResIs.one rfl rfl)
  obtain ⟨x12, hx12, h⟩ := bnd h
  refine yg (fieldAddr Tryz.underlying34 rfl nz_25 rfl rfl) <| yg (loadB (k := 102) scal_25 rfl rfl rfl) <| c0g Tryz.func55 rfl (fun w hb hh => w_index_Valid (Mem.snap w) A00_10 n00_10 c00_10 _ (sM rfl hf00_10 w hb hh) hx12) <| yg (notB rfl) <| pf rfl rfl <| dz k4 <| cnn h rfl not_f (fun q => not_t (Bool.eq_false_iff.2 q)) (fun hc14 h => ?_) fun hc14 h => ?_
  ·refine ss <| k3 _ _ <| sr fun _ k15 => ya (fieldAddr Tryz.underlying34 rfl nz_25 rfl rfl) <| ya (loadB (k := 102) scal_25 rfl rfl rfl) <| ya (makeFunc rfl rfl) <| WL.inl (by decide) Tryz.func56 nm_56 rfl rfl (Tri.intro (N := 9) Tryz.func56 rfl rfl (nle rfl) ?_)
   refine sr fun _ k16 => ak rfl k16 <| sr fun _ k17 => mv rfl <| mv rfl <| WL.inl (by decide) Tryz.func97 nm_97 rfl rfl (Tri.intro (N := 19) Tryz.func97 rfl rfl (nle rfl) ?_)
   refine sr fun _ k18 => ak rfl k18 <| ct (σ := Unit) (fun _ => []) (fun _ => [(0, .mem M0), (102, .blk g2 34 [I64 u0, I64 u1, I64 u2, I64 u3, U32 u4, U32 u5, U32 u6, U32 u7, U32 u8, U32 u9, .slice A00_10 n00_10 c00_10])]) (fun _ => m_shards_Valid_j0 = some res) (fun _ k19 => ?_) ?_
   ·refine sr fun _ k20 => mv rfl <| ya (lenC (xs := u10) und_25 rfl (mM rfl hf00_10)) <| mv rfl <| dz k20 <| bl <| lp (τ := Int) (fun x21 => [(0, .slice A00_10 n00_10 c00_10), (1, .func (.func 57) #[] #[pv g2]), (7, I64 (u10.length : Int)), (8, I64 x21)]) (fun x21 => [(0, .mem M0), (102, .blk g2 34 [I64 u0, I64 u1, I64 u2, I64 u3, U32 u4, U32 u5, U32 u6, U32 u7, U32 u8, U32 u9, .slice A00_10 n00_10 c00_10])]) (fun q22 x21 => m_shards_Valid_l1 u10 u3 q22 x21 = some res) ((0 : Int)) ?_ (by simp [m_shards_Valid_l1]) ?_
    ·exact h
    rintro q22 x21 h _ k23
    unfold m_shards_Valid_l1 at h
    refine sr fun _ k24 => ya (lss rfl rfl) <| dz k24 <| sq fun _ k25 => cI h rfl (fun hc26 h => ?_) fun hc26 h => ?_
    ·refine ss <| k25 _ _ <| sq fun _ k27 => bl <| sr fun _ k28 => mv rfl <| ak rfl k28 <| sr fun _ k29 => bd h fun x30 hx30 h => mv rfl <| mv rfl <| mv rfl <| ya (idxC (xs := u10) sty_25 rfl rfl (mM rfl hf00_10) hx30) <| ya (loadA (xs := u10) agg_59 rfl (mM rfl hf00_10) hx30 rfl) <| WL.inlV (by decide) rfl Tryz.func57 nm_57 rfl rfl (Tri.intro (N := 13) Tryz.func57 rfl rfl (nle rfl) ?_)
     refine sr fun _ k31 => bb 132 [U64 x30.fKey, U32 x30.fCookie, I64 x30.fOff, I64 x30.fSize] rfl fun g32 => ak rfl k31 <| sd [(0, _), (102, _), (132, _)] mixed fun _ k33 => ?_
     obtain ⟨x34, hx34, h⟩ := bnd h
     obtain ⟨x36, hx36, h⟩ := bnd h
     refine du 0 rfl (fieldAddr Tryz.underlying59 rfl nz_2 rfl rfl) <| du 1 rfl (loadB (k := 132) scal_2 rfl rfl rfl) <| du 2 rfl (fieldAddr Tryz.underlying59 rfl nz_3 rfl rfl) <| du 3 rfl (loadB (k := 132) scal_3 rfl rfl rfl) <| du 6 rfl (fieldAddr Tryz.underlying34 rfl nz_2 rfl rfl) <| du 7 rfl (loadB (k := 102) scal_2 rfl rfl rfl) <| on 4 <| d0 rfl Tryz.func58 rfl (fun w hb hh => w_needle_Size (Mem.snap w) x30.fSize hx34) <| du 5 rfl (addC rfl rfl hx36) <| du 8 rfl (gtr rfl rfl) <| du 9 rfl (Yld.assign rfl) <| dd <| k33 _ _ <| re <| Ret.go (ResIs.one rfl rfl) <| dz k29 <| cI h rfl (fun hc37 h => ?_) fun hc37 h => ?_
     ·refine sr fun _ k38 => mv rfl <| ak rfl k38 <| re <| br <| tr <| tr <| br <| tr <| Ret.go (ResIs.one rfl rfl) <| ya (geq rfl rfl) <| ak rfl k17 <| re <| Ret.go (ResIs.one rfl rfl) <| ya (notB rfl) <| ak rfl k15 <| re ?_
      obtain rfl := si h
      exact rt0 (ResIs.one rfl rfl)
     refine WC.skip <| bn <| tn <| k27 _ _ <| rg fun _ k39 => bd h fun x40 hx40 h => ya (addC rfl rfl hx40) <| mv rfl <| dz k39 <| tn <| kw (k23 (x40) h)
    exact xi <| te <| te <| bx <| tn <| kw (k19 () h)
   rintro _ h
   unfold m_shards_Valid_j0 at h
   refine sr fun _ k41 => ak rfl k41 <| re <| Ret.go (ResIs.one rfl rfl) <| ya (geq rfl rfl) <| ak rfl k17 <| re <| Ret.go (ResIs.one rfl rfl) <| ya (notB rfl) <| ak rfl k15 <| re ?_
   obtain rfl := si h
   exact rt0 (ResIs.one rfl rfl)
  refine sr fun _ k42 => ak rfl k42 <| re <| tr ?_
  obtain rfl := si h
  exact rt0 (ResIs.one rfl rfl)
 refine sk <| sk <| sk <| pt rfl rfl <| mv rfl <| sk <| sk <| sk <| pt rfl rfl <| mv rfl <| sk <| sk <| sk <| sk <| pt rfl rfl <| dz k4 <| cdT rfl <| sr fun _ k43 => ak rfl k43 <| re <| tr ?_
 obtain rfl := si h
 exact rt0 (ResIs.one rfl rfl)
end Go.Proofs.YthjnhlmfcejhkaaGreat
