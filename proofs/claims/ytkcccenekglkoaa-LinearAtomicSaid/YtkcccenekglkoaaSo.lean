/-
 slices.Sort at []uint64: what the models of its functions compute is what the library's plain functions (Go.Sort) compute; so it sorts. Conditions: fewer than fifty elements; as each lemma says.
-/
import Derived.Test.YtkcccenekglkoaaMdzb
import Derived.Sort.AssemblyPlain
namespace Go.Proofs.Ytkcccenekglkoaa
open Go.Sort (swp size_swp PermIn SortedIn Below SWO insInner insOuter insertionSort siftDown heapBuild heapPop heapSort scanUp scanDown partLoop partEqLoop partition partitionEqual reverseLoop reverseRange scanSorted)
set_option linter.unusedVariables false
set_option linter.unusedSimpArgs false
abbrev AU := Array (BitVec 64)
def ltU (x y : BitVec 64) : Bool := decide (x < y)
theorem swoU : SWO ltU where
 irrefl := fun x => by simp [ltU]
 trans := fun x y z h1 h2 => by simp only [ltU, decide_eq_true_eq, BitVec.lt_def] at *; omega
 ntrans := fun x y z h1 h2 => by simp only [ltU, decide_eq_false_iff_not, BitVec.lt_def] at *; omega
theorem less_ok (x y : BitVec 64) : m_cmp_Less_uint64 x y = some (ltU x y) := by unfold m_cmp_Less_uint64; rw [if_pos rfl]; rfl
theorem ixA {d : AU} {i : Nat} (h : i < d.size) : idx d.toList (i : Int) = some d[i]! := by
 rw [idx_nat, Array.getElem?_toList, getElem!_pos d i h, getElem?_pos d i h]
theorem upA {d : AU} {i : Nat} (h : i < d.size) (v : BitVec 64) : upd d.toList (i : Int) v = some (d.setIfInBounds i v).toList := by
 rw [upd_of ⟨by omega, by simpa using h⟩]; simp
theorem swA {β : Type} {d : AU} {i j : Nat} (hi : i < d.size) (hj : j < d.size) (K : List (BitVec 64) -> Option β) :
  (Option.bind (idx d.toList (j : Int)) fun a => Option.bind (idx d.toList (i : Int)) fun b => Option.bind (idx d.toList (i : Int)) fun _ => Option.bind (upd d.toList (i : Int) a) fun l => Option.bind (idx l (j : Int)) fun _ => Option.bind (upd l (j : Int) b) K) = K (swp d i j).toList := by
 rw [ixA hj, obs, ixA hi, obs, obs, upA hi, obs]
 have hj' : j < (d.setIfInBounds i d[j]!).size := by simpa using hj
 rw [ixA hj', obs, upA hj', obs]; rfl
theorem ckS {j : Nat} (h : j < 1000) : ck ((j : Int) + 1) = some ((j + 1 : Nat) : Int) := ck_of (by omega)
theorem ckP {j : Nat} (h : j < 1000) : ck (((j + 1 : Nat) : Int) - 1) = some (j : Int) := by rw [ck_of (by omega)]; congr 1; omega
theorem ckA {i j : Nat} (h : i + j < 1000) : ck ((i : Int) + (j : Int)) = some ((i + j : Nat) : Int) := ck_of (by omega)
theorem ckD {i j : Nat} (h : j <= i) (h2 : i < 1000) : ck ((i : Int) - (j : Int)) = some ((i - j : Nat) : Int) := by rw [ck_of (by omega)]; congr 1; omega
theorem insInner_size (a : Nat) : ∀ (j : Nat) (d : AU), (insInner ltU a j d).size = d.size := by
 intro j
 induction j with
 | zero => intro d; rfl
 | succ j ih =>
  intro d
  have e : insInner ltU a (j + 1) d = if (decide (j + 1 > a) && ltU d[j + 1]! d[j]!) = true then insInner ltU a j (swp d (j + 1) j) else d := rfl
  rw [e]
  split
  ·rw [ih, size_swp]
  ·rfl
theorem ins_l2 (a : Nat) (x4 : Int) (r0 : List (BitVec 64) -> Int -> Option (List (BitVec 64))) : ∀ (j q : Nat) (d : AU), j < d.size -> d.size < 50 -> j < q ->
  m_slices_insertionSortOrdered_uint64_l2 (a : Int) x4 r0 q d.toList (j : Int) = m_slices_insertionSortOrdered_uint64_j1 x4 r0 (insInner ltU a j d).toList := by
 intro j
 induction j with
 | zero =>
  intro q d h1 h2 hq
  obtain ⟨q, rfl⟩ : ∃ q', q = q' + 1 := ⟨q - 1, by omega⟩
  unfold m_slices_insertionSortOrdered_uint64_l2
  rw [if_neg (by omega)]; rfl
 | succ j ih =>
  intro q d h1 h2 hq
  obtain ⟨q, rfl⟩ : ∃ q', q = q' + 1 := ⟨q - 1, by omega⟩
  have e : insInner ltU a (j + 1) d = if (decide (j + 1 > a) && ltU d[j + 1]! d[j]!) = true then insInner ltU a j (swp d (j + 1) j) else d := rfl
  unfold m_slices_insertionSortOrdered_uint64_l2
  by_cases ha : a < j + 1
  ·rw [if_pos (by omega), ixA h1, obs, ckP (by omega), obs, ixA (by omega), obs, less_ok, obs]
   by_cases hl : ltU d[j + 1]! d[j]! = true
   ·rw [if_pos hl]
    unfold m_slices_insertionSortOrdered_uint64_j3
    rw [ckP (by omega), obs, obs, swA (by omega) (by omega), obs, ih q _ (by rw [size_swp]; omega) (by rw [size_swp]; omega) (by omega), e, if_pos (by simp [ha, hl])]
   ·rw [if_neg hl, e, if_neg (by simp [hl])]
  ·rw [if_neg (by omega), e, if_neg (by simp; omega)]
theorem ins_l0 (a b : Nat) : ∀ (n i q : Nat) (d : AU), b - i = n -> b <= d.size -> d.size < 50 -> n < q ->
  m_slices_insertionSortOrdered_uint64_l0 (a : Int) (b : Int) q d.toList (i : Int) = some (insOuter ltU a b i d).toList := by
 intro n
 induction n with
 | zero =>
  intro i q d h0 h1 h2 hq
  obtain ⟨q, rfl⟩ : ∃ q', q = q' + 1 := ⟨q - 1, by omega⟩
  unfold m_slices_insertionSortOrdered_uint64_l0
  rw [if_neg (by omega), insOuter, if_neg (by omega)]
 | succ n ih =>
  intro i q d h0 h1 h2 hq
  obtain ⟨q, rfl⟩ : ∃ q', q = q' + 1 := ⟨q - 1, by omega⟩
  unfold m_slices_insertionSortOrdered_uint64_l0
  rw [if_pos (by omega), ins_l2 a _ _ i forever d (by omega) h2 (by unfold forever; omega)]
  unfold m_slices_insertionSortOrdered_uint64_j1
  rw [ckS (by omega), obs, ih (i + 1) q _ (by omega) (by rw [insInner_size]; omega) (by rw [insInner_size]; omega) (by omega)]
  conv => rhs; rw [insOuter, if_pos (by omega)]
theorem ins_ok (d : AU) (a b : Nat) (hb : b <= d.size) (hd : d.size < 50) (ha : a <= b) : m_slices_insertionSortOrdered_uint64 d.toList (a : Int) (b : Int) = some (insertionSort ltU d a b).toList := by
 unfold m_slices_insertionSortOrdered_uint64
 rw [ckS (by omega), obs, ins_l0 a b _ (a + 1) forever d rfl hb hd (by unfold forever; omega)]; rfl
theorem sift_ok (hi F : Nat) : ∀ (n root q : Nat) (d : AU), hi - root <= n -> F + hi <= d.size -> d.size < 50 -> n < q -> root < 50 ->
  m_slices_siftDownOrdered_uint64_l0 q d.toList (hi : Int) (F : Int) (root : Int) = some (siftDown ltU hi F root d).toList /\ (siftDown ltU hi F root d).size = d.size := by
 intro n
 induction n with
 | zero =>
  intro root q d h0 h1 h2 hq hr
  obtain ⟨q, rfl⟩ : ∃ q', q = q' + 1 := ⟨q - 1, by omega⟩
  unfold m_slices_siftDownOrdered_uint64_l0
  rw [show (2 : Int) * (root : Int) = ((2 * root : Nat) : Int) by omega, ck_of (by omega), obs, ckS (by omega), obs, if_pos (by omega), siftDown, dif_pos (by omega)]
  exact ⟨rfl, rfl⟩
 | succ n ih =>
  intro root q d h0 h1 h2 hq hr
  obtain ⟨q, rfl⟩ : ∃ q', q = q' + 1 := ⟨q - 1, by omega⟩
  unfold m_slices_siftDownOrdered_uint64_l0
  rw [show (2 : Int) * (root : Int) = ((2 * root : Nat) : Int) by omega, ck_of (by omega), obs, ckS (by omega), obs]
  rw [siftDown]
  by_cases hc : 2 * root + 1 ≥ hi
  ·rw [if_pos (by omega), dif_pos hc]; exact ⟨rfl, rfl⟩
  ·rw [if_neg (by omega), dif_neg hc, ckS (by omega), obs]
   have go : ∀ c, c = 2 * root + 1 ∨ c = 2 * root + 2 -> c < hi -> ∀ q, n < q ->
     m_slices_siftDownOrdered_uint64_j1 d.toList (hi : Int) (F : Int) (root : Int) (m_slices_siftDownOrdered_uint64_l0 q) (c : Int) = some (if !ltU d[F + root]! d[F + c]! then d else siftDown ltU hi F c (swp d (F + root) (F + c))).toList /\
     (if !ltU d[F + root]! d[F + c]! then d else siftDown ltU hi F c (swp d (F + root) (F + c))).size = d.size := by
    intro c hc1 hc2 q hq
    unfold m_slices_siftDownOrdered_uint64_j1
    rw [ckA (i := F) (j := root) (by omega), ckA (i := F) (j := c) (by omega), obs, ixA (i := F + root) (by omega), obs, obs, ixA (i := F + c) (by omega), obs, less_ok, obs]
    by_cases hl : ltU d[F + root]! d[F + c]! = true
    ·have hi1 : F + root < d.size := by omega
     have hj1 : F + c < d.size := by omega
     have e := ih c q (swp d (F + root) (F + c)) (by omega) (by rw [size_swp]; omega) (by rw [size_swp]; omega) hq (by omega)
     have hj' : F + c < (d.setIfInBounds (F + root) d[F + c]!).size := by simpa using hj1
     rw [if_pos hl, obs, obs, obs, ixA hj1, obs, obs, ixA hi1, obs, obs, upA hi1, obs, ixA hj', obs, upA hj', obs, if_neg (by simp [hl])]
     exact ⟨e.1, by rw [e.2, size_swp]⟩
    ·rw [if_neg hl, if_pos (by simp [hl])]; exact ⟨rfl, rfl⟩
   by_cases h3 : 2 * root + 1 + 1 < hi
   ·rw [if_pos (by omega), ckA (i := F) (j := 2 * root + 1) (by omega), obs, ixA (by omega), obs, obs, ckS (by omega), obs, ixA (by omega), obs, less_ok, obs]
    by_cases h4 : ltU d[F + (2 * root + 1)]! d[F + (2 * root + 1) + 1]! = true
    ·rw [if_pos h4, obs, if_pos (by simp [h3, h4])]
     have := go (2 * root + 2) (Or.inr rfl) (by omega) q (by omega)
     rw [dif_pos (by omega)]
     exact this
    ·rw [if_neg h4, if_neg (by simp [h4])]
     exact go (2 * root + 1) (Or.inl rfl) (by omega) q (by omega)
   ·rw [if_neg (by omega), if_neg (by simp; omega)]
    exact go (2 * root + 1) (Or.inl rfl) (by omega) q (by omega)
theorem siftM (hi F root : Nat) (d : AU) (h1 : F + hi <= d.size) (h2 : d.size < 50) (hr : root < 50) : m_slices_siftDownOrdered_uint64 d.toList (root : Int) (hi : Int) (F : Int) = some (siftDown ltU hi F root d).toList /\ (siftDown ltU hi F root d).size = d.size :=
 sift_ok hi F (hi - root) root forever d (Nat.le_refl _) h1 h2 (by unfold forever; omega) hr
theorem heap_l2 (F N : Nat) : ∀ (k q : Nat) (d : AU), k <= N -> F + N <= d.size -> d.size < 50 -> k < q ->
  m_slices_heapSortOrdered_uint64_l2 (F : Int) q d.toList ((k : Int) - 1) = some (heapPop ltU F k d).toList := by
 intro k
 induction k with
 | zero =>
  intro q d h0 h1 h2 hq
  obtain ⟨q, rfl⟩ : ∃ q', q = q' + 1 := ⟨q - 1, by omega⟩
  unfold m_slices_heapSortOrdered_uint64_l2
  rw [if_neg (by omega)]; rfl
 | succ k ih =>
  intro q d h0 h1 h2 hq
  obtain ⟨q, rfl⟩ : ∃ q', q = q' + 1 := ⟨q - 1, by omega⟩
  unfold m_slices_heapSortOrdered_uint64_l2
  rw [show ((k + 1 : Nat) : Int) - 1 = (k : Int) by omega]
  have e := siftM k F 0 (swp d F (F + k)) (by rw [size_swp]; omega) (by rw [size_swp]; omega) (by omega)
  have e2 := ih q (siftDown ltU k F 0 (swp d F (F + k))) (by omega) (by rw [e.2, size_swp]; omega) (by rw [e.2, size_swp]; omega) (by omega)
  have e1 := e.1
  rw [if_pos (by omega), ckA (by omega), obs, obs, swA (by omega) (by omega)]
  rw [show ((0 : Nat) : Int) = 0 from rfl] at e1
  rw [e1, obs, ck_of (by omega), obs]
  exact e2
theorem heap_l1 (F N : Nat) : ∀ (k q : Nat) (d : AU), k <= 50 -> F + N <= d.size -> d.size < 50 -> k < q ->
  m_slices_heapSortOrdered_uint64_l1 (F : Int) (N : Int) q d.toList ((k : Int) - 1) = m_slices_heapSortOrdered_uint64_j0 (F : Int) (N : Int) (heapBuild ltU N F k d).toList /\ (heapBuild ltU N F k d).size = d.size := by
 intro k
 induction k with
 | zero =>
  intro q d h0 h1 h2 hq
  obtain ⟨q, rfl⟩ : ∃ q', q = q' + 1 := ⟨q - 1, by omega⟩
  unfold m_slices_heapSortOrdered_uint64_l1
  rw [if_neg (by omega)]; exact ⟨rfl, rfl⟩
 | succ k ih =>
  intro q d h0 h1 h2 hq
  obtain ⟨q, rfl⟩ : ∃ q', q = q' + 1 := ⟨q - 1, by omega⟩
  unfold m_slices_heapSortOrdered_uint64_l1
  rw [show ((k + 1 : Nat) : Int) - 1 = (k : Int) by omega]
  have e := siftM N F k d h1 h2 (by omega)
  have e2 := ih q (siftDown ltU N F k d) (by omega) (by rw [e.2]; omega) (by rw [e.2]; omega) (by omega)
  rw [if_pos (by omega), e.1, obs, ck_of (by omega), obs]
  exact ⟨e2.1, by show (heapBuild ltU N F k (siftDown ltU N F k d)).size = _; rw [e2.2, e.2]⟩
theorem heap_ok (d : AU) (a b : Nat) (hb : b <= d.size) (hd : d.size < 50) (ha : a < b) : m_slices_heapSortOrdered_uint64 d.toList (a : Int) (b : Int) = some (heapSort ltU d a b).toList := by
 unfold m_slices_heapSortOrdered_uint64
 have e := heap_l1 a (b - a) ((b - a - 1) / 2 + 1) forever d (by omega) (by omega) hd (by unfold forever; omega)
 have e2 := heap_l2 a (b - a) (b - a) forever (heapBuild ltU (b - a) a ((b - a - 1) / 2 + 1) d) (Nat.le_refl _) (by rw [e.2]; omega) (by rw [e.2]; omega) (by unfold forever; omega)
 rw [ckD (by omega) (by omega), obs, ck_of (by omega), obs, dvi_of (by omega) (by omega), obs]
 rw [show ((b - a : Nat) : Int) - 1 = ((b - a - 1 : Nat) : Int) by omega, show ((b - a - 1 : Nat) : Int) / 2 = (((b - a - 1) / 2 + 1 : Nat) : Int) - 1 by omega, e.1]
 unfold m_slices_heapSortOrdered_uint64_j0
 rw [ck_of (by omega), obs, e2]; rfl
theorem rev_l0 : ∀ (n i j q : Nat) (d : AU), j - i <= n -> j < d.size -> d.size < 50 -> n < q -> i < 50 ->
  m_slices_reverseRangeOrdered_uint64_l0 q d.toList (i : Int) (j : Int) = some (reverseLoop i j d).toList := by
 intro n
 induction n with
 | zero =>
  intro i j q d h0 h1 h2 hq hi
  obtain ⟨q, rfl⟩ : ∃ q', q = q' + 1 := ⟨q - 1, by omega⟩
  unfold m_slices_reverseRangeOrdered_uint64_l0
  rw [if_neg (by omega), reverseLoop, if_neg (by omega)]
 | succ n ih =>
  intro i j q d h0 h1 h2 hq hi
  obtain ⟨q, rfl⟩ : ∃ q', q = q' + 1 := ⟨q - 1, by omega⟩
  unfold m_slices_reverseRangeOrdered_uint64_l0
  rw [reverseLoop]
  by_cases h : i < j
  ·rw [if_pos (by omega), if_pos h, swA (by omega) (by omega), ckS (by omega), obs, show (j : Int) - 1 = ((j - 1 : Nat) : Int) by omega, ck_of (by omega), obs]
   exact ih (i + 1) (j - 1) q _ (by omega) (by rw [size_swp]; omega) (by rw [size_swp]; omega) (by omega) (by omega)
  ·rw [if_neg (by omega), if_neg h]
theorem rev_ok (d : AU) (a b : Nat) (hb : b <= d.size) (hd : d.size < 50) (ha : a < b) : m_slices_reverseRangeOrdered_uint64 d.toList (a : Int) (b : Int) = some (reverseRange d a b).toList := by
 unfold m_slices_reverseRangeOrdered_uint64
 rw [show (b : Int) - 1 = ((b - 1 : Nat) : Int) by omega, ck_of (by omega), obs, rev_l0 (b - 1 - a) a (b - 1) forever d (Nat.le_refl _) (by omega) hd (by unfold forever; omega) (by omega)]
 rfl
theorem pe_l4 (a : Nat) (d : AU) (j : Nat) (r2 : List (BitVec 64) -> Int -> Int -> Option (List (BitVec 64) × Int)) (hj : j < d.size) (ha : a < d.size) (hd : d.size < 50) : ∀ (n i q : Nat), j + 1 - i = n -> n < q -> i <= 100 ->
  m_slices_partitionEqualOrdered_uint64_l4 (a : Int) d.toList (j : Int) r2 q (i : Int) = m_slices_partitionEqualOrdered_uint64_j3 (a : Int) d.toList (j : Int) r2 (scanUp (fun x => !ltU d[a]! x) d j i : Int) := by
 intro n
 induction n with
 | zero =>
  intro i q h hq hi
  obtain ⟨q, rfl⟩ : ∃ q', q = q' + 1 := ⟨q - 1, by omega⟩
  unfold m_slices_partitionEqualOrdered_uint64_l4
  rw [if_neg (by omega), scanUp, if_neg (by simp; omega)]
 | succ n ih =>
  intro i q h hq hi
  obtain ⟨q, rfl⟩ : ∃ q', q = q' + 1 := ⟨q - 1, by omega⟩
  unfold m_slices_partitionEqualOrdered_uint64_l4
  rw [if_pos (by omega), ixA ha, obs, ixA (by omega), obs, less_ok, obs, scanUp]
  by_cases hl : ltU d[a]! d[i]! = true
  ·rw [if_pos hl, if_neg (by simp [hl])]
  ·rw [if_neg hl, if_pos (by simp [hl]; omega), ckS (by omega), obs]
   exact ih (i + 1) q (by omega) (by omega) (by omega)
theorem pe_l6 (a : Nat) (d : AU) (i2 : Nat) (r2 : List (BitVec 64) -> Int -> Int -> Option (List (BitVec 64) × Int)) (h1 : 1 <= i2) (ha : a < d.size) (hd : d.size < 50) : ∀ (j q : Nat), j < q -> j < d.size ->
  m_slices_partitionEqualOrdered_uint64_l6 (a : Int) d.toList (i2 : Int) r2 q (j : Int) = m_slices_partitionEqualOrdered_uint64_j5 d.toList (i2 : Int) r2 (scanDown (fun x => ltU d[a]! x) d i2 j : Int) := by
 intro j
 induction j with
 | zero =>
  intro q hq hj
  obtain ⟨q, rfl⟩ : ∃ q', q = q' + 1 := ⟨q - 1, by omega⟩
  unfold m_slices_partitionEqualOrdered_uint64_l6
  rw [if_neg (by omega)]; rfl
 | succ j ih =>
  intro q hq hj
  obtain ⟨q, rfl⟩ : ∃ q', q = q' + 1 := ⟨q - 1, by omega⟩
  have e : scanDown (fun x => ltU d[a]! x) d i2 (j + 1) = if (decide (i2 <= j + 1) && ltU d[a]! d[j + 1]!) = true then scanDown (fun x => ltU d[a]! x) d i2 j else j + 1 := rfl
  unfold m_slices_partitionEqualOrdered_uint64_l6
  by_cases hc : i2 <= j + 1
  ·rw [if_pos (by omega), ixA ha, obs, ixA hj, obs, less_ok, obs]
   by_cases hl : ltU d[a]! d[j + 1]! = true
   ·rw [if_pos hl, e, if_pos (by simp [hl, hc]), ckP (by omega), obs]
    exact ih q (by omega) (by omega)
   ·rw [if_neg hl, e, if_neg (by simp [hl])]
  ·rw [if_neg (by omega), e, if_neg (by simp [hc])]
theorem pe_l2 (a : Nat) : ∀ (n i j q : Nat) (d : AU), j + 1 - i < n -> n <= q -> a < i -> i <= 60 -> a <= j -> j < d.size -> d.size < 50 ->
  m_slices_partitionEqualOrdered_uint64_l2 (a : Int) q d.toList (i : Int) (j : Int) = some ((partEqLoop ltU a i j d).2.toList, ((partEqLoop ltU a i j d).1 : Int)) := by
 intro n
 induction n with
 | zero => intro i j q d h; omega
 | succ n ih =>
  intro i j q d h hq ha hij haj hj hd
  obtain ⟨q, rfl⟩ : ∃ q', q = q' + 1 := ⟨q - 1, by omega⟩
  unfold m_slices_partitionEqualOrdered_uint64_l2
  have u1 := Sort.scanUp_ge (fun x => !ltU d[a]! x) d j i
  rw [pe_l4 a d j _ hj (by omega) hd _ i forever rfl (by unfold forever; omega) (by omega)]
  unfold m_slices_partitionEqualOrdered_uint64_j3
  rw [pe_l6 a d _ _ (by omega) (by omega) hd j forever (by unfold forever; omega) hj, Sort.partEqLoop_eq]
  have v1 := Sort.scanDown_le (fun x => ltU d[a]! x) d (scanUp (fun x => !ltU d[a]! x) d j i) j
  generalize scanUp (fun x => !ltU d[a]! x) d j i = i2 at *
  generalize scanDown (fun x => ltU d[a]! x) d i2 j = j2 at *
  unfold m_slices_partitionEqualOrdered_uint64_j5
  by_cases hc : i2 > j2
  ·rw [if_pos (by omega), if_pos hc]; rfl
  ·rw [if_neg (by omega), if_neg hc, swA (by omega) (by omega), ckS (by omega), obs, show (j2 : Int) - 1 = ((j2 - 1 : Nat) : Int) by omega, ck_of (by omega), obs]
   exact ih (i2 + 1) (j2 - 1) q _ (by omega) (by omega) (by omega) (by omega) (by omega) (by rw [size_swp]; omega) (by rw [size_swp]; omega)
theorem pe_ok (d : AU) (a b pivot : Nat) (h1 : a <= pivot) (h2 : pivot < b) (hb : b <= d.size) (hd : d.size < 50) :
  m_slices_partitionEqualOrdered_uint64 d.toList (a : Int) (b : Int) (pivot : Int) = some ((partitionEqual ltU d a b pivot).2.toList, ((partitionEqual ltU d a b pivot).1 : Int)) := by
 unfold m_slices_partitionEqualOrdered_uint64
 rw [swA (by omega) (by omega)]
 unfold m_slices_partitionEqualOrdered_uint64_j0
 rw [ckS (by omega), obs, show (b : Int) - 1 = ((b - 1 : Nat) : Int) by omega, ck_of (by omega), obs]
 exact pe_l2 a 100 (a + 1) (b - 1) forever _ (by omega) (by unfold forever; omega) (by omega) (by omega) (by omega) (by rw [size_swp]; omega) (by rw [size_swp]; omega)
theorem pa_l2 (a : Nat) (d : AU) (j : Nat) (hj : j < d.size) (ha : a < d.size) (hd : d.size < 50) : ∀ (n i q : Nat), j + 1 - i = n -> n < q -> i <= 100 ->
  m_slices_partitionOrdered_uint64_l2 (a : Int) d.toList (j : Int) q (i : Int) = m_slices_partitionOrdered_uint64_j1 (a : Int) d.toList (j : Int) (scanUp (fun x => ltU x d[a]!) d j i : Int) := by
 intro n
 induction n with
 | zero =>
  intro i q h hq hi
  obtain ⟨q, rfl⟩ : ∃ q', q = q' + 1 := ⟨q - 1, by omega⟩
  unfold m_slices_partitionOrdered_uint64_l2
  rw [if_neg (by omega), scanUp, if_neg (by simp; omega)]
 | succ n ih =>
  intro i q h hq hi
  obtain ⟨q, rfl⟩ : ∃ q', q = q' + 1 := ⟨q - 1, by omega⟩
  unfold m_slices_partitionOrdered_uint64_l2
  rw [if_pos (by omega), ixA (i := i) (by omega), obs, ixA ha, obs, less_ok, obs, scanUp]
  by_cases hl : ltU d[i]! d[a]! = true
  ·rw [if_pos hl, if_pos (by simp [hl]; omega), ckS (by omega), obs]
   exact ih (i + 1) q (by omega) (by omega) (by omega)
  ·rw [if_neg hl, if_neg (by simp [hl])]
theorem pa_l4 (a : Nat) (d : AU) (i2 : Nat) (h1 : 1 <= i2) (ha : a < d.size) (hd : d.size < 50) : ∀ (j q : Nat), j < q -> j < d.size ->
  m_slices_partitionOrdered_uint64_l4 (a : Int) d.toList (i2 : Int) q (j : Int) = m_slices_partitionOrdered_uint64_j3 (a : Int) d.toList (i2 : Int) (scanDown (fun x => !ltU x d[a]!) d i2 j : Int) := by
 intro j
 induction j with
 | zero =>
  intro q hq hj
  obtain ⟨q, rfl⟩ : ∃ q', q = q' + 1 := ⟨q - 1, by omega⟩
  unfold m_slices_partitionOrdered_uint64_l4
  rw [if_neg (by omega)]; rfl
 | succ j ih =>
  intro q hq hj
  obtain ⟨q, rfl⟩ : ∃ q', q = q' + 1 := ⟨q - 1, by omega⟩
  have e : scanDown (fun x => !ltU x d[a]!) d i2 (j + 1) = if (decide (i2 <= j + 1) && !ltU d[j + 1]! d[a]!) = true then scanDown (fun x => !ltU x d[a]!) d i2 j else j + 1 := rfl
  unfold m_slices_partitionOrdered_uint64_l4
  by_cases hc : i2 <= j + 1
  ·rw [if_pos (by omega), ixA hj, obs, ixA ha, obs, less_ok, obs]
   by_cases hl : ltU d[j + 1]! d[a]! = true
   ·rw [if_pos hl, e, if_neg (by simp [hl])]
   ·rw [if_neg hl, e, if_pos (by simp [hl, hc]), ckP (by omega), obs]
    exact ih q (by omega) (by omega)
  ·rw [if_neg (by omega), e, if_neg (by simp [hc])]
theorem pa_l9 (a : Nat) (d : AU) (j : Nat) (r7 : List (BitVec 64) -> Int -> Int -> Option (List (BitVec 64) × Int × Bool)) (hj : j < d.size) (ha : a < d.size) (hd : d.size < 50) : ∀ (n i q : Nat), j + 1 - i = n -> n < q -> i <= 100 ->
  m_slices_partitionOrdered_uint64_l9 (a : Int) d.toList (j : Int) r7 q (i : Int) = m_slices_partitionOrdered_uint64_j8 (a : Int) d.toList (j : Int) r7 (scanUp (fun x => ltU x d[a]!) d j i : Int) := by
 intro n
 induction n with
 | zero =>
  intro i q h hq hi
  obtain ⟨q, rfl⟩ : ∃ q', q = q' + 1 := ⟨q - 1, by omega⟩
  unfold m_slices_partitionOrdered_uint64_l9
  rw [if_neg (by omega), scanUp, if_neg (by simp; omega)]
 | succ n ih =>
  intro i q h hq hi
  obtain ⟨q, rfl⟩ : ∃ q', q = q' + 1 := ⟨q - 1, by omega⟩
  unfold m_slices_partitionOrdered_uint64_l9
  rw [if_pos (by omega), ixA (i := i) (by omega), obs, ixA ha, obs, less_ok, obs, scanUp]
  by_cases hl : ltU d[i]! d[a]! = true
  ·rw [if_pos hl, if_pos (by simp [hl]; omega), ckS (by omega), obs]
   exact ih (i + 1) q (by omega) (by omega) (by omega)
  ·rw [if_neg hl, if_neg (by simp [hl])]
theorem pa_l11 (a : Nat) (d : AU) (i2 : Nat) (r7 : List (BitVec 64) -> Int -> Int -> Option (List (BitVec 64) × Int × Bool)) (h1 : 1 <= i2) (ha : a < d.size) (hd : d.size < 50) : ∀ (j q : Nat), j < q -> j < d.size ->
  m_slices_partitionOrdered_uint64_l11 (a : Int) d.toList (i2 : Int) r7 q (j : Int) = m_slices_partitionOrdered_uint64_j10 (a : Int) d.toList (i2 : Int) r7 (scanDown (fun x => !ltU x d[a]!) d i2 j : Int) := by
 intro j
 induction j with
 | zero =>
  intro q hq hj
  obtain ⟨q, rfl⟩ : ∃ q', q = q' + 1 := ⟨q - 1, by omega⟩
  unfold m_slices_partitionOrdered_uint64_l11
  rw [if_neg (by omega)]; rfl
 | succ j ih =>
  intro q hq hj
  obtain ⟨q, rfl⟩ : ∃ q', q = q' + 1 := ⟨q - 1, by omega⟩
  have e : scanDown (fun x => !ltU x d[a]!) d i2 (j + 1) = if (decide (i2 <= j + 1) && !ltU d[j + 1]! d[a]!) = true then scanDown (fun x => !ltU x d[a]!) d i2 j else j + 1 := rfl
  unfold m_slices_partitionOrdered_uint64_l11
  by_cases hc : i2 <= j + 1
  ·rw [if_pos (by omega), ixA hj, obs, ixA ha, obs, less_ok, obs]
   by_cases hl : ltU d[j + 1]! d[a]! = true
   ·rw [if_pos hl, e, if_neg (by simp [hl])]
   ·rw [if_neg hl, e, if_pos (by simp [hl, hc]), ckP (by omega), obs]
    exact ih q (by omega) (by omega)
  ·rw [if_neg (by omega), e, if_neg (by simp [hc])]
theorem pa_l7 (a : Nat) : ∀ (n i j q : Nat) (d : AU), j + 1 - i < n -> n <= q -> a < i -> i <= 60 -> a <= j -> j < d.size -> d.size < 50 ->
  m_slices_partitionOrdered_uint64_l7 (a : Int) q d.toList (i : Int) (j : Int) = some ((swp (partLoop ltU a i j d).2 (partLoop ltU a i j d).1 a).toList, ((partLoop ltU a i j d).1 : Int), false) := by
 intro n
 induction n with
 | zero => intro i j q d h; omega
 | succ n ih =>
  intro i j q d h hq ha hij haj hj hd
  obtain ⟨q, rfl⟩ : ∃ q', q = q' + 1 := ⟨q - 1, by omega⟩
  unfold m_slices_partitionOrdered_uint64_l7
  have u1 := Sort.scanUp_ge (fun x => ltU x d[a]!) d j i
  rw [pa_l9 a d j _ hj (by omega) hd _ i forever rfl (by unfold forever; omega) (by omega)]
  unfold m_slices_partitionOrdered_uint64_j8
  rw [pa_l11 a d _ _ (by omega) (by omega) hd j forever (by unfold forever; omega) hj, Sort.partLoop_eq]
  have v1 := Sort.scanDown_le (fun x => !ltU x d[a]!) d (scanUp (fun x => ltU x d[a]!) d j i) j
  generalize scanUp (fun x => ltU x d[a]!) d j i = i2 at *
  generalize scanDown (fun x => !ltU x d[a]!) d i2 j = j2 at *
  unfold m_slices_partitionOrdered_uint64_j10
  by_cases hc : i2 > j2
  ·rw [if_pos (by omega), if_pos hc]
   unfold m_slices_partitionOrdered_uint64_j6
   rw [swA (by omega) (by omega)]
  ·rw [if_neg (by omega), if_neg hc, swA (by omega) (by omega), ckS (by omega), obs, show (j2 : Int) - 1 = ((j2 - 1 : Nat) : Int) by omega, ck_of (by omega), obs]
   exact ih (i2 + 1) (j2 - 1) q _ (by omega) (by omega) (by omega) (by omega) (by omega) (by rw [size_swp]; omega) (by rw [size_swp]; omega)
theorem pa_ok (d : AU) (a b pivot : Nat) (h1 : a <= pivot) (h2 : pivot < b) (hb : b <= d.size) (hd : d.size < 50) :
  m_slices_partitionOrdered_uint64 d.toList (a : Int) (b : Int) (pivot : Int) = some ((partition ltU d a b pivot).2.2.toList, ((partition ltU d a b pivot).1 : Int), (partition ltU d a b pivot).2.1) := by
 unfold m_slices_partitionOrdered_uint64
 rw [swA (by omega) (by omega)]
 unfold m_slices_partitionOrdered_uint64_j0
 have hs : (swp d a pivot).size = d.size := size_swp _ _ _
 unfold Sort.partition
 simp only []
 generalize swp d a pivot = e at *
 rw [ckS (by omega), obs, show (b : Int) - 1 = ((b - 1 : Nat) : Int) by omega, ck_of (by omega), obs]
 have u1 := Sort.scanUp_ge (fun x => ltU x e[a]!) e (b - 1) (a + 1)
 rw [pa_l2 a e (b - 1) (by omega) (by omega) (by omega) _ (a + 1) forever rfl (by unfold forever; omega) (by omega)]
 unfold m_slices_partitionOrdered_uint64_j1
 rw [pa_l4 a e _ (by omega) (by omega) (by omega) (b - 1) forever (by unfold forever; omega) (by omega)]
 have v1 := Sort.scanDown_le (fun x => !ltU x e[a]!) e (scanUp (fun x => ltU x e[a]!) e (b - 1) (a + 1)) (b - 1)
 generalize scanUp (fun x => ltU x e[a]!) e (b - 1) (a + 1) = i2 at *
 generalize scanDown (fun x => !ltU x e[a]!) e i2 (b - 1) = j2 at *
 unfold m_slices_partitionOrdered_uint64_j3
 by_cases hc : i2 > j2
 ·rw [if_pos (by omega), if_pos hc, swA (by omega) (by omega)]
 ·rw [if_neg (by omega), if_neg hc, swA (by omega) (by omega)]
  unfold m_slices_partitionOrdered_uint64_j5
  rw [ckS (by omega), obs, show (j2 : Int) - 1 = ((j2 - 1 : Nat) : Int) by omega, ck_of (by omega), obs]
  exact pa_l7 a 100 (i2 + 1) (j2 - 1) forever _ (by omega) (by unfold forever; omega) (by omega) (by omega) (by omega) (by rw [size_swp]; omega) (by rw [size_swp]; omega)
theorem pi_l4 (a b : Nat) (d : AU) (x9 : Int) (r1 : List (BitVec 64) -> Int -> Int -> Option (List (BitVec 64) × Bool)) (hb : b <= d.size) (hd : d.size < 50) : ∀ (n i q : Nat), b - i = n -> n < q -> 1 <= i -> i <= 50 ->
  m_slices_partialInsertionSortOrdered_uint64_l4 (a : Int) (b : Int) d.toList x9 r1 q (i : Int) = m_slices_partialInsertionSortOrdered_uint64_j3 (a : Int) (b : Int) d.toList x9 r1 (scanSorted ltU d b i : Int) := by
 intro n
 induction n with
 | zero =>
  intro i q h hq hi1 hi2
  obtain ⟨q, rfl⟩ : ∃ q', q = q' + 1 := ⟨q - 1, by omega⟩
  unfold m_slices_partialInsertionSortOrdered_uint64_l4
  rw [if_neg (by omega), scanSorted, if_neg (by simp; omega)]
 | succ n ih =>
  intro i q h hq hi1 hi2
  obtain ⟨q, rfl⟩ : ∃ q', q = q' + 1 := ⟨q - 1, by omega⟩
  unfold m_slices_partialInsertionSortOrdered_uint64_l4
  rw [if_pos (by omega), ixA (i := i) (by omega), obs, show (i : Int) - 1 = ((i - 1 : Nat) : Int) by omega, ck_of (by omega), obs, ixA (i := i - 1) (by omega), obs, less_ok, obs, scanSorted]
  by_cases hl : ltU d[i]! d[i - 1]! = true
  ·rw [if_pos hl, if_neg (by simp [hl])]
  ·rw [if_neg hl, if_pos (by simp [hl]; omega), ckS (by omega), obs]
   exact ih (i + 1) q (by omega) (by omega) (by omega) (by omega)
theorem pi_ok (d : AU) (a b : Nat) (hb : b <= d.size) (hd : d.size < 50) (ha : a < b) : m_slices_partialInsertionSortOrdered_uint64 d.toList (a : Int) (b : Int) = some (d.toList, decide (scanSorted ltU d b (a + 1) = b)) := by
 unfold m_slices_partialInsertionSortOrdered_uint64
 rw [ckS (by omega), obs]
 rw [show forever = 18446744073709551615 + 1 from rfl]
 unfold m_slices_partialInsertionSortOrdered_uint64_l1
 rw [if_pos (by omega), pi_l4 a b d 0 _ hb hd _ (a + 1) forever rfl (by unfold forever; omega) (by omega) (by omega)]
 unfold m_slices_partialInsertionSortOrdered_uint64_j3
 by_cases h : scanSorted ltU d b (a + 1) = b
 ·rw [if_pos (by omega), decide_eq_true h]
 ·rw [if_neg (by omega), ckD (by omega) (by omega), obs, if_pos (by omega), decide_eq_false h]
theorem pi_sorted (d : AU) (a b : Nat) (h : a < b) (hs : scanSorted ltU d b (a + 1) = b) : SortedIn ltU a b d := by
 have := (Sort.scanSorted_spec swoU a b d _ (a + 1) rfl (by omega) (fun i j h1 h2 h3 => by omega)).2.2
 rwa [hs] at this
theorem cp_ok (d : AU) (a b : Nat) (hb : b <= d.size) (hd : d.size < 50) (h8 : 8 <= b - a) : ∃ (p : Nat) (h : Int), m_slices_choosePivotOrdered_uint64 d.toList (a : Int) (b : Int) = some ((p : Int), h) /\ a <= p /\ p < b := by
 unfold m_slices_choosePivotOrdered_uint64
 have e1 : dvi ((b - a : Nat) : Int) 4 = some (((b - a) / 4 : Nat) : Int) := by rw [dvi_of (by omega) (by omega)]; congr 1
 have h1 : a + (b - a) / 4 * 1 < d.size := by omega
 have h2 : a + (b - a) / 4 * 2 < d.size := by omega
 have h3 : a + (b - a) / 4 * 3 < d.size := by omega
 rw [ckD (by omega) (by omega), obs, e1, obs]
 rw [show (((b - a) / 4 : Nat) : Int) * 1 = (((b - a) / 4 * 1 : Nat) : Int) by omega, ck_of (by omega), obs, ckA (by omega), obs, obs]
 rw [show (((b - a) / 4 : Nat) : Int) * 2 = (((b - a) / 4 * 2 : Nat) : Int) by omega, ck_of (by omega), obs, ckA (by omega), obs, obs]
 rw [show (((b - a) / 4 : Nat) : Int) * 3 = (((b - a) / 4 * 3 : Nat) : Int) by omega, ck_of (by omega), obs, ckA (by omega), obs]
 rw [if_pos (by omega), if_neg (by omega)]
 rw [ixA h1, ixA h2, ixA h3]
 simp only [obs, less_ok]
 have g1 : a <= a + (b - a) / 4 * 1 /\ a + (b - a) / 4 * 1 < b := by omega
 have g2 : a <= a + (b - a) / 4 * 2 /\ a + (b - a) / 4 * 2 < b := by omega
 have g3 : a <= a + (b - a) / 4 * 3 /\ a + (b - a) / 4 * 3 < b := by omega
 split
 ·split
  ·split
   ·exact ⟨_, _, rfl, g2⟩
   ·exact ⟨_, _, rfl, g3⟩
  ·split
   ·exact ⟨_, _, rfl, g2⟩
   ·exact ⟨_, _, rfl, g1⟩
 ·split
  ·split
   ·exact ⟨_, _, rfl, g1⟩
   ·exact ⟨_, _, rfl, g3⟩
  ·exact ⟨_, _, rfl, g2⟩
def lenT (l : Nat) : Bool := match m_math_bits_Len (BitVec.ofInt 64 (l : Int)), m_slices_nextPowerOfTwo (l : Int) with
 | some k, some m => decide (0 <= k /\ k <= 64 /\ (0 < l -> 1 <= m.toNat /\ m.toNat <= 2 * l))
 | _, _ => false
theorem lenT_all : ∀ l : Fin 50, lenT l.val = true := by decide +kernel
theorem len_ok (l : Nat) (h : l < 50) : ∃ k : Nat, m_math_bits_Len (BitVec.ofInt 64 (l : Int)) = some (k : Int) /\ k <= 64 := by
 have := lenT_all ⟨l, h⟩
 unfold lenT at this
 split at this
 ·rename_i k m e1 e2
  have := of_decide_eq_true this
  exact ⟨k.toNat, by rw [e1]; congr 1; omega, by omega⟩
 ·cases this
theorem np_ok (l : Nat) (h : l < 50) (h0 : 0 < l) : ∃ m : BitVec 64, m_slices_nextPowerOfTwo (l : Int) = some m /\ 1 <= m.toNat /\ m.toNat <= 2 * l := by
 have := lenT_all ⟨l, h⟩
 unfold lenT at this
 split at this
 ·rename_i k m e1 e2
  have := of_decide_eq_true this
  exact ⟨m, e2, this.2.2 h0⟩
 ·cases this
theorem bp_l0 (a b : Nat) (m : BitVec 64) (h8 : 8 <= b - a) (hba : b - a < 50) (hm : 1 <= m.toNat /\ m.toNat <= 2 * (b - a)) : ∀ (n i q : Nat) (r : BitVec 64) (d : AU), a + (b - a) / 4 * 2 + 2 - i = n -> n < q -> a <= i -> i <= 100 -> b <= d.size -> d.size < 50 ->
  ∃ d' : AU, m_slices_breakPatternsOrdered_uint64_l0 (a : Int) ((b - a : Nat) : Int) m q d.toList r (i : Int) = some d'.toList /\ PermIn a b d d' := by
 intro n
 have e1 : dvi ((b - a : Nat) : Int) 4 = some (((b - a) / 4 : Nat) : Int) := by rw [dvi_of (by omega) (by omega)]; congr 1
 induction n with
 | zero =>
  intro i q r d hi hq hai hi2 hb hd
  obtain ⟨q, rfl⟩ : ∃ q', q = q' + 1 := ⟨q - 1, by omega⟩
  unfold m_slices_breakPatternsOrdered_uint64_l0
  rw [e1, obs, show (((b - a) / 4 : Nat) : Int) * 2 = (((b - a) / 4 * 2 : Nat) : Int) by omega, ck_of (by omega), obs, ckA (by omega), obs, ckS (by omega), obs, if_neg (by omega)]
  exact ⟨d, rfl, Sort.permIn_refl d a b⟩
 | succ n ih =>
  intro i q r d hi hq hai hi2 hb hd
  obtain ⟨q, rfl⟩ : ∃ q', q = q' + 1 := ⟨q - 1, by omega⟩
  unfold m_slices_breakPatternsOrdered_uint64_l0
  rw [e1, obs, show (((b - a) / 4 : Nat) : Int) * 2 = (((b - a) / 4 * 2 : Nat) : Int) by omega, ck_of (by omega), obs, ckA (by omega), obs, ckS (by omega), obs, if_pos (by omega)]
  unfold m_slices_breakPatternsOrdered_uint64_j1
  generalize (((r ^^^ (r <<< 13)) ^^^ ((r ^^^ (r <<< 13)) >>> 7)) ^^^ (((r ^^^ (r <<< 13)) ^^^ ((r ^^^ (r <<< 13)) >>> 7)) <<< 17)) = v
  have hv1 : (v &&& (m - 1#64)).toNat <= m.toNat - 1 := by
   have h1 : (m - 1#64).toNat = m.toNat - 1 := by
    rw [BitVec.toNat_sub_of_le (by rw [BitVec.le_def]; simpa using hm.1)]; rfl
   rw [BitVec.toNat_and, h1]; exact Nat.and_le_right
  have hv2 : (v &&& (m - 1#64)).toInt = ((v &&& (m - 1#64)).toNat : Int) := BitVec.toInt_eq_toNat_of_lt (by omega)
  rw [hv2]
  generalize (v &&& (m - 1#64)).toNat = o at *
  have key : ∀ o', o' < b - a -> ∃ d' : AU, (Option.bind (idx d.toList ((a + o' : Nat) : Int)) fun x => Option.bind (idx d.toList (i : Int)) fun x1 => Option.bind (idx d.toList (i : Int)) fun _ => Option.bind (upd d.toList (i : Int) x) fun l => Option.bind (idx l ((a + o' : Nat) : Int)) fun _ => Option.bind (upd l ((a + o' : Nat) : Int) x1) fun l2 => Option.bind (ck ((i : Int) + 1)) fun x3 => m_slices_breakPatternsOrdered_uint64_l0 (a : Int) ((b - a : Nat) : Int) m q l2 v x3) = some d'.toList /\ PermIn a b d d' := by
   intro o' ho
   rw [swA (by omega) (by omega), ckS (by omega), obs]
   obtain ⟨d', e, p⟩ := ih (i + 1) q v (swp d i (a + o')) (by omega) (by omega) (by omega) (by omega) (by rw [size_swp]; omega) (by rw [size_swp]; omega)
   exact ⟨d', e, Sort.permIn_trans _ _ _ a b (Sort.swp_permIn d a b i (a + o') (by omega) (by omega) (by omega) (by omega) (by omega)) p⟩
  by_cases hc : b - a <= o
  ·rw [if_pos (by omega), ckD hc (by omega), obs, ckA (by omega), obs, obs]
   exact key (o - (b - a)) (by omega)
  ·rw [if_neg (by omega), ckA (by omega), obs, obs]
   exact key o (by omega)
theorem bp_ok (d : AU) (a b : Nat) (hb : b <= d.size) (hd : d.size < 50) (h8 : 8 <= b - a) : ∃ d' : AU, m_slices_breakPatternsOrdered_uint64 d.toList (a : Int) (b : Int) = some d'.toList /\ PermIn a b d d' := by
 unfold m_slices_breakPatternsOrdered_uint64
 obtain ⟨m, e, hm⟩ := np_ok (b - a) (by omega) (by omega)
 have e1 : dvi ((b - a : Nat) : Int) 4 = some (((b - a) / 4 : Nat) : Int) := by rw [dvi_of (by omega) (by omega)]; congr 1
 rw [ckD (by omega) (by omega), obs, if_pos (by omega), e, obs, e1, obs, show (((b - a) / 4 : Nat) : Int) * 2 = (((b - a) / 4 * 2 : Nat) : Int) by omega, ck_of (by omega), obs, ckA (by omega), obs, show ((a + (b - a) / 4 * 2 : Nat) : Int) - 1 = ((a + (b - a) / 4 * 2 - 1 : Nat) : Int) by omega, ck_of (by omega), obs]
 exact bp_l0 a b m h8 (by omega) hm _ _ forever _ d rfl (by unfold forever; omega) (by omega) (by omega) hb hd
def Sorts (n : Nat) (f : List (BitVec 64) -> Int -> Int -> Int -> Option (List (BitVec 64))) : Prop :=
 ∀ (d : AU) (a b lim : Nat), b - a < n -> a <= b -> b <= d.size -> d.size < 50 -> Below ltU a b d -> lim <= 64 -> ∃ R : AU, f d.toList (a : Int) (b : Int) (lim : Int) = some R.toList /\ PermIn a b d R /\ SortedIn ltU a b R
theorem pdq_j4 (a b lim p : Nat) (d : AU) (r0 : List (BitVec 64) -> Int -> Int -> Int -> Bool -> Bool -> Option (List (BitVec 64))) (rc0 : List (BitVec 64) -> Int -> Int -> Int -> Option (List (BitVec 64)))
  (hr : ∀ x y, Sorts (b - a) fun l u v w => r0 l u v w x y) (hc : Sorts (b - a) rc0) (h1 : a <= p) (h2 : p < b) (hb : b <= d.size) (hd : d.size < 50) (hB : Below ltU a b d) (hl : lim <= 64) :
  ∃ R : AU, m_slices_pdqsortOrdered_uint64_j4 (a : Int) (b : Int) ((b - a : Nat) : Int) (lim : Int) (p : Int) d.toList r0 rc0 = some R.toList /\ PermIn a b d R /\ SortedIn ltU a b R := by
 unfold m_slices_pdqsortOrdered_uint64_j4
 rw [pa_ok d a b p h1 h2 hb hd, obs]
 obtain ⟨mid, ap, d4, hx⟩ : ∃ mid ap d4, partition ltU d a b p = (mid, ap, d4) := ⟨_, _, _, rfl⟩
 obtain ⟨m1, m2, s4, B1, B2, f1, f2⟩ := Sort.round_part swoU (Sort.partition_holds ltU) h1 h2 hb hB hx
 rw [hx]
 dsimp only
 have e1 : dvi ((b - a : Nat) : Int) 8 = some (((b - a) / 8 : Nat) : Int) := by rw [dvi_of (by omega) (by omega)]; congr 1
 rw [ckD m1 (by omega), obs, ckD (by omega) (by omega), obs, e1, obs]
 by_cases hlt : mid - a < b - mid
 ·rw [if_pos (by omega)]
  obtain ⟨L, eL, pL, sL⟩ := hc d4 a mid lim (by omega) m1 (by omega) (by omega) B1 hl
  obtain ⟨B3, fin⟩ := f1 L pL sL
  obtain ⟨R, eR, pR, sR⟩ := hr (decide ((((b - a) / 8 : Nat) : Int) <= ((mid - a : Nat) : Int))) ap L (mid + 1) b lim (by omega) (by omega) (by rw [pL.1]; omega) (by rw [pL.1]; omega) B3 hl
  rw [eL, obs, ckS (by omega), obs]
  exact ⟨R, eR, fin R pR sR⟩
 ·rw [if_neg (by omega)]
  obtain ⟨L, eL, pL, sL⟩ := hc d4 (mid + 1) b lim (by omega) (by omega) (by omega) (by omega) B2 hl
  obtain ⟨B3, fin⟩ := f2 L pL sL
  obtain ⟨R, eR, pR, sR⟩ := hr (decide ((((b - a) / 8 : Nat) : Int) <= ((b - mid : Nat) : Int))) ap L a mid lim (by omega) (by omega) (by rw [pL.1]; omega) (by rw [pL.1]; omega) B3 hl
  rw [ckS (by omega), obs, eL, obs]
  exact ⟨R, eR, fin R pR sR⟩
theorem pdq_j3 (a b lim p : Nat) (d : AU) (x y : Bool) (r0 : List (BitVec 64) -> Int -> Int -> Int -> Bool -> Bool -> Option (List (BitVec 64))) (rc0 : List (BitVec 64) -> Int -> Int -> Int -> Option (List (BitVec 64)))
  (hr : ∀ x y, Sorts (b - a) fun l u v w => r0 l u v w x y) (hc : Sorts (b - a) rc0) (h1 : a <= p) (h2 : p < b) (hb : b <= d.size) (hd : d.size < 50) (hB : Below ltU a b d) (hl : lim <= 64) :
  ∃ R : AU, m_slices_pdqsortOrdered_uint64_j3 (a : Int) (b : Int) x y ((b - a : Nat) : Int) (lim : Int) (p : Int) r0 rc0 d.toList = some R.toList /\ PermIn a b d R /\ SortedIn ltU a b R := by
 unfold m_slices_pdqsortOrdered_uint64_j3
 by_cases ha : 0 < a
 ·rw [if_pos (by omega), show (a : Int) - 1 = ((a - 1 : Nat) : Int) by omega, ck_of (by omega), obs, ixA (by omega), obs, ixA (by omega), obs, less_ok, obs]
  by_cases hlt : ltU d[a - 1]! d[p]! = true
  ·rw [if_pos hlt]; exact pdq_j4 a b lim p d r0 rc0 hr hc h1 h2 hb hd hB hl
  ·rw [if_neg hlt, pe_ok d a b p h1 h2 hb hd, obs]
   obtain ⟨mid, d4, hx⟩ : ∃ mid d4, partitionEqual ltU d a b p = (mid, d4) := ⟨_, _, rfl⟩
   obtain ⟨m1, m2, s4, B4, fin⟩ := Sort.round_eq swoU (Sort.partitionEqual_holds ltU) ha h1 h2 hb hB (by simpa using hlt) hx
   rw [hx]
   dsimp only
   obtain ⟨R, eR, pR, sR⟩ := hr x y d4 mid b lim (by omega) m2 (by omega) (by omega) B4 hl
   exact ⟨R, eR, fin R pR sR⟩
 ·rw [if_neg (by omega)]; exact pdq_j4 a b lim p d r0 rc0 hr hc h1 h2 hb hd hB hl
theorem pdq_j2 (a b lim p : Nat) (hint : Int) (d : AU) (x y : Bool) (r0 : List (BitVec 64) -> Int -> Int -> Int -> Bool -> Bool -> Option (List (BitVec 64))) (rc0 : List (BitVec 64) -> Int -> Int -> Int -> Option (List (BitVec 64)))
  (hr : ∀ x y, Sorts (b - a) fun l u v w => r0 l u v w x y) (hc : Sorts (b - a) rc0) (h1 : a <= p) (h2 : p < b) (hb : b <= d.size) (hd : d.size < 50) (hB : Below ltU a b d) (hl : lim <= 64) :
  ∃ R : AU, m_slices_pdqsortOrdered_uint64_j2 (a : Int) (b : Int) x y ((b - a : Nat) : Int) (lim : Int) r0 rc0 d.toList (p : Int) hint = some R.toList /\ PermIn a b d R /\ SortedIn ltU a b R := by
 unfold m_slices_pdqsortOrdered_uint64_j2
 have k := pdq_j3 a b lim p d x y r0 rc0 hr hc h1 h2 hb hd hB hl
 split
 ·split
  ·split
   ·rw [pi_ok d a b hb hd (by omega), obs]
    dsimp only
    split
    ·rename_i h; exact ⟨d, rfl, Sort.permIn_refl d a b, pi_sorted d a b (by omega) (of_decide_eq_true h)⟩
    ·exact k
   ·exact k
  ·exact k
 ·exact k
theorem pdq_j1 (a b lim : Nat) (d : AU) (x y : Bool) (r0 : List (BitVec 64) -> Int -> Int -> Int -> Bool -> Bool -> Option (List (BitVec 64))) (rc0 : List (BitVec 64) -> Int -> Int -> Int -> Option (List (BitVec 64)))
  (hr : ∀ x y, Sorts (b - a) fun l u v w => r0 l u v w x y) (hc : Sorts (b - a) rc0) (h8 : 8 <= b - a) (hb : b <= d.size) (hd : d.size < 50) (hB : Below ltU a b d) (hl : lim <= 64) :
  ∃ R : AU, m_slices_pdqsortOrdered_uint64_j1 (a : Int) (b : Int) x y ((b - a : Nat) : Int) r0 rc0 d.toList (lim : Int) = some R.toList /\ PermIn a b d R /\ SortedIn ltU a b R := by
 unfold m_slices_pdqsortOrdered_uint64_j1
 obtain ⟨p, h, e, p1, p2⟩ := cp_ok d a b hb hd h8
 rw [e, obs]
 dsimp only
 split
 ·rw [rev_ok d a b hb hd (by omega), obs, show (b : Int) - 1 = ((b - 1 : Nat) : Int) by omega, ck_of (by omega), obs, ckD p1 (by omega), obs, ckD (by omega) (by omega), obs]
  have hp : PermIn a b d (reverseRange d a b) := Sort.reverseRange_holds d a b (by omega) hb
  obtain ⟨R, eR, pR, sR⟩ := pdq_j2 a b lim (b - 1 - (p - a)) 1 (reverseRange d a b) x y r0 rc0 hr hc (by omega) (by omega) (by rw [hp.1]; omega) (by rw [hp.1]; omega) (hB.perm hb hp) hl
  exact ⟨R, eR, Sort.permIn_trans _ _ _ a b hp pR, sR⟩
 ·exact pdq_j2 a b lim p h d x y r0 rc0 hr hc p1 p2 hb hd hB hl
theorem pdq_l0 : ∀ (n qr q : Nat), n <= 51 -> n <= qr -> n <= q -> ∀ x y, Sorts n fun l u v w => m_slices_pdqsortOrdered_uint64_l0 (m_slices_pdqsortOrdered_uint64R qr) q l u v w x y := by
 intro n
 induction n with
 | zero => intro qr q _ _ _ x y d a b lim h; omega
 | succ n ih =>
  intro qr q hn hqr hq x y d a b lim h hab hb hd hB hl
  obtain ⟨q, rfl⟩ : ∃ q', q = q' + 1 := ⟨q - 1, by omega⟩
  have mono : ∀ f, Sorts n f -> Sorts (b - a) f := fun f hf d' a' b' l' h' => hf d' a' b' l' (by omega)
  have hr := fun x y => mono _ (ih qr q (by omega) (by omega) (by omega) x y)
  have hc : Sorts (b - a) (m_slices_pdqsortOrdered_uint64R qr) := by
   obtain ⟨qr, rfl⟩ : ∃ q', qr = q' + 1 := ⟨qr - 1, by omega⟩
   exact mono _ (ih qr forever (by omega) (by omega) (by unfold forever; omega) true true)
  show ∃ R : AU, m_slices_pdqsortOrdered_uint64_l0 _ (q + 1) d.toList (a : Int) (b : Int) (lim : Int) x y = some R.toList /\ _
  unfold m_slices_pdqsortOrdered_uint64_l0
  rw [ckD hab (by omega), obs]
  by_cases h12 : b - a <= 12
  ·rw [if_pos (by omega), ins_ok d a b hb hd hab, obs]
   exact ⟨_, rfl, Sort.insertionSort_holds swoU d a b hab hb⟩
  ·rw [if_neg (by omega)]
   by_cases h0 : lim = 0
   ·rw [if_pos (by omega), heap_ok d a b hb hd (by omega), obs]
    exact ⟨_, rfl, Sort.heapSort_holds swoU d a b hab hb⟩
   ·rw [if_neg (by omega)]
    split
    ·exact pdq_j1 a b lim d x y _ _ hr hc (by omega) hb hd hB hl
    ·obtain ⟨d', e, hp⟩ := bp_ok d a b hb hd (by omega)
     rw [e, obs, show (lim : Int) - 1 = ((lim - 1 : Nat) : Int) by omega, ck_of (by omega), obs]
     obtain ⟨R, eR, pR, sR⟩ := pdq_j1 a b (lim - 1) d' x y _ _ hr hc (by omega) (by rw [hp.1]; omega) (by rw [hp.1]; omega) (hB.perm hb hp) (by omega)
     exact ⟨R, eR, Sort.permIn_trans _ _ _ a b hp pR, sR⟩
theorem sort_ok (xs : List (BitVec 64)) (h : xs.length < 50) : ∃ ys, m_slices_Sort_uint64_uint64 xs = some ys /\ ys.Perm xs /\ ys.Pairwise (fun x y => x <= y) := by
 unfold m_slices_Sort_uint64_uint64
 obtain ⟨k, e, hk⟩ := len_ok xs.length h
 rw [e, obs]
 have hs : xs.toArray.size = xs.length := by simp
 obtain ⟨R, eR, pR, sR⟩ := pdq_l0 51 18446744073709551615 forever (by omega) (by omega) (by unfold forever; omega) true true xs.toArray 0 xs.length k (by omega) (by omega) (by omega) (by omega) (Or.inl rfl) hk
 have e2 : m_slices_pdqsortOrdered_uint64 xs (0 : Int) (xs.length : Int) (k : Int) = some R.toList := by
  unfold m_slices_pdqsortOrdered_uint64
  rw [show forever = 18446744073709551615 + 1 from rfl]
  unfold m_slices_pdqsortOrdered_uint64R m_slices_pdqsortOrdered_uint64F
  exact eR
 rw [e2, obs]
 refine ⟨_, rfl, ?_, ?_⟩
 ·have := pR.2.2
  rw [show xs.length = xs.toArray.size by simp] at this
  rw [Array.extract_size] at this
  have e3 : R.extract 0 xs.toArray.size = R := by rw [<- pR.1]; exact Array.extract_size
  rw [e3] at this
  simpa using this
 ·rw [List.pairwise_iff_getElem]
  intro i j hi hj hij
  have hj' : j < R.size := by simpa using hj
  have hsz : R.size = xs.length := by rw [pR.1]; simp
  have := sR i j (by omega) hij (by omega)
  rw [getElem!_pos R j hj', getElem!_pos R i (by omega)] at this
  simp only [ltU, decide_eq_false_iff_not, BitVec.not_lt] at this
  simpa using this
end Go.Proofs.Ytkcccenekglkoaa
